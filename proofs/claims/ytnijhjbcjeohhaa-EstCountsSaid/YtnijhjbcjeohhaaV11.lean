import Derived.Test.YtnijhjbcjeohhaaV10
import Derived.OrdersHeld
import Derived.Test.YtnijhjbcjeohhaaV4
import Derived.WalkKit
import Derived.Below
import Derived.Deep.MidRow
import Derived.Lib.Hide
import Derived.Test.YtnijhjbcjeohhaaV9
import Derived.Test.YtnijhjbcjeohhaaV8
import Derived.Test.YtnijhjbcjeohhaaRows
import Derived.ProofKit
import Derived.OpenShut
import Derived.ShutString
import Derived.ChangeOld
import Derived.ChangeSame
import Derived.SizedLaws
import Derived.Laws.IdiomArrays
import Derived.Deep.Slices
import Derived.Carry
/- Joined and thinned by a program of this session's own (wip/pack2.py) out of its texts (wip/ of its repo); parts were laid by its own program (wip/print-patch.py over the kit's print) out of the translation; Lean checks all. -/
set_option maxRecDepth 100000
set_option maxHeartbeats 4000000
namespace Go.Proofs.Ytnijhjbcjeohhaa.EE
open Go.RowKit Go.Proofs.Ytnijhjbcjeohhaa.KK Go.Proofs.af.aO Go.Proofs.af.aU Go.Proofs.af.aV
set_option linter.unusedVariables false
set_option linter.unusedSimpArgs false
structure Wd (w : World) (e : Es) (l : List Int) (v : Value) (wl : World) : Prop where
 out : Row wl (w.heap.size + 1) 52 #[v]
 own : BQ wl (w.heap.size + 2) v l
 est : Row wl w.heap.size 37 e.R
 be : Below w.heap.size w wl
section
variable {w wl w1 w2 : World} {e : Es} {l : List Int} {v v' : Value}
theorem Wd.size (h : Wd w e l v wl) : w.heap.size + 2 ≤ wl.heap.size := h.out.lt
theorem Wd.below (h : Wd w e l v wl) (hb : Below wl.heap.size wl w1) : Wd w e l v w1 :=
 ⟨h.out.below hb h.out.lt, lC h.own fun k hk => hb.block k (h.own.lt k hk).2, h.est.below hb h.est.lt, h.be.trans (hb.mono h.be.size)⟩
theorem Wd.alloc (h : Wd w e l v wl) (o : Obj) : Wd w e l v (wl.alloc o) := h.below ((Below.refl _ _).alloc (Nat.le_refl _) o)
theorem Wd.drew (h : Wd w e l v wl) : Wd w e l v wl.drew := h.below (Below.refl _ _).drew
theorem Wd.far (h : Wd w e l v wl) {B : Nat} {t : TypeId} {C : Array Value} (R : Row wl B t C) (hB : w.heap.size + 2 ≤ B) (hv : v.ownBlock ≠ some B) (k : Lay wl (w.heap.size + 1) v w2) : Row w2 B t C := (k.block B R.lt (by omega) hv).trans R
theorem Wd.laid (h : Wd w e l v wl) {m : List Int} (R : Row w2 (w.heap.size + 1) 52 #[v']) (ho : BQ w2 (w.heap.size + 2) v' (l ++ m)) (k : Lay wl (w.heap.size + 1) v w2) : Wd w e (l ++ m) v' w2 :=
 ⟨R, ho, (k.block _ h.est.lt (by omega) (fun e => by have := (h.own.lt _ e).1; omega)).trans h.est, ⟨k.os.trans h.be.os, k.tape.trans h.be.tape, k.output.trans h.be.output, Nat.le_trans h.be.size k.size, fun j hj => (k.block j (Nat.lt_of_lt_of_le hj h.be.size) (by omega) (fun e => by have := (h.own.lt _ e).1; omega)).trans (h.be.block j hj)⟩⟩
theorem Wd.rw (h : Wd w e l v wl) {t : Tr} (k : Rw w t) : Rw wl t := k.below h.be
theorem Wd.lays (h : Wd w e l v wl) (A : Option Addr) (c : Nat) (m : List Int) (hm : Rd wl A m) (hA : ∀ ad, A = some ad → ad.block ≠ w.heap.size + 1 ∧ v.ownBlock ≠ some ad.block) (hn : l.length + m.length ≤ 1000) :
 Calls Try.prog 49 #[.slice A m.length c, .pointer (some ⟨w.heap.size + 1, 0, none⟩)] wl fun x w2 => x = .returned (.tuple #[]) ∧ ∃ v', Wd w e (l ++ m) v' w2 ∧ Lay wl (w.heap.size + 1) v w2 ∧ (v'.ownBlock = v.ownBlock ∨ ∃ b, wl.heap.size ≤ b ∧ v'.ownBlock = some b) := by
 refine (Oa (w.heap.size + 1) (w.heap.size + 2) A c v l m wl (by omega) h.size hm hA h.out h.own hn).mono ?_
 rintro x w2 ⟨rfl, v', h1, h2, h3, h4⟩
 exact ⟨rfl, v', h.laid h1 h2 h4, h4, h3⟩
theorem Wd.low (h : Wd w e l v wl) {b : Nat} (hb : b < w.heap.size + 1) : b ≠ w.heap.size + 1 ∧ v.ownBlock ≠ some b := ⟨by omega, fun e => by have := (h.own.lt _ e).1; omega⟩
theorem Wd.free (h : Wd w e l v wl) {b : Nat} (hb : wl.heap.size ≤ b) : b ≠ w.heap.size + 1 ∧ v.ownBlock ≠ some b := ⟨by have := h.size; omega, fun e => by have := (h.own.lt _ e).2; omega⟩
end
def Tr.words (t : Tr) : List Int := (t.x ++ t.p.take 3) ++ [t.p.getD 4 0, t.p.getD 5 0, t.p.getD 8 0]
theorem Rd.take {w : World} {A : Option Addr} {l : List Int} (h : Rd w A l) (n : Nat) : Rd w A (l.take n) :=
 ⟨rfl, Nat.le_trans (show (l.take n).length ≤ l.length from by simp; omega) h.2.1, fun hp => by
   obtain ⟨ad, e, hc⟩ := h.2.2 (by simp at hp; omega)
   refine ⟨ad, e, fun j x hx => hc j x ?_⟩
   rw [List.getElem?_take] at hx
   split at hx
   · exact hx
   · cases hx⟩
theorem xG {t : Tr} (h1 : t.x.length = 3) (h2 : t.p.length = 9) : t.words.length = 9 := by simp [Tr.words, h1, h2]
def Es.w0 (e : Es) : List Int := [e.q0, e.q1, e.q2, e.q3]
def Es.wd (e : Es) : Nat → List Int
 | 0 => e.w0
 | 1 => e.w0 ++ e.t0.words
 | 2 => (e.w0 ++ e.t0.words) ++ e.t1.words
 | _ => ((e.w0 ++ e.t0.words) ++ e.t1.words) ++ e.t2.words
theorem Ea (e : Es) (hl : ∀ j, j < 3 → (e.ax j).x.length = 3 ∧ (e.ax j).p.length = 9) (k : Nat) (hk : k ≤ 3) : (e.wd k).length = 4 + 9 * k := by
 have h0 : e.t0.words.length = 9 := xG (hl 0 (by decide)).1 (hl 0 (by decide)).2
 have h1 : e.t1.words.length = 9 := xG (hl 1 (by decide)).1 (hl 1 (by decide)).2
 have h2 : e.t2.words.length = 9 := xG (hl 2 (by decide)).1 (hl 2 (by decide)).2
 obtain rfl | rfl | rfl | rfl : k = 0 ∨ k = 1 ∨ k = 2 ∨ k = 3 := by omega
 all_goals simp [Es.wd, Es.w0, h0, h1, h2]
def Es.w7 (e : Es) : List Int := [e.steps, e.dO, e.f0, e.f1, e.f2, e.f3, if e.sat then 1 else 0]
def Es.words (e : Es) : List Int := e.wd 3 ++ e.w7
theorem Gp (e : Es) (w : World) (hr : ∀ j, j < 3 → Rw w (e.ax j)) (hl : ∀ j, j < 3 → (e.ax j).x.length = 3 ∧ (e.ax j).p.length = 9) :
 Calls Try.prog 22 #[.agg e.R] w fun x w' => ∃ A c, x = .returned (.slice A 38 c) ∧ BQ w' (w.heap.size + 2) (.slice A 38 c) e.words ∧ Below w.heap.size w w' := by
 have HR := Lib.hid hr
 have HL := Lib.hid hl
 clear hr hl
 go_enter Try.func22, Try.ntmps22
 go_upto_region 3 with fail
 have W0 : Hid (Wd w e [] (.slice none 0 0) ((w.alloc (.cells e.R 37)).alloc (.cells #[.slice none 0 0] 52))) := Lib.hid ⟨by
  have h := Row.new (w.alloc (.cells e.R 37)) 52 #[.slice none 0 0]
  rw [World.size_alloc] at h
  exact h, World.ownsRow_nil _ _ _ _, (Row.new w 37 e.R).alloc _, ((Below.refl _ _).alloc (Nat.le_refl _) _).alloc (by simp) _⟩
 generalize ((w.alloc (.cells e.R 37)).alloc (.cells #[.slice none 0 0] 52)) = w1 at W0 ⊢
 go_wp2_with fail
 refine (W0.out.lays (some ⟨w.heap.size, 0, none⟩) 4 e.w0 (Rd.part W0.out.est (by simp [Es.w0]) (fun j x hx => ?_)) (fun ad h => by injection h with h; subst h; exact W0.out.low (Nat.lt_succ_self _)) (by simp [Es.w0])).mono ?_
 · match j, hx with
   | 0, hx => injection hx with hx; subst hx; rfl
   | 1, hx => injection hx with hx; subst hx; rfl
   | 2, hx => injection hx with hx; subst hx; rfl
   | 3, hx => injection hx with hx; subst hx; rfl
   | j + 4, hx => simp [Es.w0] at hx
 rintro x w2 ⟨rfl, v2, hw, _, _⟩
 have W2 : Hid (∃ v, Wd w e (e.wd 0) v w2) := Lib.hid ⟨v2, hw⟩
 clear hw W0
 have RA := Lib.hid (Row.range W2.out.choose_spec.est 4 e.yw.toList (by kernel_rfl))
 have i34 := Lib.hid (show (Try.prog.info? 34).map (·.size) = some e.yw.toList.length by kernel_rfl)
 go_wp2_with (with_reducible refine wpList_load_mid rfl 34 (.tmp 15) rfl w.heap.size 4 rfl e.yw.toList _ RA.out Try.underlying34 rfl i34.out ?_)
 clear RA i34
 have IX : Hid ((∀ w', (Instr.index 34 (.agg e.yw) (.int .i64 0)).run Try.prog w' = .ok (.agg e.t0.row) w') ∧ (∀ w', (Instr.index 34 (.agg e.yw) (.int .i64 1)).run Try.prog w' = .ok (.agg e.t1.row) w') ∧ (∀ w', (Instr.index 34 (.agg e.yw) (.int .i64 2)).run Try.prog w' = .ok (.agg e.t2.row) w')) := Lib.hid ⟨fun w' => by kernel_rfl, fun w' => by kernel_rfl, fun w' => by kernel_rfl⟩
 go_loopw [17] (fun i wl => ∃ k : Nat, k ≤ 3 ∧ i = .int .i64 k ∧ Hid (∃ v, Wd w e (e.wd k) v wl)) (fun i _ => 3 - (intOf i).toNat)
 case atStart => exact ⟨0, by omega, rfl, W2⟩
 case round =>
  clear W2
  obtain ⟨k, hk, rfl, W2⟩ := hrel
  obtain rfl | rfl | rfl | rfl : k = 3 ∨ k = 0 ∨ k = 1 ∨ k = 2 := by omega
  · obtain ⟨v, W⟩ := W2.out
    have W := Lib.hid W
    clear W2 HR IX
    have hc : ∀ i, wr.cell? ⟨w.heap.size, i, none⟩ = e.row[i]? := W.out.est.cell
    have LW : Hid ((e.wd 3).length = 31) := Lib.hid (Ea e HL.out _ (by decide))
    obtain ⟨sv, hsv⟩ : ∃ s : Int, s = if e.sat then 1 else 0 := ⟨_, rfl⟩
    have W7 : Hid (e.w7 = [e.steps, e.dO, e.f0, e.f1, e.f2, e.f3, sv]) := Lib.hid (by rw [hsv]; rfl)
    have SV : Hid (sv = if e.sat then 1 else 0) := Lib.hid hsv
    clear hsv
    go_upto_if 51 with fail
    go_cut [7] (fun v7 wc => v7 = .int .i64 sv ∧ wc = wr)
    case first =>
     cases hs : e.sat
     · go_wp2
       go_meet
       exact ⟨by rw [SV.out, hs]; rfl, rfl⟩
     · go_wp2
       go_meet
       exact ⟨by rw [SV.out, hs]; rfl, rfl⟩
    case rest =>
     obtain ⟨rfl, rfl⟩ := hcut
     go_wp2_with fail
     have F0 : Hid (Row (wc.alloc (.cells #[I e.steps, I e.dO, I e.f0, I e.f1, I e.f2, I e.f3, I sv] 3)) wc.heap.size 3 #[I e.steps, I e.dO, I e.f0, I e.f1, I e.f2, I e.f3, I sv]) := Lib.hid (Row.new _ _ _)
     have WA : Hid (Wd w e (e.wd 3 ++ e.w7.take 0) v (wc.alloc (.cells #[I e.steps, I e.dO, I e.f0, I e.f1, I e.f2, I e.f3, I sv] 3))) := Lib.hid (by have h := W.out.alloc (.cells #[I e.steps, I e.dO, I e.f0, I e.f1, I e.f2, I e.f3, I sv] 3); simpa using h)
     have VF : Hid (v.ownBlock ≠ some wc.heap.size) := Lib.hid (W.out.free (Nat.le_refl _)).2
     have FZ : Hid (w.heap.size + 2 ≤ wc.heap.size) := Lib.hid W.out.size
     clear W
     generalize wc.alloc (.cells #[I e.steps, I e.dO, I e.f0, I e.f1, I e.f2, I e.f3, I sv] 3) = wa at F0 WA ⊢
     generalize wc.heap.size = F at F0 VF FZ ⊢
     generalize Value.int IntKind.i64 ((3 : Nat) : Int) = u17
     go_loopw [71] (fun i wl => ∃ (k : Nat) (vk : Value), k ≤ 7 ∧ i = .int .i64 k ∧ Hid (Wd w e (e.wd 3 ++ e.w7.take k) vk wl) ∧ Hid (Row wl F 3 #[I e.steps, I e.dO, I e.f0, I e.f1, I e.f2, I e.f3, I sv]) ∧ Hid (vk.ownBlock ≠ some F)) (fun i _ => 7 - (intOf i).toNat)
     case atStart => exact ⟨0, v, by omega, rfl, WA, F0, VF⟩
     case round =>
      clear WA F0 VF
      obtain ⟨k, vk, hk, rfl, W, R, V⟩ := hrel
      by_cases hkl : k = 7
      · subst hkl
        have cr := W.out.out.cell 0
        go_wp2
        have hlen : (e.wd 3 ++ e.w7.take 7).length = 38 := by simp [LW.out, Es.w7]
        have ho := W.out.own
        have hb := W.out.be
        have ef := ho.2
        rw [hlen] at ef
        rcases ef with ⟨_, h0⟩ | ⟨g, cap, cur, rfl, _⟩
        · exact absurd h0 (by decide)
        go_ret
        exact ⟨_, _, rfl, ho, hb⟩
      obtain ⟨x, hx, cx⟩ : ∃ x, e.w7[k]? = some x ∧ wr.cell? ⟨F, k, none⟩ = some (I x) := by
       rw [W7.out]
       obtain rfl | rfl | rfl | rfl | rfl | rfl | rfl : k = 0 ∨ k = 1 ∨ k = 2 ∨ k = 3 ∨ k = 4 ∨ k = 5 ∨ k = 6 := by omega
       all_goals exact ⟨_, rfl, R.out.cell _⟩
      have hlt : (k : Int) < 7 := by omega
      have hk0 : (0 : Int) ≤ k := by omega
      have STEP : Hid (k + 1 ≤ 7 ∧ 7 - (k + 1) < 7 - k) := Lib.hid (by omega)
      have hw64 : IntKind.i64.wrap ((k : Int) + 1) = (k : Int) + 1 := by simp [IntKind.wrap, IntKind.bits, IntKind.signed]; omega
      have cr := W.out.out.cell 0
      have lr := W.out.out.lt
      have lf := R.out.lt
      obtain ⟨L, hL⟩ : ∃ L, L = e.wd 3 ++ e.w7.take k := ⟨_, rfl⟩
      have EL : Hid (L ++ [x] = e.wd 3 ++ e.w7.take (k + 1)) := Lib.hid (by rw [hL, List.take_add_one, hx]; simp)
      have WA : Hid (Wd w e L vk wr) := Lib.hid (by rw [hL]; exact W.out)
      have OA := Lib.hid (WA.out.alloc (.cells #[I x] 2)).own
      have HS : Hid (w.heap.size + 2 ≤ (wr.alloc (.cells #[I x] 2)).heap.size) := Lib.hid (WA.out.alloc _).size
      have CX : Hid ((wr.alloc (.cells #[I x] 2)).cell? ⟨wr.heap.size, 0, none⟩ = some (I x)) := Lib.hid ((Row.new wr 2 #[I x]).cell 0)
      have LN : Hid (L.length ≤ 1000000) := Lib.hid (by rw [hL]; simp [LW.out, Es.w7]; omega)
      clear hL hx hk hkl W
      go_wp2_with (with_reducible refine zJ _ rfl (.tmp 75) (.tmp 77) rfl (w.heap.size + 2) vk ⟨wr.heap.size, 0, none⟩ 1 L x rfl rfl OA.out HS.out CX.out LN.out ?_)
      intro A c' w2 h1 h2 h3
      have NO : Hid (vk.ownBlock ≠ some (w.heap.size + 1)) := Lib.hid (fun e => by have := (WA.out.own.lt _ e).1; omega)
      have R2 := Lib.hid (Row.grown (WA.out.out.alloc (.cells #[I x] 2)) h2 (fun e => NO.out e.symm))
      have F2 := Lib.hid (Row.grown (R.out.alloc (.cells #[I x] 2)) h2 (fun e => V.out e.symm))
      have O2 := Lib.hid h1
      have G2 := Lib.hid h2
      have N2 := Lib.hid h3
      clear h1 h2 h3 cr
      have cr := R2.out.cell 0
      have fr := R2.out.free 0
      go_wp2
      go_roundw
      case rel =>
       refine ⟨k + 1, .slice A (L.length + 1) c', STEP.out.1, by go_num, Lib.hid ?_, Lib.hid (F2.out.far (by show F ≠ w.heap.size + 1; have := FZ.out; omega) _), Lib.hid ?_⟩
       · rw [← EL.out]
         exact WA.out.laid (R2.out.set 0 _) (Go.RowKit.ownsRow_setCell_below O2.out (by show w.heap.size + 1 < _; omega) _) ((Lay.refl wr _ vk).more (.inl rfl) ((Below.refl _ _).alloc (Nat.le_refl _) _) G2.out)
       · intro e
         rcases N2.out with h | h
         · exact V.out (h.symm.trans e)
         · rw [h] at e; injection e with e; omega
      case measure =>
       have h := STEP.out.2
       show 7 - ((k : Int) + 1).toNat < 7 - ((k : Int)).toNat
       rw [show ((k : Int) + 1).toNat = k + 1 by omega, show ((k : Int)).toNat = k by omega]
       exact h
  · have ix := IX.out.1
    obtain ⟨v, W⟩ := W2.out
    have W := Lib.hid W
    have LW : Hid ((e.wd 0).length = 4 + 9 * 0) := Lib.hid (Ea e HL.out _ (by decide))
    have hx : e.t0.x.length = 3 := (HL.out 0 (by decide)).1
    have hp : e.t0.p.length = 9 := (HL.out 0 (by decide)).2
    have RT := HR.out 0 (by decide)
    change Rw w e.t0 at RT
    have HX := Lib.hid (And.intro hx hp)
    have HT := Lib.hid RT
    clear W2 hx hp RT
    go_wp2_with fail
    refine ((W.out.alloc (.cells e.t0.row 33)).lays e.t0.A e.t0.c e.t0.x ((W.out.alloc _).rw HT.out).x (fun ad h => (W.out.alloc (.cells e.t0.row 33)).low (by have := PR.Rd.blk HT.out.x ad h (by rw [HX.out.1]; decide); omega)) (by rw [LW.out, HX.out.1]; decide)).mono ?_
    rintro x w3 ⟨rfl, v3, h3, k3, n3⟩
    have W3 := Lib.hid h3
    have hv := (W.out.free (Nat.le_refl _)).2
    have T3 := Lib.hid ((W.out.alloc (.cells e.t0.row 33)).far (Row.new wr 33 e.t0.row) W.out.size hv k3)
    have V3 : Hid (v3.ownBlock ≠ some wr.heap.size) := Lib.hid (fun e => by
     rcases n3 with h | ⟨b, hb, h⟩
     · exact hv (h.symm.trans e)
     · rw [h] at e; injection e with e; simp at hb; omega)
    have TZ : Hid (w.heap.size + 2 ≤ wr.heap.size) := Lib.hid W.out.size
    clear h3 k3 n3 hv W ix
    generalize wr.heap.size = T at T3 V3 TZ ⊢
    obtain ⟨b, off, hB, hb, hc⟩ := HT.out.p.cells (by rw [HX.out.2]; decide)
    have HC := Lib.hid (And.intro hB (And.intro hb hc))
    have c5 : w3.cell? ⟨T, 5, none⟩ = some (.slice (some ⟨b, off, none⟩) 9 e.t0.d) := by
     rw [T3.out.cell 5]
     show some (Value.slice e.t0.B e.t0.p.length e.t0.d) = _
     rw [hB, HX.out.2]
    have hd : (9 : Int) ≤ e.t0.d := by have := HT.out.pd; rw [HX.out.2] at this; omega
    have hd3 : (3 : Int) ≤ e.t0.d := by omega
    have hdn : 3 ≤ e.t0.d := by omega
    clear hB hb hc
    go_wp2_with fail
    have IM : Hid (Calls Try.prog 49 #[.slice (some ⟨b, off, none⟩) 3 e.t0.d, .pointer (some ⟨w.heap.size + 1, 0, none⟩)] w3 fun x w2 => x = .returned (.tuple #[]) ∧ ∃ v', Wd w e ((e.wd 0 ++ e.t0.x) ++ e.t0.p.take 3) v' w2 ∧ Lay w3 (w.heap.size + 1) v3 w2 ∧ (v'.ownBlock = v3.ownBlock ∨ ∃ b, w3.heap.size ≤ b ∧ v'.ownBlock = some b)) := Lib.hid (by
     have hh := W3.out.lays (some ⟨b, off, none⟩) e.t0.d (e.t0.p.take 3) (Rd.take (by rw [← HC.out.1]; exact HT.out.p.below W3.out.be) 3) (fun ad h => by injection h with h; subst h; exact W3.out.low (by have := HC.out.2.1; show b < _; omega)) (by simp [LW.out, HX.out.1, HX.out.2])
     rw [show (e.t0.p.take 3).length = 3 from by simp [HX.out.2]] at hh
     exact hh)
    refine IM.out.mono ?_
    rintro x w4 ⟨rfl, v4, h4, k4, n4⟩
    have W4 := Lib.hid h4
    have T4 := Lib.hid (W3.out.far T3.out TZ.out V3.out k4)
    have V4 : Hid (v4.ownBlock ≠ some T) := Lib.hid (fun e => by
     rcases n4 with h | ⟨b, hb, h⟩
     · exact V3.out (h.symm.trans e)
     · rw [h] at e; injection e with e; have := T3.out.lt; omega)
    obtain ⟨p4, e4⟩ : ∃ x, x = e.t0.p.getD 4 0 := ⟨_, rfl⟩
    obtain ⟨p5, e5⟩ : ∃ x, x = e.t0.p.getD 5 0 := ⟨_, rfl⟩
    obtain ⟨p8, e8⟩ : ∃ x, x = e.t0.p.getD 8 0 := ⟨_, rfl⟩
    have EP := Lib.hid (And.intro e4 (And.intro e5 e8))
    have PC : Hid (w.cell? ⟨b, off + 4, none⟩ = some (I p4) ∧ w.cell? ⟨b, off + 5, none⟩ = some (I p5) ∧ w.cell? ⟨b, off + 8, none⟩ = some (I p8)) := Lib.hid ⟨HC.out.2.2 4 p4 (by rw [e4]; exact gX (by rw [HX.out.2]; decide)), HC.out.2.2 5 p5 (by rw [e5]; exact gX (by rw [HX.out.2]; decide)), HC.out.2.2 8 p8 (by rw [e8]; exact gX (by rw [HX.out.2]; decide))⟩
    have K9 : Hid (∀ w' l' v', Wd w e l' v' w' → Row w' T 33 e.t0.row → (w'.cell? ⟨T, 5, none⟩ = some (.slice (some ⟨b, off, none⟩) 9 e.t0.d) ∧ w'.cell? ⟨b, off + 4, none⟩ = some (I p4) ∧ w'.cell? ⟨b, off + 5, none⟩ = some (I p5) ∧ w'.cell? ⟨b, off + 8, none⟩ = some (I p8))) := Lib.hid (fun w' l' v' h t => ⟨by
     rw [t.cell 5]
     show some (Value.slice e.t0.B e.t0.p.length e.t0.d) = _
     rw [HC.out.1, HX.out.2], (Below.cell h.be (p := ⟨b, off + 4, none⟩) HC.out.2.1).trans PC.out.1, (Below.cell h.be (p := ⟨b, off + 5, none⟩) HC.out.2.1).trans PC.out.2.1, (Below.cell h.be (p := ⟨b, off + 8, none⟩) HC.out.2.1).trans PC.out.2.2⟩)
    have Q8 : Hid (Calls Try.prog 49 #[.slice (some ⟨w4.heap.size, 0, none⟩) 3 3, .pointer (some ⟨w.heap.size + 1, 0, none⟩)] (w4.alloc (.cells #[I p4, I p5, I p8] 22)).drew fun x w2 => x = .returned (.tuple #[]) ∧ ∃ v', Wd w e (e.wd (0 + 1)) v' w2 ∧ Row w2 T 33 e.t0.row) := Lib.hid (by
     have hh := (W4.out.alloc (.cells #[I p4, I p5, I p8] 22)).drew.lays (some ⟨w4.heap.size, 0, none⟩) 3 [p4, p5, p8] ((Rd.new w4 22 [p4, p5, p8] (by simp)).below (Below.refl _ _).drew) (fun ad h => by injection h with h; subst h; exact W4.out.free (Nat.le_refl _)) (by simp [LW.out, HX.out.1, HX.out.2])
     refine hh.mono ?_
     rintro x w5 ⟨hx5, v5, h5, k5, _⟩
     refine ⟨hx5, v5, ?_, (W4.out.alloc (.cells #[I p4, I p5, I p8] 22)).drew.far (T4.out.alloc _).drew TZ.out V4.out k5⟩
     have e9 : ((e.wd 0 ++ e.t0.x) ++ e.t0.p.take 3) ++ [p4, p5, p8] = e.wd (0 + 1) := by
      rw [EP.out.1, EP.out.2.1, EP.out.2.2]
      simp [Es.wd, Tr.words]
     rw [← e9]
     exact h5)
    clear h4 k4 n4 e4 e5 e8 IM c5 W3 T3 V3
    go_upto_region 9 with fail
    go_region_held3 (fun w' => w'.cell? ⟨T, 5, none⟩ = some (.slice (some ⟨b, off, none⟩) 9 e.t0.d) ∧ w'.cell? ⟨b, off + 4, none⟩ = some (I p4) ∧ w'.cell? ⟨b, off + 5, none⟩ = some (I p5) ∧ w'.cell? ⟨b, off + 8, none⟩ = some (I p8))
     (first | with_reducible exact K9.out _ _ _ W4.out.drew T4.out.drew | with_reducible exact K9.out _ _ _ (W4.out.alloc _).drew (T4.out.alloc _).drew | with_reducible exact K9.out _ _ _ W5.out T5.out)
     ((go_at_call 49
       (with_reducible refine Q8.out.mono ?_)
       rintro x w5 ⟨rfl, v5, h5, t5⟩
       have W5 := Lib.hid h5
       have T5 := Lib.hid t5
       clear h5 t5))
    go_wp2
    go_roundw
    case rel => exact ⟨0 + 1, by omega, by go_num, Lib.hid ⟨v5, W5.out⟩⟩
    case measure => simp [intOf]
  · have ix := IX.out.2.1
    obtain ⟨v, W⟩ := W2.out
    have W := Lib.hid W
    have LW : Hid ((e.wd 1).length = 4 + 9 * 1) := Lib.hid (Ea e HL.out _ (by decide))
    have hx : e.t1.x.length = 3 := (HL.out 1 (by decide)).1
    have hp : e.t1.p.length = 9 := (HL.out 1 (by decide)).2
    have RT := HR.out 1 (by decide)
    change Rw w e.t1 at RT
    have HX := Lib.hid (And.intro hx hp)
    have HT := Lib.hid RT
    clear W2 hx hp RT
    go_wp2_with fail
    refine ((W.out.alloc (.cells e.t1.row 33)).lays e.t1.A e.t1.c e.t1.x ((W.out.alloc _).rw HT.out).x (fun ad h => (W.out.alloc (.cells e.t1.row 33)).low (by have := PR.Rd.blk HT.out.x ad h (by rw [HX.out.1]; decide); omega)) (by rw [LW.out, HX.out.1]; decide)).mono ?_
    rintro x w3 ⟨rfl, v3, h3, k3, n3⟩
    have W3 := Lib.hid h3
    have hv := (W.out.free (Nat.le_refl _)).2
    have T3 := Lib.hid ((W.out.alloc (.cells e.t1.row 33)).far (Row.new wr 33 e.t1.row) W.out.size hv k3)
    have V3 : Hid (v3.ownBlock ≠ some wr.heap.size) := Lib.hid (fun e => by
     rcases n3 with h | ⟨b, hb, h⟩
     · exact hv (h.symm.trans e)
     · rw [h] at e; injection e with e; simp at hb; omega)
    have TZ : Hid (w.heap.size + 2 ≤ wr.heap.size) := Lib.hid W.out.size
    clear h3 k3 n3 hv W ix
    generalize wr.heap.size = T at T3 V3 TZ ⊢
    obtain ⟨b, off, hB, hb, hc⟩ := HT.out.p.cells (by rw [HX.out.2]; decide)
    have HC := Lib.hid (And.intro hB (And.intro hb hc))
    have c5 : w3.cell? ⟨T, 5, none⟩ = some (.slice (some ⟨b, off, none⟩) 9 e.t1.d) := by
     rw [T3.out.cell 5]
     show some (Value.slice e.t1.B e.t1.p.length e.t1.d) = _
     rw [hB, HX.out.2]
    have hd : (9 : Int) ≤ e.t1.d := by have := HT.out.pd; rw [HX.out.2] at this; omega
    have hd3 : (3 : Int) ≤ e.t1.d := by omega
    have hdn : 3 ≤ e.t1.d := by omega
    clear hB hb hc
    go_wp2_with fail
    have IM : Hid (Calls Try.prog 49 #[.slice (some ⟨b, off, none⟩) 3 e.t1.d, .pointer (some ⟨w.heap.size + 1, 0, none⟩)] w3 fun x w2 => x = .returned (.tuple #[]) ∧ ∃ v', Wd w e ((e.wd 1 ++ e.t1.x) ++ e.t1.p.take 3) v' w2 ∧ Lay w3 (w.heap.size + 1) v3 w2 ∧ (v'.ownBlock = v3.ownBlock ∨ ∃ b, w3.heap.size ≤ b ∧ v'.ownBlock = some b)) := Lib.hid (by
     have hh := W3.out.lays (some ⟨b, off, none⟩) e.t1.d (e.t1.p.take 3) (Rd.take (by rw [← HC.out.1]; exact HT.out.p.below W3.out.be) 3) (fun ad h => by injection h with h; subst h; exact W3.out.low (by have := HC.out.2.1; show b < _; omega)) (by simp [LW.out, HX.out.1, HX.out.2])
     rw [show (e.t1.p.take 3).length = 3 from by simp [HX.out.2]] at hh
     exact hh)
    refine IM.out.mono ?_
    rintro x w4 ⟨rfl, v4, h4, k4, n4⟩
    have W4 := Lib.hid h4
    have T4 := Lib.hid (W3.out.far T3.out TZ.out V3.out k4)
    have V4 : Hid (v4.ownBlock ≠ some T) := Lib.hid (fun e => by
     rcases n4 with h | ⟨b, hb, h⟩
     · exact V3.out (h.symm.trans e)
     · rw [h] at e; injection e with e; have := T3.out.lt; omega)
    obtain ⟨p4, e4⟩ : ∃ x, x = e.t1.p.getD 4 0 := ⟨_, rfl⟩
    obtain ⟨p5, e5⟩ : ∃ x, x = e.t1.p.getD 5 0 := ⟨_, rfl⟩
    obtain ⟨p8, e8⟩ : ∃ x, x = e.t1.p.getD 8 0 := ⟨_, rfl⟩
    have EP := Lib.hid (And.intro e4 (And.intro e5 e8))
    have PC : Hid (w.cell? ⟨b, off + 4, none⟩ = some (I p4) ∧ w.cell? ⟨b, off + 5, none⟩ = some (I p5) ∧ w.cell? ⟨b, off + 8, none⟩ = some (I p8)) := Lib.hid ⟨HC.out.2.2 4 p4 (by rw [e4]; exact gX (by rw [HX.out.2]; decide)), HC.out.2.2 5 p5 (by rw [e5]; exact gX (by rw [HX.out.2]; decide)), HC.out.2.2 8 p8 (by rw [e8]; exact gX (by rw [HX.out.2]; decide))⟩
    have K9 : Hid (∀ w' l' v', Wd w e l' v' w' → Row w' T 33 e.t1.row → (w'.cell? ⟨T, 5, none⟩ = some (.slice (some ⟨b, off, none⟩) 9 e.t1.d) ∧ w'.cell? ⟨b, off + 4, none⟩ = some (I p4) ∧ w'.cell? ⟨b, off + 5, none⟩ = some (I p5) ∧ w'.cell? ⟨b, off + 8, none⟩ = some (I p8))) := Lib.hid (fun w' l' v' h t => ⟨by
     rw [t.cell 5]
     show some (Value.slice e.t1.B e.t1.p.length e.t1.d) = _
     rw [HC.out.1, HX.out.2], (Below.cell h.be (p := ⟨b, off + 4, none⟩) HC.out.2.1).trans PC.out.1, (Below.cell h.be (p := ⟨b, off + 5, none⟩) HC.out.2.1).trans PC.out.2.1, (Below.cell h.be (p := ⟨b, off + 8, none⟩) HC.out.2.1).trans PC.out.2.2⟩)
    have Q8 : Hid (Calls Try.prog 49 #[.slice (some ⟨w4.heap.size, 0, none⟩) 3 3, .pointer (some ⟨w.heap.size + 1, 0, none⟩)] (w4.alloc (.cells #[I p4, I p5, I p8] 22)).drew fun x w2 => x = .returned (.tuple #[]) ∧ ∃ v', Wd w e (e.wd (1 + 1)) v' w2 ∧ Row w2 T 33 e.t1.row) := Lib.hid (by
     have hh := (W4.out.alloc (.cells #[I p4, I p5, I p8] 22)).drew.lays (some ⟨w4.heap.size, 0, none⟩) 3 [p4, p5, p8] ((Rd.new w4 22 [p4, p5, p8] (by simp)).below (Below.refl _ _).drew) (fun ad h => by injection h with h; subst h; exact W4.out.free (Nat.le_refl _)) (by simp [LW.out, HX.out.1, HX.out.2])
     refine hh.mono ?_
     rintro x w5 ⟨hx5, v5, h5, k5, _⟩
     refine ⟨hx5, v5, ?_, (W4.out.alloc (.cells #[I p4, I p5, I p8] 22)).drew.far (T4.out.alloc _).drew TZ.out V4.out k5⟩
     have e9 : ((e.wd 1 ++ e.t1.x) ++ e.t1.p.take 3) ++ [p4, p5, p8] = e.wd (1 + 1) := by
      rw [EP.out.1, EP.out.2.1, EP.out.2.2]
      simp [Es.wd, Tr.words]
     rw [← e9]
     exact h5)
    clear h4 k4 n4 e4 e5 e8 IM c5 W3 T3 V3
    go_upto_region 9 with fail
    go_region_held3 (fun w' => w'.cell? ⟨T, 5, none⟩ = some (.slice (some ⟨b, off, none⟩) 9 e.t1.d) ∧ w'.cell? ⟨b, off + 4, none⟩ = some (I p4) ∧ w'.cell? ⟨b, off + 5, none⟩ = some (I p5) ∧ w'.cell? ⟨b, off + 8, none⟩ = some (I p8))
     (first | with_reducible exact K9.out _ _ _ W4.out.drew T4.out.drew | with_reducible exact K9.out _ _ _ (W4.out.alloc _).drew (T4.out.alloc _).drew | with_reducible exact K9.out _ _ _ W5.out T5.out)
     ((go_at_call 49
       (with_reducible refine Q8.out.mono ?_)
       rintro x w5 ⟨rfl, v5, h5, t5⟩
       have W5 := Lib.hid h5
       have T5 := Lib.hid t5
       clear h5 t5))
    go_wp2
    go_roundw
    case rel => exact ⟨1 + 1, by omega, by go_num, Lib.hid ⟨v5, W5.out⟩⟩
    case measure => simp [intOf]
  · have ix := IX.out.2.2
    obtain ⟨v, W⟩ := W2.out
    have W := Lib.hid W
    have LW : Hid ((e.wd 2).length = 4 + 9 * 2) := Lib.hid (Ea e HL.out _ (by decide))
    have hx : e.t2.x.length = 3 := (HL.out 2 (by decide)).1
    have hp : e.t2.p.length = 9 := (HL.out 2 (by decide)).2
    have RT := HR.out 2 (by decide)
    change Rw w e.t2 at RT
    have HX := Lib.hid (And.intro hx hp)
    have HT := Lib.hid RT
    clear W2 hx hp RT
    go_wp2_with fail
    refine ((W.out.alloc (.cells e.t2.row 33)).lays e.t2.A e.t2.c e.t2.x ((W.out.alloc _).rw HT.out).x (fun ad h => (W.out.alloc (.cells e.t2.row 33)).low (by have := PR.Rd.blk HT.out.x ad h (by rw [HX.out.1]; decide); omega)) (by rw [LW.out, HX.out.1]; decide)).mono ?_
    rintro x w3 ⟨rfl, v3, h3, k3, n3⟩
    have W3 := Lib.hid h3
    have hv := (W.out.free (Nat.le_refl _)).2
    have T3 := Lib.hid ((W.out.alloc (.cells e.t2.row 33)).far (Row.new wr 33 e.t2.row) W.out.size hv k3)
    have V3 : Hid (v3.ownBlock ≠ some wr.heap.size) := Lib.hid (fun e => by
     rcases n3 with h | ⟨b, hb, h⟩
     · exact hv (h.symm.trans e)
     · rw [h] at e; injection e with e; simp at hb; omega)
    have TZ : Hid (w.heap.size + 2 ≤ wr.heap.size) := Lib.hid W.out.size
    clear h3 k3 n3 hv W ix
    generalize wr.heap.size = T at T3 V3 TZ ⊢
    obtain ⟨b, off, hB, hb, hc⟩ := HT.out.p.cells (by rw [HX.out.2]; decide)
    have HC := Lib.hid (And.intro hB (And.intro hb hc))
    have c5 : w3.cell? ⟨T, 5, none⟩ = some (.slice (some ⟨b, off, none⟩) 9 e.t2.d) := by
     rw [T3.out.cell 5]
     show some (Value.slice e.t2.B e.t2.p.length e.t2.d) = _
     rw [hB, HX.out.2]
    have hd : (9 : Int) ≤ e.t2.d := by have := HT.out.pd; rw [HX.out.2] at this; omega
    have hd3 : (3 : Int) ≤ e.t2.d := by omega
    have hdn : 3 ≤ e.t2.d := by omega
    clear hB hb hc
    go_wp2_with fail
    have IM : Hid (Calls Try.prog 49 #[.slice (some ⟨b, off, none⟩) 3 e.t2.d, .pointer (some ⟨w.heap.size + 1, 0, none⟩)] w3 fun x w2 => x = .returned (.tuple #[]) ∧ ∃ v', Wd w e ((e.wd 2 ++ e.t2.x) ++ e.t2.p.take 3) v' w2 ∧ Lay w3 (w.heap.size + 1) v3 w2 ∧ (v'.ownBlock = v3.ownBlock ∨ ∃ b, w3.heap.size ≤ b ∧ v'.ownBlock = some b)) := Lib.hid (by
     have hh := W3.out.lays (some ⟨b, off, none⟩) e.t2.d (e.t2.p.take 3) (Rd.take (by rw [← HC.out.1]; exact HT.out.p.below W3.out.be) 3) (fun ad h => by injection h with h; subst h; exact W3.out.low (by have := HC.out.2.1; show b < _; omega)) (by simp [LW.out, HX.out.1, HX.out.2])
     rw [show (e.t2.p.take 3).length = 3 from by simp [HX.out.2]] at hh
     exact hh)
    refine IM.out.mono ?_
    rintro x w4 ⟨rfl, v4, h4, k4, n4⟩
    have W4 := Lib.hid h4
    have T4 := Lib.hid (W3.out.far T3.out TZ.out V3.out k4)
    have V4 : Hid (v4.ownBlock ≠ some T) := Lib.hid (fun e => by
     rcases n4 with h | ⟨b, hb, h⟩
     · exact V3.out (h.symm.trans e)
     · rw [h] at e; injection e with e; have := T3.out.lt; omega)
    obtain ⟨p4, e4⟩ : ∃ x, x = e.t2.p.getD 4 0 := ⟨_, rfl⟩
    obtain ⟨p5, e5⟩ : ∃ x, x = e.t2.p.getD 5 0 := ⟨_, rfl⟩
    obtain ⟨p8, e8⟩ : ∃ x, x = e.t2.p.getD 8 0 := ⟨_, rfl⟩
    have EP := Lib.hid (And.intro e4 (And.intro e5 e8))
    have PC : Hid (w.cell? ⟨b, off + 4, none⟩ = some (I p4) ∧ w.cell? ⟨b, off + 5, none⟩ = some (I p5) ∧ w.cell? ⟨b, off + 8, none⟩ = some (I p8)) := Lib.hid ⟨HC.out.2.2 4 p4 (by rw [e4]; exact gX (by rw [HX.out.2]; decide)), HC.out.2.2 5 p5 (by rw [e5]; exact gX (by rw [HX.out.2]; decide)), HC.out.2.2 8 p8 (by rw [e8]; exact gX (by rw [HX.out.2]; decide))⟩
    have K9 : Hid (∀ w' l' v', Wd w e l' v' w' → Row w' T 33 e.t2.row → (w'.cell? ⟨T, 5, none⟩ = some (.slice (some ⟨b, off, none⟩) 9 e.t2.d) ∧ w'.cell? ⟨b, off + 4, none⟩ = some (I p4) ∧ w'.cell? ⟨b, off + 5, none⟩ = some (I p5) ∧ w'.cell? ⟨b, off + 8, none⟩ = some (I p8))) := Lib.hid (fun w' l' v' h t => ⟨by
     rw [t.cell 5]
     show some (Value.slice e.t2.B e.t2.p.length e.t2.d) = _
     rw [HC.out.1, HX.out.2], (Below.cell h.be (p := ⟨b, off + 4, none⟩) HC.out.2.1).trans PC.out.1, (Below.cell h.be (p := ⟨b, off + 5, none⟩) HC.out.2.1).trans PC.out.2.1, (Below.cell h.be (p := ⟨b, off + 8, none⟩) HC.out.2.1).trans PC.out.2.2⟩)
    have Q8 : Hid (Calls Try.prog 49 #[.slice (some ⟨w4.heap.size, 0, none⟩) 3 3, .pointer (some ⟨w.heap.size + 1, 0, none⟩)] (w4.alloc (.cells #[I p4, I p5, I p8] 22)).drew fun x w2 => x = .returned (.tuple #[]) ∧ ∃ v', Wd w e (e.wd (2 + 1)) v' w2 ∧ Row w2 T 33 e.t2.row) := Lib.hid (by
     have hh := (W4.out.alloc (.cells #[I p4, I p5, I p8] 22)).drew.lays (some ⟨w4.heap.size, 0, none⟩) 3 [p4, p5, p8] ((Rd.new w4 22 [p4, p5, p8] (by simp)).below (Below.refl _ _).drew) (fun ad h => by injection h with h; subst h; exact W4.out.free (Nat.le_refl _)) (by simp [LW.out, HX.out.1, HX.out.2])
     refine hh.mono ?_
     rintro x w5 ⟨hx5, v5, h5, k5, _⟩
     refine ⟨hx5, v5, ?_, (W4.out.alloc (.cells #[I p4, I p5, I p8] 22)).drew.far (T4.out.alloc _).drew TZ.out V4.out k5⟩
     have e9 : ((e.wd 2 ++ e.t2.x) ++ e.t2.p.take 3) ++ [p4, p5, p8] = e.wd (2 + 1) := by
      rw [EP.out.1, EP.out.2.1, EP.out.2.2]
      simp [Es.wd, Tr.words]
     rw [← e9]
     exact h5)
    clear h4 k4 n4 e4 e5 e8 IM c5 W3 T3 V3
    go_upto_region 9 with fail
    go_region_held3 (fun w' => w'.cell? ⟨T, 5, none⟩ = some (.slice (some ⟨b, off, none⟩) 9 e.t2.d) ∧ w'.cell? ⟨b, off + 4, none⟩ = some (I p4) ∧ w'.cell? ⟨b, off + 5, none⟩ = some (I p5) ∧ w'.cell? ⟨b, off + 8, none⟩ = some (I p8))
     (first | with_reducible exact K9.out _ _ _ W4.out.drew T4.out.drew | with_reducible exact K9.out _ _ _ (W4.out.alloc _).drew (T4.out.alloc _).drew | with_reducible exact K9.out _ _ _ W5.out T5.out)
     ((go_at_call 49
       (with_reducible refine Q8.out.mono ?_)
       rintro x w5 ⟨rfl, v5, h5, t5⟩
       have W5 := Lib.hid h5
       have T5 := Lib.hid t5
       clear h5 t5))
    go_wp2
    go_roundw
    case rel => exact ⟨2 + 1, by omega, by go_num, Lib.hid ⟨v5, W5.out⟩⟩
    case measure => simp [intOf]
end Go.Proofs.Ytnijhjbcjeohhaa.EE

namespace Go.Proofs.Ytnijhjbcjeohhaa.EE
open Go.RowKit Go.Proofs.Ytnijhjbcjeohhaa.KK Go.Proofs.af.aO Go.Proofs.af.aU Go.Proofs.af.aV
set_option linter.unusedVariables false
set_option linter.unusedSimpArgs false
def U_ : Cf := ⟨2097152, 16777216, 262144, 16777216, 16777216, 268435456⟩
def sm0 : Sm := ⟨true, 0, 0, 0, 0, 0, 0, false, 0, false, 0, 0, 0⟩
def en0 : En := ⟨16777216, 0, 0, 0, [0, 0, 0], rP, [0, 0, 0], rP, [0, 0, 0], rP, 0, 0, 0, 0, 0, 0, false⟩
theorem J4 : Gd en0 := by
 refine ⟨fun j hj => ?_, fun j hj => ?_, by decide, by decide, by decide, by decide, fun k hk => ?_, fun k hk => ?_⟩
 · obtain rfl | rfl | rfl : j = 0 ∨ j = 1 ∨ j = 2 := by omega
   all_goals rfl
 · obtain rfl | rfl | rfl : j = 0 ∨ j = 1 ∨ j = 2 := by omega
   all_goals exact PR.jU _
 · obtain rfl | rfl | rfl | rfl : k = 0 ∨ k = 1 ∨ k = 2 ∨ k = 3 := by omega
   all_goals decide
 · obtain rfl | rfl | rfl | rfl : k = 0 ∨ k = 1 ∨ k = 2 ∨ k = 3 := by omega
   all_goals decide
def Pg : En := En.ahead U_ en0 (a3 0 0 0)
theorem LJ : Pg.x0 = [0, 0, 0] ∧ Pg.x1 = [0, 0, 0] ∧ Pg.x2 = [0, 0, 0] ∧ Pg.sat = false := by decide +kernel
theorem Ji : KA U_ en0 sm0 (Pg.cnt true) :=
 La U_ en0 sm0 en0 Pg (a3 0 0 0) J4 (by decide) (by decide) (.inl ⟨rfl, rfl, rfl⟩) ⟨fun _ => rfl, fun h => by cases h⟩ J4.ahead
end Go.Proofs.Ytnijhjbcjeohhaa.EE

namespace Go.Proofs.Ytnijhjbcjeohhaa.OG
open Go Go.RowKit Go.Proofs.Ytnijhjbcjeohhaa.KK
section
variable {P : Program} {ops : Array Oper} {Q : Exit → Act → World → Prop}
def upd (l : Nat → Bool) (i : Nat) : Nat → Bool := fun k => if k = i then true else l k
def deps (o : Oper) (l : Nat → Bool) : Prop := ∀ e ∈ o.after.toList, Region.binds .any e = true → l e.on = true
def Closed (ops : Array Oper) (l : Nat → Bool) : Prop := ∀ j o, ops[j]? = some o → l j = true → deps o l
theorem Closed.off {l : Nat → Bool} (hc : Closed ops l) (j k : Nat) (h : ((ops[j]?).map fun o => o.after.toList.any (fun e => Region.binds .any e && decide (e.on = k))) = some true) (h0 : l k = false) : l j = false := by
 cases hj : l j with
 | false => rfl
 | true =>
   exfalso
   cases ho : ops[j]? with
   | none => rw [ho] at h; cases h
   | some o =>
     rw [ho] at h
     simp only [Option.map_some, Option.some.injEq, List.any_eq_true, Bool.and_eq_true, decide_eq_true_eq] at h
     obtain ⟨e, he, h2, rfl⟩ := h
     have := hc j o ho hj e he h2
     rw [h0] at this
     cases this
def Steps (P : Program) (ops : Array Oper) (Q : Exit → Act → World → Prop) (J : (Nat → Bool) → Act → World → Prop) : Nat → List Oper → Prop
 | _, [] => True
 | k, o :: r => (∀ l a w, J l a w → Closed ops l → l k = false → deps o l → (Region.wanted o (yielded ops a.tmps) = true ∧ o.wp P a w (fun a' w' => J (upd l k) a' w') Q) ∨ (Region.wanted o (yielded ops a.tmps) = false ∧ J (upd l k) (a.put o.dst undef) w)) ∧ Steps P ops Q J (k + 1) r
theorem deps.get {o : Oper} {l : Nat → Bool} (h : deps o l) (k : Nat) (hk : o.after.toList.any (fun e => Region.binds .any e && decide (e.on = k)) = true) : l k = true := by
 rw [List.any_eq_true] at hk
 obtain ⟨e, he, h2⟩ := hk
 simp only [Bool.and_eq_true, decide_eq_true_eq] at h2
 obtain ⟨h3, rfl⟩ := h2
 exact h e he h3
theorem Steps.nil {J : (Nat → Bool) → Act → World → Prop} {k : Nat} : Steps P ops Q J k [] := trivial
theorem Steps.cons {J : (Nat → Bool) → Act → World → Prop} {k : Nat} {o : Oper} {r : List Oper} (hg : o.guard = none)
 (h : ∀ l a w (K : Act → World → Prop), Hid (∀ a' w', J (upd l k) a' w' → K a' w') → J l a w → Closed ops l → l k = false → deps o l → o.wp P a w K Q) (hr : Steps P ops Q J (k + 1) r) : Steps P ops Q J k (o :: r) :=
 ⟨fun l a w hJ hc hl hd => .inl ⟨by simp [Region.wanted, hg], h l a w _ (Lib.hid fun _ _ h => h) hJ hc hl hd⟩, hr⟩
theorem Steps.get {J : (Nat → Bool) → Act → World → Prop} : ∀ {r : List Oper} {k : Nat}, Steps P ops Q J k r → ∀ i o, r[i]? = some o →
 ∀ l a w, J l a w → Closed ops l → l (k + i) = false → deps o l → (Region.wanted o (yielded ops a.tmps) = true ∧ o.wp P a w (fun a' w' => J (upd l (k + i)) a' w') Q) ∨ (Region.wanted o (yielded ops a.tmps) = false ∧ J (upd l (k + i)) (a.put o.dst undef) w)
 | [], _, _, i, o, h => by simp at h
 | x :: r, k, hs, 0, o, h => by
   simp at h; subst h; exact hs.1
 | x :: r, k, hs, i + 1, o, h => by
   have := hs.2.get i o (by simpa using h)
   rwa [show k + 1 + i = k + (i + 1) from by omega] at this
def back (ops : Array Oper) : Bool := (List.range ops.size).all fun i => ((ops[i]?).map fun o => o.after.toList.all fun e => !Region.binds .any e || decide (e.on < i)).getD true
theorem Nz {listed : Array Bool} (hb : back ops = true) (hsz : listed.size = ops.size) (hr : Region.ready .any ops listed = []) : ∀ n i, i < n → i < ops.size → listed.getD i false = true := by
 intro n
 induction n with
 | zero => intro i h; omega
 | succ n ih =>
   intro i hi ho
   cases hc : listed.getD i false with
   | true => rfl
   | false =>
     exfalso
     have hm : i ∈ Region.ready .any ops listed := by
      refine mem_ready.2 ⟨?_, ops[i], by simp [ho], fun e he hbi => ?_⟩
      · have hlt : i < listed.size := by omega
        simpa [hlt] using hc
      · unfold back at hb
        rw [List.all_eq_true] at hb
        have h1 := hb i (by simpa using ho)
        rw [show ops[i]? = some ops[i] from by simp [ho]] at h1
        simp only [Option.map_some, Option.getD_some, List.all_eq_true, Bool.or_eq_true, Bool.not_eq_true', decide_eq_true_eq] at h1
        have h2 := (h1 e (by simpa using he)).resolve_left (by simp [hbi])
        exact ih e.on (by omega) (by omega)
     rw [hr] at hm
     cases hm
theorem count_set : ∀ (l : List Bool) (i : Nat), l[i]? = some false → (l.set i true).count false + 1 = l.count false
 | [], i, h => by simp at h
 | b :: l, 0, h => by simp at h; subst h; simp
 | b :: l, i + 1, h => by
   have := count_set l i (by simpa using h)
   cases b <;> simp <;> omega
theorem Ud (J : (Nat → Bool) → Act → World → Prop) (hb : back ops = true) (hs : Steps P ops Q J 0 ops.toList)
 (he : ∀ l a w, J l a w → (∀ i, i < ops.size → l i = true) → Q .normal a w) :
 ∀ (fuel : Nat) (listed : Array Bool) (a : Act) (w : World), listed.size = ops.size → listed.toList.count false ≤ fuel → Closed ops (fun k => listed.getD k false) → J (fun k => listed.getD k false) a w → wpAny P .any ops Q fuel listed a w := by
 intro fuel
 induction fuel with
 | zero =>
   intro listed a w hsz hc hcl hJ
   have hall : ∀ i, i < ops.size → listed.getD i false = true := by
    intro i hi
    cases hx : listed.getD i false with
    | true => rfl
    | false =>
      exfalso
      have hlt : i < listed.size := by omega
      have hm : false ∈ listed.toList := by
       have : listed[i] = false := by simpa [hlt] using hx
       rw [← this]; simp
      have := List.count_pos_iff.2 hm
      omega
   refine ⟨?_, he _ _ _ hJ hall⟩
   cases hr : Region.ready .any ops listed with
   | nil => rfl
   | cons i t =>
     have hm : i ∈ Region.ready .any ops listed := by rw [hr]; simp
     obtain ⟨h0, o, ho, _⟩ := mem_ready.1 hm
     have hlt := (Array.getElem?_eq_some_iff.1 ho).1
     have := hall i hlt
     have hlt' : i < listed.size := by omega
     simp [hlt'] at h0 this
     rw [h0] at this; cases this
 | succ fuel ih =>
   intro listed a w hsz hc hcl hJ
   refine ⟨fun hr => he _ _ _ hJ fun i hi => Nz hb hsz hr (i + 1) i (by omega) hi, fun i hi => ?_⟩
   obtain ⟨h0, o, ho, hd⟩ := mem_ready.1 hi
   have hlt := (Array.getElem?_eq_some_iff.1 ho).1
   have hlt' : i < listed.size := by omega
   have h0' : listed.getD i false = false := by simpa [hlt'] using h0
   have hst := hs.get i o (by simpa using ho) (fun k => listed.getD k false) a w hJ hcl (by simpa using h0') (fun e he hbi => hd e (by simpa using he) hbi)
   have hup : upd (fun k => listed.getD k false) (0 + i) = fun k => (listed.setIfInBounds i true).getD k false := by
    funext k
    unfold upd
    simp only [Nat.zero_add]
    split
    · rename_i h; subst h; simp [hlt']
    · rename_i h; simp [Array.getD_eq_getD_getElem?, Array.getElem?_setIfInBounds_ne (Ne.symm h)]
   have hnext : ∀ a' w', J (upd (fun k => listed.getD k false) (0 + i)) a' w' → wpAny P .any ops Q fuel (listed.setIfInBounds i true) a' w' := by
    intro a' w' h
    rw [hup] at h
    refine ih _ _ _ (by simpa using hsz) ?_ ?_ h
    rotate_left
    · rw [← hup]
      intro j o' ho' hj e he hbi
      by_cases hji : j = 0 + i
      · have : o' = o := by
         rw [hji, Nat.zero_add, ho] at ho'
         injection ho' with ho'
         exact ho'.symm
        subst this
        unfold upd
        split
        · rfl
        · exact hd e (by simpa using he) hbi
      · have hj' : listed.getD j false = true := by
         unfold upd at hj
         rwa [if_neg hji] at hj
        unfold upd
        split
        · rfl
        · exact hcl j o' ho' hj' e he hbi
    have : listed.toList[i]? = some false := by
     have : listed[i] = false := by simpa [hlt'] using h0'
     simp [hlt', this]
    have := count_set _ _ this
    simp
    omega
   unfold wpOp
   simp only [ho]
   rcases hst with ⟨hw, h⟩ | ⟨hw, h⟩
   · simp only [hw, if_true]
     exact .inl (Oper.wp_mono hnext h)
   · simp only [hw, Bool.false_eq_true, if_false]
     exact hnext _ _ h
theorem Jk {id : Nat} {a : Act} {w : World} (hm : P.follows .mixedOrders = true) (J : (Nat → Bool) → Act → World → Prop) (hb : back ops = true)
 (h0 : J (fun _ => false) a w.drew) (hs : Steps P ops Q J 0 ops.toList) (he : ∀ l a w, J l a w → (∀ i, i < ops.size → l i = true) → Q .normal a w) : (Code.region id ops true).wp P Q a w := by
 refine wp_region_any hm ?_
 refine Ud J hb hs he _ _ _ _ (by simp) ?_ ?_ ?_
 · rw [Array.toList_replicate, List.count_replicate]; simp
 · intro j o _ hj
   exfalso
   have : (Array.replicate ops.size false).getD j false = false := by simp [Array.getD_eq_getD_getElem?, Array.getElem?_replicate]; split <;> rfl
   simp only [this] at hj
   cases hj
 · rw [show (fun k => (Array.replicate ops.size false).getD k false) = fun _ => false from by funext k; simp [Array.getD_eq_getD_getElem?, Array.getElem?_replicate]; split <;> rfl]
   exact h0
end
theorem jg {P : Program} {ops : Array Oper} {rest : List Oper} {op : Oper} {a : Act} {w : World} {Q : Exit → Act → World → Prop} (hw : Region.wanted op (yielded ops a.tmps) = true) (ty : TypeId) (x : Operand) (ho : op.op = .load ty x)
 (b o : Nat) (hx : a.eval x = .pointer (some ⟨b, o, none⟩)) (cs : List Value) (d : TypeDesc) (hc : w.rangeAt b o cs) (hu : P.underlying ty = some d) (hd : d.isRow = true) (hi : (P.info? ty).map (·.size) = some cs.length)
 (h : wpList P ops Q rest (a.put op.dst (.agg cs.toArray)) w) : wpList P ops Q (op :: rest) a w :=
 wpList_step fun K hK => by rw [if_pos hw]; exact wp_load_mid ty x ho b o hx cs d hc hu hd hi (hK _ _ h)
theorem kE {g : Nat} : ∀ (vs : List Value) (o : Nat) (w : World) (k : Nat), k ≠ g → (w.setCells g o vs).heap[k]? = w.heap[k]?
 | [], _, _, _, _ => rfl
 | v :: r, o, w, k, hk => by
   rw [World.setCells, kE r (o + 1) _ k hk]
   exact Below.heap_setCell w ⟨g, o, none⟩ v k hk
def uN (n : Nat) (w : World) (on : Bool) (b : Nat) (t : TypeId) (cs : Array Value) : Prop := on = true → n ≤ b ∧ Row w b t cs
section
variable {n b : Nat} {w w' : World} {on : Bool} {t : TypeId} {cs : Array Value}
theorem uN.off : uN n w false b t cs := fun h => by cases h
theorem uN.new (h : n ≤ w.heap.size) : uN n (w.alloc (.cells cs t)) true w.heap.size t cs := fun _ => ⟨h, Row.new w t cs⟩
theorem uN.alloc (h : uN n w on b t cs) (o : Obj) : uN n (w.alloc o) on b t cs := fun e => ⟨(h e).1, (h e).2.alloc o⟩
theorem uN.below (h : uN n w on b t cs) (hb : Below w.heap.size w w') : uN n w' on b t cs := fun e => ⟨(h e).1, (h e).2.below hb (h e).2.lt⟩
theorem uN.bound (h : uN n w on b t cs) : on = true → b < w.heap.size := fun e => (h e).2.lt
theorem uN.row (h : uN n w true b t cs) : Row w b t cs := (h rfl).2
theorem uN.le (h : uN n w true b t cs) : n ≤ b := (h rfl).1
theorem uN.ne (h : uN n w on b t cs) : on = true → b ≠ w.heap.size := fun e => by have := (h e).2.lt; omega
theorem uN.cells (h : uN n w on b t cs) {g o : Nat} (hp : on = true → b ≠ g) (vs : List Value) : uN n (w.setCells g o vs) on b t cs := fun e => ⟨(h e).1, (kE vs o w b (hp e)).trans (h e).2⟩
end
end Go.Proofs.Ytnijhjbcjeohhaa.OG

namespace Go.Proofs.Ytnijhjbcjeohhaa.EE
open Go.RowKit Go.Proofs.Ytnijhjbcjeohhaa.KK Go.Proofs.Ytnijhjbcjeohhaa.OG Go.Proofs.af.aO Go.Proofs.af.aU Go.Proofs.af.aV
set_option linter.unusedVariables false
set_option linter.unusedSimpArgs false
def Apt (t : Tr) (b : Nat) : Prop := (∀ ad, t.A = some ad → ad.block ≠ b) ∧ (∀ ad, t.B = some ad → ad.block ≠ b)
theorem Ro.Y_ {n b : Nat} {w : World} {t : Tr} (h : Ro n w t) (hb : b < n) : Apt t b := ⟨fun ad e => by have := h.na ad e; omega, fun ad e => by have := h.nb ad e; omega⟩
theorem Rw.Y_ {w : World} {t : Tr} (h : Rw w t) (hx : 0 < t.x.length) (hp : 0 < t.p.length) {b : Nat} (hb : w.heap.size ≤ b) : Apt t b :=
 ⟨fun ad e => by have := PR.Rd.blk h.x ad e hx; omega, fun ad e => by have := PR.Rd.blk h.p ad e hp; omega⟩
theorem Rw.cells {w : World} {t : Tr} (h : Rw w t) {b o : Nat} (ha : Apt t b) (vs : List Value) : Rw (w.setCells b o vs) t :=
 ⟨Rd.gr h.x (mP vs o w) ha.1, h.xc, Rd.gr h.p (mP vs o w) ha.2, h.pd⟩
def yR (on o7 o8 : Bool) (N : En) (e : Es) (b7 b8 : Nat) (w : World) : Prop := on = true → e.nu = N ∧ ∀ j, j < 3 → Rw w (e.ax j) ∧ (o7 = true → Apt (e.ax j) b7) ∧ (o8 = true → Apt (e.ax j) b8)
section
variable {on o7 o8 : Bool} {N : En} {e : Es} {b7 b8 : Nat} {w w' : World}
theorem yR.off : yR false o7 o8 N e b7 b8 w := fun h => by cases h
theorem yR.below (h : yR on o7 o8 N e b7 b8 w) (hb : Below w.heap.size w w') : yR on o7 o8 N e b7 b8 w' := fun k => ⟨(h k).1, fun j hj => ⟨((h k).2 j hj).1.below hb, ((h k).2 j hj).2⟩⟩
theorem yR.acP (G : Gd N) (h : yR on o7 o8 N e b7 b8 w) (o : Obj) : yR on true o8 N e w.heap.size b8 (w.alloc o) := fun k => ⟨(h k).1, fun j hj => by
 have hj' := (h k).2 j hj
 refine ⟨hj'.1.below ((Below.refl _ _).alloc (Nat.le_refl _) o), fun _ => hj'.1.Y_ ?_ ?_ (Nat.le_refl _), hj'.2.2⟩
 · rw [Ep, (h k).1, G.lx j hj]; decide
 · rw [G7, (h k).1, G.lp j hj]; decide⟩
theorem yR.acO (G : Gd N) (h : yR on o7 o8 N e b7 b8 w) (o : Obj) : yR on o7 true N e b7 w.heap.size (w.alloc o) := fun k => ⟨(h k).1, fun j hj => by
 have hj' := (h k).2 j hj
 refine ⟨hj'.1.below ((Below.refl _ _).alloc (Nat.le_refl _) o), hj'.2.1, fun _ => hj'.1.Y_ ?_ ?_ (Nat.le_refl _)⟩
 · rw [Ep, (h k).1, G.lx j hj]; decide
 · rw [G7, (h k).1, G.lp j hj]; decide⟩
theorem yR.WT (h : yR on true o8 N e b7 b8 w) (o : Nat) (vs : List Value) : yR on true o8 N e b7 b8 (w.setCells b7 o vs) := fun k => ⟨(h k).1, fun j hj => ⟨((h k).2 j hj).1.cells (((h k).2 j hj).2.1 rfl) vs, ((h k).2 j hj).2⟩⟩
theorem yR.WS (h : yR on o7 true N e b7 b8 w) (o : Nat) (vs : List Value) : yR on o7 true N e b7 b8 (w.setCells b8 o vs) := fun k => ⟨(h k).1, fun j hj => ⟨((h k).2 j hj).1.cells (((h k).2 j hj).2.2 rfl) vs, ((h k).2 j hj).2⟩⟩
theorem yR.mk (he : e.nu = N) (hr : ∀ j, j < 3 → Ro w.heap.size w' (e.ax j)) (h7 : o7 = true → b7 < w.heap.size) (h8 : o8 = true → b8 < w.heap.size) : yR on o7 o8 N e b7 b8 w' :=
 fun _ => ⟨he, fun j hj => ⟨(hr j hj).rw, fun k => (hr j hj).Y_ (h7 k), fun k => (hr j hj).Y_ (h8 k)⟩⟩
end
theorem uN.full {n b : Nat} {w : World} {t : TypeId} {cs : Array Value} (h : uN n w true b t cs) (D : Array Value) (hD : D.size = cs.size) : uN n (w.setCells b 0 D.toList) true b t D := fun _ => ⟨h.le, Row.full h.row D hD⟩
end Go.Proofs.Ytnijhjbcjeohhaa.EE

namespace Go.Proofs.Ytnijhjbcjeohhaa.EE
open Go.RowKit Go.Proofs.Ytnijhjbcjeohhaa.KK Go.Proofs.af.aO Go.Proofs.af.aU Go.Proofs.af.aV
set_option linter.unusedVariables false
set_option linter.unusedSimpArgs false
def Ey (t : Nat → Tr) : Es := ⟨16777216, 0, 0, 0, t 0, t 1, t 2, 0, 0, 0, 0, 0, 0, false⟩
theorem VR (t : Nat → Tr) (h : ∀ j, j < 3 → (t j).x = [0, 0, 0] ∧ (t j).p = rP) : pI t 3 = (Ey t).R := by
 have l9 : rP.length = 9 := PR.jU _
 simp [pI, Ey, Es.R, Es.row, h 0 (by decide), h 1 (by decide), h 2 (by decide), l9]
theorem SC (t : Nat → Tr) (h : ∀ j, j < 3 → (t j).x = [0, 0, 0] ∧ (t j).p = rP) : (Ey t).nu = en0 := by
 simp [Ey, Es.nu, en0, h 0 (by decide), h 1 (by decide), h 2 (by decide)]
theorem Oc : PR.kN 3 1 [0, 0, 0] 3 3 rP := by decide +kernel
theorem JJ (t : Nat → Tr) : (Ey t).right = true := by rfl
def zE : Array Value := #[I 0, I 0, I 0, I 0, I 0, I 0, .slice none 0 0, I 0, I 0, .slice none 0 0, I 0, I 0, .slice none 0 0, I 0, I 0, .slice none 0 0, I 0, I 0, .slice none 0 0, I 0, I 0, .slice none 0 0, I 0, I 0, I 0, I 0, I 0, I 0, .bool false]
theorem F8 : Gd (Pg.cnt true) := J4.ahead.cnt true
theorem r_ (w : World) : Calls Try.prog 13 #[] w fun x w' => x = .returned (.bool true) ∧ Below w.heap.size w w' := by
 have HC : Hid (∀ w', Calls Try.prog 34 #[] w' fun x w'' => x = .returned (.agg U_.row) ∧ Below w'.heap.size w' w'') := Lib.hid (fun w' => PQ.lK.calls _ _ _ _ _ _ w' rfl)
 go_enter Try.func13, Try.ntmps13
 go_wp2_with fail
 refine (HC.out _).mono ?_
 rintro x w1 ⟨rfl, hb⟩
 have B1 := Lib.hid hb
 clear hb
 go_wp2_with fail
 refine (JI U_ _ (by decide +kernel)).mono ?_
 rintro x w2 ⟨t, rfl, ht, hb⟩
 rw [VR t (fun j hj => ⟨(ht j hj).1, (ht j hj).2.1⟩)]
 have HE := Lib.hid (SC t (fun j hj => ⟨(ht j hj).1, (ht j hj).2.1⟩))
 have HT := Lib.hid ht
 have B2 := Lib.hid hb
 clear ht hb
 have ER := Lib.hid (JJ t)
 have AX : Hid (∀ j, j < 3 → Rw w2 ((Ey t).ax j)) := Lib.hid (fun j hj => by
  obtain rfl | rfl | rfl : j = 0 ∨ j = 1 ∨ j = 2 := by omega
  all_goals exact (HT.out _ (by omega)).2.2.rw)
 have XP : Hid (∀ j, j < 3 → ((Ey t).ax j).x = [0, 0, 0] ∧ ((Ey t).ax j).p = rP) := Lib.hid (fun j hj => by
  obtain rfl | rfl | rfl : j = 0 ∨ j = 1 ∨ j = 2 := by omega
  all_goals exact ⟨(HT.out _ (by omega)).1, (HT.out _ (by omega)).2.1⟩)
 clear HT
 generalize Ey t = e at HE ER AX XP ⊢
 have ST : Hid ((w2.alloc (.cells #[.int .i64 0, .int .i64 0, .int .i64 0, .int .i64 0, .int .i64 0, .int .i64 0, .slice none 0 0, .int .i64 0, .int .i64 0, .slice none 0 0, .int .i64 0, .int .i64 0, .slice none 0 0, .int .i64 0, .int .i64 0, .slice none 0 0, .int .i64 0, .int .i64 0, .slice none 0 0, .int .i64 0, .int .i64 0, .slice none 0 0, .int .i64 0, .int .i64 0, .int .i64 0, .int .i64 0, .int .i64 0, .int .i64 0, .bool false] 37)).there w2.heap.size 0 e.R.size) := Lib.hid (by have h := Row.there (Row.new w2 37 #[.int .i64 0, .int .i64 0, .int .i64 0, .int .i64 0, .int .i64 0, .int .i64 0, .slice none 0 0, .int .i64 0, .int .i64 0, .slice none 0 0, .int .i64 0, .int .i64 0, .slice none 0 0, .int .i64 0, .int .i64 0, .slice none 0 0, .int .i64 0, .int .i64 0, .slice none 0 0, .int .i64 0, .int .i64 0, .slice none 0 0, .int .i64 0, .int .i64 0, .int .i64 0, .int .i64 0, .int .i64 0, .int .i64 0, .bool false]); exact h)
 have i37 : Hid ((Try.prog.info? 37).map (·.size) = some e.R.size) := Lib.hid (by kernel_rfl)
 have one : Hid (e.R.all (·.oneCell') = true) := Lib.hid (by kernel_rfl)
 go_upto_region 2 with (with_reducible refine wpList_store_mid rfl 37 (.tmp 1) (.tmp 8) rfl w2.heap.size 0 e.R rfl rfl ST.out i37.out one.out ?_)
 have RE : Hid (Row ((w2.alloc (.cells #[.int .i64 0, .int .i64 0, .int .i64 0, .int .i64 0, .int .i64 0, .int .i64 0, .slice none 0 0, .int .i64 0, .int .i64 0, .slice none 0 0, .int .i64 0, .int .i64 0, .slice none 0 0, .int .i64 0, .int .i64 0, .slice none 0 0, .int .i64 0, .int .i64 0, .slice none 0 0, .int .i64 0, .int .i64 0, .slice none 0 0, .int .i64 0, .int .i64 0, .int .i64 0, .int .i64 0, .int .i64 0, .int .i64 0, .bool false] 37)).setCells w2.heap.size 0 e.R.toList) w2.heap.size 37 e.R) := Lib.hid (Row.full (Row.new w2 37 #[.int .i64 0, .int .i64 0, .int .i64 0, .int .i64 0, .int .i64 0, .int .i64 0, .slice none 0 0, .int .i64 0, .int .i64 0, .slice none 0 0, .int .i64 0, .int .i64 0, .slice none 0 0, .int .i64 0, .int .i64 0, .slice none 0 0, .int .i64 0, .int .i64 0, .slice none 0 0, .int .i64 0, .int .i64 0, .slice none 0 0, .int .i64 0, .int .i64 0, .int .i64 0, .int .i64 0, .int .i64 0, .int .i64 0, .bool false]) e.R rfl)
 have B3 : Hid (Below w2.heap.size w2 ((w2.alloc (.cells #[.int .i64 0, .int .i64 0, .int .i64 0, .int .i64 0, .int .i64 0, .int .i64 0, .slice none 0 0, .int .i64 0, .int .i64 0, .slice none 0 0, .int .i64 0, .int .i64 0, .slice none 0 0, .int .i64 0, .int .i64 0, .slice none 0 0, .int .i64 0, .int .i64 0, .slice none 0 0, .int .i64 0, .int .i64 0, .slice none 0 0, .int .i64 0, .int .i64 0, .int .i64 0, .int .i64 0, .int .i64 0, .int .i64 0, .bool false] 37)).setCells w2.heap.size 0 e.R.toList)) := Lib.hid (KK.eu _ _ _ ((Below.refl _ _).alloc (Nat.le_refl _) _) (Nat.le_refl _))
 clear ST one
 generalize (w2.alloc (.cells #[.int .i64 0, .int .i64 0, .int .i64 0, .int .i64 0, .int .i64 0, .int .i64 0, .slice none 0 0, .int .i64 0, .int .i64 0, .slice none 0 0, .int .i64 0, .int .i64 0, .slice none 0 0, .int .i64 0, .int .i64 0, .slice none 0 0, .int .i64 0, .int .i64 0, .slice none 0 0, .int .i64 0, .int .i64 0, .slice none 0 0, .int .i64 0, .int .i64 0, .int .i64 0, .int .i64 0, .int .i64 0, .int .i64 0, .bool false] 37)).setCells w2.heap.size 0 e.R.toList = w3 at RE B3 ⊢
 have RL := Lib.hid (Row.whole RE.out)
 have P6 : Hid ((Try.prog.info? 37).map (·.size) = some e.R.toList.length) := Lib.hid (by kernel_rfl)
 go_wp2_with (with_reducible refine OG.jg rfl 37 (.tmp 1) rfl w2.heap.size 0 rfl e.R.toList _ RL.out Try.underlying37 rfl P6.out ?_)
 have RR : Hid (Calls Try.prog 20 #[.agg e.R] w3 fun x w' => x = .returned (.bool true) ∧ Below w3.heap.size w3 w') := Lib.hid (by
  have hw : ∀ j, j < 3 → Rw w3 (e.ax j) := fun j hj => AX.out j hj |>.below B3.out
  have hh := Nv e w3 hw (fun j hj => by rw [(XP.out j hj).1, (XP.out j hj).2]; exact ⟨rfl, PR.jU _⟩) (fun j hj => by rw [(XP.out j hj).1, (XP.out j hj).2]; exact Oc)
  rw [ER.out] at hh
  exact hh)
 refine RR.out.mono ?_
 rintro x w4 ⟨rfl, hb⟩
 have H16 : Hid (∀ (e : Es) (w : World), e.nu = en0 → (∀ j, j < 3 → Rw w (e.ax j)) → Calls Try.prog 16 #[.agg U_.row, .agg e.R, .agg sm0.R] w fun x w' => ∃ e' : Es, e'.nu = Pg.cnt true ∧ x = .returned (.tuple #[.agg e'.R, .agg #[I 0, I 0, I 0]]) ∧ (∀ j, j < 3 → Ro w.heap.size w' (e'.ax j)) ∧ Below w.heap.size w w') := Lib.hid (fun e w he hr => by
  refine (Ji e w he hr).mono ?_
  rintro x w' ⟨e', h1, rfl, h3⟩
  exact ⟨e', h1, by rw [show (Pg.cnt true).x0 = _ from LJ.1, show (Pg.cnt true).x1 = _ from LJ.2.1, show (Pg.cnt true).x2 = _ from LJ.2.2.1]; rfl, h3⟩)
 have B4 := Lib.hid (B3.out.trans (hb.mono B3.out.size))
 have RE4 := Lib.hid (RE.out.below hb RE.out.lt)
 clear hb RR RE RL B3
 go_upto_region 4 with fail
 refine OG.Jk (by kernel_rfl) (fun l a w => ∃ e1 : Es, ∃ b3 : Nat, ∃ b4 : Nat, a = { tmps := List.toArray (Value.bool false :: Value.pointer (some ⟨w2.heap.size, 0, none⟩) :: I 0 :: (Ua l 7 then .pointer (some ⟨b3, 0, none⟩) else undef) :: (Ua l 8 then .pointer (some ⟨b4, 0, none⟩) else undef) :: Value.tuple #[Value.agg e.R, I 0] :: Value.agg U_.row :: Value.tuple #[Value.agg e.R, I 0] :: Value.agg e.R :: I 0 :: I 0 :: Value.bool false :: Value.bool false :: Value.agg e.R :: Value.bool true :: Value.bool false :: Value.bool false :: (Ua l 4 then .tuple #[.agg e1.R, .agg #[I 0, I 0, I 0]] else undef) :: (Ua l 0 then .agg U_.row else undef) :: (Ua l 1 then .agg e.R else undef) :: (Ua l 2 then .agg sm0.R else undef) :: (Ua l 3 then .tuple #[.agg e1.R, .agg #[I 0, I 0, I 0]] else undef) :: (Ua l 5 then .agg e1.R else undef) :: (Ua l 6 then .agg #[I 0, I 0, I 0] else undef) :: undef :: undef :: undef :: undef :: undef :: undef :: undef :: undef :: undef :: undef :: undef :: undef :: undef :: undef :: undef :: undef :: undef :: undef :: undef :: undef :: undef :: undef :: undef :: undef :: []), defers := [] } ∧ (Below w4.heap.size w4 w) ∧ (OG.uN w4.heap.size w (l 7) b3 37 (Ua l 9 then e1.R else zE)) ∧ (OG.uN w4.heap.size w (l 8) b4 42 #[I 0, I 0, I 0]) ∧ (l 7 = true → l 8 = true → b3 ≠ b4) ∧ (yR (l 3) (l 7) (l 8) (Pg.cnt true) e1 b3 b4 w)) (by kernel_rfl) ?s0 ?ss ?se
 case s0 => exact ⟨e, 0, 0, rfl, (Below.refl _ _).drew, OG.uN.off, OG.uN.off, (fun h => by cases h), yR.off⟩
 case ss =>
  refine OG.Steps.cons rfl (fun l a w K hK hJ hcl h0 hd => ?_) (OG.Steps.cons rfl (fun l a w K hK hJ hcl h0 hd => ?_) (OG.Steps.cons rfl (fun l a w K hK hJ hcl h0 hd => ?_) (OG.Steps.cons rfl (fun l a w K hK hJ hcl h0 hd => ?_) (OG.Steps.cons rfl (fun l a w K hK hJ hcl h0 hd => ?_) (OG.Steps.cons rfl (fun l a w K hK hJ hcl h0 hd => ?_) (OG.Steps.cons rfl (fun l a w K hK hJ hcl h0 hd => ?_) (OG.Steps.cons rfl (fun l a w K hK hJ hcl h0 hd => ?_) (OG.Steps.cons rfl (fun l a w K hK hJ hcl h0 hd => ?_) (OG.Steps.cons rfl (fun l a w K hK hJ hcl h0 hd => ?_) (OG.Steps.cons rfl (fun l a w K hK hJ hcl h0 hd => ?_) OG.Steps.nil))))))))))
  · obtain ⟨e1, b3, b4, rfl, hP0, hP1, hP2, hP3, rW⟩ := hJ
    have HJ := Lib.hid (And.intro hP0 (And.intro hP1 (And.intro hP2 (And.intro hP3 (rW)))))
    clear hP0 hP1 hP2 hP3 rW hd hcl h0
    go_simp
    refine (HC.out _).mono ?_
    rintro x w' ⟨rfl, hb⟩
    exact hK.out _ _ ⟨e1, b3, b4, (rfl), (HJ.out.1.trans (hb.mono HJ.out.1.size)), (HJ.out.2.1.below hb), (HJ.out.2.2.1.below hb), (HJ.out.2.2.2.1), (HJ.out.2.2.2.2.below hb)⟩
  · obtain ⟨e1, b3, b4, rfl, hP0, hP1, hP2, hP3, rW⟩ := hJ
    have HJ := Lib.hid (And.intro hP0 (And.intro hP1 (And.intro hP2 (And.intro hP3 (rW)))))
    clear hP0 hP1 hP2 hP3 rW hd hcl h0
    refine wp_load_mid 37 (.tmp 1) rfl w2.heap.size 0 rfl e.R.toList _ (Row.whole (RE4.out.below HJ.out.1 RE4.out.lt)) Try.underlying37 rfl P6.out ?_
    exact hK.out _ _ ⟨e1, b3, b4, (rfl), (HJ.out.1), (HJ.out.2.1), (HJ.out.2.2.1), (HJ.out.2.2.2.1), (HJ.out.2.2.2.2)⟩
  · obtain ⟨e1, b3, b4, rfl, hP0, hP1, hP2, hP3, rW⟩ := hJ
    have HJ := Lib.hid (And.intro hP0 (And.intro hP1 (And.intro hP2 (And.intro hP3 (rW)))))
    clear hP0 hP1 hP2 hP3 rW hd hcl h0
    go_simp
    exact hK.out _ _ ⟨e1, b3, b4, (rfl), (HJ.out.1), (HJ.out.2.1), (HJ.out.2.2.1), (HJ.out.2.2.2.1), (HJ.out.2.2.2.2)⟩
  · obtain ⟨e1, b3, b4, rfl, hP0, hP1, hP2, hP3, rW⟩ := hJ
    have d0 := hd.get 0 (by rfl)
    have d1 := hd.get 1 (by rfl)
    have d2 := hd.get 2 (by rfl)
    have f4 := hcl.off 4 3 (by rfl) h0
    have f5 := hcl.off 5 4 (by rfl) f4
    have f9 := hcl.off 9 3 (by rfl) h0
    have HJ := Lib.hid (And.intro hP0 (And.intro hP1 (And.intro hP2 (And.intro hP3 (rW)))))
    clear hP0 hP1 hP2 hP3 rW hd hcl h0
    go_simp
    refine (H16.out _ w HE.out (fun j hj => ((AX.out j hj).below B4.out).below HJ.out.1)).mono ?_
    rintro x w' ⟨e', hn', rfl, hr', hb⟩
    exact hK.out _ _ ⟨e', b3, b4, (by simp only [OG.upd, d0, d1, d2, f4, f5, f9]; rfl), (HJ.out.1.trans (hb.mono HJ.out.1.size)), (by rw [show (OG.upd l 3) 9 = false from f9]; have h1 := HJ.out.2.1; rw [f9] at h1; exact h1.below hb), (HJ.out.2.2.1.below hb), (HJ.out.2.2.2.1), (yR.mk hn' hr' HJ.out.2.1.bound HJ.out.2.2.1.bound)⟩
  · obtain ⟨e1, b3, b4, rfl, hP0, hP1, hP2, hP3, rW⟩ := hJ
    have d3 := hd.get 3 (by rfl)
    have HJ := Lib.hid (And.intro hP0 (And.intro hP1 (And.intro hP2 (And.intro hP3 (rW)))))
    clear hP0 hP1 hP2 hP3 rW hd hcl h0
    go_simp
    exact hK.out _ _ ⟨e1, b3, b4, (by simp only [OG.upd, d3]; rfl), (HJ.out.1), (HJ.out.2.1), (HJ.out.2.2.1), (HJ.out.2.2.2.1), (HJ.out.2.2.2.2)⟩
  · obtain ⟨e1, b3, b4, rfl, hP0, hP1, hP2, hP3, rW⟩ := hJ
    have d4 := hd.get 4 (by rfl)
    have HJ := Lib.hid (And.intro hP0 (And.intro hP1 (And.intro hP2 (And.intro hP3 (rW)))))
    clear hP0 hP1 hP2 hP3 rW hd hcl h0
    go_simp
    exact hK.out _ _ ⟨e1, b3, b4, (by simp only [OG.upd, d4]; rfl), (HJ.out.1), (HJ.out.2.1), (HJ.out.2.2.1), (HJ.out.2.2.2.1), (HJ.out.2.2.2.2)⟩
  · obtain ⟨e1, b3, b4, rfl, hP0, hP1, hP2, hP3, rW⟩ := hJ
    have d4 := hd.get 4 (by rfl)
    have HJ := Lib.hid (And.intro hP0 (And.intro hP1 (And.intro hP2 (And.intro hP3 (rW)))))
    clear hP0 hP1 hP2 hP3 rW hd hcl h0
    go_simp
    exact hK.out _ _ ⟨e1, b3, b4, (by simp only [OG.upd, d4]; rfl), (HJ.out.1), (HJ.out.2.1), (HJ.out.2.2.1), (HJ.out.2.2.2.1), (HJ.out.2.2.2.2)⟩
  · obtain ⟨e1, b3, b4, rfl, hP0, hP1, hP2, hP3, rW⟩ := hJ
    have f9 := hcl.off 9 7 (by rfl) h0
    have HJ := Lib.hid (And.intro hP0 (And.intro hP1 (And.intro hP2 (And.intro hP3 (rW)))))
    clear hP0 hP1 hP2 hP3 rW hd hcl h0
    go_simp
    exact hK.out _ _ ⟨e1, w.heap.size, b4, (rfl), (HJ.out.1.alloc HJ.out.1.size _), (by rw [show (OG.upd l 7) 9 = false from f9]; exact OG.uN.new HJ.out.1.size), (HJ.out.2.2.1.alloc _), (fun _ e8 => Ne.symm (HJ.out.2.2.1.ne e8)), (yR.acP F8 HJ.out.2.2.2.2 _)⟩
  · obtain ⟨e1, b3, b4, rfl, hP0, hP1, hP2, hP3, rW⟩ := hJ
    have HJ := Lib.hid (And.intro hP0 (And.intro hP1 (And.intro hP2 (And.intro hP3 (rW)))))
    clear hP0 hP1 hP2 hP3 rW hd hcl h0
    go_simp
    exact hK.out _ _ ⟨e1, b3, w.heap.size, (rfl), (HJ.out.1.alloc HJ.out.1.size _), (HJ.out.2.1.alloc _), (OG.uN.new HJ.out.1.size), (fun e7 _ => HJ.out.2.1.ne e7), (yR.acO F8 HJ.out.2.2.2.2 _)⟩
  · obtain ⟨e1, b3, b4, rfl, hP0, hP1, hP2, hP3, rW⟩ := hJ
    have d5 := hd.get 5 (by rfl)
    have d7 := hd.get 7 (by rfl)
    have HJ := Lib.hid (And.intro hP0 (And.intro hP1 (And.intro hP2 (And.intro hP3 (rW)))))
    clear hP0 hP1 hP2 hP3 rW hd hcl h0
    have h1 := HJ.out.2.1
    have h4 := HJ.out.2.2.2.2
    rw [d7] at h1 h4
    refine wp_store_mid 37 (.tmp 3) (.tmp 22) rfl b3 0 e1.R (by show cond (l 7) _ _ = _; rw [d7]; rfl) (by show cond (l 5) _ _ = _; rw [d5]; rfl) (by have := Row.there h1.row; cases h9 : l 9 <;> rw [h9] at this <;> exact this) (by kernel_rfl) (by kernel_rfl) ?_
    exact hK.out _ _ ⟨e1, b3, b4, (by simp only [OG.upd, d5, d7]; rfl), (KK.eu _ _ _ HJ.out.1 h1.le), (by show OG.uN _ _ (l 7) _ _ e1.R; rw [d7]; exact uN.full h1 e1.R (by cases l 9 <;> rfl)), (HJ.out.2.2.1.cells (fun k => Ne.symm (HJ.out.2.2.2.1 d7 k)) _), (HJ.out.2.2.2.1), (by show yR (l 3) (l 7) (l 8) _ _ _ _ _; rw [d7]; exact h4.WT _ _)⟩
  · obtain ⟨e1, b3, b4, rfl, hP0, hP1, hP2, hP3, rW⟩ := hJ
    have d6 := hd.get 6 (by rfl)
    have d8 := hd.get 8 (by rfl)
    have HJ := Lib.hid (And.intro hP0 (And.intro hP1 (And.intro hP2 (And.intro hP3 (rW)))))
    clear hP0 hP1 hP2 hP3 rW hd hcl h0
    have h2 := HJ.out.2.2.1
    have h4 := HJ.out.2.2.2.2
    rw [d8] at h2 h4
    refine wp_store_mid 42 (.tmp 4) (.tmp 23) rfl b4 0 #[I 0, I 0, I 0] (by show cond (l 8) _ _ = _; rw [d8]; rfl) (by show cond (l 6) _ _ = _; rw [d6]; rfl) (Row.there h2.row) (by kernel_rfl) (by kernel_rfl) ?_
    exact hK.out _ _ ⟨e1, b3, b4, (by simp only [OG.upd, d6, d8]; rfl), (KK.eu _ _ _ HJ.out.1 h2.le), (HJ.out.2.1.cells (fun k => HJ.out.2.2.2.1 k d8) _), (by show OG.uN _ _ (l 8) _ _ _; rw [d8]; exact uN.full h2 #[I 0, I 0, I 0] rfl), (HJ.out.2.2.2.1), (by show yR (l 3) (l 7) (l 8) _ _ _ _ _; rw [d8]; exact h4.WS _ _)⟩
 case se =>
  intro l a w hJ he
  obtain ⟨e1, b3, b4, rfl, hP0, hP1, hP2, hP3, rW⟩ := hJ
  rw [he 0 (by decide), he 1 (by decide), he 2 (by decide), he 3 (by decide), he 4 (by decide), he 5 (by decide), he 6 (by decide), he 7 (by decide), he 8 (by decide)]
  rw [he 7 (by decide), he 9 (by decide)] at hP1
  rw [he 8 (by decide)] at hP2
  rw [he 3 (by decide), he 7 (by decide), he 8 (by decide)] at rW
  clear he
  have B5 := Lib.hid (B4.out.trans (hP0.mono B4.out.size))
  have R3 : Hid (Row w b3 37 e1.R) := Lib.hid hP1.row
  have R4 := Lib.hid hP2.row
  have GE := Lib.hid (rW rfl)
  clear hP0 hP1 hP2 hP3 rW
  have v1 : e1.steps = 1 := (congrArg En.steps GE.out.1 : _)
  have v2 : e1.dO = 1 := (congrArg En.dO GE.out.1 : _)
  have v3 : e1.sat = false := (congrArg En.sat GE.out.1 : _).trans LJ.2.2.2
  have c1 : w.cell? ⟨b3, 22, none⟩ = some (I 1) := by rw [R3.out.cell, ← v1]; rfl
  have c2 : w.cell? ⟨b3, 23, none⟩ = some (I 1) := by rw [R3.out.cell, ← v2]; rfl
  have c3 : w.cell? ⟨b3, 28, none⟩ = some (.bool false) := by rw [R3.out.cell, ← v3]; rfl
  have c4 := R4.out.cell 0
  have c5 := R4.out.cell 1
  have c6 := R4.out.cell 2
  clear v1 v2 v3
  have RL := Lib.hid (Row.whole R3.out)
  have acV : Hid ((Try.prog.info? 37).map (·.size) = some e1.R.toList.length) := Lib.hid (by kernel_rfl)
  have EQ := PQ.adP 0 0 0 0 0 0 w
  go_wp2_with (with_reducible refine OG.jg rfl 37 (.tmp 3) rfl b3 0 rfl e1.R.toList _ RL.out Try.underlying37 rfl acV.out ?_)
  refine (Gp e1 _ (fun j hj => (GE.out.2 j hj).1) (fun j hj => by rw [Ep, G7, GE.out.1]; exact ⟨F8.lx j hj, F8.lp j hj⟩)).mono ?_
  rintro x w6 ⟨A, cc, rfl, _, hb⟩
  have B6 := Lib.hid (B5.out.trans (hb.mono B5.out.size))
  clear hb
  go_wp2
  go_ret
  exact ⟨rfl, (B1.out.trans (B2.out.mono B1.out.size)).trans (B6.out.mono (B1.out.trans (B2.out.mono B1.out.size)).size)⟩
end Go.Proofs.Ytnijhjbcjeohhaa.EE

namespace Go.Proofs.Ytnijhjbcjeohhaa.EE
open Go.RowKit Go.Proofs.Ytnijhjbcjeohhaa.KK Go.Proofs.af.aO Go.Proofs.af.aU Go.Proofs.af.aV
set_option linter.unusedVariables false
set_option linter.unusedSimpArgs false
structure Tg where
 r : Int
 c : Int
 A : Option Addr
 cx : Nat
 x : List Int
 r' : Int
 c' : Int
 B : Option Addr
 cp : Nat
 p : List Int
abbrev Tg.row (t : Tg) : Array Value := #[I t.r, I t.c, .slice t.A t.x.length t.cx, I t.r', I t.c', .slice t.B t.p.length t.cp]
structure Eg where
 q0 : Int
 q1 : Int
 q2 : Int
 q3 : Int
 t0 : Tg
 t1 : Tg
 t2 : Tg
 steps : Int
 dO : Int
 f0 : Int
 f1 : Int
 f2 : Int
 f3 : Int
 sat : Bool
abbrev Eg.row (e : Eg) : Array Value :=
 #[I e.q0, I e.q1, I e.q2, I e.q3,
   I e.t0.r, I e.t0.c, .slice e.t0.A e.t0.x.length e.t0.cx, I e.t0.r', I e.t0.c', .slice e.t0.B e.t0.p.length e.t0.cp,
   I e.t1.r, I e.t1.c, .slice e.t1.A e.t1.x.length e.t1.cx, I e.t1.r', I e.t1.c', .slice e.t1.B e.t1.p.length e.t1.cp,
   I e.t2.r, I e.t2.c, .slice e.t2.A e.t2.x.length e.t2.cx, I e.t2.r', I e.t2.c', .slice e.t2.B e.t2.p.length e.t2.cp,
   I e.steps, I e.dO, I e.f0, I e.f1, I e.f2, I e.f3, .bool e.sat]
def Eg.R (e : Eg) : Array Value := e.row
def Eg.t (e : Eg) : Nat → Tg
 | 0 => e.t0
 | 1 => e.t1
 | _ => e.t2
structure I5 (w : World) (t : Tg) : Prop where
 x : Rd w t.A t.x
 xc : t.x.length ≤ t.cx
 p : Rd w t.B t.p
 pd : t.p.length ≤ t.cp
theorem I5.below {w w' : World} {t : Tg} (h : I5 w t) (hb : Below w.heap.size w w') : I5 w' t := ⟨h.x.below hb, h.xc, h.p.below hb, h.pd⟩
def Tg.ok (t : Tg) : Bool := decide (PR.kN t.r t.c t.x t.r' t.c' t.p) && decide (t.r = 3)
def Eg.CW (e : Eg) : Nat → Int
 | 0 => e.f0
 | 1 => e.f1
 | 2 => e.f2
 | _ => e.f3
def Eg.n0 (e : Eg) : Bool := ((decide (e.steps < 0) || decide (e.steps > 1099511627776)) || decide (e.dO < 0)) || decide (e.dO > 1000)
def Eg.o4 (e : Eg) : Bool := !iT e.f0 && (!iT e.f1 && (!iT e.f2 && !iT e.f3))
def Eg.t3 (e : Eg) : Bool := e.t0.ok && (e.t1.ok && e.t2.ok)
def Eg.ok (e : Eg) : Bool := !e.n0 && (e.o4 && (e.t3 && PQ.fU (PQ.at4 e.q0 e.q1 e.q2 e.q3) 4))
theorem iI (t : Tg) (w : World) (h : I5 w t) : Calls Try.prog 41 #[.agg t.row] w fun e w' => e = .returned (.bool (decide (PR.kN t.r t.c t.x t.r' t.c' t.p))) ∧ Below w.heap.size w w' := by
 obtain ⟨k, hk⟩ := (PR.Ei t.r t.c t.x t.r' t.c' t.p).rounds
 exact PQ.aI.calls k t.r t.c t.A t.cx t.x t.r' t.c' t.B t.cp t.p _ w h.x h.xc h.p h.pd hk
theorem VL (l : List Int) (i k : Nat) (hi : i < l.length) (hl : l.length ≤ 1000) : PQ.bC.l0 (k + 1) l i = if mW (l.getD i 0) = true then some false else PQ.bC.l0 k l ((i + 1 : Nat) : Int) := by
 have h1 : (i : Int) < (l.length : Int) := by omega
 have h2 : wrap64 ((i : Int) + 1) = ((i + 1 : Nat) : Int) := by unfold wrap64; omega
 rw [PQ.bC.l0, if_pos h1, if_pos (by omega), h2]
 have e : rd l (i : Int) = l.getD i 0 := by simp [rd]
 rw [e]
 unfold mW
 generalize l.getD i 0 = q
 by_cases a : q < 1
 · rw [if_pos a, if_pos (by simp; omega)]
 · rw [if_neg a]
   by_cases b : q > 17179869184
   · rw [if_pos b, if_pos (by simp; omega)]
   · rw [if_neg b, if_neg (by simp; omega)]
theorem Yk (c : Cf) : PQ.bC.f 7 c.dt c.acc c.bias c.iM c.l7 c.gate = some c.may := by
 unfold PQ.bC.f
 have s : ∀ (i k : Nat), i < 6 → PQ.bC.l0 (k + 1) [c.dt, c.acc, c.bias, c.iM, c.l7, c.gate] i = if mW ([c.dt, c.acc, c.bias, c.iM, c.l7, c.gate].getD i 0) = true then some false else PQ.bC.l0 k [c.dt, c.acc, c.bias, c.iM, c.l7, c.gate] ((i + 1 : Nat) : Int) := fun i k hi => VL _ i k (by simpa using hi) (by simp)
 have e6 : PQ.bC.l0 (0 + 1) [c.dt, c.acc, c.bias, c.iM, c.l7, c.gate] ((6 : Nat) : Int) = some true := by rw [PQ.bC.l0, if_neg (by simp)]
 have h := s 0 6 (by omega)
 rw [s 1 5 (by omega), s 2 4 (by omega), s 3 3 (by omega), s 4 2 (by omega), s 5 1 (by omega), e6] at h
 refine h.trans ?_
 simp only [Cf.may, Cf.l, List.any_cons, List.any_nil, List.getD_cons_zero, List.getD_cons_succ]
 generalize mW c.dt = a, mW c.acc = b, mW c.bias = d, mW c.iM = e, mW c.l7 = f, mW c.gate = g
 revert a b d e f g
 decide
theorem qE (c : Cf) (w : World) : Calls Try.prog 14 #[.agg c.row] w fun x w' => x = .returned (.bool c.may) ∧ Below w.heap.size w w' :=
 PQ.bC.calls 7 c.dt c.acc c.bias c.iM c.l7 c.gate _ w (Yk c)
theorem fV (q : Int) : iT q = (decide (q < 0) || decide (q > 1000)) := rfl
theorem wG (e : Eg) (w : World) (hr : ∀ j, j < 3 → I5 w (e.t j)) : Calls Try.prog 17 #[.agg e.R] w fun x w' => x = .returned (.bool e.ok) ∧ Below w.heap.size w w' := by
 have HR := Lib.hid hr
 have L : Hid (aX w [(37, e.R)] (w.alloc (.cells e.R 37))) := Lib.hid ((aX.none w).push (by simp) _ _)
 clear hr
 go_enter Try.func17, Try.ntmps17
 go_upto_region 1 with fail
 generalize (w.alloc (.cells e.R 37)) = w1 at L ⊢
 have hc : ∀ i, w1.cell? ⟨w.heap.size, i, none⟩ = e.row[i]? := L.out.r0.cell
 cases n1 : decide (e.steps < 0)
 case true =>
  have N0 : Hid (e.n0 = true) := Lib.hid (by simp [Eg.n0, n1])
  go_wp2
  go_ret
  exact ⟨by simp only [Eg.ok, N0.out]; rfl, L.out.be⟩
 cases n2 : decide (e.steps > 1099511627776)
 case true =>
  have N0 : Hid (e.n0 = true) := Lib.hid (by simp [Eg.n0, n2])
  go_wp2
  go_ret
  exact ⟨by simp only [Eg.ok, N0.out]; rfl, L.out.be⟩
 cases n3 : decide (e.dO < 0)
 case true =>
  have N0 : Hid (e.n0 = true) := Lib.hid (by simp [Eg.n0, n3])
  go_wp2
  go_ret
  exact ⟨by simp only [Eg.ok, N0.out]; rfl, L.out.be⟩
 cases n4 : decide (e.dO > 1000)
 case true =>
  have N0 : Hid (e.n0 = true) := Lib.hid (by simp [Eg.n0, n4])
  go_wp2
  go_ret
  exact ⟨by simp only [Eg.ok, N0.out]; rfl, L.out.be⟩
 have N0 : Hid (e.n0 = false) := Lib.hid (by simp only [Eg.n0, n1, n2, n3, n4]; rfl)
 go_wp2
 clear n1 n2 n3 n4
 go_loop [3] (fun i => ∃ k : Nat, k ≤ 4 ∧ i = .int .i64 k ∧ Hid (∀ j, j < k → iT (e.CW j) = false)) (fun i => 4 - (intOf i).toNat)
 case atStart => exact ⟨0, by omega, rfl, Lib.hid (fun j hj => by omega)⟩
 case round =>
  obtain ⟨k, hk, rfl, F⟩ := hrel
  obtain rfl | h4 : k = 4 ∨ k < 4 := by omega
  · have O4 : Hid (e.o4 = true) := Lib.hid (by
     have h0 := F.out 0 (by decide)
     have h1 := F.out 1 (by decide)
     have h2 := F.out 2 (by decide)
     have h3 := F.out 3 (by decide)
     simp only [Eg.CW] at h0 h1 h2 h3
     simp [Eg.o4, h0, h1, h2, h3])
    clear F hc hk
    go_wp2
    go_loopw [4, 5] (fun i x wl => ∃ k : Nat, k ≤ 3 ∧ i = .int .i64 k ∧ Hid (∀ j, j < k → (e.t j).ok = true) ∧ Hid (aX w [(37, e.R)] wl)) (fun i _ _ => 3 - (intOf i).toNat)
    case atStart => exact ⟨0, by omega, rfl, Lib.hid (fun j hj => by omega), L⟩
    case round =>
     clear L
     obtain ⟨k, hk, rfl, F, L⟩ := hrel
     obtain rfl | h3 : k = 3 ∨ k < 3 := by omega
     · have T3 : Hid (e.t3 = true) := Lib.hid (by
        have h0 := F.out 0 (by decide)
        have h1 := F.out 1 (by decide)
        have h2 := F.out 2 (by decide)
        simp only [Eg.t] at h0 h1 h2
        simp [Eg.t3, h0, h1, h2])
       clear F hk
       have hc : ∀ i, wr.cell? ⟨w.heap.size, i, none⟩ = e.row[i]? := L.out.r0.cell
       go_wp2_with fail
       refine (PQ.zV e.q0 e.q1 e.q2 e.q3 _).mono ?_
       rintro x w5 ⟨rfl, hb⟩
       have L5 := Lib.hid (L.out.below hb)
       clear hb hc L
       go_wp2
       go_ret
       exact ⟨by simp only [Eg.ok, N0.out, O4.out, T3.out]; rfl, L5.out.be⟩
     · have RA := Lib.hid (I5.below (HR.out k h3) L.out.be)
       have hc : ∀ i, wr.cell? ⟨w.heap.size, i, none⟩ = e.row[i]? := L.out.r0.cell
       obtain rfl | rfl | rfl : k = 0 ∨ k = 1 ∨ k = 2 := by omega
       · cases ht : decide (PR.kN (e.t 0).r (e.t 0).c (e.t 0).x (e.t 0).r' (e.t 0).c' (e.t 0).p)
         case false =>
          have T3 : Hid (e.t3 = false) := Lib.hid (by
           have : (e.t 0).ok = false := by simp only [Tg.ok, ht]; rfl
           simp only [Eg.t] at this
           simp [Eg.t3, this])
          go_wp2_with fail
          refine (iI (e.t 0) _ RA.out).mono ?_
          rintro x w5 ⟨rfl, hb⟩
          have L5 := Lib.hid (L.out.below hb)
          rw [ht]
          clear hb hc L ht
          have hc : ∀ i, w5.cell? ⟨w.heap.size, i, none⟩ = e.row[i]? := L5.out.r0.cell
          go_wp2
          go_ret
          exact ⟨by simp only [Eg.ok, N0.out, O4.out, T3.out]; rfl, L5.out.be⟩
         have HT := Lib.hid ht
         go_wp2_with fail
         refine (iI (e.t 0) _ RA.out).mono ?_
         rintro x w5 ⟨rfl, hb⟩
         have L5 := Lib.hid (L.out.below hb)
         rw [ht]
         clear hb hc L ht
         have hc : ∀ i, w5.cell? ⟨w.heap.size, i, none⟩ = e.row[i]? := L5.out.r0.cell
         cases h5 : ((e.t 0).r == 3)
         · have h6 : ((e.t 0).r != 3) = true := by rw [bne, h5]; rfl
           have T3 : Hid (e.t3 = false) := Lib.hid (by
            have h7 : (e.t 0).r ≠ 3 := by simpa using h5
            have : (e.t 0).ok = false := by simp [Tg.ok, h7]
            simp only [Eg.t] at this
            simp [Eg.t3, this])
           simp only [Eg.t] at h5 h6
           go_wp2
           go_ret
           exact ⟨by simp only [Eg.ok, N0.out, O4.out, T3.out]; rfl, L5.out.be⟩
         · have h6 : ((e.t 0).r != 3) = false := by rw [bne, h5]; rfl
           have TK : Hid ((e.t 0).ok = true) := Lib.hid (by
            have h7 : (e.t 0).r = 3 := by simpa using h5
            simp only [Tg.ok, HT.out, Bool.true_and]; exact decide_eq_true h7)
           simp only [Eg.t] at h5 h6
           have FN : Hid (∀ j, j < 0 + 1 → (e.t j).ok = true) := Lib.hid (fun j hj => by
            rcases Nat.lt_or_ge j 0 with h | h
            · exact F.out j h
            · obtain rfl : j = 0 := by omega
              exact TK.out)
           clear F HT TK
           go_wp2
           go_roundw
           case rel => exact ⟨0 + 1, by omega, by go_num, FN, L5⟩
           case measure => simp [intOf]
       · cases ht : decide (PR.kN (e.t 1).r (e.t 1).c (e.t 1).x (e.t 1).r' (e.t 1).c' (e.t 1).p)
         case false =>
          have T3 : Hid (e.t3 = false) := Lib.hid (by
           have : (e.t 1).ok = false := by simp only [Tg.ok, ht]; rfl
           simp only [Eg.t] at this
           simp [Eg.t3, this])
          go_wp2_with fail
          refine (iI (e.t 1) _ RA.out).mono ?_
          rintro x w5 ⟨rfl, hb⟩
          have L5 := Lib.hid (L.out.below hb)
          rw [ht]
          clear hb hc L ht
          have hc : ∀ i, w5.cell? ⟨w.heap.size, i, none⟩ = e.row[i]? := L5.out.r0.cell
          go_wp2
          go_ret
          exact ⟨by simp only [Eg.ok, N0.out, O4.out, T3.out]; rfl, L5.out.be⟩
         have HT := Lib.hid ht
         go_wp2_with fail
         refine (iI (e.t 1) _ RA.out).mono ?_
         rintro x w5 ⟨rfl, hb⟩
         have L5 := Lib.hid (L.out.below hb)
         rw [ht]
         clear hb hc L ht
         have hc : ∀ i, w5.cell? ⟨w.heap.size, i, none⟩ = e.row[i]? := L5.out.r0.cell
         cases h5 : ((e.t 1).r == 3)
         · have h6 : ((e.t 1).r != 3) = true := by rw [bne, h5]; rfl
           have T3 : Hid (e.t3 = false) := Lib.hid (by
            have h7 : (e.t 1).r ≠ 3 := by simpa using h5
            have : (e.t 1).ok = false := by simp [Tg.ok, h7]
            simp only [Eg.t] at this
            simp [Eg.t3, this])
           simp only [Eg.t] at h5 h6
           go_wp2
           go_ret
           exact ⟨by simp only [Eg.ok, N0.out, O4.out, T3.out]; rfl, L5.out.be⟩
         · have h6 : ((e.t 1).r != 3) = false := by rw [bne, h5]; rfl
           have TK : Hid ((e.t 1).ok = true) := Lib.hid (by
            have h7 : (e.t 1).r = 3 := by simpa using h5
            simp only [Tg.ok, HT.out, Bool.true_and]; exact decide_eq_true h7)
           simp only [Eg.t] at h5 h6
           have FN : Hid (∀ j, j < 1 + 1 → (e.t j).ok = true) := Lib.hid (fun j hj => by
            rcases Nat.lt_or_ge j 1 with h | h
            · exact F.out j h
            · obtain rfl : j = 1 := by omega
              exact TK.out)
           clear F HT TK
           go_wp2
           go_roundw
           case rel => exact ⟨1 + 1, by omega, by go_num, FN, L5⟩
           case measure => simp [intOf]
       · cases ht : decide (PR.kN (e.t 2).r (e.t 2).c (e.t 2).x (e.t 2).r' (e.t 2).c' (e.t 2).p)
         case false =>
          have T3 : Hid (e.t3 = false) := Lib.hid (by
           have : (e.t 2).ok = false := by simp only [Tg.ok, ht]; rfl
           simp only [Eg.t] at this
           simp [Eg.t3, this])
          go_wp2_with fail
          refine (iI (e.t 2) _ RA.out).mono ?_
          rintro x w5 ⟨rfl, hb⟩
          have L5 := Lib.hid (L.out.below hb)
          rw [ht]
          clear hb hc L ht
          have hc : ∀ i, w5.cell? ⟨w.heap.size, i, none⟩ = e.row[i]? := L5.out.r0.cell
          go_wp2
          go_ret
          exact ⟨by simp only [Eg.ok, N0.out, O4.out, T3.out]; rfl, L5.out.be⟩
         have HT := Lib.hid ht
         go_wp2_with fail
         refine (iI (e.t 2) _ RA.out).mono ?_
         rintro x w5 ⟨rfl, hb⟩
         have L5 := Lib.hid (L.out.below hb)
         rw [ht]
         clear hb hc L ht
         have hc : ∀ i, w5.cell? ⟨w.heap.size, i, none⟩ = e.row[i]? := L5.out.r0.cell
         cases h5 : ((e.t 2).r == 3)
         · have h6 : ((e.t 2).r != 3) = true := by rw [bne, h5]; rfl
           have T3 : Hid (e.t3 = false) := Lib.hid (by
            have h7 : (e.t 2).r ≠ 3 := by simpa using h5
            have : (e.t 2).ok = false := by simp [Tg.ok, h7]
            simp only [Eg.t] at this
            simp [Eg.t3, this])
           simp only [Eg.t] at h5 h6
           go_wp2
           go_ret
           exact ⟨by simp only [Eg.ok, N0.out, O4.out, T3.out]; rfl, L5.out.be⟩
         · have h6 : ((e.t 2).r != 3) = false := by rw [bne, h5]; rfl
           have TK : Hid ((e.t 2).ok = true) := Lib.hid (by
            have h7 : (e.t 2).r = 3 := by simpa using h5
            simp only [Tg.ok, HT.out, Bool.true_and]; exact decide_eq_true h7)
           simp only [Eg.t] at h5 h6
           have FN : Hid (∀ j, j < 2 + 1 → (e.t j).ok = true) := Lib.hid (fun j hj => by
            rcases Nat.lt_or_ge j 2 with h | h
            · exact F.out j h
            · obtain rfl : j = 2 := by omega
              exact TK.out)
           clear F HT TK
           go_wp2
           go_roundw
           case rel => exact ⟨2 + 1, by omega, by go_num, FN, L5⟩
           case measure => simp [intOf]
  · have hc' : ∀ i, w1.cell? ⟨w.heap.size, i, none⟩ = e.row[i]? := hc
    obtain rfl | rfl | rfl | rfl : k = 0 ∨ k = 1 ∨ k = 2 ∨ k = 3 := by omega
    · cases h1 : decide (e.f0 < 0)
      case true =>
       have O4 : Hid (e.o4 = false) := Lib.hid (by simp [Eg.o4, fV, h1])
       go_wp2
       go_ret
       exact ⟨by simp only [Eg.ok, N0.out, O4.out]; rfl, L.out.be⟩
      cases h2 : decide (e.f0 > 1000)
      case true =>
       have O4 : Hid (e.o4 = false) := Lib.hid (by simp [Eg.o4, fV, h2])
       go_wp2
       go_ret
       exact ⟨by simp only [Eg.ok, N0.out, O4.out]; rfl, L.out.be⟩
      have FN : Hid (∀ j, j < 0 + 1 → iT (e.CW j) = false) := Lib.hid (fun j hj => by
       rcases Nat.lt_or_ge j 0 with h | h
       · exact F.out j h
       · obtain rfl : j = 0 := by omega
         simp only [Eg.CW, fV, h1, h2]; rfl)
      clear F
      go_wp2
      go_round
      case rel => exact ⟨0 + 1, by omega, by go_num, FN⟩
      case measure => simp [intOf]
    · cases h1 : decide (e.f1 < 0)
      case true =>
       have O4 : Hid (e.o4 = false) := Lib.hid (by simp [Eg.o4, fV, h1])
       go_wp2
       go_ret
       exact ⟨by simp only [Eg.ok, N0.out, O4.out]; rfl, L.out.be⟩
      cases h2 : decide (e.f1 > 1000)
      case true =>
       have O4 : Hid (e.o4 = false) := Lib.hid (by simp [Eg.o4, fV, h2])
       go_wp2
       go_ret
       exact ⟨by simp only [Eg.ok, N0.out, O4.out]; rfl, L.out.be⟩
      have FN : Hid (∀ j, j < 1 + 1 → iT (e.CW j) = false) := Lib.hid (fun j hj => by
       rcases Nat.lt_or_ge j 1 with h | h
       · exact F.out j h
       · obtain rfl : j = 1 := by omega
         simp only [Eg.CW, fV, h1, h2]; rfl)
      clear F
      go_wp2
      go_round
      case rel => exact ⟨1 + 1, by omega, by go_num, FN⟩
      case measure => simp [intOf]
    · cases h1 : decide (e.f2 < 0)
      case true =>
       have O4 : Hid (e.o4 = false) := Lib.hid (by simp [Eg.o4, fV, h1])
       go_wp2
       go_ret
       exact ⟨by simp only [Eg.ok, N0.out, O4.out]; rfl, L.out.be⟩
      cases h2 : decide (e.f2 > 1000)
      case true =>
       have O4 : Hid (e.o4 = false) := Lib.hid (by simp [Eg.o4, fV, h2])
       go_wp2
       go_ret
       exact ⟨by simp only [Eg.ok, N0.out, O4.out]; rfl, L.out.be⟩
      have FN : Hid (∀ j, j < 2 + 1 → iT (e.CW j) = false) := Lib.hid (fun j hj => by
       rcases Nat.lt_or_ge j 2 with h | h
       · exact F.out j h
       · obtain rfl : j = 2 := by omega
         simp only [Eg.CW, fV, h1, h2]; rfl)
      clear F
      go_wp2
      go_round
      case rel => exact ⟨2 + 1, by omega, by go_num, FN⟩
      case measure => simp [intOf]
    · cases h1 : decide (e.f3 < 0)
      case true =>
       have O4 : Hid (e.o4 = false) := Lib.hid (by simp [Eg.o4, fV, h1])
       go_wp2
       go_ret
       exact ⟨by simp only [Eg.ok, N0.out, O4.out]; rfl, L.out.be⟩
      cases h2 : decide (e.f3 > 1000)
      case true =>
       have O4 : Hid (e.o4 = false) := Lib.hid (by simp [Eg.o4, fV, h2])
       go_wp2
       go_ret
       exact ⟨by simp only [Eg.ok, N0.out, O4.out]; rfl, L.out.be⟩
      have FN : Hid (∀ j, j < 3 + 1 → iT (e.CW j) = false) := Lib.hid (fun j hj => by
       rcases Nat.lt_or_ge j 3 with h | h
       · exact F.out j h
       · obtain rfl : j = 3 := by omega
         simp only [Eg.CW, fV, h1, h2]; rfl)
      clear F
      go_wp2
      go_round
      case rel => exact ⟨3 + 1, by omega, by go_num, FN⟩
      case measure => simp [intOf]
end Go.Proofs.Ytnijhjbcjeohhaa.EE

namespace Go.Proofs.Ytnijhjbcjeohhaa.EE
open Go.RowKit Go.Proofs.Ytnijhjbcjeohhaa.KK Go.Proofs.af.aO Go.Proofs.af.aU Go.Proofs.af.aV
set_option linter.unusedVariables false
set_option linter.unusedSimpArgs false
theorem DL.counts {miss : Bool} {dt : Int} {n : En} {g0 g1 g2 a0 a1 a2 : Int} {n1 : En} {y : Nat → Int} (h : DL miss dt n g0 g1 g2 a0 a1 a2 n1 y) : n1.steps = n.steps ∧ n1.dO = n.dO ∧ ∀ k, n1.off k = n.off k := by
 rcases h with ⟨_, rfl, _⟩ | ⟨_, _, _, _, _, _, _, _, _, _, _, _, _, _, _, _, _, _, _, _, _, _, _, _, _, rfl, _⟩
 · exact ⟨rfl, rfl, fun _ => rfl⟩
 · exact ⟨rfl, rfl, fun _ => rfl⟩
theorem nJ (c : Cf) (n : En) (y : Nat → Int) : (En.ahead c n y).steps = n.steps ∧ (En.ahead c n y).dO = n.dO ∧ ∀ k, (En.ahead c n y).off k = n.off k := ⟨rfl, rfl, fun _ => rfl⟩
def Cnt (has : Bool) (a b : Int) : Prop := (has = false → b = a) ∧ (has = true → b = 0 ∨ b = min (a + 1) 1000)
theorem Ib (tk : Bool) (n : Int) : jr tk n = 0 ∨ jr tk n = min (n + 1) 1000 := by
 cases tk
 · exact .inr rfl
 · exact .inl rfl
theorem yO.counts {n n' : En} {i k : Nat} {z r gate : Int} (hk : k < 4) (h : yO n i k z r gate n') : n'.steps = n.steps ∧ n'.dO = n.dO ∧ (∀ j, j < 4 → j ≠ k → n'.off j = n.off j) ∧ Cnt true (n.off k) (n'.off k) := by
 obtain ⟨X, P, tk, fl, _, rfl⟩ := h
 refine ⟨?_, ?_, fun j hj hne => ?_, (fun e => by cases e), fun _ => ?_⟩
 · unfold En.held; rfl
 · unfold En.held; rfl
 · rw [wU n i k j hj hk, if_neg (Ne.symm hne)]
 · rw [wU n i k k hk hk, if_pos rfl]
   exact Ib tk _
def Sm.has (s : Sm) : Nat → Bool
 | 0 => s.hasB
 | _ => s.lQ
theorem IP.counts {c : Cf} {n : En} {s : Sm} {n' : En} (h : IP c n s n') : n'.steps = n.steps ∧ n'.dO = n.dO ∧ (s.missing = true → ∀ k, n'.off k = n.off k) ∧ (s.missing = false → ∀ k, k < 4 → Cnt (s.has k) (n.off k) (n'.off k)) := by
 cases hm : s.missing
 case true =>
  obtain rfl := h.miss hm
  exact ⟨rfl, rfl, fun _ _ => rfl, fun e => by cases e⟩
 obtain ⟨m1, gk, h1, h2, h3, h4, h5, h6⟩ := h.go hm
 have B : m1.steps = n.steps ∧ m1.dO = n.dO ∧ (∀ j, j < 4 → j ≠ 0 → m1.off j = n.off j) ∧ Cnt s.hasB (n.off 0) (m1.off 0) := by
  cases hb : s.hasB
  · obtain rfl := h2 hb
    exact ⟨rfl, rfl, fun _ _ _ => rfl, fun _ => rfl, fun e => by cases e⟩
  · exact (h1 hb).counts (by decide)
 cases hg : s.lQ
 · have e1 := h6 hg 0 (by decide)
   have e2 := h6 hg 1 (by decide)
   have e3 := h6 hg 2 (by decide)
   have : n' = m1 := by rw [← h4, ← h3, e3, e2, e1]
   subst this
   refine ⟨B.1, B.2.1, (fun e => by cases e), fun _ k hk => ?_⟩
   match k, hk with
   | 0, _ => exact B.2.2.2
   | k + 1, hk =>
     rw [B.2.2.1 (k + 1) hk (by omega)]
     show Cnt s.lQ _ _
     rw [hg]
     exact ⟨fun _ => rfl, fun e => by cases e⟩
 · have c1 := (h5 hg 0 (by decide)).counts (by decide)
   have c2 := (h5 hg 1 (by decide)).counts (by decide)
   have c3 := (h5 hg 2 (by decide)).counts (by decide)
   simp only [Nat.zero_add, Nat.reduceAdd] at c1 c2 c3
   rw [h3] at c1
   rw [h4] at c3
   refine ⟨c3.1.trans (c2.1.trans (c1.1.trans B.1)), c3.2.1.trans (c2.2.1.trans (c1.2.1.trans B.2.1)), (fun e => by cases e), fun _ k hk => ?_⟩
   obtain rfl | rfl | rfl | rfl : k = 0 ∨ k = 1 ∨ k = 2 ∨ k = 3 := by omega
   · rw [c3.2.2.1 0 (by decide) (by decide), c2.2.2.1 0 (by decide) (by decide), c1.2.2.1 0 (by decide) (by decide)]
     exact B.2.2.2
   · rw [c3.2.2.1 1 (by decide) (by decide), c2.2.2.1 1 (by decide) (by decide)]
     show Cnt s.lQ _ _
     rw [hg, ← B.2.2.1 1 (by decide) (by decide)]
     exact c1.2.2.2
   · rw [c3.2.2.1 2 (by decide) (by decide)]
     show Cnt s.lQ _ _
     rw [hg, ← B.2.2.1 2 (by decide) (by decide), ← c1.2.2.1 2 (by decide) (by decide)]
     exact c2.2.2.2
   · show Cnt s.lQ _ _
     rw [hg, ← B.2.2.1 3 (by decide) (by decide), ← c1.2.2.1 3 (by decide) (by decide), ← c2.2.2.1 3 (by decide) (by decide)]
     exact c3.2.2.2
theorem Gx (c : Cf) (n : En) (s : Sm) (G : Gd n) (hb : 0 < c.iM) (hn : 0 < c.l7) : ∃ n', KA c n s n' ∧ Gd n' ∧ n'.steps = min (n.steps + 1) 1099511627776 ∧ n'.dO = (if s.missing = true then min (n.dO + 1) 1000 else 0) ∧
 (s.missing = true → ∀ k, n'.off k = n.off k) ∧ (s.missing = false → ∀ k, k < 4 → Cnt (s.has k) (n.off k) (n'.off k)) := by
 obtain ⟨n1, y, T⟩ := Jc s.missing c.dt n s.g0 s.g1 s.g2 s.a0 s.a1 s.a2
 obtain ⟨n3, H, G3⟩ := JS c s (T.gd G).ahead (n := En.ahead c n1 y)
 have t := T.counts
 have h := H.counts
 refine ⟨n3.cnt s.missing, La c n s n1 n3 y G hb hn T H G3, G3.cnt _, ?_, ?_, fun m k => ?_, fun m k hk => ?_⟩
 · show min (n3.steps + 1) _ = _
   rw [h.1, (nJ c n1 y).1, t.1]
 · show (if s.missing = true then min (n3.dO + 1) 1000 else 0) = _
   rw [h.2.1, (nJ c n1 y).2.1, t.2.1]
 · have := h.2.2.1 m k
   rw [(nJ c n1 y).2.2, t.2.2] at this
   exact this
 · have := h.2.2.2 m k hk
   rw [(nJ c n1 y).2.2, t.2.2] at this
   exact this
end Go.Proofs.Ytnijhjbcjeohhaa.EE

namespace Go.Proofs.Ytnijhjbcjeohhaa.EE
open Go.RowKit Go.Proofs.Ytnijhjbcjeohhaa.KK Go.Proofs.af.aO Go.Proofs.af.aU Go.Proofs.af.aV
set_option linter.unusedVariables false
set_option linter.unusedSimpArgs false
theorem Ry (w : World) (z y D E : Array Value) (t u : TypeId) (hD : D.size = z.size) (hE : E.size = y.size) :
 Row ((((w.alloc (.cells z t)).alloc (.cells y u)).setCells w.heap.size 0 D.toList).setCells (w.heap.size + 1) 0 E.toList) w.heap.size t D ∧
 Row ((((w.alloc (.cells z t)).alloc (.cells y u)).setCells w.heap.size 0 D.toList).setCells (w.heap.size + 1) 0 E.toList) (w.heap.size + 1) u E ∧
 Below w.heap.size w ((((w.alloc (.cells z t)).alloc (.cells y u)).setCells w.heap.size 0 D.toList).setCells (w.heap.size + 1) 0 E.toList) := by
 have r1 := (Row.new w t z).alloc (.cells y u)
 have r2 := Row.new (w.alloc (.cells z t)) u y
 rw [World.size_alloc] at r2
 have s1 := Row.full r1 D hD
 have s2 : Row (((w.alloc (.cells z t)).alloc (.cells y u)).setCells w.heap.size 0 D.toList) (w.heap.size + 1) u y := (OG.kE _ _ _ _ (by omega)).trans r2
 refine ⟨(OG.kE _ _ _ _ (by omega)).trans s1, Row.full s2 E hE, ?_⟩
 exact KK.eu _ _ _ (KK.eu _ _ _ (((Below.refl _ _).alloc (Nat.le_refl _) _).alloc (by simp) _) (Nat.le_refl _)) (by omega)
theorem Nb (w : World) (z y D E : Array Value) (t u : TypeId) (hD : D.size = z.size) (hE : E.size = y.size) :
 ((w.alloc (.cells z t)).alloc (.cells y u)).there w.heap.size 0 D.size ∧ (((w.alloc (.cells z t)).alloc (.cells y u)).setCells w.heap.size 0 D.toList).there (w.heap.size + 1) 0 E.size := by
 have r1 := Row.there ((Row.new w t z).alloc (.cells y u))
 have r2 := Row.new (w.alloc (.cells z t)) u y
 rw [World.size_alloc] at r2
 have r3 : Row (((w.alloc (.cells z t)).alloc (.cells y u)).setCells w.heap.size 0 D.toList) (w.heap.size + 1) u y := (OG.kE _ _ _ _ (by omega)).trans r2
 rw [hD, hE]
 exact ⟨r1, Row.there r3⟩
theorem Sl {c : Cf} (h : c.may = true) : 0 < c.iM ∧ 0 < c.l7 ∧ 0 < c.dt := by
 have h2 : ∀ q ∈ c.l, mW q = false := by
  simp only [Cf.may, Bool.not_eq_true', List.any_eq_false] at h
  intro q hq
  simpa using h q hq
 have p : ∀ q, mW q = false → 0 < q := fun q hq => by
  unfold mW at hq
  simp at hq
  omega
 exact ⟨p _ (h2 _ (by simp [Cf.l])), p _ (h2 _ (by simp [Cf.l])), p _ (h2 _ (by simp [Cf.l]))⟩
theorem xH {r c r' c' : Int} {x p : List Int} (h : PR.kN r c x r' c' p) (h3 : r = 3) : c = 1 ∧ r' = 3 ∧ c' = 3 ∧ x.length = 3 ∧ p.length = 9 := by
 obtain ⟨h1, h2, rfl, rfl, rfl, _⟩ := h
 subst h3
 have l1 := (PR.lg h1).2.2.2.2.1
 have l2 := (PR.lg h2).2.2.2.2.1
 exact ⟨rfl, rfl, rfl, by simpa using l1, by simpa using l2⟩
theorem Eg.good {e : Eg} {w : World} (h : e.ok = true) (hr : ∀ j, j < 3 → I5 w (e.t j)) : ∃ s : Es, s.R = e.R ∧ (∀ j, j < 3 → Rw w (s.ax j)) ∧ Gd s.nu ∧ (∀ j, j < 3 → PR.kN 3 1 (s.ax j).x 3 3 (s.ax j).p) ∧ PQ.fU (PQ.at4 s.q0 s.q1 s.q2 s.q3) 4 = true ∧ s.nu = ⟨e.q0, e.q1, e.q2, e.q3, e.t0.x, e.t0.p, e.t1.x, e.t1.p, e.t2.x, e.t2.p, e.steps, e.dO, e.f0, e.f1, e.f2, e.f3, e.sat⟩ := by
 obtain ⟨q0, q1, q2, q3, ⟨r0, c0, A0, d0, x0, r0', c0', B0, e0, p0⟩, ⟨r1, c1, A1, d1, x1, r1', c1', B1, e1, p1⟩, ⟨r2, c2, A2, d2, x2, r2', c2', B2, e2, p2⟩, steps, dO, f0, f1, f2, f3, sat⟩ := e
 simp only [Eg.ok, Eg.t3, Tg.ok, Eg.o4, Eg.n0, Bool.and_eq_true, Bool.not_eq_true', Bool.or_eq_false_iff, decide_eq_true_eq, decide_eq_false_iff_not] at h
 obtain ⟨hn, ⟨o0, o1, o2, o3⟩, ⟨⟨t0, k0⟩, ⟨t1, k1⟩, ⟨t2, k2⟩⟩, hq⟩ := h
 obtain ⟨rfl, rfl, rfl, lx0, lp0⟩ := xH t0 k0
 obtain ⟨rfl, rfl, rfl, lx1, lp1⟩ := xH t1 k1
 obtain ⟨rfl, rfl, rfl, lx2, lp2⟩ := xH t2 k2
 subst k0 k1 k2
 have bo : ∀ q, iT q = false → 0 ≤ q ∧ q ≤ 1000 := fun q hq => by
  unfold iT at hq
  simp at hq
  omega
 refine ⟨⟨q0, q1, q2, q3, ⟨A0, d0, x0, B0, e0, p0⟩, ⟨A1, d1, x1, B1, e1, p1⟩, ⟨A2, d2, x2, B2, e2, p2⟩, steps, dO, f0, f1, f2, f3, sat⟩, rfl, fun j hj => ?_, ⟨fun j hj => ?_, fun j hj => ?_, by show 0 ≤ steps; omega, by show steps ≤ 1099511627776; omega, by show 0 ≤ dO; omega, by show dO ≤ 1000; omega, fun k hk => ?_, fun k hk => ?_⟩, fun j hj => ?_, hq, rfl⟩
 · obtain rfl | rfl | rfl : j = 0 ∨ j = 1 ∨ j = 2 := by omega
   · exact ⟨(hr 0 (by decide)).x, (hr 0 (by decide)).xc, (hr 0 (by decide)).p, (hr 0 (by decide)).pd⟩
   · exact ⟨(hr 1 (by decide)).x, (hr 1 (by decide)).xc, (hr 1 (by decide)).p, (hr 1 (by decide)).pd⟩
   · exact ⟨(hr 2 (by decide)).x, (hr 2 (by decide)).xc, (hr 2 (by decide)).p, (hr 2 (by decide)).pd⟩
 · obtain rfl | rfl | rfl : j = 0 ∨ j = 1 ∨ j = 2 := by omega
   · exact lx0
   · exact lx1
   · exact lx2
 · obtain rfl | rfl | rfl : j = 0 ∨ j = 1 ∨ j = 2 := by omega
   · exact lp0
   · exact lp1
   · exact lp2
 · obtain rfl | rfl | rfl | rfl : k = 0 ∨ k = 1 ∨ k = 2 ∨ k = 3 := by omega
   · exact (bo _ o0).1
   · exact (bo _ o1).1
   · exact (bo _ o2).1
   · exact (bo _ o3).1
 · obtain rfl | rfl | rfl | rfl : k = 0 ∨ k = 1 ∨ k = 2 ∨ k = 3 := by omega
   · exact (bo _ o0).2
   · exact (bo _ o1).2
   · exact (bo _ o2).2
   · exact (bo _ o3).2
 · obtain rfl | rfl | rfl : j = 0 ∨ j = 1 ∨ j = 2 := by omega
   · exact t0
   · exact t1
   · exact t2
theorem UM (xs : Array Value) (k : Nat) (x : Int) (h : xs[k]? = some (.int .i64 x)) (w : World) : (part 3 xs k).run Try.prog w = .ok (.int .i64 x) w := by
 simp [part, go_sem, h]
theorem oQ (a e : Int) (xs ys : Array Value) (k : Nat) (hx : xs[k]? = some (.int .i64 a)) (hy : ys[k]? = some (.int .i64 e)) (ks : List Nat) (r : Bool) (w : World)
 (h : (Op.eqItems 9999 3 1 xs ys ks).run Try.prog w = .ok r w) : (Op.eqItems 9999 3 1 xs ys (k :: ks)).run Try.prog w = .ok ((a == e) && r) w := by
 have p1 := UM xs (k * 1) a (by simpa using hx) w
 have p2 := UM ys (k * 1) e (by simpa using hy) w
 have p3 := run_equalIn_int w (P := Try.prog) 9998 3 .i64 .i64 a e rfl
 simp only [Op.eqItems, Sem.run_bind, p1, p2, p3, Result.andThen_ok]
 cases hr : (a == e)
 · simp
 · simpa using h
theorem YN (a b c d e f g h : Int) (w : World) :
 (Op.equalIn 10000 35 (.agg #[.int .i64 a, .int .i64 b, .int .i64 c, .int .i64 d]) (.agg #[.int .i64 e, .int .i64 f, .int .i64 g, .int .i64 h])).run Try.prog w = .ok ((a == e) && ((b == f) && ((c == g) && ((d == h) && true)))) w := by
 rw [run_equalIn_array (P := Try.prog) (w := w) 9999 (e := 3) (n := 4) (i := _) _ _ rfl rfl]
 exact oQ _ _ _ _ 0 rfl rfl _ _ w (oQ _ _ _ _ 1 rfl rfl _ _ w (oQ _ _ _ _ 2 rfl rfl _ _ w (oQ _ _ _ _ 3 rfl rfl _ _ w (by simp [Op.eqItems]))))
end Go.Proofs.Ytnijhjbcjeohhaa.EE

namespace Go.Proofs.Ytnijhjbcjeohhaa.EE
open Go.RowKit Go.Proofs.Ytnijhjbcjeohhaa.KK Go.Proofs.af.aO Go.Proofs.af.aU Go.Proofs.af.aV
set_option linter.unusedVariables false
set_option linter.unusedSimpArgs false
theorem QI (c : Cf) (e : Eg) (s : Sm) (w : World) (hr : ∀ j, j < 3 → I5 w (e.t j)) (hm : c.may = false) :
 Calls Try.prog 4 #[.agg c.row, .agg e.R, .agg s.R] w fun x w' => x = .returned (.bool true) ∧ Below w.heap.size w w' := by
 have HM := Lib.hid hm
 clear hm
 have HR := Lib.hid hr
 have L : Hid (aX w [(24, c.row), (37, e.R), (46, s.R)] (((w.alloc (.cells c.row 24)).alloc (.cells e.R 37)).alloc (.cells s.R 46))) := Lib.hid ((((aX.none w).push (by simp) _ _).push (by simp) _ _).push (by simp) _ _)
 clear hr
 go_enter Try.func4, Try.ntmps4
 go_upto_region 1 with fail
 generalize ((w.alloc (.cells c.row 24)).alloc (.cells e.R 37)).alloc (.cells s.R 46) = w1 at L ⊢
 go_wp2_with fail
 refine (r_ _).mono ?_
 rintro x w2 ⟨rfl, hb⟩
 have L2 := Lib.hid (L.out.below hb)
 clear hb L
 have hc : ∀ i, w2.cell? ⟨w.heap.size, i, none⟩ = c.row[i]? := L2.out.r0.cell
 go_wp2_with fail
 refine (qE c _).mono ?_
 rintro x w3 ⟨rfl, hb⟩
 have L3 := Lib.hid (L2.out.below hb)
 clear hb L2 hc
 rw [HM.out]
 go_wp2
 go_ret
 exact ⟨rfl, L3.out.be⟩
theorem QH (c : Cf) (e : Eg) (s : Sm) (w : World) (hr : ∀ j, j < 3 → I5 w (e.t j)) (hm : c.may = true) (ho : e.ok = false) :
 Calls Try.prog 4 #[.agg c.row, .agg e.R, .agg s.R] w fun x w' => x = .returned (.bool true) ∧ Below w.heap.size w w' := by
 have HM := Lib.hid hm
 have HO := Lib.hid ho
 clear hm ho
 have HR := Lib.hid hr
 have L : Hid (aX w [(24, c.row), (37, e.R), (46, s.R)] (((w.alloc (.cells c.row 24)).alloc (.cells e.R 37)).alloc (.cells s.R 46))) := Lib.hid ((((aX.none w).push (by simp) _ _).push (by simp) _ _).push (by simp) _ _)
 clear hr
 go_enter Try.func4, Try.ntmps4
 go_upto_region 1 with fail
 generalize ((w.alloc (.cells c.row 24)).alloc (.cells e.R 37)).alloc (.cells s.R 46) = w1 at L ⊢
 go_wp2_with fail
 refine (r_ _).mono ?_
 rintro x w2 ⟨rfl, hb⟩
 have L2 := Lib.hid (L.out.below hb)
 clear hb L
 have hc : ∀ i, w2.cell? ⟨w.heap.size, i, none⟩ = c.row[i]? := L2.out.r0.cell
 go_wp2_with fail
 refine (qE c _).mono ?_
 rintro x w3 ⟨rfl, hb⟩
 have L3 := Lib.hid (L2.out.below hb)
 clear hb L2 hc
 rw [HM.out]
 have RL := Lib.hid (Row.whole L3.out.r1)
 have i37 : Hid ((Try.prog.info? 37).map (·.size) = some e.R.toList.length) := Lib.hid (by kernel_rfl)
 go_wp2_with (with_reducible refine OG.jg rfl 37 (.tmp 4) rfl (w.heap.size + 1) 0 rfl e.R.toList _ RL.out Try.underlying37 rfl i37.out ?_)
 refine (wG e _ (fun j hj => (HR.out j hj).below L3.out.be)).mono ?_
 rintro x w4 ⟨rfl, hb⟩
 have L4 := Lib.hid (L3.out.below hb)
 clear hb L3 RL
 rw [HO.out]
 go_wp2
 go_ret
 exact ⟨rfl, L4.out.be⟩
theorem QG (c : Cf) (e : Eg) (s : Sm) (w : World) (hr : ∀ j, j < 3 → I5 w (e.t j)) (hm : c.may = true) (ho : e.ok = true) :
 Calls Try.prog 4 #[.agg c.row, .agg e.R, .agg s.R] w fun x w' => x = .returned (.bool true) ∧ Below w.heap.size w w' := by
 have HM := Lib.hid hm
 have HO := Lib.hid ho
 clear hm ho
 have HR := Lib.hid hr
 have L : Hid (aX w [(24, c.row), (37, e.R), (46, s.R)] (((w.alloc (.cells c.row 24)).alloc (.cells e.R 37)).alloc (.cells s.R 46))) := Lib.hid ((((aX.none w).push (by simp) _ _).push (by simp) _ _).push (by simp) _ _)
 clear hr
 go_enter Try.func4, Try.ntmps4
 go_upto_region 1 with fail
 generalize ((w.alloc (.cells c.row 24)).alloc (.cells e.R 37)).alloc (.cells s.R 46) = w1 at L ⊢
 go_wp2_with fail
 refine (r_ _).mono ?_
 rintro x w2 ⟨rfl, hb⟩
 have L2 := Lib.hid (L.out.below hb)
 clear hb L
 have hc : ∀ i, w2.cell? ⟨w.heap.size, i, none⟩ = c.row[i]? := L2.out.r0.cell
 go_wp2_with fail
 refine (qE c _).mono ?_
 rintro x w3 ⟨rfl, hb⟩
 have L3 := Lib.hid (L2.out.below hb)
 clear hb L2 hc
 rw [HM.out]
 have RL := Lib.hid (Row.whole L3.out.r1)
 have i37 : Hid ((Try.prog.info? 37).map (·.size) = some e.R.toList.length) := Lib.hid (by kernel_rfl)
 go_wp2_with (with_reducible refine OG.jg rfl 37 (.tmp 4) rfl (w.heap.size + 1) 0 rfl e.R.toList _ RL.out Try.underlying37 rfl i37.out ?_)
 refine (wG e _ (fun j hj => (HR.out j hj).below L3.out.be)).mono ?_
 rintro x w4 ⟨rfl, hb⟩
 have L4 := Lib.hid (L3.out.below hb)
 clear hb L3 RL
 rw [HO.out]
 go_upto_region 4 with fail
 obtain ⟨es, hR, hrw, G, ht, hq, hnu⟩ := Eg.good HO.out (fun j hj => (HR.out j hj).below L4.out.be)
 have MP := Sl HM.out
 obtain ⟨n', ST, G', v1, v2, v3, v4⟩ := Gx c es.nu s G MP.1 MP.2.1
 have HST := Lib.hid (ST es w4 rfl hrw)
 have HV := Lib.hid (And.intro (And.intro v1 v2) (And.intro v3 v4))
 have HG := Lib.hid G
 clear ST v1 v2 v3 v4 G G' hrw ht hq hnu MP HR HO HM i37
 rw [← hR] at L4 ⊢
 clear hR
 have hc : ∀ i, w4.cell? ⟨w.heap.size, i, none⟩ = c.row[i]? := L4.out.r0.cell
 have RE := Lib.hid (Row.whole L4.out.r1)
 have RS := Lib.hid (Row.whole L4.out.r2)
 have i37 : Hid ((Try.prog.info? 37).map (·.size) = some es.R.toList.length) := Lib.hid (by kernel_rfl)
 have i46 : Hid ((Try.prog.info? 46).map (·.size) = some s.R.toList.length) := Lib.hid (by kernel_rfl)
 go_wp2_with (first | with_reducible refine OG.jg rfl 37 (.tmp 4) rfl (w.heap.size + 1) 0 rfl es.R.toList _ RE.out Try.underlying37 rfl i37.out ?_ | with_reducible refine OG.jg rfl 46 (.tmp 5) rfl (w.heap.size + 1 + 1) 0 rfl s.R.toList _ RS.out Try.underlying46 rfl i46.out ?_)
 refine HST.out.mono ?_
 rintro x w5 ⟨e', hn, rfl, _, hb⟩
 have L5 := Lib.hid (L4.out.below hb)
 have HN := Lib.hid hn
 clear hb L4 RE RS hc HST hn i37 i46
 generalize n'.x0.getD 0 0 = y0
 generalize n'.x1.getD 0 0 = y1
 generalize n'.x2.getD 0 0 = y2
 have TN := Lib.hid (Ry w5 #[.int .i64 0, .int .i64 0, .int .i64 0, .int .i64 0, .int .i64 0, .int .i64 0, .slice none 0 0, .int .i64 0, .int .i64 0, .slice none 0 0, .int .i64 0, .int .i64 0, .slice none 0 0, .int .i64 0, .int .i64 0, .slice none 0 0, .int .i64 0, .int .i64 0, .slice none 0 0, .int .i64 0, .int .i64 0, .slice none 0 0, .int .i64 0, .int .i64 0, .int .i64 0, .int .i64 0, .int .i64 0, .int .i64 0, .bool false] #[.int .i64 0, .int .i64 0, .int .i64 0] e'.R #[I y0, I y1, I y2] 37 42 rfl rfl)
 have TH := Lib.hid (Nb w5 #[.int .i64 0, .int .i64 0, .int .i64 0, .int .i64 0, .int .i64 0, .int .i64 0, .slice none 0 0, .int .i64 0, .int .i64 0, .slice none 0 0, .int .i64 0, .int .i64 0, .slice none 0 0, .int .i64 0, .int .i64 0, .slice none 0 0, .int .i64 0, .int .i64 0, .slice none 0 0, .int .i64 0, .int .i64 0, .slice none 0 0, .int .i64 0, .int .i64 0, .int .i64 0, .int .i64 0, .int .i64 0, .int .i64 0, .bool false] #[.int .i64 0, .int .i64 0, .int .i64 0] e'.R #[I y0, I y1, I y2] 37 42 rfl rfl)
 have i37 : Hid ((Try.prog.info? 37).map (·.size) = some e'.R.size) := Lib.hid (by kernel_rfl)
 have one : Hid (e'.R.all (·.oneCell') = true) := Lib.hid (by kernel_rfl)
 go_upto_region 5 with (first | with_reducible refine wpList_store_mid rfl 37 (.tmp 8) (.tmp 28) rfl w5.heap.size 0 e'.R rfl rfl TH.out.1 i37.out one.out ?_ | with_reducible refine wpList_store_mid rfl 42 (.tmp 9) (.tmp 29) rfl (w5.heap.size + 1) 0 #[I y0, I y1, I y2] rfl rfl TH.out.2 (by kernel_rfl) (by kernel_rfl) ?_)
 clear TH i37 one
 generalize (((w5.alloc (.cells #[.int .i64 0, .int .i64 0, .int .i64 0, .int .i64 0, .int .i64 0, .int .i64 0, .slice none 0 0, .int .i64 0, .int .i64 0, .slice none 0 0, .int .i64 0, .int .i64 0, .slice none 0 0, .int .i64 0, .int .i64 0, .slice none 0 0, .int .i64 0, .int .i64 0, .slice none 0 0, .int .i64 0, .int .i64 0, .slice none 0 0, .int .i64 0, .int .i64 0, .int .i64 0, .int .i64 0, .int .i64 0, .int .i64 0, .bool false] 37)).alloc (.cells #[.int .i64 0, .int .i64 0, .int .i64 0] 42)).setCells w5.heap.size 0 e'.R.toList).setCells (w5.heap.size + 1) 0 #[I y0, I y1, I y2].toList = w6 at TN ⊢
 have L6 := Lib.hid (L5.out.below TN.out.2.2)
 have R8 := Lib.hid TN.out.1
 clear TN L5
 generalize w5.heap.size = b8 at R8 ⊢
 simp only [Act.put]
 have cE : ∀ i, w6.cell? ⟨w.heap.size + 1, i, none⟩ = es.row[i]? := L6.out.r1.cell
 have cS : ∀ i, w6.cell? ⟨w.heap.size + 1 + 1, i, none⟩ = s.row[i]? := L6.out.r2.cell
 have v1 : e'.steps = min (es.steps + 1) 1099511627776 := (congrArg En.steps HN.out : _).trans HV.out.1.1
 have v2 : e'.dO = (if s.missing = true then min (es.dO + 1) 1000 else 0) := (congrArg En.dO HN.out : _).trans HV.out.1.2
 have g1 : 0 ≤ es.steps := HG.out.s0
 have g2 : es.steps ≤ 1099511627776 := HG.out.s1
 have g3 : 0 ≤ es.dO := HG.out.c0
 have g4 : es.dO ≤ 1000 := HG.out.c1
 have CZ : w6.cell? ⟨b8, 22, none⟩ = some (I (min (es.steps + 1) 1099511627776)) := by rw [R8.out.cell, ← v1]; rfl
 cases hm : s.missing
 · have c23 : w6.cell? ⟨b8, 23, none⟩ = some (I 0) := by
    have h : e'.dO = 0 := by rw [v2, hm]; rfl
    rw [R8.out.cell, ← h]; rfl
   have K1 : Hid (∀ k, k < 4 → Cnt (s.has k) (es.nu.off k) (n'.off k)) := Lib.hid (HV.out.2.2 hm)
   clear v1 v2 HV
   have HB : Hid (s.hasB = false → e'.f0 = es.f0) := Lib.hid (fun h => by
    have h2 := (K1.out 0 (by decide)).1 h
    rw [← HN.out] at h2
    exact h2)
   have c24 : w6.cell? ⟨b8, 24, none⟩ = some (I e'.f0) := R8.out.cell 24
   cases hb : s.hasB
   · rw [HB.out hb] at c24
     go_wp2
     have HBB := Lib.hid hb
     clear hb CZ c23 c24 HB cE cS g1 g2 g3 g4
     go_loopw [11, 12] (fun i x wl => ∃ k : Nat, k ≤ 4 ∧ i = .int .i64 k ∧ Hid (aX w [(24, c.row), (37, es.R), (46, s.R)] wl) ∧ Hid (Row wl b8 37 e'.R)) (fun i _ _ => 4 - (intOf i).toNat)
     case atStart => exact ⟨0, by omega, rfl, L6, R8⟩
     case round =>
      clear L6 R8
      obtain ⟨k, hk, rfl, L6, R8⟩ := hrel
      have cE : ∀ i, wr.cell? ⟨w.heap.size + 1, i, none⟩ = es.row[i]? := L6.out.r1.cell
      have cS : ∀ i, wr.cell? ⟨w.heap.size + 1 + 1, i, none⟩ = s.row[i]? := L6.out.r2.cell
      obtain rfl | rfl | rfl | rfl | rfl : k = 4 ∨ k = 0 ∨ k = 1 ∨ k = 2 ∨ k = 3 := by omega
      · go_wp2
        go_ret
        exact ⟨rfl, L6.out.be⟩
      · have g5 : 0 ≤ es.f0 := HG.out.o0 0 (by decide)
        have g6 : es.f0 ≤ 1000 := HG.out.o1 0 (by decide)
        have F : Cnt s.hasB es.f0 e'.f0 := by have h := K1.out 0 (by decide); rw [← HN.out] at h; exact h
        have c8 : wr.cell? ⟨b8, 24, none⟩ = some (I e'.f0) := R8.out.cell 24
        have hw : IntKind.i64.wrap (es.f0 + 1) = es.f0 + 1 := IntWalk.i64_in _ (by omega)
        have FF := Lib.hid F
        clear F
        cases hh : s.hasB
        · rw [FF.out.1 hh] at c8
          go_wp2
          go_quiet (fail)
          go_wp2
          go_roundw
          case rel => exact ⟨1, by omega, by go_num, Lib.hid (L6.out.below (ah (Below.refl _ _) _)), Lib.hid (R8.out.below (ah (Below.refl _ _) _) R8.out.lt)⟩
          case measure => simp [intOf]
        · rcases FF.out.2 hh with h | h
          · rw [h] at c8
            clear h
            go_wp2
            go_quiet (fail)
            go_wp2
            go_roundw
            case rel => exact ⟨1, by omega, by go_num, Lib.hid (L6.out.below (ah (Below.refl _ _) _)), Lib.hid (R8.out.below (ah (Below.refl _ _) _) R8.out.lt)⟩
            case measure => simp [intOf]
          · rw [h] at c8
            have n1 : (min (es.f0 + 1) 1000 != 0) = true := by rw [bne_iff_ne]; omega
            clear h
            go_wp2
            go_quiet (fail)
            go_wp2
            go_roundw
            case rel => exact ⟨1, by omega, by go_num, Lib.hid (L6.out.below (ah (Below.refl _ _) _)), Lib.hid (R8.out.below (ah (Below.refl _ _) _) R8.out.lt)⟩
            case measure => simp [intOf]
      · have g5 : 0 ≤ es.f1 := HG.out.o0 1 (by decide)
        have g6 : es.f1 ≤ 1000 := HG.out.o1 1 (by decide)
        have F : Cnt s.lQ es.f1 e'.f1 := by have h := K1.out 1 (by decide); rw [← HN.out] at h; exact h
        have c8 : wr.cell? ⟨b8, 25, none⟩ = some (I e'.f1) := R8.out.cell 25
        have hw : IntKind.i64.wrap (es.f1 + 1) = es.f1 + 1 := IntWalk.i64_in _ (by omega)
        have FF := Lib.hid F
        clear F
        cases hh : s.lQ
        · rw [FF.out.1 hh] at c8
          go_wp2
          go_quiet (fail)
          go_wp2
          go_roundw
          case rel => exact ⟨2, by omega, by go_num, Lib.hid (L6.out.below (ah (Below.refl _ _) _)), Lib.hid (R8.out.below (ah (Below.refl _ _) _) R8.out.lt)⟩
          case measure => simp [intOf]
        · rcases FF.out.2 hh with h | h
          · rw [h] at c8
            clear h
            go_wp2
            go_quiet (fail)
            go_wp2
            go_roundw
            case rel => exact ⟨2, by omega, by go_num, Lib.hid (L6.out.below (ah (Below.refl _ _) _)), Lib.hid (R8.out.below (ah (Below.refl _ _) _) R8.out.lt)⟩
            case measure => simp [intOf]
          · rw [h] at c8
            have n1 : (min (es.f1 + 1) 1000 != 0) = true := by rw [bne_iff_ne]; omega
            clear h
            go_wp2
            go_quiet (fail)
            go_wp2
            go_roundw
            case rel => exact ⟨2, by omega, by go_num, Lib.hid (L6.out.below (ah (Below.refl _ _) _)), Lib.hid (R8.out.below (ah (Below.refl _ _) _) R8.out.lt)⟩
            case measure => simp [intOf]
      · have g5 : 0 ≤ es.f2 := HG.out.o0 2 (by decide)
        have g6 : es.f2 ≤ 1000 := HG.out.o1 2 (by decide)
        have F : Cnt s.lQ es.f2 e'.f2 := by have h := K1.out 2 (by decide); rw [← HN.out] at h; exact h
        have c8 : wr.cell? ⟨b8, 26, none⟩ = some (I e'.f2) := R8.out.cell 26
        have hw : IntKind.i64.wrap (es.f2 + 1) = es.f2 + 1 := IntWalk.i64_in _ (by omega)
        have FF := Lib.hid F
        clear F
        cases hh : s.lQ
        · rw [FF.out.1 hh] at c8
          go_wp2
          go_quiet (fail)
          go_wp2
          go_roundw
          case rel => exact ⟨3, by omega, by go_num, Lib.hid (L6.out.below (ah (Below.refl _ _) _)), Lib.hid (R8.out.below (ah (Below.refl _ _) _) R8.out.lt)⟩
          case measure => simp [intOf]
        · rcases FF.out.2 hh with h | h
          · rw [h] at c8
            clear h
            go_wp2
            go_quiet (fail)
            go_wp2
            go_roundw
            case rel => exact ⟨3, by omega, by go_num, Lib.hid (L6.out.below (ah (Below.refl _ _) _)), Lib.hid (R8.out.below (ah (Below.refl _ _) _) R8.out.lt)⟩
            case measure => simp [intOf]
          · rw [h] at c8
            have n1 : (min (es.f2 + 1) 1000 != 0) = true := by rw [bne_iff_ne]; omega
            clear h
            go_wp2
            go_quiet (fail)
            go_wp2
            go_roundw
            case rel => exact ⟨3, by omega, by go_num, Lib.hid (L6.out.below (ah (Below.refl _ _) _)), Lib.hid (R8.out.below (ah (Below.refl _ _) _) R8.out.lt)⟩
            case measure => simp [intOf]
      · have g5 : 0 ≤ es.f3 := HG.out.o0 3 (by decide)
        have g6 : es.f3 ≤ 1000 := HG.out.o1 3 (by decide)
        have F : Cnt s.lQ es.f3 e'.f3 := by have h := K1.out 3 (by decide); rw [← HN.out] at h; exact h
        have c8 : wr.cell? ⟨b8, 27, none⟩ = some (I e'.f3) := R8.out.cell 27
        have hw : IntKind.i64.wrap (es.f3 + 1) = es.f3 + 1 := IntWalk.i64_in _ (by omega)
        have FF := Lib.hid F
        clear F
        cases hh : s.lQ
        · rw [FF.out.1 hh] at c8
          go_wp2
          go_quiet (fail)
          go_wp2
          go_roundw
          case rel => exact ⟨4, by omega, by go_num, Lib.hid (L6.out.below (ah (Below.refl _ _) _)), Lib.hid (R8.out.below (ah (Below.refl _ _) _) R8.out.lt)⟩
          case measure => simp [intOf]
        · rcases FF.out.2 hh with h | h
          · rw [h] at c8
            clear h
            go_wp2
            go_quiet (fail)
            go_wp2
            go_roundw
            case rel => exact ⟨4, by omega, by go_num, Lib.hid (L6.out.below (ah (Below.refl _ _) _)), Lib.hid (R8.out.below (ah (Below.refl _ _) _) R8.out.lt)⟩
            case measure => simp [intOf]
          · rw [h] at c8
            have n1 : (min (es.f3 + 1) 1000 != 0) = true := by rw [bne_iff_ne]; omega
            clear h
            go_wp2
            go_quiet (fail)
            go_wp2
            go_roundw
            case rel => exact ⟨4, by omega, by go_num, Lib.hid (L6.out.below (ah (Below.refl _ _) _)), Lib.hid (R8.out.below (ah (Below.refl _ _) _) R8.out.lt)⟩
            case measure => simp [intOf]
   · go_wp2
     have HBB := Lib.hid hb
     clear hb CZ c23 c24 HB cE cS g1 g2 g3 g4
     go_loopw [11, 12] (fun i x wl => ∃ k : Nat, k ≤ 4 ∧ i = .int .i64 k ∧ Hid (aX w [(24, c.row), (37, es.R), (46, s.R)] wl) ∧ Hid (Row wl b8 37 e'.R)) (fun i _ _ => 4 - (intOf i).toNat)
     case atStart => exact ⟨0, by omega, rfl, L6, R8⟩
     case round =>
      clear L6 R8
      obtain ⟨k, hk, rfl, L6, R8⟩ := hrel
      have cE : ∀ i, wr.cell? ⟨w.heap.size + 1, i, none⟩ = es.row[i]? := L6.out.r1.cell
      have cS : ∀ i, wr.cell? ⟨w.heap.size + 1 + 1, i, none⟩ = s.row[i]? := L6.out.r2.cell
      obtain rfl | rfl | rfl | rfl | rfl : k = 4 ∨ k = 0 ∨ k = 1 ∨ k = 2 ∨ k = 3 := by omega
      · go_wp2
        go_ret
        exact ⟨rfl, L6.out.be⟩
      · have g5 : 0 ≤ es.f0 := HG.out.o0 0 (by decide)
        have g6 : es.f0 ≤ 1000 := HG.out.o1 0 (by decide)
        have F : Cnt s.hasB es.f0 e'.f0 := by have h := K1.out 0 (by decide); rw [← HN.out] at h; exact h
        have c8 : wr.cell? ⟨b8, 24, none⟩ = some (I e'.f0) := R8.out.cell 24
        have hw : IntKind.i64.wrap (es.f0 + 1) = es.f0 + 1 := IntWalk.i64_in _ (by omega)
        have FF := Lib.hid F
        clear F
        cases hh : s.hasB
        · rw [FF.out.1 hh] at c8
          go_wp2
          go_quiet (fail)
          go_wp2
          go_roundw
          case rel => exact ⟨1, by omega, by go_num, Lib.hid (L6.out.below (ah (Below.refl _ _) _)), Lib.hid (R8.out.below (ah (Below.refl _ _) _) R8.out.lt)⟩
          case measure => simp [intOf]
        · rcases FF.out.2 hh with h | h
          · rw [h] at c8
            clear h
            go_wp2
            go_quiet (fail)
            go_wp2
            go_roundw
            case rel => exact ⟨1, by omega, by go_num, Lib.hid (L6.out.below (ah (Below.refl _ _) _)), Lib.hid (R8.out.below (ah (Below.refl _ _) _) R8.out.lt)⟩
            case measure => simp [intOf]
          · rw [h] at c8
            have n1 : (min (es.f0 + 1) 1000 != 0) = true := by rw [bne_iff_ne]; omega
            clear h
            go_wp2
            go_quiet (fail)
            go_wp2
            go_roundw
            case rel => exact ⟨1, by omega, by go_num, Lib.hid (L6.out.below (ah (Below.refl _ _) _)), Lib.hid (R8.out.below (ah (Below.refl _ _) _) R8.out.lt)⟩
            case measure => simp [intOf]
      · have g5 : 0 ≤ es.f1 := HG.out.o0 1 (by decide)
        have g6 : es.f1 ≤ 1000 := HG.out.o1 1 (by decide)
        have F : Cnt s.lQ es.f1 e'.f1 := by have h := K1.out 1 (by decide); rw [← HN.out] at h; exact h
        have c8 : wr.cell? ⟨b8, 25, none⟩ = some (I e'.f1) := R8.out.cell 25
        have hw : IntKind.i64.wrap (es.f1 + 1) = es.f1 + 1 := IntWalk.i64_in _ (by omega)
        have FF := Lib.hid F
        clear F
        cases hh : s.lQ
        · rw [FF.out.1 hh] at c8
          go_wp2
          go_quiet (fail)
          go_wp2
          go_roundw
          case rel => exact ⟨2, by omega, by go_num, Lib.hid (L6.out.below (ah (Below.refl _ _) _)), Lib.hid (R8.out.below (ah (Below.refl _ _) _) R8.out.lt)⟩
          case measure => simp [intOf]
        · rcases FF.out.2 hh with h | h
          · rw [h] at c8
            clear h
            go_wp2
            go_quiet (fail)
            go_wp2
            go_roundw
            case rel => exact ⟨2, by omega, by go_num, Lib.hid (L6.out.below (ah (Below.refl _ _) _)), Lib.hid (R8.out.below (ah (Below.refl _ _) _) R8.out.lt)⟩
            case measure => simp [intOf]
          · rw [h] at c8
            have n1 : (min (es.f1 + 1) 1000 != 0) = true := by rw [bne_iff_ne]; omega
            clear h
            go_wp2
            go_quiet (fail)
            go_wp2
            go_roundw
            case rel => exact ⟨2, by omega, by go_num, Lib.hid (L6.out.below (ah (Below.refl _ _) _)), Lib.hid (R8.out.below (ah (Below.refl _ _) _) R8.out.lt)⟩
            case measure => simp [intOf]
      · have g5 : 0 ≤ es.f2 := HG.out.o0 2 (by decide)
        have g6 : es.f2 ≤ 1000 := HG.out.o1 2 (by decide)
        have F : Cnt s.lQ es.f2 e'.f2 := by have h := K1.out 2 (by decide); rw [← HN.out] at h; exact h
        have c8 : wr.cell? ⟨b8, 26, none⟩ = some (I e'.f2) := R8.out.cell 26
        have hw : IntKind.i64.wrap (es.f2 + 1) = es.f2 + 1 := IntWalk.i64_in _ (by omega)
        have FF := Lib.hid F
        clear F
        cases hh : s.lQ
        · rw [FF.out.1 hh] at c8
          go_wp2
          go_quiet (fail)
          go_wp2
          go_roundw
          case rel => exact ⟨3, by omega, by go_num, Lib.hid (L6.out.below (ah (Below.refl _ _) _)), Lib.hid (R8.out.below (ah (Below.refl _ _) _) R8.out.lt)⟩
          case measure => simp [intOf]
        · rcases FF.out.2 hh with h | h
          · rw [h] at c8
            clear h
            go_wp2
            go_quiet (fail)
            go_wp2
            go_roundw
            case rel => exact ⟨3, by omega, by go_num, Lib.hid (L6.out.below (ah (Below.refl _ _) _)), Lib.hid (R8.out.below (ah (Below.refl _ _) _) R8.out.lt)⟩
            case measure => simp [intOf]
          · rw [h] at c8
            have n1 : (min (es.f2 + 1) 1000 != 0) = true := by rw [bne_iff_ne]; omega
            clear h
            go_wp2
            go_quiet (fail)
            go_wp2
            go_roundw
            case rel => exact ⟨3, by omega, by go_num, Lib.hid (L6.out.below (ah (Below.refl _ _) _)), Lib.hid (R8.out.below (ah (Below.refl _ _) _) R8.out.lt)⟩
            case measure => simp [intOf]
      · have g5 : 0 ≤ es.f3 := HG.out.o0 3 (by decide)
        have g6 : es.f3 ≤ 1000 := HG.out.o1 3 (by decide)
        have F : Cnt s.lQ es.f3 e'.f3 := by have h := K1.out 3 (by decide); rw [← HN.out] at h; exact h
        have c8 : wr.cell? ⟨b8, 27, none⟩ = some (I e'.f3) := R8.out.cell 27
        have hw : IntKind.i64.wrap (es.f3 + 1) = es.f3 + 1 := IntWalk.i64_in _ (by omega)
        have FF := Lib.hid F
        clear F
        cases hh : s.lQ
        · rw [FF.out.1 hh] at c8
          go_wp2
          go_quiet (fail)
          go_wp2
          go_roundw
          case rel => exact ⟨4, by omega, by go_num, Lib.hid (L6.out.below (ah (Below.refl _ _) _)), Lib.hid (R8.out.below (ah (Below.refl _ _) _) R8.out.lt)⟩
          case measure => simp [intOf]
        · rcases FF.out.2 hh with h | h
          · rw [h] at c8
            clear h
            go_wp2
            go_quiet (fail)
            go_wp2
            go_roundw
            case rel => exact ⟨4, by omega, by go_num, Lib.hid (L6.out.below (ah (Below.refl _ _) _)), Lib.hid (R8.out.below (ah (Below.refl _ _) _) R8.out.lt)⟩
            case measure => simp [intOf]
          · rw [h] at c8
            have n1 : (min (es.f3 + 1) 1000 != 0) = true := by rw [bne_iff_ne]; omega
            clear h
            go_wp2
            go_quiet (fail)
            go_wp2
            go_roundw
            case rel => exact ⟨4, by omega, by go_num, Lib.hid (L6.out.below (ah (Below.refl _ _) _)), Lib.hid (R8.out.below (ah (Below.refl _ _) _) R8.out.lt)⟩
            case measure => simp [intOf]
 · have c23 : w6.cell? ⟨b8, 23, none⟩ = some (I (min (es.dO + 1) 1000)) := by
    rw [hm, if_pos rfl] at v2
    rw [R8.out.cell, ← v2]; rfl
   have K0 := Lib.hid (HV.out.2.1 hm)
   clear v1 v2 HV
   have c24 : w6.cell? ⟨b8, 24, none⟩ = some (I es.f0) := by
    have h : e'.f0 = es.f0 := by have h := K0.out 0; rw [← HN.out] at h; exact h
    rw [R8.out.cell, ← h]; rfl
   have c25 : w6.cell? ⟨b8, 25, none⟩ = some (I es.f1) := by
    have h : e'.f1 = es.f1 := by have h := K0.out 1; rw [← HN.out] at h; exact h
    rw [R8.out.cell, ← h]; rfl
   have DJ : w6.cell? ⟨b8, 26, none⟩ = some (I es.f2) := by
    have h : e'.f2 = es.f2 := by have h := K0.out 2; rw [← HN.out] at h; exact h
    rw [R8.out.cell, ← h]; rfl
   have J_ : w6.cell? ⟨b8, 27, none⟩ = some (I es.f3) := by
    have h : e'.f3 = es.f3 := by have h := K0.out 3; rw [← HN.out] at h; exact h
    rw [R8.out.cell, ← h]; rfl
   have EQ := YN es.f0 es.f1 es.f2 es.f3 es.f0 es.f1 es.f2 es.f3 w6
   simp only [beq_self_eq_true, Bool.and_self, Bool.true_and, Bool.and_true] at EQ
   go_wp2
   go_ret
   exact ⟨rfl, L6.out.be⟩
theorem Ip (c : Cf) (e : Eg) (s : Sm) (w : World) (hr : ∀ j, j < 3 → I5 w (e.t j)) :
 Calls Try.prog 4 #[.agg c.row, .agg e.row, .agg s.row] w fun x w' => x = .returned (.bool true) ∧ Below w.heap.size w w' := by
 cases hm : c.may
 · exact QI c e s w hr hm
 cases ho : e.ok
 · exact QH c e s w hr hm ho
 · exact QG c e s w hr hm ho
end Go.Proofs.Ytnijhjbcjeohhaa.EE

namespace Go.Proofs.Ytnijhjbcjeohhaa.KK
open Go.ChangeShapes Go.WideShapes Go.ChangeAt Go.RowKit Go.Deep Go.Proofs.af.aO
set_option linter.unusedVariables false
set_option linter.unusedSimpArgs false
theorem k22 : Try.prog.cellsOf 22 = 1 := by kernel_rfl
theorem k24 : Try.prog.cellsOf 29 = 1 := by kernel_rfl
theorem k26 : Try.prog.cellsOf 31 = 3 := by kernel_rfl
theorem k28 : Try.prog.cellsOf 33 = 6 := by kernel_rfl
theorem k2 : Try.prog.cellsOf 2 = 1 := by kernel_rfl
theorem k3 : Try.prog.cellsOf 3 = 1 := by kernel_rfl
theorem laidOut : laidOutB Try.prog = true := by kernel_rfl
theorem acR {α : Type} {l : List α} (h : l.length = 3) : ∃ a b c, l = [a, b, c] := by
 match l, h with
 | [a, b, c], _ => exact ⟨a, b, c, rfl⟩
theorem acQ {α : Type} {l : List α} (h : l.length = 6) : ∃ a b c d e f, l = [a, b, c, d, e, f] := by
 match l, h with
 | [a, b, c, d, e, f], _ => exact ⟨a, b, c, d, e, f, rfl⟩
theorem yH {α : Type} {P : Nat → α → Prop} : ∀ {n : Nat}, (∀ i, i < n → ∃ o, P i o) → ∃ l : List α, l.length = n ∧ ∀ i o, l[i]? = some o → P i o
 | 0, _ => ⟨[], rfl, fun i o h => by simp at h⟩
 | n + 1, h => by
   obtain ⟨l, hl, hk⟩ := yH (P := P) (n := n) fun i hi => h i (by omega)
   obtain ⟨o, ho⟩ := h n (by omega)
   refine ⟨l ++ [o], by simp [hl], fun i x hx => ?_⟩
   rw [List.getElem?_append] at hx
   split at hx
   · exact hk i x hx
   · have : i - l.length = 0 := by
      rcases Nat.eq_zero_or_pos (i - l.length) with h | h
      · exact h
      · rw [List.getElem?_eq_none (by simp; omega)] at hx; cases hx
     rw [this] at hx
     simp at hx
     subst hx
     have : i = n := by omega
     subst this
     exact ho
section
variable {H : Type} {enc : TypeId × Value → H} {W : World} {base : Nat} {sp : Nat → Bool} {held : Bool} {fuel : Nat} {cs : List Value} {x : DataW H × List MemPlace}
theorem zC {fs : Array Field} {n : Nat} {xs : List (DataW H × List MemPlace)} (hf : ∀ (i : Nat) (f : Field), fs[i]? = some f → DataW.trod enc Try.prog W base sp held n f.type ((cs.drop f.offset).take (Try.prog.cellsOf f.type)) = xs[i]?)
 (i : Nat) (t : TypeId) (o k : Nat) (h : (fs[i]?).map (fun f => (f.type, f.offset)) = some (t, o)) (hk : Try.prog.cellsOf t = k) : DataW.trod enc Try.prog W base sp held n t ((cs.drop o).take k) = xs[i]? := by
 cases e : fs[i]? with
 | none => rw [e] at h; cases h
 | some f =>
   rw [e] at h
   simp at h
   obtain ⟨rfl, rfl⟩ := h
   subst hk
   exact hf i f e
theorem RZ (h : DataW.trod enc Try.prog W base sp held fuel 29 cs = some x) : ∃ A c l, cs = [.slice A (l : List Int).length c] ∧ l.length ≤ c ∧ Rd W A l := by
 rcases open_slice Try.underlying29 h with ⟨rfl, _⟩ | ⟨a, len, cap, m, n, D, Pl, rfl, hb, hl, hm, hmm, hx, hi⟩
 · exact ⟨none, 0, [], rfl, by simp, Rd.nil _ _⟩
 · have hle : len ≤ m := by rw [hmm]; split <;> omega
   have key : ∀ i, i < len → ∃ q : Int, W.cell? ((a.add (i * 1)).add 0) = some (I q) := by
    intro i hil
    obtain ⟨cs', hc, ht⟩ := hi i (by omega)
    rw [k22] at hc
    obtain ⟨hlen, _, hat⟩ := World.cells?_some hc
    obtain ⟨q, e0, _, _⟩ := DataW.trod_int Try.underlying22 ht
    subst e0
    exact ⟨q, hat 0 (by simp)⟩
   obtain ⟨l, hlen, hk⟩ := yH key
   subst hlen
   refine ⟨some a, cap, l, rfl, hl, rfl, (by unfold maxLen at hm; show l.length ≤ _; omega), fun hne => ⟨a, rfl, fun j p hj => ⟨[I p], rfl, rfl, fun i u hi => ?_⟩⟩⟩
   match i, hi with
   | 0, hi =>
     simp at hi
     subst hi
     have := hk j p hj
     have h1 : (Kd.int .i64).sz = 1 := rfl
     rw [h1]
     simpa [Addr.add] using this
theorem G6 (h : DataW.trod enc Try.prog W base sp held fuel 31 cs = some x) : ∃ r c A cp l, cs = [I r, I c, .slice A (l : List Int).length cp] ∧ l.length ≤ cp ∧ Rd W A l := by
 obtain ⟨xs, n, _, _, hl, hlen, hf⟩ := DataW.trod_struct Try.underlying31 h
 rw [k26] at hl
 obtain ⟨c0, c1, c2, rfl⟩ := acR hl
 have hl3 : xs.length = 3 := hlen
 have get : ∀ i (h : i < 3), xs[i]? = some (xs[i]'(by omega)) := fun i h => List.getElem?_eq_getElem (by omega)
 have h0 := (zC hf 0 3 0 1 rfl k3).trans (get 0 (by omega))
 have h1 := (zC hf 1 3 1 1 rfl k3).trans (get 1 (by omega))
 have h2 := (zC hf 2 29 2 1 rfl k24).trans (get 2 (by omega))
 obtain ⟨r, e0, _, _⟩ := DataW.trod_int Try.underlying3 h0
 obtain ⟨c, e1, _, _⟩ := DataW.trod_int Try.underlying3 h1
 obtain ⟨A, cp, l, e2, hc, hr⟩ := RZ h2
 simp at e0 e1 e2
 subst e0 e1 e2
 exact ⟨r, c, A, cp, l, rfl, hc, hr⟩
theorem JB (h : DataW.trod enc Try.prog W base sp held fuel 33 cs = some x) : ∃ r c A cp l r' c' A' cp' l', cs = [I r, I c, .slice A (l : List Int).length cp, I r', I c', .slice A' (l' : List Int).length cp'] ∧ (l.length ≤ cp ∧ Rd W A l) ∧ (l'.length ≤ cp' ∧ Rd W A' l') := by
 obtain ⟨xs, n, _, _, hl, hlen, hf⟩ := DataW.trod_struct Try.underlying33 h
 rw [k28] at hl
 obtain ⟨c0, c1, c2, c3, c4, c5, rfl⟩ := acQ hl
 have hl2 : xs.length = 2 := hlen
 have get : ∀ i (h : i < 2), xs[i]? = some (xs[i]'(by omega)) := fun i h => List.getElem?_eq_getElem (by omega)
 have h0 := (zC hf 0 31 0 3 rfl k26).trans (get 0 (by omega))
 have h1 := (zC hf 1 31 3 3 rfl k26).trans (get 1 (by omega))
 obtain ⟨r, c, A, cp, l, e0, hc, hr⟩ := G6 h0
 obtain ⟨r', c', A', cp', l', e1, hc', hr'⟩ := G6 h1
 simp at e0 e1
 obtain ⟨rfl, rfl, rfl⟩ := e0
 obtain ⟨rfl, rfl, rfl⟩ := e1
 exact ⟨_, _, _, _, l, _, _, _, _, l', rfl, ⟨hc, hr⟩, ⟨hc', hr'⟩⟩
end
end Go.Proofs.Ytnijhjbcjeohhaa.KK

namespace Go.Proofs.Ytnijhjbcjeohhaa.EE
open Go.ChangeShapes Go.WideShapes Go.ChangeAt Go.RowKit Go.Deep Go.Proofs.Ytnijhjbcjeohhaa.KK Go.Proofs.af.aO
set_option linter.unusedVariables false
set_option linter.unusedSimpArgs false
theorem z22 : Try.prog.cellsOf 22 = 1 := by kernel_rfl
theorem z24 : Try.prog.cellsOf 24 = 6 := by kernel_rfl
theorem z3 : Try.prog.cellsOf 3 = 1 := by kernel_rfl
theorem z4 : Try.prog.cellsOf 4 = 1 := by kernel_rfl
theorem z28 : Try.prog.cellsOf 28 = 4 := by kernel_rfl
theorem z33 : Try.prog.cellsOf 33 = 6 := by kernel_rfl
theorem z34 : Try.prog.cellsOf 34 = 18 := by kernel_rfl
theorem z35 : Try.prog.cellsOf 35 = 4 := by kernel_rfl
theorem z37 : Try.prog.cellsOf 37 = 29 := by kernel_rfl
theorem z42 : Try.prog.cellsOf 42 = 3 := by kernel_rfl
theorem z46 : Try.prog.cellsOf 46 = 13 := by kernel_rfl
theorem Yn {α : Type} {l : List α} (h : l.length = 6) : ∃ c0 c1 c2 c3 c4 c5, l = [c0, c1, c2, c3, c4, c5] := by
 match l, h with
 | [c0, c1, c2, c3, c4, c5], _ => exact ⟨c0, c1, c2, c3, c4, c5, rfl⟩
theorem Yo {α : Type} {l : List α} (h : l.length = 4) : ∃ c0 c1 c2 c3, l = [c0, c1, c2, c3] := by
 match l, h with
 | [c0, c1, c2, c3], _ => exact ⟨c0, c1, c2, c3, rfl⟩
theorem VP {α : Type} {l : List α} (h : l.length = 13) : ∃ c0 c1 c2 c3 c4 c5 c6 c7 c8 c9 c10 c11 c12, l = [c0, c1, c2, c3, c4, c5, c6, c7, c8, c9, c10, c11, c12] := by
 match l, h with
 | [c0, c1, c2, c3, c4, c5, c6, c7, c8, c9, c10, c11, c12], _ => exact ⟨c0, c1, c2, c3, c4, c5, c6, c7, c8, c9, c10, c11, c12, rfl⟩
theorem VN {α : Type} {l : List α} (h : l.length = 29) : ∃ c0 c1 c2 c3 c4 c5 c6 c7 c8 c9 c10 c11 c12 c13 c14 c15 c16 c17 c18 c19 c20 c21 CZ c23 c24 c25 DJ J_ c28, l = [c0, c1, c2, c3, c4, c5, c6, c7, c8, c9, c10, c11, c12, c13, c14, c15, c16, c17, c18, c19, c20, c21, CZ, c23, c24, c25, DJ, J_, c28] := by
 match l, h with
 | [c0, c1, c2, c3, c4, c5, c6, c7, c8, c9, c10, c11, c12, c13, c14, c15, c16, c17, c18, c19, c20, c21, CZ, c23, c24, c25, DJ, J_, c28], _ => exact ⟨c0, c1, c2, c3, c4, c5, c6, c7, c8, c9, c10, c11, c12, c13, c14, c15, c16, c17, c18, c19, c20, c21, CZ, c23, c24, c25, DJ, J_, c28, rfl⟩
theorem VO {α : Type} {l : List α} (h : l.length = 18) : ∃ c0 c1 c2 c3 c4 c5 c6 c7 c8 c9 c10 c11 c12 c13 c14 c15 c16 c17, l = [c0, c1, c2, c3, c4, c5, c6, c7, c8, c9, c10, c11, c12, c13, c14, c15, c16, c17] := by
 match l, h with
 | [c0, c1, c2, c3, c4, c5, c6, c7, c8, c9, c10, c11, c12, c13, c14, c15, c16, c17], _ => exact ⟨c0, c1, c2, c3, c4, c5, c6, c7, c8, c9, c10, c11, c12, c13, c14, c15, c16, c17, rfl⟩
theorem Yp {α : Type} {l : List α} (h : l.length = 3) : ∃ c0 c1 c2, l = [c0, c1, c2] := by
 match l, h with
 | [c0, c1, c2], _ => exact ⟨c0, c1, c2, rfl⟩
section
variable {H : Type} {enc : TypeId × Value → H} {W : World} {base : Nat} {sp : Nat → Bool} {held : Bool} {fuel : Nat} {cs : List Value} {x : DataW H × List MemPlace}
theorem NI (h : DataW.trod enc Try.prog W base sp held fuel 24 cs = some x) : ∃ c : Cf, cs = c.row.toList := by
 obtain ⟨xs, n, _, _, hl, hlen, hf⟩ := DataW.trod_struct Try.underlying24 h
 rw [z24] at hl
 obtain ⟨c0, c1, c2, c3, c4, c5, rfl⟩ := Yn hl
 have hl2 : xs.length = 6 := hlen
 have get : ∀ i (h : i < 6), xs[i]? = some (xs[i]'(by omega)) := fun i h => List.getElem?_eq_getElem (by omega)
 obtain ⟨v0, e0, _, _⟩ := DataW.trod_int Try.underlying22 ((zC hf 0 22 0 1 rfl z22).trans (get 0 (by omega)))
 obtain ⟨v1, e1, _, _⟩ := DataW.trod_int Try.underlying22 ((zC hf 1 22 1 1 rfl z22).trans (get 1 (by omega)))
 obtain ⟨v2, e2, _, _⟩ := DataW.trod_int Try.underlying22 ((zC hf 2 22 2 1 rfl z22).trans (get 2 (by omega)))
 obtain ⟨v3, e3, _, _⟩ := DataW.trod_int Try.underlying22 ((zC hf 3 22 3 1 rfl z22).trans (get 3 (by omega)))
 obtain ⟨v4, e4, _, _⟩ := DataW.trod_int Try.underlying22 ((zC hf 4 22 4 1 rfl z22).trans (get 4 (by omega)))
 obtain ⟨v5, e5, _, _⟩ := DataW.trod_int Try.underlying22 ((zC hf 5 22 5 1 rfl z22).trans (get 5 (by omega)))
 simp at e0 e1 e2 e3 e4 e5
 subst e0 e1 e2 e3 e4 e5
 exact ⟨⟨v0, v1, v2, v3, v4, v5⟩, rfl⟩
theorem open_ints {n : Nat} {t e : TypeId} (ht : Try.prog.underlying t = some (.array n e)) (he : Try.prog.underlying e = some (.int .i64)) (hc : Try.prog.cellsOf e = 1) (hn : Try.prog.cellsOf t = n) (h : DataW.trod enc Try.prog W base sp held fuel t cs = some x) :
 cs.length = n ∧ ∀ i, i < n → ∃ q : Int, cs[i]? = some (I q) := by
 obtain ⟨xs, m, _, _, hl, hlen, hf⟩ := DataW.trod_array ht h
 rw [hn] at hl
 refine ⟨hl, fun i hi => ?_⟩
 have h1 := (hf i hi).trans (List.getElem?_eq_getElem (by omega))
 rw [hc, Nat.mul_one] at h1
 obtain ⟨q, e1, _, _⟩ := DataW.trod_int he h1
 refine ⟨q, ?_⟩
 have h2 : (List.take 1 (List.drop i cs))[0]? = some (I q) := by rw [e1]; rfl
 simpa using h2
theorem Ac (h : DataW.trod enc Try.prog W base sp held fuel 42 cs = some x) : ∃ a b c : Int, cs = [I a, I b, I c] := by
 obtain ⟨hl, hk⟩ := open_ints Try.underlying42 Try.underlying22 z22 z42 h
 obtain ⟨c0, c1, c2, rfl⟩ := Yp hl
 obtain ⟨a, ha⟩ := hk 0 (by decide)
 obtain ⟨b, hb⟩ := hk 1 (by decide)
 obtain ⟨c, hc⟩ := hk 2 (by decide)
 simp at ha hb hc
 subst ha hb hc
 exact ⟨a, b, c, rfl⟩
theorem Dl {t e : TypeId} (ht : Try.prog.underlying t = some (.array 4 e)) (he : Try.prog.underlying e = some (.int .i64)) (hc : Try.prog.cellsOf e = 1) (hn : Try.prog.cellsOf t = 4) (h : DataW.trod enc Try.prog W base sp held fuel t cs = some x) : ∃ a b c d : Int, cs = [I a, I b, I c, I d] := by
 obtain ⟨hl, hk⟩ := open_ints ht he hc hn h
 obtain ⟨c0, c1, c2, c3, rfl⟩ := Yo hl
 obtain ⟨a, ha⟩ := hk 0 (by decide)
 obtain ⟨b, hb⟩ := hk 1 (by decide)
 obtain ⟨c, hc⟩ := hk 2 (by decide)
 obtain ⟨d, hd⟩ := hk 3 (by decide)
 simp at ha hb hc hd
 subst ha hb hc hd
 exact ⟨a, b, c, d, rfl⟩
theorem G5 (h : DataW.trod enc Try.prog W base sp held fuel 46 cs = some x) : ∃ s : Sm, cs = s.row.toList := by
 obtain ⟨xs, n, _, _, hl, hlen, hf⟩ := DataW.trod_struct Try.underlying46 h
 rw [z46] at hl
 obtain ⟨c0, c1, c2, c3, c4, c5, c6, c7, c8, c9, c10, c11, c12, rfl⟩ := VP hl
 have hl2 : xs.length = 7 := hlen
 have get : ∀ i (h : i < 7), xs[i]? = some (xs[i]'(by omega)) := fun i h => List.getElem?_eq_getElem (by omega)
 obtain ⟨b0, e0, _⟩ := DataW.trod_bool Try.underlying4 ((zC hf 0 4 0 1 rfl z4).trans (get 0 (by omega)))
 obtain ⟨g0, g1, g2, e1⟩ := Ac ((zC hf 1 42 1 3 rfl z42).trans (get 1 (by omega)))
 obtain ⟨a0, a1, a2, e2⟩ := Ac ((zC hf 2 42 4 3 rfl z42).trans (get 2 (by omega)))
 obtain ⟨b1, e3, _⟩ := DataW.trod_bool Try.underlying4 ((zC hf 3 4 7 1 rfl z4).trans (get 3 (by omega)))
 obtain ⟨q, e4, _, _⟩ := DataW.trod_int Try.underlying22 ((zC hf 4 22 8 1 rfl z22).trans (get 4 (by omega)))
 obtain ⟨b2, e5, _⟩ := DataW.trod_bool Try.underlying4 ((zC hf 5 4 9 1 rfl z4).trans (get 5 (by omega)))
 obtain ⟨n0, n1, n2, e6⟩ := Ac ((zC hf 6 42 10 3 rfl z42).trans (get 6 (by omega)))
 simp at e0 e1 e2 e3 e4 e5 e6
 obtain ⟨rfl, rfl, rfl⟩ := e1
 obtain ⟨rfl, rfl, rfl⟩ := e2
 obtain ⟨rfl, rfl, rfl⟩ := e6
 subst e0 e3 e4 e5
 exact ⟨⟨b0, g0, g1, g2, a0, a1, a2, b1, q, b2, n0, n1, n2⟩, rfl⟩
theorem Eo (h : DataW.trod enc Try.prog W base sp held fuel 33 cs = some x) : ∃ t : Tg, cs = t.row.toList ∧ I5 W t := by
 obtain ⟨r, c, A, cp, l, r', c', A', cp', l', rfl, ⟨h1, h2⟩, ⟨h3, h4⟩⟩ := JB h
 exact ⟨⟨r, c, A, cp, l, r', c', A', cp', l'⟩, rfl, h2, h1, h4, h3⟩
theorem NJ (h : DataW.trod enc Try.prog W base sp held fuel 34 cs = some x) : ∃ t0 t1 t2 : Tg, cs = t0.row.toList ++ (t1.row.toList ++ t2.row.toList) ∧ I5 W t0 ∧ I5 W t1 ∧ I5 W t2 := by
 obtain ⟨xs, m, _, _, hl, hlen, hf⟩ := DataW.trod_array Try.underlying34 h
 rw [z34] at hl
 have h0 := (hf 0 (by decide)).trans (List.getElem?_eq_getElem (by omega))
 have h1 := (hf 1 (by decide)).trans (List.getElem?_eq_getElem (by omega))
 have h2 := (hf 2 (by decide)).trans (List.getElem?_eq_getElem (by omega))
 rw [z33] at h0 h1 h2
 obtain ⟨t0, e0, r0⟩ := Eo h0
 obtain ⟨t1, e1, r1⟩ := Eo h1
 obtain ⟨t2, e2, r2⟩ := Eo h2
 refine ⟨t0, t1, t2, ?_, r0, r1, r2⟩
 rw [← e0, ← e1, ← e2]
 obtain ⟨c0, c1, c2, c3, c4, c5, c6, c7, c8, c9, c10, c11, c12, c13, c14, c15, c16, c17, rfl⟩ := VO hl
 rfl
theorem PN (h : DataW.trod enc Try.prog W base sp held fuel 37 cs = some x) : ∃ e : Eg, cs = e.row.toList ∧ ∀ j, j < 3 → I5 W (e.t j) := by
 obtain ⟨xs, n, _, _, hl, hlen, hf⟩ := DataW.trod_struct Try.underlying37 h
 rw [z37] at hl
 have hl2 : xs.length = 6 := hlen
 have get : ∀ i (h : i < 6), xs[i]? = some (xs[i]'(by omega)) := fun i h => List.getElem?_eq_getElem (by omega)
 obtain ⟨q0, q1, q2, q3, e0⟩ := Dl Try.underlying28 Try.underlying22 z22 z28 ((zC hf 0 28 0 4 rfl z28).trans (get 0 (by omega)))
 obtain ⟨t0, t1, t2, e1, r0, r1, r2⟩ := NJ ((zC hf 1 34 4 18 rfl z34).trans (get 1 (by omega)))
 obtain ⟨st, e2, _, _⟩ := DataW.trod_int Try.underlying3 ((zC hf 2 3 22 1 rfl z3).trans (get 2 (by omega)))
 obtain ⟨co, e3, _, _⟩ := DataW.trod_int Try.underlying3 ((zC hf 3 3 23 1 rfl z3).trans (get 3 (by omega)))
 obtain ⟨f0, f1, f2, f3, e4⟩ := Dl Try.underlying35 Try.underlying3 z3 z35 ((zC hf 4 35 24 4 rfl z35).trans (get 4 (by omega)))
 obtain ⟨sat, e5, _⟩ := DataW.trod_bool Try.underlying4 ((zC hf 5 4 28 1 rfl z4).trans (get 5 (by omega)))
 refine ⟨⟨q0, q1, q2, q3, t0, t1, t2, st, co, f0, f1, f2, f3, sat⟩, ?_, fun j hj => ?_⟩
 · have : cs = (cs.drop 0).take 4 ++ ((cs.drop 4).take 18 ++ ((cs.drop 22).take 1 ++ ((cs.drop 23).take 1 ++ ((cs.drop 24).take 4 ++ (cs.drop 28).take 1)))) := by
    obtain ⟨c0, c1, c2, c3, c4, c5, c6, c7, c8, c9, c10, c11, c12, c13, c14, c15, c16, c17, c18, c19, c20, c21, CZ, c23, c24, c25, DJ, J_, c28, rfl⟩ := VN hl
    rfl
   rw [this, e0, e1, e2, e3, e4, e5]
   rfl
 · obtain rfl | rfl | rfl : j = 0 ∨ j = 1 ∨ j = 2 := by omega
   · exact r0
   · exact r1
   · exact r2
end
end Go.Proofs.Ytnijhjbcjeohhaa.EE

