import Derived.Test.YtnijhjbcjeohhaaX7
import Derived.Test.YtnijhjbcjeohhaaX4
import Derived.Test.YtnijhjbcjeohhaaX5
import Derived.Test.YtnijhjbcjeohhaaRows
import Derived.ProofKit
import Derived.OpenShut
import Derived.ShutString
import Derived.ChangeOld
import Derived.ChangeSame
import Derived.SizedLaws
import Derived.Laws.IdiomArrays
import Derived.Deep.Slices
import Derived.Carry
/- Joined and thinned by a program of this session's own (wip/pack2.py) out of its texts (wip/ of its repo); parts were laid by its own program (wip/print-patch.py over the kit's print) out of the translation; Lean checks all. -/
set_option maxRecDepth 100000
set_option maxHeartbeats 8000000
namespace Go.Proofs.Ytnijhjbcjeohhaa.PR
open Go.RowKit Go.Proofs.Ytnijhjbcjeohhaa.PQ Go.Proofs.af.aF Go.Proofs.af.aP Go.Proofs.af.aQ Go.Proofs.Ytnijhjbcjeohhaa.KK
set_option linter.unusedVariables false
set_option linter.unusedSimpArgs false
theorem Cm (l m : List Int) (hlen : l.length = m.length) (hl : l.length ≤ 1000000) : ∀ (d j : Nat), j + d = l.length → Ev (fun k => dB.l0 k l m l.length j) (decide (l.drop j = m.drop j)) := by
 intro d
 induction d with
 | zero =>
   intro j hj
   refine Ev.step (f := fun _ => some true) (fun k => ?_) ?_
   · unfold dB.l0
     rw [if_neg (by omega)]
   · have : decide (l.drop j = m.drop j) = true := by
      rw [List.drop_eq_nil_of_le (by omega), List.drop_eq_nil_of_le (by omega)]; rfl
     rw [this]
     exact Ev.now _
 | succ d ih =>
   intro j hj
   have h1 : j < l.length := by omega
   have h2 : j < m.length := by omega
   have r1 : rd l (j : Int) = l[j] := by unfold rd; rw [Int.toNat_natCast, List.getD_eq_getElem?_getD, List.getElem?_eq_getElem h1]; rfl
   have r2 : rd m (j : Int) = m[j] := by unfold rd; rw [Int.toNat_natCast, List.getD_eq_getElem?_getD, List.getElem?_eq_getElem h2]; rfl
   have ed : decide (l.drop j = m.drop j) = (decide (l[j] = m[j]) && decide (l.drop (j + 1) = m.drop (j + 1))) := by
    rw [List.drop_eq_getElem_cons h1, List.drop_eq_getElem_cons h2, ← Bool.decide_and]
    congr 1
    rw [List.cons.injEq]
   rw [ed]
   by_cases hx : l[j] = m[j]
   · rw [decide_eq_true hx, Bool.true_and]
     refine Ev.step (fun k => ?_) (ih (j + 1) (by omega))
     conv => lhs; unfold dB.l0
     rw [if_pos (by omega), if_pos (by omega), if_pos (by omega), if_pos (by omega), r1, r2, if_pos hx, MC (by omega)]
   · rw [decide_eq_false hx, Bool.false_and]
     refine Ev.step (f := fun _ => some false) (fun k => ?_) (Ev.now _)
     conv => lhs; unfold dB.l0
     rw [if_pos (by omega), if_pos (by omega), if_pos (by omega), if_pos (by omega), r1, r2, if_neg hx]
theorem tN (r c r' c' : Int) (l m : List Int) (hl : l.length ≤ 1000000) : Ev (fun k => eY.f k r c l r' c' m) (decide (r = r' ∧ c = c' ∧ l = m)) := by
 by_cases h1 : r = r' ∧ c = c'
 · have e : (r == r' && (c == c')) = true := by simp [h1.1, h1.2]
   refine Ev.congr (f := fun k => (dB.f k l m).bind fun t => some t) (fun k => ?_) ?_
   · show (if (r == r' && (c == c')) = true then _ else _) = _
     rw [if_pos e]
   · by_cases h3 : l.length = m.length
     · have ed : decide (r = r' ∧ c = c' ∧ l = m) = decide (l = m) := by simp [h1.1, h1.2]
       rw [ed]
       refine Ev.bind (a := decide (l = m)) ?_ (Ev.now _)
       have := Cm l m h3 hl l.length 0 (by omega)
       simp only [List.drop_zero] at this
       refine Ev.congr (fun k => ?_) this
       unfold dB.f
       rw [if_pos (by omega)]
       rfl
     · have ed : decide (r = r' ∧ c = c' ∧ l = m) = false := decide_eq_false (fun h => h3 (by rw [h.2.2]))
       rw [ed]
       refine Ev.bind (a := false) ?_ (Ev.now _)
       refine Ev.congr (f := fun _ => some false) (fun k => ?_) (Ev.now _)
       unfold dB.f
       rw [if_neg (by omega)]
 · have e : ¬ (r == r' && (c == c')) = true := by simpa using h1
   have ed : decide (r = r' ∧ c = c' ∧ l = m) = false := decide_eq_false (fun h => h1 ⟨h.1, h.2.1⟩)
   rw [ed]
   refine Ev.congr (f := fun _ => some false) (fun k => ?_) (Ev.now _)
   show (if (r == r' && (c == c')) = true then _ else _) = _
   rw [if_neg e]
def Lt (n : Nat) (l : List Int) (i : Nat) : Prop := ∀ a, a < n → i ≤ a → 0 ≤ l.getD (a * n + a) 0
theorem uO (n : Nat) (l : List Int) (hl : l.length = n * n) : (l = qJ n n l ∧ Lt n l 0) ↔ xw n l := by
 rw [MI]
 constructor
 · rintro ⟨h, d⟩ m hm
   refine ⟨?_, fun e => ?_⟩
   · conv => lhs; rw [h]
     rw [ry hm]
   · have ha : m / n < n := Nat.div_lt_of_lt_mul hm
     have h2 := Nat.div_add_mod m n
     have := d (m / n) ha (by omega)
     rwa [show m / n * n + m / n = m by rw [Nat.mul_comm]; rw [← e] at h2; exact h2] at this
 · intro h
   refine ⟨Hz hl (fun m hm => (h m hm).1), fun a ha _ => ((Fj n l).1 h a ha).1⟩
end Go.Proofs.Ytnijhjbcjeohhaa.PR

namespace Go.Proofs.Ytnijhjbcjeohhaa.PR
open Go.RowKit Go.Proofs.Ytnijhjbcjeohhaa.PQ Go.Proofs.af.aF Go.Proofs.af.aP Go.Proofs.af.aQ Go.Proofs.Ytnijhjbcjeohhaa.KK
set_option linter.unusedVariables false
set_option linter.unusedSimpArgs false
theorem qQ (n : Nat) (A : Option Addr) (cp : Nat) (x : List Int) (A' : Option Addr) (cp' : Nat) (l : List Int) (w : World) (hA : Rd w A x) (kA : x.length ≤ cp) (hA' : Rd w A' l) (kA' : l.length ≤ cp') (ht : gJ n 1 x n n l) :
 Calls Try.prog 45 #[.agg #[I n, I 1, .slice A x.length cp, I n, I n, .slice A' l.length cp']] w fun e w' => e = .returned (.bool true) ∧ Below w.heap.size w w' := by
 obtain ⟨p1, p2, _, _, _, p6⟩ := ht
 obtain ⟨a1, a2, _, _, a5, _⟩ := jM p1
 obtain ⟨_, _, _, _, b5, _⟩ := jM p2
 rw [Int.toNat_natCast] at a5 b5 p6
 have h8 : n ≤ 8 := by omega
 have h1 : 1 ≤ n := by omega
 have n64 := UF h8
 obtain ⟨b, off, hAe, _, hcells⟩ := hA'.cells (by have := Nat.mul_le_mul h1 h1; omega)
 subst hAe
 have et : l = qJ n n l := ((uO n l b5).2 p6).1
 have hd := ((uO n l b5).2 p6).2
 have N : Hid (aV w [(33, #[I n, I 1, .slice A x.length cp, I n, I n, .slice (some ⟨b, off, none⟩) l.length cp'])] (w.alloc (.cells #[I n, I 1, .slice A x.length cp, I n, I n, .slice (some ⟨b, off, none⟩) l.length cp'] 33))) := Lib.hid ((aV.none w).push (by simp) _ _)
 obtain ⟨wr, hwr⟩ : ∃ wr, w.alloc (.cells #[I n, I 1, .slice A x.length cp, I n, I n, .slice (some ⟨b, off, none⟩) l.length cp'] 33) = wr := ⟨_, rfl⟩
 have NR : Hid (aV w [(33, #[I n, I 1, .slice A x.length cp, I n, I n, .slice (some ⟨b, off, none⟩) l.length cp'])] wr) := Lib.hid (by rw [← hwr]; exact N.out)
 have T39 : Hid (∀ w', Below wr.heap.size wr w' → Calls Try.prog 75 #[.agg #[I n, I 1, .slice A x.length cp]] w' fun e w'' => e = .returned (.bool true) ∧ Below w'.heap.size w' w'') := Lib.hid (fun w' h => by
  have hh := ig n 1 A cp x w' (hA.below (DZ NR.out.be h))
  rw [p1] at hh
  exact hh)
 have Ry : Hid (∀ w', Below wr.heap.size wr w' → Calls Try.prog 75 #[.agg #[I n, I n, .slice (some ⟨b, off, none⟩) l.length cp']] w' fun e w'' => e = .returned (.bool true) ∧ Below w'.heap.size w' w'') := Lib.hid (fun w' h => by
  have hh := ig n n (some ⟨b, off, none⟩) cp' l w' (hA'.below (DZ NR.out.be h))
  rw [p2] at hh
  exact hh)
 have PI : Hid (∀ w', Below wr.heap.size wr w' → Calls Try.prog 77 #[.agg #[I n, I n, .slice (some ⟨b, off, none⟩) l.length cp']] w' fun e w'' => ∃ Q dq, e = .returned (.agg #[I n, I n, .slice Q l.length dq]) ∧ Own w'' w'.heap.size (.slice Q l.length dq) l ∧ Below w'.heap.size w' w'') := Lib.hid (fun w' h => by
  have hh := jF n n (some ⟨b, off, none⟩) cp' l w' h8 h8 b5 (hA'.below (DZ NR.out.be h))
  refine hh.mono ?_
  rintro e w'' ⟨v, rfl, ho, hb⟩
  rw [← et] at ho
  obtain ⟨Q, dq, rfl, _, _⟩ := Own.reads ho
  exact ⟨Q, dq, rfl, ho, hb⟩)
 have T40 : Hid (∀ w' Q dq, Below wr.heap.size wr w' → Rd w' Q l → l.length ≤ dq → Calls Try.prog 76 #[.agg #[I n, I n, .slice (some ⟨b, off, none⟩) l.length cp'], .agg #[I n, I n, .slice Q l.length dq]] w' fun e w'' => e = .returned (.bool true) ∧ Below w'.heap.size w' w'') := Lib.hid (fun w' Q dq h hq Yb => by
  have e1 := tN n n n n l l (by omega)
  rw [decide_eq_true ⟨rfl, rfl, rfl⟩] at e1
  obtain ⟨k, hk⟩ := e1.rounds
  exact eY.calls k n n (some ⟨b, off, none⟩) cp' l n n Q dq l _ w' (hA'.below (DZ NR.out.be h)) kA' hq Yb hk)
 have KK : Hid (∀ w', Below wr.heap.size wr w' → (∀ o, w'.cell? ⟨w.heap.size, o, none⟩ = #[I n, I 1, .slice A x.length cp, I n, I n, .slice (some ⟨b, off, none⟩) l.length cp'][o]?) ∧ True) := Lib.hid (fun w' h => ⟨(NR.out.r0.below h NR.out.r0.lt).cell, trivial⟩)
 have CL : Hid (∀ w' (k : Nat), Below wr.heap.size wr w' → k < n → w'.cell? ⟨b, off + (k * n + k), none⟩ = some (I (l.getD (k * n + k) 0)) ∧ 0 ≤ l.getD (k * n + k) 0) := Lib.hid (fun w' k h hk => by
  have hlt := jR hk hk
  have hb := (DZ NR.out.be h)
  refine ⟨?_, hd k hk (by omega)⟩
  have hc := hcells (k * n + k) _ (dZ (by omega))
  have := hb.cell (p := ⟨b, off + (k * n + k), none⟩) (by have := cell_lt hc; exact this)
  rw [this]
  exact hc)
 have LN : Hid (l.length = n * n ∧ n ≤ 8) := Lib.hid ⟨b5, h8⟩
 have BN := Lib.hid (Below.refl wr.heap.size wr)
 clear p1 p2 p6 a1 a2 a5 b5 h8 h1 n64 et hd hA kA hA' kA' hcells
 have HW := Lib.hid hwr
 clear hwr
 have x0 := N.out.r0.cell
 go_enter Try.func45, Try.ntmps45
 go_wp2_with fail
 change Code.wp Try.prog _ _ _ (w.alloc (.cells #[I n, I 1, .slice A x.length cp, I n, I n, .slice (some ⟨b, off, none⟩) l.length cp'] 33))
 rw [HW.out]
 clear HW N x0
 go_region_held3 (fun w' => (∀ o, w'.cell? ⟨w.heap.size, o, none⟩ = #[I n, I 1, .slice A x.length cp, I n, I n, .slice (some ⟨b, off, none⟩) l.length cp'][o]?) ∧ True)
  (first | with_reducible exact KK.out _ BN.out | with_reducible exact KK.out _ (bal BN.out _) | with_reducible exact KK.out _ (CV BN.out) | with_reducible exact KK.out _ (bal (CV BN.out) _) | with_reducible exact KK.out _ (CV (bal BN.out _)))
  (first
      | (go_at_call 76
         first
          | ((with_reducible refine (T40.out _ _ _ (BN.out) RQ.out DQ.out).mono ?_)
             rintro e w4 ⟨rfl, hb⟩
             have RQ := Lib.hid (Rd.below RQ.out hb)
             have BN := Lib.hid (DZ (BN.out) hb)
             have zw4 := BN.out.size
             clear hb))
      | (go_at_call 77
         first
          | ((with_reducible refine (PI.out _ (BN.out)).mono ?_)
             rintro e w3 ⟨Q, dq, rfl, ho, hb⟩
             have RQ := Lib.hid (Own.rd ho).1
             have DQ := Lib.hid (Own.rd ho).2
             have BN := Lib.hid (DZ (BN.out) hb)
             have zw3 := BN.out.size
             clear hb ho))
      | (go_at_call 75
         first
          | ((with_reducible refine (Ry.out _ (BN.out)).mono ?_)
             rintro e w2 ⟨rfl, hb⟩
             have BN := Lib.hid (DZ (BN.out) hb)
             have UC := BN.out.size
             clear hb))
      | (go_at_call 75
         first
          | ((with_reducible refine (T39.out _ (CV BN.out)).mono ?_)
             rintro e w1 ⟨rfl, hb⟩
             have BN := Lib.hid (DZ (CV BN.out) hb)
             have zw1 := BN.out.size
             clear hb)))
 have x0 := (KK.out _ BN.out).1
 have BE := Lib.hid (DZ NR.out.be BN.out)
 have CM := Lib.hid (fun k (h : k < n) => CL.out w4 k BN.out h)
 clear T39 Ry T40 PI KK CL NR BN RQ DQ zw1 UC zw3 zw4
 go_wp2_with fail
 go_loop [48] (fun u => ∃ k : Nat, k ≤ n ∧ u = .int .i64 k) (fun u => n - (intOf u).toNat)
 case atStart => exact ⟨0, Nat.zero_le _, rfl⟩
 case round =>
  obtain ⟨k, hk, rfl⟩ := hrel
  by_cases hlt : k < n
  · obtain ⟨c1, c2⟩ := CM.out k hlt
    have hln := LN.out
    have n64 := UF hln.2
    have hlk := jR hlt hlt
    obtain ⟨q, hq⟩ : ∃ q, l.getD (k * n + k) 0 = q := ⟨_, rfl⟩
    rw [hq] at c1 c2
    have e1 : decide (q < 0) = false := decide_eq_false (by omega)
    obtain ⟨p, hp⟩ : ∃ p : Nat, k * n = p := ⟨_, rfl⟩
    have hp2 : (k : Int) * (n : Int) = (p : Int) := by rw [← hp]; push_cast; rfl
    rw [hp] at c1 hlk
    have hw1 : IntKind.i64.wrap ((k : Int) * (n : Int)) = (p : Int) := by rw [hp2]; simp [IntKind.wrap, IntKind.bits, IntKind.signed]; omega
    have hw2 : IntKind.i64.wrap ((p : Int) + (k : Int)) = ((p + k : Nat) : Int) := by simp [IntKind.wrap, IntKind.bits, IntKind.signed]; omega
    obtain ⟨j, hj⟩ : ∃ j : Nat, p + k = j := ⟨_, rfl⟩
    rw [hj] at c1 hlk hw2
    have hj0 : (0 : Int) ≤ (j : Int) := by omega
    have hj1 : (j : Int) < l.length := by omega
    have hk8 : k + 1 ≤ 8 := by omega
    have HK : Hid (k + 1 ≤ n ∧ n ≤ 8) := Lib.hid ⟨by omega, by omega⟩
    clear hq hp hp2 hj hln n64 hlk c2 CM LN
    go_wp2
    go_round
    case rel => exact ⟨k + 1, HK.out.1, by go_num⟩
    case measure => simp [intOf]; omega
  · go_wp2
    go_ret
    exact ⟨rfl, BE.out⟩
end Go.Proofs.Ytnijhjbcjeohhaa.PR

namespace Go.Proofs.Ytnijhjbcjeohhaa.PR
open Go.RowKit Go.Proofs.Ytnijhjbcjeohhaa.PQ Go.Proofs.af.aF Go.Proofs.af.aP Go.Proofs.af.aQ Go.Proofs.Ytnijhjbcjeohhaa.KK
set_option linter.unusedVariables false
set_option linter.unusedSimpArgs false
theorem dn {l : List Int} (h : M_ l) : l.any lg = false := by
 rw [List.any_eq_false]
 intro a ha
 obtain ⟨j, hj, rfl⟩ := List.getElem_of_mem ha
 have := h j
 rw [List.getD_eq_getElem?_getD, List.getElem?_eq_getElem hj] at this
 simp at this
 unfold lg
 simp
 omega
theorem xe {r c : Nat} {l : List Int} (h1 : 1 ≤ r) (h2 : r ≤ 8) (h3 : 1 ≤ c) (h4 : c ≤ 8) (hl : l.length = r * c) (h : M_ l) : gK r c l = true := by
 have b1 : r * c ≤ 8 * 8 := Nat.mul_le_mul h2 h4
 have e : wrap64 ((r : Int) * (c : Int)) = ((r * c : Nat) : Int) := by
  have e : (r : Int) * (c : Int) = ((r * c : Nat) : Int) := by push_cast; rfl
  rw [e, Gm (by omega) (by omega)]
 unfold gK
 rw [dn h, e, hl]
 simp
 omega
end Go.Proofs.Ytnijhjbcjeohhaa.PR

namespace Go.Proofs.Ytnijhjbcjeohhaa.PR
open Go.RowKit Go.Proofs.Ytnijhjbcjeohhaa.PQ Go.Proofs.af.aF Go.Proofs.af.aP Go.Proofs.af.aQ Go.Proofs.Ytnijhjbcjeohhaa.KK
set_option linter.unusedVariables false
set_option linter.unusedSimpArgs false
theorem PZ {w : World} {B : Nat} {a b c d e f : Value} {fn : Func} {k i : Nat} {tmps : Array Value} (h : fn.results = #[.cell k 33, .tmp i]) (hk : tmps.getD k undef = .pointer (some ⟨B, 0, none⟩)) (R : Row w B 33 #[a, b, c, d, e, f]) :
 (results fn tmps).run Try.prog w = .ok (.tuple #[.agg #[a, b, c, d, e, f], tmps.getD i undef]) w := by
 have c := R.cell
 have hk' : tmps[k]?.getD undef = .pointer (some ⟨B, 0, none⟩) := by simpa using hk
 simp only [results, h]
 simp [go_sem, hk', c]
def newP (x v : List Int) : Prop := x.length = v.length ∧ 1 ≤ v.length ∧ v.length ≤ 8 ∧ M_ x ∧ M_ v ∧ ∀ j, 0 ≤ v.getD j 0
theorem zX (l : List Int) : dW l = fl (l.length * l.length) (fun j => if j / l.length = j % l.length then l.getD (j / l.length) 0 else 0) := by
 unfold dW
 rw [Dn]
theorem J4 (l : List Int) (h : M_ l) : M_ (dW l) := by
 rw [zX]
 refine MZ (fun m _ => ?_)
 split
 · exact h _
 · omega
theorem FD (l : List Int) (h : ∀ j, 0 ≤ l.getD j 0) : xw l.length (dW l) := by
 intro m hm
 rw [zX, ry hm, ry (Rf hm)]
 constructor
 · by_cases e : m / l.length = m % l.length
   · rw [if_pos e, if_pos ((Rh hm).2 e), D7 hm e]
   · rw [if_neg e, if_neg (fun h => e ((Rh hm).1 h))]
 · intro e
   rw [if_pos e]
   exact h _
theorem EM {x v : List Int} (h : newP x v) : gJ (v.length : Int) 1 x v.length v.length (dW v) := by
 obtain ⟨hl, h1, h8, hx, hv, h0⟩ := h
 refine ⟨xe (c := 1) h1 h8 (by omega) (by omega) (by omega) hx, xe h1 h8 h1 h8 (ji v) (J4 v hv), rfl, rfl, rfl, ?_⟩
 rw [Int.toNat_natCast]
 exact FD v h0
end Go.Proofs.Ytnijhjbcjeohhaa.PR

namespace Go.Proofs.Ytnijhjbcjeohhaa.PR
open Go.RowKit Go.Proofs.Ytnijhjbcjeohhaa.PQ Go.Proofs.af.aF Go.Proofs.af.aP Go.Proofs.af.aQ Go.Proofs.Ytnijhjbcjeohhaa.KK
set_option linter.unusedVariables false
set_option linter.unusedSimpArgs false
def iY (n : Nat) (lx lh : List Int) (z : Int) : Int := (jE z ((mulL 1 n 1 lh lx).getD 0 0)).1
def iS (n : Nat) (lp lh : List Int) (r : Int) : Int := (gu ((gm 1 n lh lp).getD 0 0) r).1
def iO (n : Nat) (lx lp lh : List Int) (z r : Int) : Bool := ((false || nR 1 n 1 lh lx || (jE z ((mulL 1 n 1 lh lx).getD 0 0)).2) || kR 1 n lh lp) || (gu ((gm 1 n lh lp).getD 0 0) r).2
theorem BR (n : Nat) (lx lp lh : List Int) (z r : Int) (h8 : n ≤ 8) (hx : lx.length = n * 1) (hp : lp.length = n * n) (hh : lh.length = 1 * n) :
 cu.f false n 1 lx n n lp 1 n lh z r = some (iY n lx lh z, iS n lp lh r, iO n lx lp lh z r) := by
 have e1 := vP (r := 1) (c1 := n) (c2 := 1) (l := lh) (m := lx) (by omega) h8 (by omega) hh hx
 have eo : ((1 : Nat) : Int) = 1 := rfl
 rw [eo] at e1
 unfold cu.f
 rw [e1]
 simp only [Option.bind_some]
 rw [if_pos (by rw [iQ]; omega)]
 have e2 := nX (false || nR 1 n 1 lh lx || (jE z ((mulL 1 n 1 lh lx).getD 0 0)).2) 1 n lh lp (by omega) h8 hh hp
 rw [eo] at e2
 rw [e2]
 simp only [Option.bind_some]
 rw [if_pos (by unfold gm; rw [iQ]; omega)]
 rfl
theorem GZ (n : Nat) (lx lp lh : List Int) (r : Int) (hr : 0 < r) : PQ.dw.f 1000 n 1 lx n n lp 1 n lh r = some 0 := by
 unfold PQ.dw.f
 rw [if_pos rfl, show (1000 : Nat) = 999 + 1 from rfl]
 unfold PQ.dw.j0
 simp
 omega
def VN (n : Nat) (lx lp lh : List Int) (z r gate : Int) (X P : List Int) (tk fl : Bool) : Prop :=
 if (gZ (iY n lx lh z) (iY n lx lh z)).1 > (gZ gate (iS n lp lh r)).1 ∨ iS n lp lh r ≤ 0 then
  X = lx ∧ P = lp ∧ tk = false ∧ fl = (iO n lx lp lh z r || (gZ (iY n lx lh z) (iY n lx lh z)).2 || (gZ gate (iS n lp lh r)).2)
 else X = tX n lx lp lh (iY n lx lh z) (iS n lp lh r) ∧ P = tP n lp lh (iS n lp lh r) r ∧ tk = true ∧ fl = tB n lx lp lh (iY n lx lh z) (iS n lp lh r) r (iO n lx lp lh z r || (gZ (iY n lx lh z) (iY n lx lh z)).2 || (gZ gate (iS n lp lh r)).2)
end Go.Proofs.Ytnijhjbcjeohhaa.PR

namespace Go.Proofs.Ytnijhjbcjeohhaa.PR
open Go.RowKit Go.Proofs.Ytnijhjbcjeohhaa.PQ Go.Proofs.af.aF Go.Proofs.af.aP Go.Proofs.af.aQ Go.Proofs.Ytnijhjbcjeohhaa.KK
set_option linter.unusedVariables false
set_option linter.unusedSimpArgs false
theorem GU (n : Nat) (A1 A2 : Option Addr) (c1 c2 : Nat) (x v : List Int) (w : World) (rx : Rd w A1 x) (rv : Rd w A2 v) (h : newP x v) (ex : x.length = n) (ev : v.length = n) :
 Calls Try.prog 36 #[.slice A1 n c1, .slice A2 n c2] w fun e w' => ∃ Ax dx Ap dp, e = .returned (.tuple #[.agg #[I n, I 1, .slice Ax n dx, I n, I n, .slice Ap (dW v).length dp], I 0]) ∧ Own w' w.heap.size (.slice Ax x.length dx) x ∧ n ≤ dx ∧ Own w' w.heap.size (.slice Ap (dW v).length dp) (dW v) ∧ (dW v).length ≤ dp ∧ Below w.heap.size w w' := by
 have N : Hid (aV w [(33, #[I 0, I 0, .slice none 0 0, I 0, I 0, .slice none 0 0])] (w.alloc (.cells #[I 0, I 0, .slice none 0 0, I 0, I 0, .slice none 0 0] 33))) := Lib.hid ((aV.none w).push (by simp) _ _)
 have HT : Hid (gJ (n : Int) 1 x n n (dW v)) := Lib.hid (by have := EM h; rwa [ev] at this)
 obtain ⟨hl, h1, h8, hx, hv, h0⟩ := h
 have EX := Lib.hid ex
 have HC : Hid (∀ w', Rd w' A1 x → Calls Try.prog 58 #[.slice A1 n c1] w' fun e w'' => ∃ C dc, e = .returned (.slice C n dc) ∧ n ≤ dc ∧ Own w'' w'.heap.size (.slice C x.length dc) x ∧ Below w'.heap.size w' w'') := Lib.hid (fun w' h => by
  have hh := z_ A1 c1 x w' h (by omega) (fun e => by
   obtain ⟨b, off, e2, _⟩ := Rd.cells h (by omega)
   rw [e] at e2
   cases e2)
  rw [ex] at hh
  refine hh.mono ?_
  rintro e w'' ⟨v', rfl, ho, hb⟩
  obtain ⟨C, dc, rfl, hc, _⟩ := Own.reads ho
  rw [ex] at hc
  exact ⟨C, dc, by rw [ex], hc, ho, hb⟩)
 have HD : Hid (∀ w', Rd w' A2 v → Calls Try.prog 57 #[.slice A2 n c2] w' fun e w'' => ∃ v', e = .returned (.tuple #[.agg #[I n, I n, v'], I 0]) ∧ Own w'' w'.heap.size v' (dW v) ∧ Below w'.heap.size w' w'') := Lib.hid (fun w' h => by
  have hh := sN A2 c2 v w' h h1 h8 (PR.dn hv)
  rw [ev] at hh
  exact hh)
 have RX := Lib.hid rx
 have RV := Lib.hid rv
 clear rx rv hl h1 h8 hx hv h0 ex ev
 go_enter Try.func36, Try.ntmps36
 go_wp2_with fail
 refine (HD.out _ (RV.out.below N.out.be)).mono ?_
 rintro e w1 ⟨v', rfl, ho, hb⟩
 obtain ⟨D, dd, rfl, _, _⟩ := Own.reads ho
 have N1 := Lib.hid ((N.out.below hb).alloc (.cells #[I n, I n, .slice D (dW v).length dd] 31))
 have PB := Lib.hid (Row.new w1 31 #[I n, I n, .slice D (dW v).length dd])
 have DO : Hid (Own (w1.alloc (.cells #[I n, I n, .slice D (dW v).length dd] 31)) (w.heap.size + 1) (.slice D (dW v).length dd) (dW v)) := Lib.hid (Own.lower (Own.alloc ho _) (by simp))
 have DC := Lib.hid (Own.rd ho).2
 clear ho hb N HD RV
 go_wp2_with fail
 rename_i K2 aK2
 generalize w1.alloc (.cells #[I n, I n, .slice D (dW v).length dd] 31) = wr at N1 PB DO ⊢
 generalize w1.heap.size = pb at PB ⊢
 have OI : Hid (∀ w', Below wr.heap.size wr w' → (∀ o, w'.cell? ⟨pb, o, none⟩ = #[I n, I n, .slice D (dW v).length dd][o]?) ∧ True) := Lib.hid (fun w' h => ⟨(PB.out.below h PB.out.lt).cell, trivial⟩)
 have VQ := Lib.hid (fun w' (h : Below wr.heap.size wr w') => HC.out w' (RX.out.below (DZ N1.out.be h)))
 have BN := Lib.hid (Below.refl wr.heap.size wr)
 clear HC RX
 have REST : Hid (∀ (tb : Nat) (w3 : World) (C : Option Addr) (dc : Nat), Below wr.heap.size wr w3 → Row w3 tb 33 #[I n, I 1, .slice C n dc, I n, I n, .slice D (dW v).length dd] → Own w3 (w.heap.size + 1) (.slice C x.length dc) x → n ≤ dc → wr.heap.size ≤ tb → K2 { tmps := #[Value.slice A1 n c1, Value.slice A2 n c2, undef, undef, Value.pointer (some ⟨w.heap.size, 0, none⟩), I 0, Value.pointer (some ⟨pb, 0, none⟩), I 0, Value.pointer (some ⟨tb, 0, none⟩), Value.tuple #[Value.agg #[I n, I n, Value.slice D (dW v).length dd], I 0], Value.slice A2 n c2, Value.tuple #[Value.agg #[I n, I n, Value.slice D (dW v).length dd], I 0], Value.agg #[I n, I n, Value.slice D (dW v).length dd], I 0, Value.slice A1 n c1, I n, Value.slice A1 n c1, Value.slice C n dc, Value.agg #[I n, I 1, Value.slice C n dc], Value.agg #[I n, I n, Value.slice D (dW v).length dd], Value.agg #[I n, I 1, Value.slice C n dc, I n, I n, Value.slice D (dW v).length dd], undef, undef, undef, undef, undef, undef, undef, undef, undef], defers := [] } w3) := Lib.hid (by
  intro tb w3 C dc hB hT hx kx htb
  refine aK2 _ _ ?_
  have N3 := Lib.hid (N1.out.below hB)
  have TB := Lib.hid hT
  have RC := Lib.hid hx
  have KC := Lib.hid kx
  have Zi := Lib.hid (DO.out.below hB)
  have ZB : Hid (w.heap.size + 1 ≤ wr.heap.size ∧ wr.heap.size ≤ tb) := Lib.hid ⟨by have h := N1.out.rows.le N1.out.be.size; simpa using h, htb⟩
  have T18 : Hid (Calls Try.prog 45 #[.agg #[I n, I 1, .slice C n dc, I n, I n, .slice D (dW v).length dd]] w3 fun e w' => e = .returned (.bool true) ∧ Below w3.heap.size w3 w') := Lib.hid (by
   have hh := qQ n C dc x D dd (dW v) w3 (Own.rd hx).1 (by rw [EX.out]; exact kx) (Own.rd Zi.out).1 DC.out HT.out
   rw [EX.out] at hh
   exact hh)
  clear hB hT hx kx htb VQ OI BN N1 PB DO aK2
  have xt := TB.out.cell
  go_wp2_with fail
  refine T18.out.mono ?_
  rintro e w4 ⟨rfl, hb⟩
  have N4 := Lib.hid (N3.out.below hb)
  have T4 := Lib.hid (TB.out.below hb TB.out.lt)
  have RC4 := Lib.hid (RC.out.below hb)
  have DO4 := Lib.hid (Zi.out.below hb)
  clear hb xt N3 TB RC Zi T18
  have xt := T4.out.cell
  have x0 := N4.out.r0.cell
  have g0 := N4.out.r0.free
  have zz := ZB.out
  have hne : tb ≠ w.heap.size := by omega
  have t0 := N4.out.r0.lt
  go_wp2
  refine bodyPost_ret (PZ rfl rfl (Row.dO N4.out.r0 _ _ _ _ _ _)) rfl ⟨_, _, _, _, rfl, ?_, KC.out, ?_, DC.out, ?_⟩
  · exact Own.lower (Own.dO RC4.out (by omega) _ _ _ _ _ _) (by omega)
  · exact Own.lower (Own.dO DO4.out (by omega) _ _ _ _ _ _) (by omega)
  · exact Below.dO N4.out.be (Nat.le_refl _) _ _ _ _ _ _)
 go_region_held3 (fun w' => (∀ o, w'.cell? ⟨pb, o, none⟩ = #[I n, I n, .slice D (dW v).length dd][o]?) ∧ True)
  (first | with_reducible exact OI.out _ BN.out | with_reducible exact OI.out _ (bal BN.out _) | with_reducible exact OI.out _ (CV BN.out) | with_reducible exact OI.out _ (bal (CV BN.out) _) | with_reducible exact OI.out _ (CV (bal BN.out _)) | ((with_reducible refine OI.out _ (Below.dO BN.out ?_ _ _ _ _ _ _)); first | omega | (simp; omega)))
  (first
      | (go_at_call 58
         first
          | ((with_reducible refine (VQ.out _ (CV BN.out)).mono ?_)
             rintro e w2 ⟨C, dc, rfl, hc, ho, hb⟩
             have OC := Lib.hid ho
             have LC := Lib.hid hc
             have BN := Lib.hid (DZ (CV BN.out) hb)
             have UC := BN.out.size
             clear hb ho hc)
          | ((with_reducible refine (VQ.out _ (bal (CV BN.out) _)).mono ?_)
             rintro e w2 ⟨C, dc, rfl, hc, ho, hb⟩
             have OC := Lib.hid ho
             have LC := Lib.hid hc
             have BN := Lib.hid (DZ (bal (CV BN.out) _) hb)
             have UC := BN.out.size
             have TB : Hid (Row w2 wr.heap.size 33 #[I 0, I 0, .slice none 0 0, I 0, I 0, .slice none 0 0]) := Lib.hid (Row.below (Row.new wr.drew 33 #[I 0, I 0, .slice none 0 0, I 0, I 0, .slice none 0 0]) hb (by simp))
             have zt := TB.out.lt
             have kc := TB.out.cell
             have kf := TB.out.free
             clear hb ho hc)
          | ((with_reducible refine (VQ.out _ (CV (bal BN.out _))).mono ?_)
             rintro e w2 ⟨C, dc, rfl, hc, ho, hb⟩
             have OC := Lib.hid ho
             have LC := Lib.hid hc
             have BN := Lib.hid (DZ (CV (bal BN.out _)) hb)
             have UC := BN.out.size
             have TB : Hid (Row w2 wr.heap.size 33 #[I 0, I 0, .slice none 0 0, I 0, I 0, .slice none 0 0]) := Lib.hid (Row.below (Row.drew (Row.new wr 33 #[I 0, I 0, .slice none 0 0, I 0, I 0, .slice none 0 0])) hb (by simp))
             have zt := TB.out.lt
             have kc := TB.out.cell
             have kf := TB.out.free
             clear hb ho hc)))
 all_goals
  show K2 _ _
  first
   | ((with_reducible refine REST.out _ _ _ _ (bal BN.out _) (Row.new _ _ _) (Own.lower (OC.out.alloc _) ?_) LC.out (by omega)); have h := N1.out.rows.le N1.out.be.size; simp at h; first | omega | (simp; omega))
   | ((with_reducible refine REST.out _ _ _ _ (Below.dO BN.out ?_ _ _ _ _ _ _) (Row.dO TB.out _ _ _ _ _ _) (Own.lower (Own.dO OC.out ?_ _ _ _ _ _ _) ?_) LC.out ?_)
      all_goals have h := N1.out.rows.le N1.out.be.size
      all_goals simp at h
      all_goals first | omega | (simp; done) | (simp; omega))
theorem BO (A1 A2 : Option Addr) (c1 c2 : Nat) (x v : List Int) (w : World) (rx : Rd w A1 x) (cx : x.length ≤ c1) (rv : Rd w A2 v) (cv : v.length ≤ c2) (h : newP x v) :
 Calls Try.prog 36 #[.slice A1 x.length c1, .slice A2 v.length c2] w fun e w' => ∃ Ax dx Ap dp, e = .returned (.tuple #[.agg #[I x.length, I 1, .slice Ax x.length dx, I v.length, I v.length, .slice Ap (dW v).length dp], I 0]) ∧ Own w' w.heap.size (.slice Ax x.length dx) x ∧ x.length ≤ dx ∧ Own w' w.heap.size (.slice Ap (dW v).length dp) (dW v) ∧ (dW v).length ≤ dp ∧ Below w.heap.size w w' := by
 have hh := GU v.length A1 A2 c1 c2 x v w rx rv h h.1 rfl
 rw [h.1] at hh ⊢
 exact hh
end Go.Proofs.Ytnijhjbcjeohhaa.PR

namespace Go.Proofs.Ytnijhjbcjeohhaa.KK
open Go.ChangeShapes Go.WideShapes Go.ChangeAt Go.RowKit Go.Deep Go.Proofs.af.aF
set_option linter.unusedVariables false
set_option linter.unusedSimpArgs false
theorem k2 : Try.prog.cellsOf 2 = 1 := by kernel_rfl
theorem k3 : Try.prog.cellsOf 3 = 1 := by kernel_rfl
theorem laidOut : laidOutB Try.prog = true := by kernel_rfl
theorem uf {α : Type} {P : Nat → α → Prop} : ∀ {n : Nat}, (∀ i, i < n → ∃ o, P i o) → ∃ l : List α, l.length = n ∧ ∀ i o, l[i]? = some o → P i o
 | 0, _ => ⟨[], rfl, fun i o h => by simp at h⟩
 | n + 1, h => by
   obtain ⟨l, hl, hk⟩ := uf (P := P) (n := n) fun i hi => h i (by omega)
   obtain ⟨o, ho⟩ := h n (by omega)
   refine ⟨l ++ [o], by simp [hl], fun i x hx => ?_⟩
   rw [List.getElem?_append] at hx
   split at hx
   · exact hk i x hx
   · have : i - l.length = 0 := by
      rcases Nat.eq_zero_or_pos (i - l.length) with h | h
      · exact h
      · rw [List.getElem?_eq_none (by simp; omega)] at hx; cases hx
     rw [this] at hx
     simp at hx
     subst hx
     have : i = n := by omega
     subst this
     exact ho
end Go.Proofs.Ytnijhjbcjeohhaa.KK

