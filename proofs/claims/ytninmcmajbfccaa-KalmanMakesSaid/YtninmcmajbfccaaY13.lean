import Derived.Test.YtninmcmajbfccaaY11
import Derived.Test.YtninmcmajbfccaaY12
import Derived.Test.YtninmcmajbfccaaY10
import Derived.Test.YtninmcmajbfccaaRows
import Derived.Test.YtninmcmajbfccaaY4
import Derived.ProofKit
import Derived.OpenShut
import Derived.ShutString
import Derived.ChangeOld
import Derived.ChangeSame
import Derived.SizedLaws
import Derived.Laws.IdiomArrays
import Derived.Deep.Slices
import Derived.Carry
/- Joined and thinned by a program of this session's own (wip/pack2.py) out of its texts (wip/ of its repo); parts were laid by its own program (wip/print-patch.py over the kit's print) out of the translation; Lean checks all. -/
set_option maxRecDepth 100000
set_option maxHeartbeats 20000000
namespace Go.Proofs.Ytninmcmajbfccaa.PR
open Go.RowKit Go.Proofs.Ytninmcmajbfccaa.PQ Go.Proofs.aH.bK Go.Proofs.aH.dG Go.Proofs.aH.dJ Go.Proofs.Ytninmcmajbfccaa.KK
set_option linter.unusedVariables false
set_option linter.unusedSimpArgs false
abbrev ajy : Type := Int × Int × List Int × Int × Int × List Int × Int
def QW : ajy := (0, 0, [], 0, 0, [], 1)
theorem Y6 {a : Int} (h : jV a = false) : -70368744177664 ≤ a ∧ a ≤ 70368744177663 := by unfold jV at h; simp at h; omega
theorem Tj {a : Int} (h0 : -70368744177664 ≤ a) (h1 : a ≤ 70368744177663) : jV a = false := by unfold jV; simp; omega
theorem ZF {l : List Int} (h : ∀ j, j < l.length → jV (l.getD j 0) = false) : Jg l := fun j => by
 by_cases hj : j < l.length
 · exact Y6 (h j hj)
 · rw [List.getD_eq_getElem?_getD, List.getElem?_eq_none (by omega)]
   simp
theorem MV {x v : List Int} (h1 : 1 ≤ v.length) (h8 : v.length ≤ 8) (hv : Jg v) (h : sH (x.length : Int) 1 x v.length v.length (jf v)) : newP x v := by
 obtain ⟨p1, p2, _, q1, q2, p6⟩ := h
 obtain ⟨a1, a2, a3, a4, a5, a6⟩ := mW p1
 have hl : x.length = v.length := by omega
 refine ⟨hl, h1, h8, Jf a6, hv, fun j => ?_⟩
 by_cases hj : j < v.length
 · rw [Int.toNat_natCast, hl] at p6
   have hm : j * v.length + j < v.length * v.length := kH hj hj
   have := (p6 (j * v.length + j) hm).2 (by rw [dv hj, md hj])
   rw [Bz, pY hm, dv hj, md hj, if_pos rfl] at this
   exact this
 · rw [List.getD_eq_getElem?_getD, List.getElem?_eq_none (by omega)]
   simp
theorem KI (x v : List Int) (h : newP x v) : Ev (fun k => gZ.f k x v) ((x.length : Int), 1, x, (v.length : Int), (v.length : Int), jf v, 0) := by
 have ht := Hy h
 obtain ⟨hl, h1, h8, hx, hv, h0⟩ := h
 rw [← hl] at ht
 unfold gZ.f o8.f lJ.f
 rw [if_neg (by rw [aN hv]; rintro (h | h | h) <;> first | omega | cases h), if_pos (by omega)]
 simp only [Option.bind_some, if_true]
 have e := w_ x.length 1 x v.length v.length (jf v)
 rw [← hl, decide_eq_true ht] at e
 rw [← hl]
 refine Ev.bind e ?_
 simp only [if_true]
 exact Ev.now _
theorem NQ (x v : List Int) (hx : x.length ≤ 1000000) (h : ¬ newP x v) : Ev (fun k => gZ.f k x v) QW := by
 unfold gZ.f o8.f lJ.f
 by_cases hd : v.length < 1 ∨ v.length > 8 ∨ v.any jV = true
 · rw [if_pos hd, if_pos hx]
   simp only [Option.bind_some, show ¬ ((1 : Int) = 0) by decide, if_false]
   exact Ev.now _
 · rw [if_neg hd, if_pos hx]
   simp only [Option.bind_some, if_true]
   have e := w_ x.length 1 x v.length v.length (jf v)
   rw [decide_eq_false (fun ht => h (MV (by omega) (by omega) (Jf (by simpa using fun hh => hd (.inr (.inr hh)))) ht))] at e
   refine Ev.bind e ?_
   simp only [Bool.false_eq_true, if_false]
   exact Ev.now _
def Un (l : List Int) (i m : Nat) : Int := if m / l.length = m % l.length ∧ m / l.length < i then l.getD (m / l.length) 0 else 0
theorem Um {l : List Int} {i m : Nat} (hi : i < l.length) (hm : m < l.length * l.length) : Un l (i + 1) m = if m = i * l.length + i then l.getD i 0 else Un l i m := by
 unfold Un
 by_cases e : m = i * l.length + i
 · rw [if_pos e, e, dv hi, md hi, if_pos ⟨rfl, by omega⟩]
 · rw [if_neg e]
   by_cases e2 : m / l.length = m % l.length ∧ m / l.length < i
   · rw [if_pos ⟨e2.1, by omega⟩, if_pos e2]
   · rw [if_neg e2, if_neg]
     rintro ⟨h1, h2⟩
     have h3 : m / l.length = i := by
      rcases Nat.lt_or_ge (m / l.length) i with h | h
      · exact absurd ⟨h1, h⟩ e2
      · omega
     have h4 := dm m l.length
     rw [← h1, h3] at h4
     exact e h4.symm
theorem Qk (k : Nat) (l c : List Int) (n i : Nat) (hi : i < n) (hn : l.length = n) (h8 : n ≤ 8) (hc : c.length = n * n) (ho : jV (l.getD i 0) = false) :
 bz.l0 (k + 1) l n i n n c = bz.l0 k l n ((i + 1 : Nat) : Int) n n (c.set (i * n + i) (l.getD i 0)) := by
 have hin : fC.f (l.getD i 0) = some true := by rw [Cj, ho]; rfl
 have hlt := kH hi hi
 have e1 := rC h8 hi hi
 have e2 : wrap64 ((i : Int) + 1) = ((i + 1 : Nat) : Int) := wu (by omega)
 have e3 : rd l (i : Int) = l.getD i 0 := l7
 have c1 : (i : Int) < (n : Int) := by omega
 have c2 : (0 : Int) ≤ (i : Int) := by omega
 have c3 : (i : Int) < (l.length : Int) := by omega
 have c4 : (0 : Int) ≤ ((i * n + i : Nat) : Int) := by omega
 have c5 : ((i * n + i : Nat) : Int) < (c.length : Int) := by rw [hc]; exact_mod_cast hlt
 rw [bz.l0, if_pos c1, if_pos c2, if_pos c3, e3, hin, Option.bind_some, if_pos rfl, e1, if_pos c4, if_pos c5, e2, Int.toNat_natCast]
theorem Uk (k : Nat) (l c : List Int) (n i : Nat) (hi : i < n) (hn : l.length = n) (ho : jV (l.getD i 0) = true) :
 bz.l0 (k + 1) l n i n n c = some (0, 0, [], 1) := by
 have hin : fC.f (l.getD i 0) = some false := by rw [Cj, ho]; rfl
 have e3 : rd l (i : Int) = l.getD i 0 := l7
 have c1 : (i : Int) < (n : Int) := by omega
 have c2 : (0 : Int) ≤ (i : Int) := by omega
 have c3 : (i : Int) < (l.length : Int) := by omega
 rw [bz.l0, if_pos c1, if_pos c2, if_pos c3, e3, hin, Option.bind_some, if_neg (by decide)]
theorem Zw (k : Nat) (l c : List Int) (n : Nat) : bz.l0 (k + 1) l n n n n c = some ((n : Int), (n : Int), c, (0 : Int)) := by
 rw [bz.l0, if_neg (Int.lt_irrefl _)]
theorem RD (l : List Int) (n : Nat) (hn : l.length = n) (h8 : n ≤ 8) : ∀ (d i : Nat), i + d = n → (∀ j, i ≤ j → j < n → jV (l.getD j 0) = false) →
 Ev (fun k => bz.l0 k l n i n n (fl (n * n) (Un l i))) ((n : Int), (n : Int), fl (n * n) (Un l n), (0 : Int)) := by
 intro d
 induction d with
 | zero =>
   intro i hd hg
   obtain rfl : i = n := by omega
   exact Ev.step (fun k => Zw k l _ i) (Ev.now _)
 | succ d ih =>
   intro i hd hg
   have hi : i < n := by omega
   have hlt := kH hi hi
   have h := ih (i + 1) (by omega) (fun j h1 h2 => hg j (by omega) h2)
   have e : (fl (n * n) (Un l i)).set (i * n + i) (l.getD i 0) = fl (n * n) (Un l (i + 1)) := by
    rw [JF hlt]
    exact lF (fun m hm => (by subst hn; exact (Um hi hm).symm))
   rw [← e] at h
   exact Ev.step (fun k => Qk k l _ n i hi hn h8 jA (hg i (Nat.le_refl _) hi)) h
theorem Hf (l : List Int) (n : Nat) (hn : l.length = n) (h8 : n ≤ 8) (b : Nat) (hb : b < n) (ho : jV (l.getD b 0) = true) : ∀ (d i : Nat), i + d = b → ∀ (c : List Int), c.length = n * n →
 Ev (fun k => bz.l0 k l n i n n c) ((0 : Int), (0 : Int), ([] : List Int), (1 : Int)) := by
 intro d
 induction d with
 | zero =>
   intro i hd c hc
   obtain rfl : i = b := by omega
   exact Ev.step (fun k => Uk k l c n i hb hn ho) (Ev.now _)
 | succ d ih =>
   intro i hd c hc
   have hi : i < n := by omega
   cases hoi : jV (l.getD i 0) with
   | true => exact Ev.step (fun k => Uk k l c n i hi hn hoi) (Ev.now _)
   | false => exact Ev.step (fun k => Qk k l c n i hi hn h8 hc hoi) (ih (i + 1) (by omega) _ (by simpa using hc))
theorem XC (l : List Int) : fl (l.length * l.length) (Un l l.length) = jf l := by
 rw [Bz]
 refine lF (fun m hm => ?_)
 unfold Un
 by_cases e : m / l.length = m % l.length
 · rw [if_pos ⟨e, div_lt hm⟩, if_pos e]
 · rw [if_neg (fun h => e h.1), if_neg e]
theorem Fg (n : Nat) (h8 : n ≤ 8) : Ev (fun k => dV.f k n n) ((n : Int), (n : Int), fl (n * n) (fun _ => 0)) := by
 have n64 := Vd h8
 have e : (n : Int) * (n : Int) = ((n * n : Nat) : Int) := by push_cast; rfl
 exact OU n n (n * n) (by omega) (by rw [e, zZ (by omega) (by omega)])
theorem Ql (k : Nat) (v : List Int) (n : Int) : bz.j0 (k + 1) v n true = some (0, 0, [], 1) := rfl
theorem LH (k : Nat) (v : List Int) (n : Int) : bz.j0 (k + 1) v n false = (dV.f k n n).bind fun bt => bz.l0 k v n 0 bt.1 bt.2.1 bt.2.2 := rfl
theorem JK (v : List Int) (h : v.length < 1 ∨ v.length > 8 ∨ v.any jV = true) : Ev (fun k => bz.f k v) ((0 : Int), (0 : Int), ([] : List Int), (1 : Int)) := by
 unfold bz.f
 by_cases h1 : v.length < 1
 · simp only [show ((v.length : Int) < 1) by omega, if_true]
   exact Ev.step (fun k => Ql k v _) (Ev.now _)
 · simp only [show ¬ ((v.length : Int) < 1) by omega, if_false]
   by_cases h8 : v.length > 8
   · simp only [show decide ((v.length : Int) > 8) = true from decide_eq_true (by omega)]
     exact Ev.step (fun k => Ql k v _) (Ev.now _)
   · simp only [show decide ((v.length : Int) > 8) = false from decide_eq_false (by omega)]
     have ha : v.any jV = true := by
      rcases h with h | h | h
      · exact absurd h h1
      · exact absurd h h8
      · exact h
     obtain ⟨a, ha1, ha2⟩ := List.any_eq_true.1 ha
     obtain ⟨b, hb, rfl⟩ := List.getElem_of_mem ha1
     refine Ev.step (fun k => LH k v _) (Ev.bind (Fg v.length (by omega)) ?_)
     exact Hf v v.length rfl (by omega) b hb (by rw [List.getD_eq_getElem?_getD, List.getElem?_eq_getElem hb]; exact ha2) b 0 (by omega) _ jA
theorem zV (v : List Int) (h1 : 1 ≤ v.length) (h8 : v.length ≤ 8) (hr : Jg v) : Ev (fun k => bz.f k v) ((v.length : Int), (v.length : Int), jf v, (0 : Int)) := by
 unfold bz.f
 simp only [show ¬ ((v.length : Int) < 1) by omega, if_false, show decide ((v.length : Int) > 8) = false from decide_eq_false (by omega)]
 refine Ev.step (fun k => LH k v _) (Ev.bind (Fg v.length (by omega)) ?_)
 have h0 : fl (v.length * v.length) (fun _ => (0 : Int)) = fl (v.length * v.length) (Un v 0) := lF (fun m _ => by unfold Un; rw [if_neg (by omega)])
 have hl := RD v v.length rfl (by omega) v.length 0 (by omega) (fun j _ _ => Tj (hr j).1 (hr j).2)
 rw [← h0, XC] at hl
 exact hl
theorem OV (k : Nat) (x v D : List Int) (n : Int) (i : Nat) (hi : i < x.length) (hl : x.length = v.length) (hx : x.length ≤ 1000000) (h1 : jV (x.getD i 0) = false) (h2 : ¬ v.getD i 0 < 0) :
 bG.l0 (k + 1) x v i n n D = bG.l0 k x v ((i + 1 : Nat) : Int) n n D := by
 have hin : fC.f (x.getD i 0) = some true := by rw [Cj, h1]; rfl
 have e2 : wrap64 ((i : Int) + 1) = ((i + 1 : Nat) : Int) := wu (by omega)
 have e3 : rd x (i : Int) = x.getD i 0 := l7
 have e4 : rd v (i : Int) = v.getD i 0 := l7
 have c1 : (i : Int) < (x.length : Int) := by omega
 have c2 : (0 : Int) ≤ (i : Int) := by omega
 have c3 : (i : Int) < (v.length : Int) := by omega
 rw [bG.l0, if_pos c1, if_pos c2, e3, hin, Option.bind_some, if_pos rfl, if_pos c3, e4, if_neg h2, e2]
theorem Tm (k : Nat) (x v D : List Int) (n : Int) (i : Nat) (hi : i < x.length) (h1 : jV (x.getD i 0) = true) : bG.l0 (k + 1) x v i n n D = some QW := by
 have hin : fC.f (x.getD i 0) = some false := by rw [Cj, h1]; rfl
 have e3 : rd x (i : Int) = x.getD i 0 := l7
 have c1 : (i : Int) < (x.length : Int) := by omega
 have c2 : (0 : Int) ≤ (i : Int) := by omega
 rw [bG.l0, if_pos c1, if_pos c2, e3, hin, Option.bind_some, if_neg (by decide)]
 rfl
theorem Tn (k : Nat) (x v D : List Int) (n : Int) (i : Nat) (hi : i < x.length) (hl : x.length = v.length) (h1 : jV (x.getD i 0) = false) (h2 : v.getD i 0 < 0) : bG.l0 (k + 1) x v i n n D = some QW := by
 have hin : fC.f (x.getD i 0) = some true := by rw [Cj, h1]; rfl
 have e3 : rd x (i : Int) = x.getD i 0 := l7
 have e4 : rd v (i : Int) = v.getD i 0 := l7
 have c1 : (i : Int) < (x.length : Int) := by omega
 have c2 : (0 : Int) ≤ (i : Int) := by omega
 have c3 : (i : Int) < (v.length : Int) := by omega
 rw [bG.l0, if_pos c1, if_pos c2, e3, hin, Option.bind_some, if_pos rfl, if_pos c3, e4, if_pos h2]
 rfl
theorem Y8 (k : Nat) (x v D : List Int) (n : Int) (hx : x.length ≤ 1000000) : bG.l0 (k + 1) x v (x.length : Int) n n D = some ((x.length : Int), (1 : Int), x, n, n, D, (0 : Int)) := by
 have c : ([] : List Int).length + x.length < 17592186044416 := by rw [List.length_nil]; omega
 rw [bG.l0, if_neg (Int.lt_irrefl _), Option.bind_some, if_pos c, List.nil_append]
theorem Tq (x v D : List Int) (n : Int) (hl : x.length = v.length) (hx : x.length ≤ 1000000) : ∀ (d i : Nat), i + d = x.length → (∀ j, i ≤ j → j < x.length → jV (x.getD j 0) = false ∧ 0 ≤ v.getD j 0) →
 Ev (fun k => bG.l0 k x v i n n D) ((x.length : Int), (1 : Int), x, n, n, D, (0 : Int)) := by
 intro d
 induction d with
 | zero =>
   intro i hd hg
   obtain rfl : i = x.length := by omega
   exact Ev.step (fun k => Y8 k x v D n hx) (Ev.now _)
 | succ d ih =>
   intro i hd hg
   obtain ⟨g1, g2⟩ := hg i (Nat.le_refl _) (by omega)
   exact Ev.step (fun k => OV k x v D n i (by omega) hl hx g1 (by omega)) (ih (i + 1) (by omega) (fun j h1 h2 => hg j (by omega) h2))
theorem Je (x v D : List Int) (n : Int) (hl : x.length = v.length) (hx : x.length ≤ 1000000) (b : Nat) (hb : b < x.length) (ho : jV (x.getD b 0) = true ∨ v.getD b 0 < 0) : ∀ (d i : Nat), i + d = b →
 Ev (fun k => bG.l0 k x v i n n D) QW := by
 intro d
 induction d with
 | zero =>
   intro i hd
   obtain rfl : i = b := by omega
   cases h1 : jV (x.getD i 0) with
   | true => exact Ev.step (fun k => Tm k x v D n i hb h1) (Ev.now _)
   | false => exact Ev.step (fun k => Tn k x v D n i hb hl h1 (ho.resolve_left (by rw [h1]; decide))) (Ev.now _)
 | succ d ih =>
   intro i hd
   cases h1 : jV (x.getD i 0) with
   | true => exact Ev.step (fun k => Tm k x v D n i (by omega) h1) (Ev.now _)
   | false =>
     by_cases h2 : v.getD i 0 < 0
     · exact Ev.step (fun k => Tn k x v D n i (by omega) hl h1 h2) (Ev.now _)
     · exact Ev.step (fun k => OV k x v D n i (by omega) hl hx h1 h2) (ih (i + 1) (by omega))
theorem OW (k : Nat) (x v : List Int) (a b : Int) (D : List Int) : bG.j0 (k + 1) x v true a b D = some QW := rfl
theorem KG (k : Nat) (x v : List Int) (a b : Int) (D : List Int) : bG.j0 (k + 1) x v false a b D = bG.l0 k x v 0 a b D := rfl
theorem Vk (x v : List Int) (hx : x.length ≤ 1000000) (h : newP x v) : Ev (fun k => bG.f k x v) ((x.length : Int), (1 : Int), x, (v.length : Int), (v.length : Int), jf v, (0 : Int)) := by
 obtain ⟨hl, h1, h8, ix, iv, h0⟩ := h
 unfold bG.f
 refine Ev.bind (zV v h1 h8 iv) ?_
 simp only [if_true, show ((x.length : Int) != (v.length : Int)) = false by rw [hl]; simp]
 refine Ev.step (fun k => KG k x v _ _ _) ?_
 exact Tq x v (jf v) v.length hl hx x.length 0 (by omega) (fun j _ _ => ⟨Tj (ix j).1 (ix j).2, h0 j⟩)
theorem KH (x v : List Int) (hx : x.length ≤ 1000000) (h : ¬ newP x v) : Ev (fun k => bG.f k x v) QW := by
 unfold bG.f
 by_cases hd : v.length < 1 ∨ v.length > 8 ∨ v.any jV = true
 · refine Ev.bind (JK v hd) ?_
   simp only [show ¬ ((1 : Int) = 0) by decide, if_false]
   exact Ev.step (fun k => OW k x v _ _ _) (Ev.now _)
 · have iv : Jg v := Jf (by simpa using fun hh => hd (.inr (.inr hh)))
   refine Ev.bind (zV v (by omega) (by omega) iv) ?_
   simp only [if_true]
   by_cases hl : x.length = v.length
   · simp only [show ((x.length : Int) != (v.length : Int)) = false by rw [hl]; simp]
     refine Ev.step (fun k => KG k x v _ _ _) ?_
     have hb : ∃ b, b < x.length ∧ (jV (x.getD b 0) = true ∨ v.getD b 0 < 0) := Classical.byContradiction fun hn => h ⟨hl, by omega, by omega, ZF (fun j hj => by
      cases ho : jV (x.getD j 0) with
      | true => exact absurd ⟨j, hj, .inl ho⟩ hn
      | false => rfl), iv, fun j => by
      by_cases hj : j < v.length
      · rcases Int.lt_or_le (v.getD j 0) 0 with hlt | hle
        · exact absurd ⟨j, by omega, .inr hlt⟩ hn
        · exact hle
      · rw [List.getD_eq_getElem?_getD, List.getElem?_eq_none (by omega)]
        simp⟩
     obtain ⟨b, hb1, hb2⟩ := hb
     exact Je x v (jf v) v.length hl hx b hb1 hb2 b 0 (by omega)
   · simp only [show ((x.length : Int) != (v.length : Int)) = true by simp; omega]
     exact Ev.step (fun k => OW k x v _ _ _) (Ev.now _)
end Go.Proofs.Ytninmcmajbfccaa.PR

namespace Go.Proofs.Ytninmcmajbfccaa.PR
open Go.RowKit Go.Proofs.Ytninmcmajbfccaa.PQ Go.Proofs.aH.bK Go.Proofs.aH.dG Go.Proofs.aH.dJ Go.Proofs.Ytninmcmajbfccaa.KK
set_option linter.unusedVariables false
set_option linter.unusedSimpArgs false
theorem Fe (r c : Int) (A1 : Option Addr) (c1 : Nat) (x : List Int) (r' c' : Int) (A2 : Option Addr) (c2 : Nat) (l : List Int) (w : World) (h1 : Rd w A1 x) (d1 : x.length ≤ c1) (h2 : Rd w A2 l) (d2 : l.length ≤ c2) :
 Calls Try.prog 18 #[.agg #[I r, I c, .slice A1 x.length c1, I r', I c', .slice A2 l.length c2]] w fun e w' => e = .returned (.bool (decide (sH r c x r' c' l))) ∧ Below w.heap.size w w' := by
 obtain ⟨k, hk⟩ := (w_ r c x r' c' l).rounds
 exact bu.calls k r c A1 c1 x r' c' A2 c2 l _ w h1 d1 h2 d2 hk
end Go.Proofs.Ytninmcmajbfccaa.PR

namespace Go.Proofs.Ytninmcmajbfccaa.PR
open Go.RowKit Go.Proofs.Ytninmcmajbfccaa.PQ Go.Proofs.aH.bK Go.Proofs.aH.dG Go.Proofs.aH.dJ Go.Proofs.Ytninmcmajbfccaa.KK
set_option linter.unusedVariables false
set_option linter.unusedSimpArgs false
def Ku (r c r2 c2 r' c' r2' c2' : Int) (x l x' l' : List Int) : Bool := decide ((r = r' ∧ c = c' ∧ x = x') ∧ (r2 = r2' ∧ c2 = c2' ∧ l = l'))
theorem KD (r c r2 c2 r' c' r2' c2' : Int) (x l x' l' : List Int) (hx : x.length ≤ 1000000) (hl : l.length ≤ 1000000) :
 Ev (fun k => rW.f k r c x r2 c2 l r' c' x' r2' c2' l') (Ku r c r2 c2 r' c' r2' c2' x l x' l') := by
 unfold rW.f Ku
 by_cases h1 : r = r' ∧ c = c' ∧ x = x'
 · have e1 := rV r c r' c' x x' hx
   rw [decide_eq_true h1] at e1
   refine Ev.bind e1 ?_
   simp only [if_true]
   have e2 := rV r2 c2 r2' c2' l l' hl
   refine Ev.bind e2 ?_
   have e : decide ((r = r' ∧ c = c' ∧ x = x') ∧ (r2 = r2' ∧ c2 = c2' ∧ l = l')) = decide (r2 = r2' ∧ c2 = c2' ∧ l = l') := by simp [h1]
   rw [e]
   exact Ev.now _
 · have e1 := rV r c r' c' x x' hx
   rw [decide_eq_false h1] at e1
   refine Ev.bind e1 ?_
   rw [decide_eq_false (fun h => h1 h.1)]
   exact Ev.now _
theorem QV (x v : List Int) (hx : x.length ≤ 20) : ∃ (r1 r2 : Int) (R3 : List Int) (r4 r5 : Int) (R6 : List Int) (r7 : Int), Ev (fun k => gZ.f k x v) (r1, r2, R3, r4, r5, R6, r7) ∧ Ev (fun k => bG.f k x v) (r1, r2, R3, r4, r5, R6, r7) ∧ R3.length ≤ 1000000 ∧ R6.length ≤ 1000000 := by
 by_cases h : newP x v
 · refine ⟨_, _, _, _, _, _, _, KI x v h, Vk x v (by omega) h, by omega, ?_⟩
   rw [xB]
   have := Vd h.2.2.1
   omega
 · exact ⟨_, _, _, _, _, _, _, NQ x v (by omega) h, KH x v (by omega) h, by simp, by simp⟩
theorem NS (Ax : Option Addr) (cx : Nat) (lx : List Int) (Av : Option Addr) (cv : Nat) (lv : List Int) (r c : Int) (A : Option Addr) (cp : Nat) (l : List Int) (r' c' : Int) (A' : Option Addr) (cp' : Nat) (l' : List Int) (ur uc : Int) (B : Option Addr) (up : Nat) (u : List Int) (ur' BU : Int) (B' : Option Addr) (up' : Nat) (u' : List Int) (w : World)
 (hX : Rd w Ax lx) (kX : lx.length ≤ cx) (hV : Rd w Av lv) (kV : lv.length ≤ cv) (hA : Rd w A l) (kA : l.length ≤ cp) (hA' : Rd w A' l') (kA' : l'.length ≤ cp') (hB : Rd w B u) (kB : u.length ≤ up) (hB' : Rd w B' u') (kB' : u'.length ≤ up')
 (z1 : lx.length ≤ 100000000000000) (z2 : lv.length ≤ 100000000000000) (z3 : l.length ≤ 100000000000000) (z4 : l'.length ≤ 100000000000000) (z5 : u.length ≤ 100000000000000) (z6 : u'.length ≤ 100000000000000) :
 Calls Try.prog 6 #[.agg #[.slice Ax lx.length cx, .slice Av lv.length cv, I r, I c, .slice A l.length cp, I r', I c', .slice A' l'.length cp', I ur, I uc, .slice B u.length up, I ur', I BU, .slice B' u'.length up']] w fun e w' => e = .returned (.bool true) ∧ Below w.heap.size w w' := by
 have N : Hid (fF w [(45, #[.slice Ax lx.length cx, .slice Av lv.length cv, I r, I c, .slice A l.length cp, I r', I c', .slice A' l'.length cp', I ur, I uc, .slice B u.length up, I ur', I BU, .slice B' u'.length up']), (28, #[I r, I c, .slice A l.length cp, I r', I c', .slice A' l'.length cp']), (28, #[I ur, I uc, .slice B u.length up, I ur', I BU, .slice B' u'.length up'])] (((w.alloc (.cells #[.slice Ax lx.length cx, .slice Av lv.length cv, I r, I c, .slice A l.length cp, I r', I c', .slice A' l'.length cp', I ur, I uc, .slice B u.length up, I ur', I BU, .slice B' u'.length up'] 45)).alloc (.cells #[I r, I c, .slice A l.length cp, I r', I c', .slice A' l'.length cp'] 28)).alloc (.cells #[I ur, I uc, .slice B u.length up, I ur', I BU, .slice B' u'.length up'] 28))) := Lib.hid ((((fF.none w).push (by simp) _ _).push (by simp) _ _).push (by simp) _ _)
 have HX := Lib.hid (And.intro hX kX)
 have HV := Lib.hid (And.intro hV kV)
 have HA := Lib.hid (And.intro hA kA)
 have HA' := Lib.hid (And.intro hA' kA')
 have HB := Lib.hid (And.intro hB kB)
 have HB' := Lib.hid (And.intro hB' kB')
 clear hX kX hV kV hA kA hA' kA' hB kB hB' kB'
 by_cases g1 : lx.length + lv.length > 20
 · have e1 : decide ((lx.length : Int) + (lv.length : Int) > 20) = true := decide_eq_true (by omega)
   clear g1
   go_enter Try.func6, Try.ntmps6
   go_wp2_with fail
   refine (x_ _).mono ?_
   rintro e w1 ⟨rfl, hb⟩
   have N1 := Lib.hid (N.out.below hb)
   clear hb N
   go_wp2
   go_ret
   exact ⟨rfl, N1.out.be⟩
 · have e1 : decide ((lx.length : Int) + (lv.length : Int) > 20) = false := decide_eq_false (by omega)
   by_cases g2 : l.length + l'.length + u.length + u'.length > 200
   · have e2 : decide ((l.length : Int) + (l'.length : Int) + (u.length : Int) + (u'.length : Int) > 200) = true := decide_eq_true (by omega)
     clear g1 g2
     go_enter Try.func6, Try.ntmps6
     go_wp2_with fail
     refine (x_ _).mono ?_
     rintro e w1 ⟨rfl, hb⟩
     have N1 := Lib.hid (N.out.below hb)
     clear hb N
     have x1 := N1.out.r1.cell
     have x2 := N1.out.r2.cell
     go_wp2
     go_ret
     exact ⟨rfl, N1.out.be⟩
   · have e2 : decide ((l.length : Int) + (l'.length : Int) + (u.length : Int) + (u'.length : Int) > 200) = false := decide_eq_false (by omega)
     have ZL : Hid (l.length ≤ 200 ∧ l'.length ≤ 200 ∧ u.length ≤ 200 ∧ u'.length ≤ 200) := Lib.hid ⟨by omega, by omega, by omega, by omega⟩
     obtain ⟨r1, r2, R3, r4, r5, R6, r7, ev1, ev2, y1, y2⟩ := QV lx lv (by omega)
     obtain ⟨k1, hk1⟩ := ev1.rounds
     obtain ⟨k2, hk2⟩ := ev2.rounds
     have K1 := Lib.hid hk1
     have K2 := Lib.hid hk2
     have YL := Lib.hid (And.intro y1 y2)
     clear g1 g2 ev1 ev2 hk1 hk2 y1 y2
     go_enter Try.func6, Try.ntmps6
     go_wp2_with fail
     refine (x_ _).mono ?_
     rintro e w1 ⟨rfl, hb⟩
     have N1 := Lib.hid (N.out.below hb)
     clear hb N
     have x1 := N1.out.r1.cell
     have x2 := N1.out.r2.cell
     go_wp2_with fail
     refine (gZ.calls k1 Ax cx lx Av cv lv r1 r2 R3 r4 r5 R6 r7 _ (HX.out.1.below N1.out.be) HX.out.2 (HV.out.1.below N1.out.be) HV.out.2 K1.out).mono ?_
     rintro e w2 ⟨v2, v5, rfl, o2, o5, hb⟩
     obtain ⟨C1, d1, rfl, q1, s1⟩ := Kd.vT o2
     obtain ⟨C2, d2, rfl, q2, s2⟩ := Kd.vT o5
     have N2 := Lib.hid ((N1.out.below hb).alloc (.cells #[I r1, I r2, .slice C1 R3.length d1, I r4, I r5, .slice C2 R6.length d2] 28))
     have AB := Lib.hid (Row.new w2 28 #[I r1, I r2, .slice C1 R3.length d1, I r4, I r5, .slice C2 R6.length d2])
     have RC1 := Lib.hid (Rd.below s1 ((Below.refl _ _).alloc (Nat.le_refl _) (.cells #[I r1, I r2, .slice C1 R3.length d1, I r4, I r5, .slice C2 R6.length d2] 28)))
     have RC2 := Lib.hid (Rd.below s2 ((Below.refl _ _).alloc (Nat.le_refl _) (.cells #[I r1, I r2, .slice C1 R3.length d1, I r4, I r5, .slice C2 R6.length d2] 28)))
     have KC1 := Lib.hid q1
     have KC2 := Lib.hid q2
     clear o2 o5 hb q1 q2 s1 s2 N1 x1 x2
     go_wp2_with fail
     refine (bG.calls k2 Ax cx lx Av cv lv r1 r2 R3 r4 r5 R6 r7 _ (HX.out.1.below N2.out.be) HX.out.2 (HV.out.1.below N2.out.be) HV.out.2 K2.out).mono ?_
     rintro e w3 ⟨v2, v5, rfl, o2, o5, hb⟩
     obtain ⟨D1, f1, rfl, q1, s1⟩ := Kd.vT o2
     obtain ⟨D2, f2, rfl, q2, s2⟩ := Kd.vT o5
     have N3 := Lib.hid ((N2.out.below hb).alloc (.cells #[I r1, I r2, .slice D1 R3.length f1, I r4, I r5, .slice D2 R6.length f2] 28))
     have AB3 := Lib.hid ((AB.out.below hb AB.out.lt).alloc (.cells #[I r1, I r2, .slice D1 R3.length f1, I r4, I r5, .slice D2 R6.length f2] 28))
     have ab8 := Lib.hid (Rd.below (Rd.below RC1.out hb) ((Below.refl _ _).alloc (Nat.le_refl _) (.cells #[I r1, I r2, .slice D1 R3.length f1, I r4, I r5, .slice D2 R6.length f2] 28)))
     have ab7 := Lib.hid (Rd.below (Rd.below RC2.out hb) ((Below.refl _ _).alloc (Nat.le_refl _) (.cells #[I r1, I r2, .slice D1 R3.length f1, I r4, I r5, .slice D2 R6.length f2] 28)))
     have BB := Lib.hid (Row.new w3 28 #[I r1, I r2, .slice D1 R3.length f1, I r4, I r5, .slice D2 R6.length f2])
     have RD1 := Lib.hid (Rd.below s1 ((Below.refl _ _).alloc (Nat.le_refl _) (.cells #[I r1, I r2, .slice D1 R3.length f1, I r4, I r5, .slice D2 R6.length f2] 28)))
     have RD2 := Lib.hid (Rd.below s2 ((Below.refl _ _).alloc (Nat.le_refl _) (.cells #[I r1, I r2, .slice D1 R3.length f1, I r4, I r5, .slice D2 R6.length f2] 28)))
     have KD1 := Lib.hid q1
     have KD2 := Lib.hid q2
     clear o2 o5 hb q1 q2 s1 s2 N2 AB RC1 RC2
     have x1 := N3.out.r1.cell
     go_wp2_with fail
     refine (yg r c A cp l r' c' A' cp' l' _ (HA.out.1.below N3.out.be) HA.out.2 (HA'.out.1.below N3.out.be) HA'.out.2).mono ?_
     rintro e w4 ⟨rfl, hb⟩
     have N4 := Lib.hid (N3.out.below hb)
     have AB4 := Lib.hid (AB3.out.below hb AB3.out.lt)
     have BB4 := Lib.hid (BB.out.below hb BB.out.lt)
     have ZI := Lib.hid (xI r1 r2 r4 r5 r1 r2 r4 r5 C1 C2 D1 D2 d1 d2 f1 f2 R3 R6 R3 R6 w4 (Rd.below ab8.out hb) KC1.out (Rd.below ab7.out hb) KC2.out (Rd.below RD1.out hb) KD1.out (Rd.below RD2.out hb) KD2.out YL.out.1 YL.out.2)
     rw [decide_eq_true ⟨⟨rfl, rfl, rfl⟩, ⟨rfl, rfl, rfl⟩⟩] at ZI
     clear hb N3 AB3 BB ab8 ab7 RD1 RD2 x1
     have xa := AB4.out.cell
     have xb := BB4.out.cell
     go_wp2_with fail
     refine ZI.out.mono ?_
     rintro e w5 ⟨rfl, hb⟩
     have N5 := Lib.hid (N4.out.below hb)
     clear hb N4 AB4 BB4 xa xb ZI
     have x1 := N5.out.r1.cell
     go_wp2_with fail
     refine (Fe r c A cp l r' c' A' cp' l' _ (HA.out.1.below N5.out.be) HA.out.2 (HA'.out.1.below N5.out.be) HA'.out.2).mono ?_
     rintro e w6 ⟨rfl, hb⟩
     have N6 := Lib.hid (N5.out.below hb)
     clear hb N5 x1
     have x1 := N6.out.r1.cell
     by_cases ht : sH r c l r' c' l'
     · rw [decide_eq_true ht]
       obtain ⟨p1, p2, q1, q2, q3, p6⟩ := ht
       obtain ⟨a1, a2, a3, a4, a5, a6⟩ := mW p1
       obtain ⟨b1, b2, b3, b4, b5, b6⟩ := mW p2
       obtain ⟨n, hn⟩ : ∃ n : Nat, r = n := ⟨r.toNat, by omega⟩
       rw [hn] at q2 q3
       subst hn q1 q2 q3
       rw [Int.toNat_natCast] at b5
       have HN : Hid (n ≤ 8) := Lib.hid (by omega)
       have HL : Hid (l'.length = n * n ∧ Jg l') := Lib.hid ⟨b5, Jf b6⟩
       have HR := Lib.hid p2
       clear p1 p2 p6 a1 a2 a3 a4 a5 a6 b1 b2 b3 b4 b5 b6
       go_wp2_with fail
       refine (yh n n A' cp' l' _ (HA'.out.1.below N6.out.be) HA'.out.2).mono ?_
       rw [HR.out]
       rintro e w7 ⟨rfl, hb⟩
       have N7 := Lib.hid (N6.out.below hb)
       clear hb N6 x1
       have x1 := N7.out.r1.cell
       have x2 := N7.out.r2.cell
       go_wp2_with fail
       refine (yg ur uc B up u ur' BU B' up' u' _ (HB.out.1.below N7.out.be) HB.out.2 (HB'.out.1.below N7.out.be) HB'.out.2).mono ?_
       rintro e wr ⟨rfl, hb⟩
       have N8 := Lib.hid (N7.out.below hb)
       clear hb N7 x1 x2
       by_cases hu : sH ur uc u ur' BU u'
       · rw [decide_eq_true hu]
         clear hu
         have BE := Lib.hid N8.out.be
         have T15 : Hid (∀ w', Below wr.heap.size wr w' → Calls Try.prog 15 #[.agg #[I n, I n, .slice A' l'.length cp']] w' fun e w'' => ∃ G dg, e = .returned (.agg #[I n, I n, .slice G (pg n l').length dg]) ∧ Own w'' w'.heap.size (.slice G (pg n l').length dg) (pg n l') ∧ Below w'.heap.size w' w'') := Lib.hid (fun w' h => by
          have hh := F8 n A' cp' l' w' HN.out HL.out.1 (HA'.out.1.below (EM BE.out h)) HA'.out.2
          rw [TQ n l' HL.out.1 HL.out.2] at hh
          exact hh)
         have T22 : Hid (∀ w', Below wr.heap.size wr w' → Calls Try.prog 22 #[.agg #[I n, I n, .slice A' l'.length cp']] w' fun e w'' => ∃ G dg, e = .returned (.agg #[I n, I n, .slice G (pg n l').length dg]) ∧ Own w'' w'.heap.size (.slice G (pg n l').length dg) (pg n l') ∧ Below w'.heap.size w' w'') := Lib.hid (fun w' h => by
          obtain ⟨k, hk⟩ := (SX n l' HN.out HL.out.1 HL.out.2).rounds
          refine (dU.calls k n n A' cp' l' _ _ _ w' (HA'.out.1.below (EM BE.out h)) HA'.out.2 hk).mono ?_
          rintro e w'' ⟨v, rfl, ho, hb⟩
          obtain ⟨G, dg, rfl, _, _⟩ := Own.reads ho
          exact ⟨G, dg, rfl, ho, hb⟩)
         have T19 : Hid (∀ w' G dg H dh, Below wr.heap.size wr w' → Rd w' G (pg n l') → (pg n l').length ≤ dg → Rd w' H (pg n l') → (pg n l').length ≤ dh → Calls Try.prog 19 #[.agg #[I n, I n, .slice G (pg n l').length dg], .agg #[I n, I n, .slice H (pg n l').length dh]] w' fun e w'' => e = .returned (.bool true) ∧ Below w'.heap.size w' w'') := Lib.hid (fun w' G dg H dh h x1 x2 x3 x4 => by
          have hg : (pg n l').length = n * n := jA
          have n64 := Vd HN.out
          have hh := G7 n n G dg (pg n l') n n H dh (pg n l') w' x1 x2 x3 x4 (by omega)
          rw [decide_eq_true ⟨rfl, rfl, rfl⟩] at hh
          exact hh)
         have T23 : Hid (∀ w', Below wr.heap.size wr w' → Calls Try.prog 23 #[.agg #[I n, I 1, .slice A l.length cp, I n, I n, .slice A' l'.length cp'], .agg #[I ur, I uc, .slice B u.length up, I ur', I BU, .slice B' u'.length up']] w' fun e w'' => e = .returned (.bool (Ku n 1 n n ur uc ur' BU l l' u u')) ∧ Below w'.heap.size w' w'') := Lib.hid (fun w' h => by
          have hw := EM BE.out h
          obtain ⟨k, hk⟩ := (KD n 1 n n ur uc ur' BU l l' u u' (by have := ZL.out; omega) (by have := ZL.out; omega)).rounds
          exact rW.calls k n 1 A cp l n n A' cp' l' ur uc B up u ur' BU B' up' u' _ w' (HA.out.1.below hw) HA.out.2 (HA'.out.1.below hw) HA'.out.2 (HB.out.1.below hw) HB.out.2 (HB'.out.1.below hw) HB'.out.2 hk)
         have T21 : Hid (∀ w', Below wr.heap.size wr w' → Calls Try.prog 21 #[.agg #[I n, I 1, .slice A l.length cp, I n, I n, .slice A' l'.length cp'], .agg #[I ur, I uc, .slice B u.length up, I ur', I BU, .slice B' u'.length up']] w' fun e w'' => e = .returned (.bool (Ku n 1 n n ur uc ur' BU l l' u u')) ∧ Below w'.heap.size w' w'') := Lib.hid (fun w' h => by
          have hw := EM BE.out h
          exact xI n 1 n n ur uc ur' BU A A' B B' cp cp' up up' l l' u u' w' (HA.out.1.below hw) HA.out.2 (HA'.out.1.below hw) HA'.out.2 (HB.out.1.below hw) HB.out.2 (HB'.out.1.below hw) HB'.out.2 (by have := ZL.out; omega) (by have := ZL.out; omega))
         obtain ⟨sb, hsb⟩ : ∃ sb, Ku n 1 n n ur uc ur' BU l l' u u' = sb := ⟨_, rfl⟩
         rw [hsb] at T23 T21
         clear hsb
         have KK : Hid (∀ w', Below wr.heap.size wr w' → (∀ o, w'.cell? ⟨w.heap.size + 1, o, none⟩ = #[I n, I 1, .slice A l.length cp, I n, I n, .slice A' l'.length cp'][o]?) ∧ (∀ o, w'.cell? ⟨w.heap.size + 1 + 1, o, none⟩ = #[I ur, I uc, .slice B u.length up, I ur', I BU, .slice B' u'.length up'][o]?)) := Lib.hid (fun w' h => ⟨(N8.out.r1.below h N8.out.r1.lt).cell, (N8.out.r2.below h N8.out.r2.lt).cell⟩)
         have BN := Lib.hid (Below.refl wr.heap.size wr)
         clear HX HV HA HA' HB HB' ZL K1 K2 YL KC1 KC2 KD1 KD2 HN HL HR N8 e1 e2
         cases sb
         all_goals
          go_wp2_with fail
          go_region_held3 (fun w' => (∀ o, w'.cell? ⟨w.heap.size + 1, o, none⟩ = #[I n, I 1, .slice A l.length cp, I n, I n, .slice A' l'.length cp'][o]?) ∧ (∀ o, w'.cell? ⟨w.heap.size + 1 + 1, o, none⟩ = #[I ur, I uc, .slice B u.length up, I ur', I BU, .slice B' u'.length up'][o]?))
           (first | with_reducible exact KK.out _ BN.out | with_reducible exact KK.out _ (bal BN.out _) | with_reducible exact KK.out _ (JS BN.out) | with_reducible exact KK.out _ (bal (JS BN.out) _) | with_reducible exact KK.out _ (JS (bal BN.out _)))
           (first
               | (go_at_call 21
                  first
                   | ((with_reducible refine (T21.out _ (BN.out)).mono ?_)
                      rintro e w12 ⟨rfl, hb⟩
                      have RG := Lib.hid (Rd.below RG.out hb)
                      have RH := Lib.hid (Rd.below RH.out hb)
                      have BN := Lib.hid (EM (BN.out) hb)
                      have amO := BN.out.size
                      clear hb))
               | (go_at_call 23
                  first
                   | ((with_reducible refine (T23.out _ (BN.out)).mono ?_)
                      rintro e wY ⟨rfl, hb⟩
                      have RG := Lib.hid (Rd.below RG.out hb)
                      have RH := Lib.hid (Rd.below RH.out hb)
                      have BN := Lib.hid (EM (BN.out) hb)
                      have amP := BN.out.size
                      clear hb))
               | (go_at_call 19
                  first
                   | ((with_reducible refine (T19.out _ _ _ _ _ (BN.out) RG.out DG.out RH.out DH.out).mono ?_)
                      rintro e w10 ⟨rfl, hb⟩
                      have RG := Lib.hid (Rd.below RG.out hb)
                      have RH := Lib.hid (Rd.below RH.out hb)
                      have BN := Lib.hid (EM (BN.out) hb)
                      have amQ := BN.out.size
                      clear hb))
               | (go_at_call 22
                  first
                   | ((with_reducible refine (T22.out _ (BN.out)).mono ?_)
                      rintro e w9 ⟨H, dh, rfl, ho, hb⟩
                      have RH := Lib.hid (Own.rd ho).1
                      have DH := Lib.hid (Own.rd ho).2
                      have RG := Lib.hid (Rd.below RG.out hb)
                      have BN := Lib.hid (EM (BN.out) hb)
                      have zw9 := BN.out.size
                      clear hb ho))
               | (go_at_call 15
                  first
                   | ((with_reducible refine (T15.out _ (JS BN.out)).mono ?_)
                      rintro e w8 ⟨G, dg, rfl, ho, hb⟩
                      have RG := Lib.hid (Own.rd ho).1
                      have DG := Lib.hid (Own.rd ho).2
                      have BN := Lib.hid (EM (JS BN.out) hb)
                      have zw8 := BN.out.size
                      clear hb ho)))
          go_wp2
          go_ret
          exact ⟨rfl, EM BE.out BN.out⟩
       · rw [decide_eq_false hu]
         clear hu
         go_wp2
         go_ret
         exact ⟨rfl, N8.out.be⟩
     · rw [decide_eq_false ht]
       clear ht
       go_wp2_with fail
       refine (yh r' c' A' cp' l' _ (HA'.out.1.below N6.out.be) HA'.out.2).mono ?_
       rintro e w7 ⟨rfl, hb⟩
       have N7 := Lib.hid (N6.out.below hb)
       clear hb N6 x1
       have x1 := N7.out.r1.cell
       cases jO r' c' l' with
       | false =>
         go_wp2
         go_ret
         exact ⟨rfl, N7.out.be⟩
       | true =>
         by_cases h3 : r' = c'
         · subst h3
           go_wp2
           go_ret
           exact ⟨rfl, N7.out.be⟩
         · have g3 : (r' != c') = true := by simpa using h3
           clear h3
           go_wp2
           go_ret
           exact ⟨rfl, N7.out.be⟩
end Go.Proofs.Ytninmcmajbfccaa.PR

namespace Go.Proofs.Ytninmcmajbfccaa.KK
open Go.ChangeShapes Go.WideShapes Go.ChangeAt Go.RowKit Go.Deep Go.Proofs.aH.bK
set_option linter.unusedVariables false
set_option linter.unusedSimpArgs false
theorem k22 : Try.prog.cellsOf 22 = 1 := by kernel_rfl
theorem k24 : Try.prog.cellsOf 24 = 1 := by kernel_rfl
theorem k26 : Try.prog.cellsOf 26 = 3 := by kernel_rfl
theorem k28 : Try.prog.cellsOf 28 = 6 := by kernel_rfl
theorem k2 : Try.prog.cellsOf 2 = 1 := by kernel_rfl
theorem k3 : Try.prog.cellsOf 3 = 1 := by kernel_rfl
theorem laidOut : laidOutB Try.prog = true := by kernel_rfl
theorem ahU {α : Type} {l : List α} (h : l.length = 3) : ∃ a b c, l = [a, b, c] := by
 match l, h with
 | [a, b, c], _ => exact ⟨a, b, c, rfl⟩
theorem ahT {α : Type} {l : List α} (h : l.length = 6) : ∃ a b c d e f, l = [a, b, c, d, e, f] := by
 match l, h with
 | [a, b, c, d, e, f], _ => exact ⟨a, b, c, d, e, f, rfl⟩
theorem DU {α : Type} {P : Nat → α → Prop} : ∀ {n : Nat}, (∀ i, i < n → ∃ o, P i o) → ∃ l : List α, l.length = n ∧ ∀ i o, l[i]? = some o → P i o
 | 0, _ => ⟨[], rfl, fun i o h => by simp at h⟩
 | n + 1, h => by
   obtain ⟨l, hl, hk⟩ := DU (P := P) (n := n) fun i hi => h i (by omega)
   obtain ⟨o, ho⟩ := h n (by omega)
   refine ⟨l ++ [o], by simp [hl], fun i x hx => ?_⟩
   rw [List.getElem?_append] at hx
   split at hx
   · exact hk i x hx
   · have : i - l.length = 0 := by
      rcases Nat.eq_zero_or_pos (i - l.length) with h | h
      · exact h
      · rw [List.getElem?_eq_none (by simp; omega)] at hx; cases hx
     rw [this] at hx
     simp at hx
     subst hx
     have : i = n := by omega
     subst this
     exact ho
section
variable {H : Type} {enc : TypeId × Value → H} {W : World} {base : Nat} {sp : Nat → Bool} {held : Bool} {fuel : Nat} {cs : List Value} {x : DataW H × List MemPlace}
theorem MF {fs : Array Field} {n : Nat} {xs : List (DataW H × List MemPlace)} (hf : ∀ (i : Nat) (f : Field), fs[i]? = some f → DataW.trod enc Try.prog W base sp held n f.type ((cs.drop f.offset).take (Try.prog.cellsOf f.type)) = xs[i]?)
 (i : Nat) (t : TypeId) (o k : Nat) (h : (fs[i]?).map (fun f => (f.type, f.offset)) = some (t, o)) (hk : Try.prog.cellsOf t = k) : DataW.trod enc Try.prog W base sp held n t ((cs.drop o).take k) = xs[i]? := by
 cases e : fs[i]? with
 | none => rw [e] at h; cases h
 | some f =>
   rw [e] at h
   simp at h
   obtain ⟨rfl, rfl⟩ := h
   subst hk
   exact hf i f e
theorem Jd (h : DataW.trod enc Try.prog W base sp held fuel 24 cs = some x) : ∃ A c l, cs = [.slice A (l : List Int).length c] ∧ l.length ≤ c ∧ Rd W A l := by
 rcases open_slice Try.underlying24 h with ⟨rfl, _⟩ | ⟨a, len, cap, m, n, D, Pl, rfl, hb, hl, hm, hmm, hx, hi⟩
 · exact ⟨none, 0, [], rfl, by simp, Rd.nil _ _⟩
 · have hle : len ≤ m := by rw [hmm]; split <;> omega
   have key : ∀ i, i < len → ∃ q : Int, W.cell? ((a.add (i * 1)).add 0) = some (I q) := by
    intro i hil
    obtain ⟨cs', hc, ht⟩ := hi i (by omega)
    rw [k22] at hc
    obtain ⟨hlen, _, hat⟩ := World.cells?_some hc
    obtain ⟨q, e0, _, _⟩ := DataW.trod_int Try.underlying22 ht
    subst e0
    exact ⟨q, hat 0 (by simp)⟩
   obtain ⟨l, hlen, hk⟩ := DU key
   subst hlen
   refine ⟨some a, cap, l, rfl, hl, rfl, (by unfold maxLen at hm; show l.length ≤ _; omega), fun hne => ⟨a, rfl, fun j p hj => ⟨[I p], rfl, rfl, fun i u hi => ?_⟩⟩⟩
   match i, hi with
   | 0, hi =>
     simp at hi
     subst hi
     have := hk j p hj
     have h1 : (Kd.int .i64).sz = 1 := rfl
     rw [h1]
     simpa [Addr.add] using this
theorem KE (h : DataW.trod enc Try.prog W base sp held fuel 26 cs = some x) : ∃ r c A cp l, cs = [I r, I c, .slice A (l : List Int).length cp] ∧ l.length ≤ cp ∧ Rd W A l := by
 obtain ⟨xs, n, _, _, hl, hlen, hf⟩ := DataW.trod_struct Try.underlying26 h
 rw [k26] at hl
 obtain ⟨c0, c1, c2, rfl⟩ := ahU hl
 have hl3 : xs.length = 3 := hlen
 have get : ∀ i (h : i < 3), xs[i]? = some (xs[i]'(by omega)) := fun i h => List.getElem?_eq_getElem (by omega)
 have h0 := (MF hf 0 3 0 1 rfl k3).trans (get 0 (by omega))
 have h1 := (MF hf 1 3 1 1 rfl k3).trans (get 1 (by omega))
 have h2 := (MF hf 2 24 2 1 rfl k24).trans (get 2 (by omega))
 obtain ⟨r, e0, _, _⟩ := DataW.trod_int Try.underlying3 h0
 obtain ⟨c, e1, _, _⟩ := DataW.trod_int Try.underlying3 h1
 obtain ⟨A, cp, l, e2, hc, hr⟩ := Jd h2
 simp at e0 e1 e2
 subst e0 e1 e2
 exact ⟨r, c, A, cp, l, rfl, hc, hr⟩
theorem Ff (h : DataW.trod enc Try.prog W base sp held fuel 28 cs = some x) : ∃ r c A cp l r' c' A' cp' l', cs = [I r, I c, .slice A (l : List Int).length cp, I r', I c', .slice A' (l' : List Int).length cp'] ∧ (l.length ≤ cp ∧ Rd W A l) ∧ (l'.length ≤ cp' ∧ Rd W A' l') := by
 obtain ⟨xs, n, _, _, hl, hlen, hf⟩ := DataW.trod_struct Try.underlying28 h
 rw [k28] at hl
 obtain ⟨c0, c1, c2, c3, c4, c5, rfl⟩ := ahT hl
 have hl2 : xs.length = 2 := hlen
 have get : ∀ i (h : i < 2), xs[i]? = some (xs[i]'(by omega)) := fun i h => List.getElem?_eq_getElem (by omega)
 have h0 := (MF hf 0 26 0 3 rfl k26).trans (get 0 (by omega))
 have h1 := (MF hf 1 26 3 3 rfl k26).trans (get 1 (by omega))
 obtain ⟨r, c, A, cp, l, e0, hc, hr⟩ := KE h0
 obtain ⟨r', c', A', cp', l', e1, hc', hr'⟩ := KE h1
 simp at e0 e1
 obtain ⟨rfl, rfl, rfl⟩ := e0
 obtain ⟨rfl, rfl, rfl⟩ := e1
 exact ⟨_, _, _, _, l, _, _, _, _, l', rfl, ⟨hc, hr⟩, ⟨hc', hr'⟩⟩
end
end Go.Proofs.Ytninmcmajbfccaa.KK

namespace Go.Proofs.Ytninmcmajbfccaa.KK
open Go.ChangeShapes Go.WideShapes Go.ChangeAt Go.RowKit Go.Deep Go.Proofs.aH.bK
set_option linter.unusedVariables false
set_option linter.unusedSimpArgs false
theorem k45 : Try.prog.cellsOf 45 = 14 := by kernel_rfl
section
variable {H : Type} {enc : TypeId × Value → H} {W : World} {base : Nat} {sp : Nat → Bool} {held : Bool} {fuel : Nat} {cs : List Value} {x : DataW H × List MemPlace}
theorem aaO {α : Type} {l : List α} (h : l.length = 14) : ∃ a b c d e f g i j k m n o p, l = [a, b, c, d, e, f, g, i, j, k, m, n, o, p] := by
 match l, h with
 | [a, b, c, d, e, f, g, i, j, k, m, n, o, p], _ => exact ⟨a, b, c, d, e, f, g, i, j, k, m, n, o, p, rfl⟩
theorem NL (h : DataW.trod enc Try.prog W base sp held fuel 45 cs = some x) : ∃ Ax cx lx Av cv lv r c A cp l r' c' A' cp' l' ur uc B up u ur' BU B' up' u', cs = [.slice Ax (lx : List Int).length cx, .slice Av (lv : List Int).length cv, I r, I c, .slice A (l : List Int).length cp, I r', I c', .slice A' (l' : List Int).length cp', I ur, I uc, .slice B (u : List Int).length up, I ur', I BU, .slice B' (u' : List Int).length up'] ∧ (lx.length ≤ cx ∧ Rd W Ax lx) ∧ (lv.length ≤ cv ∧ Rd W Av lv) ∧ (l.length ≤ cp ∧ Rd W A l) ∧ (l'.length ≤ cp' ∧ Rd W A' l') ∧ (u.length ≤ up ∧ Rd W B u) ∧ (u'.length ≤ up' ∧ Rd W B' u') := by
 obtain ⟨xs, n, _, _, hl, hlen, hf⟩ := DataW.trod_struct Try.underlying45 h
 rw [k45] at hl
 obtain ⟨c0, c1, c2, c3, c4, c5, c6, c7, c8, c9, c10, c11, c12, c13, rfl⟩ := aaO hl
 have hl2 : xs.length = 4 := hlen
 have get : ∀ i (h : i < 4), xs[i]? = some (xs[i]'(by omega)) := fun i h => List.getElem?_eq_getElem (by omega)
 have h0 := (MF hf 0 24 0 1 rfl k24).trans (get 0 (by omega))
 have h1 := (MF hf 1 24 1 1 rfl k24).trans (get 1 (by omega))
 have h2 := (MF hf 2 28 2 6 rfl k28).trans (get 2 (by omega))
 have h3 := (MF hf 3 28 8 6 rfl k28).trans (get 3 (by omega))
 obtain ⟨Ax, cx, lx, e0, p0⟩ := Jd h0
 obtain ⟨Av, cv, lv, e1, p1⟩ := Jd h1
 obtain ⟨r, c, A, cp, l, r', c', A', cp', l', e2, p2, p2'⟩ := Ff h2
 obtain ⟨ur, uc, B, up, u, ur', BU, B', up', u', e3, p3, p3'⟩ := Ff h3
 simp at e0 e1 e2 e3
 subst e0 e1
 obtain ⟨rfl, rfl, rfl, rfl, rfl, rfl⟩ := e2
 obtain ⟨rfl, rfl, rfl, rfl, rfl, rfl⟩ := e3
 exact ⟨_, _, lx, _, _, lv, _, _, _, _, l, _, _, _, _, l', _, _, _, _, u, _, _, _, _, u', rfl, p0, p1, p2, p2', p3, p3'⟩
end
end Go.Proofs.Ytninmcmajbfccaa.KK

namespace Go.Proofs.Ytninmcmajbfccaa.KK
open Go.ChangeShapes Go.WideShapes Go.ChangeAt Go.RowKit Go.Deep Go.Proofs.aH.bK
set_option linter.unusedVariables false
set_option linter.unusedSimpArgs false
theorem b22 : Try.prog.bytesOf 22 = 8 := by kernel_rfl
section
variable {H : Type} {enc : TypeId × Value → H} {W : World} {base : Nat} {sp : Nat → Bool} {held : Bool} {fuel : Nat} {cs : List Value} {x : DataW H × List MemPlace}
theorem I8 {A : Option Addr} {n c : Nat} (h : DataW.trod enc Try.prog W base sp held fuel 24 [.slice A n c] = some x) (hw : ∀ k ∈ x.1.weights Try.prog 24, k ≤ reachBytes) : n ≤ 100000000000000 := by
 rcases DataW.trod_slice Try.underlying24 h with ⟨h, _⟩ | ⟨a, len, cap, elems, rest, m, _, hq, rfl, _, _, _, hl, _⟩
 · simp at h; omega
 · simp at hq
   obtain ⟨_, hn, _⟩ := hq
   have := hw ((elems.length + rest.length) * 8) (by simp [DataW.weights, Try.underlying24, b22])
   simp only [reachBytes] at this
   subst hn
   omega
theorem Kr {r c : Int} {A : Option Addr} {n cp : Nat} (h : DataW.trod enc Try.prog W base sp held fuel 26 [I r, I c, .slice A n cp] = some x) (hw : ∀ k ∈ x.1.weights Try.prog 26, k ≤ reachBytes) : n ≤ 100000000000000 := by
 obtain ⟨xs, m, _, rfl, hl, hlen, hf⟩ := DataW.trod_struct Try.underlying26 h
 have hl7 : xs.length = 3 := hlen
 have h2 := (MF hf 2 24 2 1 rfl k24).trans (List.getElem?_eq_getElem (show 2 < xs.length by omega))
 refine I8 (A := A) (c := cp) h2 fun k hk => hw k ?_
 simp only [DataW.weights, Try.underlying26]
 exact DataW.weights_mem_each (j := 2) (t := 24) rfl (by rw [List.getElem?_map, List.getElem?_eq_getElem (show 2 < xs.length by omega)]; rfl) k hk
theorem ET {r c r' c' : Int} {A A' : Option Addr} {n cp n' cp' : Nat} (h : DataW.trod enc Try.prog W base sp held fuel 28 [I r, I c, .slice A n cp, I r', I c', .slice A' n' cp'] = some x) (hw : ∀ k ∈ x.1.weights Try.prog 28, k ≤ reachBytes) : n ≤ 100000000000000 ∧ n' ≤ 100000000000000 := by
 obtain ⟨xs, m, _, rfl, hl, hlen, hf⟩ := DataW.trod_struct Try.underlying28 h
 have hl7 : xs.length = 2 := hlen
 have h0 := (MF hf 0 26 0 3 rfl k26).trans (List.getElem?_eq_getElem (show 0 < xs.length by omega))
 have h1 := (MF hf 1 26 3 3 rfl k26).trans (List.getElem?_eq_getElem (show 1 < xs.length by omega))
 constructor
 · refine Kr (r := r) (c := c) (A := A) (cp := cp) h0 fun k hk => hw k ?_
   simp only [DataW.weights, Try.underlying28]
   exact DataW.weights_mem_each (j := 0) (t := 26) rfl (by rw [List.getElem?_map, List.getElem?_eq_getElem (show 0 < xs.length by omega)]; rfl) k hk
 · refine Kr (r := r') (c := c') (A := A') (cp := cp') h1 fun k hk => hw k ?_
   simp only [DataW.weights, Try.underlying28]
   exact DataW.weights_mem_each (j := 1) (t := 26) rfl (by rw [List.getElem?_map, List.getElem?_eq_getElem (show 1 < xs.length by omega)]; rfl) k hk
theorem Ce (h : DataW.trod enc Try.prog W base sp held fuel 45 cs = some x) (hw : ∀ k ∈ x.1.weights Try.prog 45, k ≤ reachBytes) : ∃ Ax cx lx Av cv lv r c A cp l r' c' A' cp' l' ur uc B up u ur' BU B' up' u', cs = [.slice Ax (lx : List Int).length cx, .slice Av (lv : List Int).length cv, I r, I c, .slice A (l : List Int).length cp, I r', I c', .slice A' (l' : List Int).length cp', I ur, I uc, .slice B (u : List Int).length up, I ur', I BU, .slice B' (u' : List Int).length up'] ∧ (lx.length ≤ cx ∧ Rd W Ax lx) ∧ (lv.length ≤ cv ∧ Rd W Av lv) ∧ (l.length ≤ cp ∧ Rd W A l) ∧ (l'.length ≤ cp' ∧ Rd W A' l') ∧ (u.length ≤ up ∧ Rd W B u) ∧ (u'.length ≤ up' ∧ Rd W B' u') ∧
 (lx.length ≤ 100000000000000 ∧ lv.length ≤ 100000000000000 ∧ l.length ≤ 100000000000000 ∧ l'.length ≤ 100000000000000 ∧ u.length ≤ 100000000000000 ∧ u'.length ≤ 100000000000000) := by
 obtain ⟨Ax, cx, lx, Av, cv, lv, r, c, A, cp, l, r', c', A', cp', l', ur, uc, B, up, u, ur', BU, B', up', u', rfl, a1, a2, a3, a4, a5, a6⟩ := NL h
 obtain ⟨xs, n, _, rfl, hl, hlen, hf⟩ := DataW.trod_struct Try.underlying45 h
 have hl2 : xs.length = 4 := hlen
 have get : ∀ i (h : i < 4), xs[i]? = some (xs[i]'(by omega)) := fun i h => List.getElem?_eq_getElem (by omega)
 have h0 := (MF hf 0 24 0 1 rfl k24).trans (get 0 (by omega))
 have h1 := (MF hf 1 24 1 1 rfl k24).trans (get 1 (by omega))
 have h2 := (MF hf 2 28 2 6 rfl k28).trans (get 2 (by omega))
 have h3 := (MF hf 3 28 8 6 rfl k28).trans (get 3 (by omega))
 have w0 : ∀ k ∈ (xs[0]'(by omega)).1.weights Try.prog 24, k ≤ reachBytes := fun k hk => hw k (by
  simp only [DataW.weights, Try.underlying45]
  exact DataW.weights_mem_each (j := 0) (t := 24) rfl (by rw [List.getElem?_map, get 0 (by omega)]; rfl) k hk)
 have w1 : ∀ k ∈ (xs[1]'(by omega)).1.weights Try.prog 24, k ≤ reachBytes := fun k hk => hw k (by
  simp only [DataW.weights, Try.underlying45]
  exact DataW.weights_mem_each (j := 1) (t := 24) rfl (by rw [List.getElem?_map, get 1 (by omega)]; rfl) k hk)
 have w2 : ∀ k ∈ (xs[2]'(by omega)).1.weights Try.prog 28, k ≤ reachBytes := fun k hk => hw k (by
  simp only [DataW.weights, Try.underlying45]
  exact DataW.weights_mem_each (j := 2) (t := 28) rfl (by rw [List.getElem?_map, get 2 (by omega)]; rfl) k hk)
 have w3 : ∀ k ∈ (xs[3]'(by omega)).1.weights Try.prog 28, k ≤ reachBytes := fun k hk => hw k (by
  simp only [DataW.weights, Try.underlying45]
  exact DataW.weights_mem_each (j := 3) (t := 28) rfl (by rw [List.getElem?_map, get 3 (by omega)]; rfl) k hk)
 have z2 := ET (r := r) (c := c) (A := A) (n := l.length) (cp := cp) (r' := r') (c' := c') (A' := A') (n' := l'.length) (cp' := cp') h2 w2
 have z3 := ET (r := ur) (c := uc) (A := B) (n := u.length) (cp := up) (r' := ur') (c' := BU) (A' := B') (n' := u'.length) (cp' := up') h3 w3
 exact ⟨_, _, lx, _, _, lv, _, _, _, _, l, _, _, _, _, l', _, _, _, _, u, _, _, _, _, u', rfl, a1, a2, a3, a4, a5, a6, I8 h0 w0, I8 h1 w1, z2.1, z2.2, z3.1, z3.2⟩
end
end Go.Proofs.Ytninmcmajbfccaa.KK

