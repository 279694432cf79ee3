import Derived.Test.YtcfobekkchhbbaaGreatV9
import Derived.Test.YtcfobekkchhbbaaGreatV6
import Derived.Test.YtcfobekkchhbbaaGreatV8
import Derived.Test.YtcfobekkchhbbaaGreatV7
import Derived.Test.YtcfobekkchhbbaaGreatRows
import Derived.ProofKit
import Derived.OpenShut
import Derived.ShutString
import Derived.ChangeOld
import Derived.ChangeSame
import Derived.SizedLaws
import Derived.Laws.IdiomArrays
import Derived.Deep.Slices
import Derived.Carry
/- Joined and thinned by a program of this session's own (wip/pack2.py) out of its texts (wip/ of its repo); parts were laid by its own program (wip/print-patch.py over the kit's print) out of the translation; Lean checks all. -/
set_option maxRecDepth 100000
set_option maxHeartbeats 8000000
namespace Go.Proofs.YtcfobekkchhbbaaGreat.PR
open Go.RowKit Go.Proofs.YtcfobekkchhbbaaGreat.PQ Go.Proofs.af.aU Go.Proofs.af.a_ Go.Proofs.af.bf Go.Proofs.YtcfobekkchhbbaaGreat.KK
set_option linter.unusedVariables false
set_option linter.unusedSimpArgs false
def hv (a : Int) : Int := if a % 2 = 0 then a / 2 else if a / 2 % 2 = 0 then a / 2 else a / 2 + 1
def fl (N : Nat) (Q : Nat → Int) : List Int := (List.range N).map Q
variable {N j c : Nat} {Q Q' : Nat → Int} {q : Nat → Nat → Int} {x : Int}
theorem oV : (fl N Q).length = N := by simp [fl]
theorem zl (h : j < N) : (fl N Q).getD j 0 = Q j := by simp [fl, List.getD_eq_getElem?_getD, h]
theorem Uj {l : List Int} (hl : l.length = N) (h : ∀ j, j < N → l.getD j 0 = Q j) : l = fl N Q := by
 apply List.ext_getElem?
 intro j
 by_cases hj : j < N
 · have h1 := h j hj
   rw [List.getD_eq_getElem?_getD, List.getElem?_eq_getElem (by omega)] at h1; rw [List.getElem?_eq_getElem (by omega), List.getElem?_eq_getElem (by rw [oV]; exact hj)]; simp only [Option.getD_some] at h1; rw [h1]
   simp [fl]
 · rw [List.getElem?_eq_none (by omega), List.getElem?_eq_none (by rw [oV]; omega)]
theorem dv {n i k : Nat} (hk : k < n) : (i * n + k) / n = i := by
 rw [Nat.mul_comm, Nat.mul_add_div (by omega), Nat.div_eq_of_lt hk, Nat.add_zero]
theorem md {n i k : Nat} (hk : k < n) : (i * n + k) % n = k := by
 rw [Nat.mul_comm, Nat.mul_add_mod, Nat.mod_eq_of_lt hk]
theorem Oy : ∀ r, upto c q r = fl (r * c) (fun j => q (j / c) (j % c)) := by
 intro r
 induction r with
 | zero => simp [upto, fl]
 | succ r ih =>
   rw [upto_succ, ih]; refine Uj (by simp [oV, Nat.succ_mul]) (fun j hj => ?_)
   rw [Nat.succ_mul] at hj
   by_cases h : j < r * c
   · rw [List.getD_eq_getElem?_getD, List.getElem?_append_left (by rw [oV]; exact h), ← List.getD_eq_getElem?_getD, zl h]
   · obtain ⟨k, rfl⟩ : ∃ k, j = r * c + k := ⟨j - r * c, by omega⟩
     have hk : k < c := by omega
     rw [List.getD_eq_getElem?_getD, List.getElem?_append_right (by rw [oV]; omega), oV, Nat.add_sub_cancel_left, dv hk, md hk]
     simp [hk]
theorem QA (r c r' c' : Int) (l m : List Int) (hlen : l.length = m.length) (hl : l.length ≤ 1000000) : ∀ (d j : Nat), j + d = l.length → Ev (fun k => bz.l0 k j r c l r' c' m) (decide (l.drop j = m.drop j)) := by
 intro d
 induction d with
 | zero =>
   intro j hj; refine Ev.step (f := fun _ => some true) (fun k => ?_) ?_
   · unfold bz.l0
     rw [if_neg (by omega)]
   · have : decide (l.drop j = m.drop j) = true := by
      rw [List.drop_eq_nil_of_le (by omega), List.drop_eq_nil_of_le (by omega)]; rfl
     rw [this]; exact Ev.now _
 | succ d ih =>
   intro j hj
   have e1 : wrap64 ((j : Int) + 1) = ((j + 1 : Nat) : Int) := by rw [Lp (by omega) (by omega)]; push_cast; rfl
   have h1 : j < l.length := by omega
   have h2 : j < m.length := by omega
   have r1 : rd l (j : Int) = l[j] := by unfold rd; rw [Int.toNat_natCast, List.getD_eq_getElem?_getD, List.getElem?_eq_getElem h1]; rfl
   have r2 : rd m (j : Int) = m[j] := by unfold rd; rw [Int.toNat_natCast, List.getD_eq_getElem?_getD, List.getElem?_eq_getElem h2]; rfl
   have ed : decide (l.drop j = m.drop j) = (decide (l[j] = m[j]) && decide (l.drop (j + 1) = m.drop (j + 1))) := by
    rw [List.drop_eq_getElem_cons h1, List.drop_eq_getElem_cons h2, ← Bool.decide_and]
    congr 1
    rw [List.cons.injEq]
   rw [ed]
   by_cases hx : l[j] = m[j]
   · rw [decide_eq_true hx, Bool.true_and]
     refine Ev.step (fun k => ?_) (ih (j + 1) (by omega))
     show (if (j : Int) < (l.length : Int) then (if 0 ≤ (j : Int) then (if (j : Int) < (m.length : Int) then (if (rd l j) = (rd m j) then (bz.l0 k (wrap64 ((j : Int) + 1)) r c l r' c' m) else (some false)) else (none)) else (none)) else (some true)) = _; rw [if_pos (by omega), if_pos (by omega), if_pos (by omega), r1, r2, if_pos hx, e1]
   · rw [decide_eq_false hx, Bool.false_and]
     refine Ev.step (f := fun _ => some false) (fun k => ?_) (Ev.now _)
     show (if (j : Int) < (l.length : Int) then (if 0 ≤ (j : Int) then (if (j : Int) < (m.length : Int) then (if (rd l j) = (rd m j) then (bz.l0 k (wrap64 ((j : Int) + 1)) r c l r' c' m) else (some false)) else (none)) else (none)) else (some true)) = _; rw [if_pos (by omega), if_pos (by omega), if_pos (by omega), r1, r2, if_neg hx]
theorem Ic (r c r' c' : Int) (l m : List Int) (hl : l.length ≤ 1000000) : Ev (fun k => bz.f k r c l r' c' m) (decide (r = r' ∧ c = c' ∧ l = m)) := by
 have T : ∀ v : Bool, Ev (fun k => bz.j0 k true r c l r' c' m) false := fun _ => by
  exact Ev.step (f := fun _ => some false) (fun k => rfl) (Ev.now _)
 unfold bz.f
 by_cases h1 : r = r'
 · by_cases h2 : c = c'
   · simp only [if_pos h1, if_pos h2]
     by_cases h3 : l.length = m.length
     · have e : ((l.length : Int) != (m.length : Int)) = false := by simp [h3]
       rw [e]; have := QA r c r' c' l m h3 hl l.length 0 (by omega); simp only [List.drop_zero] at this
       have ed : decide (r = r' ∧ c = c' ∧ l = m) = decide (l = m) := by simp [h1, h2]
       rw [ed]; exact Ev.step (fun k => rfl) this
     · have e : ((l.length : Int) != (m.length : Int)) = true := by simp; omega
       rw [e]
       have ed : decide (r = r' ∧ c = c' ∧ l = m) = false := by
        refine decide_eq_false (fun h => h3 (by rw [h.2.2]))
       rw [ed]; exact T true
   · simp only [if_pos h1, if_neg h2]
     have ed : decide (r = r' ∧ c = c' ∧ l = m) = false := decide_eq_false (fun h => h2 h.2.1); rw [ed]; exact T true
 · simp only [if_neg h1]
   have ed : decide (r = r' ∧ c = c' ∧ l = m) = false := decide_eq_false (fun h => h1 h.1); rw [ed]; exact T true
end Go.Proofs.YtcfobekkchhbbaaGreat.PR

namespace Go.Proofs.YtcfobekkchhbbaaGreat.PR
open Go.RowKit Go.Proofs.YtcfobekkchhbbaaGreat.PQ Go.Proofs.af.aU Go.Proofs.af.a_ Go.Proofs.af.bf Go.Proofs.YtcfobekkchhbbaaGreat.KK
set_option linter.unusedVariables false
set_option linter.unusedSimpArgs false
def ac (n m : Nat) : Nat := (m % n) * n + m / n
def YO (l : List Int) : Prop := ∀ j, -70368744177664 ≤ l.getD j 0 ∧ l.getD j 0 ≤ 70368744177663
theorem sq8 {n : Nat} (h : n ≤ 8) : n * n ≤ 64 := Nat.mul_le_mul h h
theorem A_ {n i j : Nat} (h8 : n ≤ 8) (hi : i < n) (hj : j < n) : wrap64 (wrap64 ((i : Int) * (n : Int)) + (j : Int)) = ((i * n + j : Nat) : Int) := by
 have h1 := kX (c := n) hi hj; have h2 := sq8 h8
 have e : (i : Int) * (n : Int) = ((i * n : Nat) : Int) := by push_cast; rfl
 rw [e, Lp (n := ((i * n : Nat) : Int)) (by omega) (by omega), Lp (by omega) (by omega)]
 push_cast; rfl
theorem LG {i : Nat} (h : i ≤ 1000000) : wrap64 ((i : Int) + 1) = ((i + 1 : Nat) : Int) := by rw [Lp (by omega) (by omega)]; push_cast; rfl
theorem z_ {l : List Int} {j : Nat} : rd l (j : Int) = l.getD j 0 := by unfold rd; rw [Int.toNat_natCast]
end Go.Proofs.YtcfobekkchhbbaaGreat.PR

namespace Go.Proofs.YtcfobekkchhbbaaGreat.PR
open Go.RowKit Go.Proofs.YtcfobekkchhbbaaGreat.PQ Go.Proofs.af.aU Go.Proofs.af.a_ Go.Proofs.af.bf Go.Proofs.YtcfobekkchhbbaaGreat.KK
set_option linter.unusedVariables false
set_option linter.unusedSimpArgs false
theorem abT {n m : Nat} (h : m < n * n) : ac n m < n * n := by
 have h0 : 0 < n := by rcases Nat.eq_zero_or_pos n with e | e; (subst e; omega); exact e
 exact kX (c := n) (Nat.mod_lt m h0) (Nat.div_lt_of_lt_mul h)
theorem Yv (n : Nat) (l : List Int) : yM n n l = fl (n * n) (fun m => l.getD (ac n m) 0) := Oy n
theorem P5 {n m : Nat} (h : m < n * n) (e : m / n = m % n) : ac n m = m := by
 unfold ac
 rw [← e]; have := Nat.div_add_mod m n; rw [← e, Nat.mul_comm] at this; exact this
theorem abU {n m : Nat} (h : m < n * n) : (ac n m / n = ac n m % n) ↔ m / n = m % n := by
 have h1 : m / n < n := Nat.div_lt_of_lt_mul h
 unfold ac
 rw [dv h1, md h1]; exact eq_comm
theorem YN {N : Nat} {Q : Nat → Int} (h : ∀ m, m < N → -70368744177664 ≤ Q m ∧ Q m ≤ 70368744177663) : YO (fl N Q) := fun j => by
 by_cases hj : j < N
 · rw [zl hj]; exact h j hj
 · rw [List.getD_eq_getElem?_getD, List.getElem?_eq_none (by rw [oV]; omega)]
   simp
def Gp (n : Nat) (l : List Int) : Prop := ∀ m, m < n * n → l.getD m 0 = l.getD (ac n m) 0 ∧ (m / n = m % n → 0 ≤ l.getD m 0)
end Go.Proofs.YtcfobekkchhbbaaGreat.PR

namespace Go.Proofs.YtcfobekkchhbbaaGreat.PR
open Go.RowKit Go.Proofs.YtcfobekkchhbbaaGreat.PQ Go.Proofs.af.aU Go.Proofs.af.a_ Go.Proofs.af.bf Go.Proofs.YtcfobekkchhbbaaGreat.KK
set_option linter.unusedVariables false
set_option linter.unusedSimpArgs false
instance aal (n : Nat) (l : List Int) : Decidable (Gp n l) := by unfold Gp; infer_instance
def rowP (n : Nat) (l : List Int) (a : Nat) : Prop := 0 ≤ l.getD (a * n + a) 0 ∧ ∀ b, b < a → l.getD (a * n + b) 0 = l.getD (b * n + a) 0
instance aaG (n : Nat) (l : List Int) (a : Nat) : Decidable (rowP n l a) := by unfold rowP; infer_instance
theorem AQ (n : Nat) (l : List Int) : Gp n l ↔ ∀ a, a < n → rowP n l a := by
 constructor
 · intro h a ha
   refine ⟨(h _ (kX (c := n) ha ha)).2 (by rw [dv ha, md ha]), fun b hb => ?_⟩
   have := (h _ (kX (c := n) ha (by omega : b < n))).1
   unfold ac at this
   rw [dv (by omega), md (by omega)] at this; exact this
 · intro h m hm
   have h0 : 0 < n := by rcases Nat.eq_zero_or_pos n with e | e; (subst e; omega); exact e
   have ha : m / n < n := Nat.div_lt_of_lt_mul hm; have hb : m % n < n := Nat.mod_lt m h0
   have e : m / n * n + m % n = m := by rw [Nat.mul_comm]; exact Nat.div_add_mod m n
   refine ⟨?_, fun d => ?_⟩
   · rcases Nat.lt_trichotomy (m / n) (m % n) with c | c | c
     · have := (h _ hb).2 _ c
       rw [e] at this; exact this.symm
     · rw [P5 hm c]
     · have := (h _ ha).2 _ c
       rw [e] at this; exact this
   · have := (h _ ha).1
     rwa [show m / n * n + m / n = m by rw [← d] at e; exact e] at this
def uX (n : Nat) (l : List Int) (i : Nat) : Prop := ∀ a, a < n → i ≤ a → rowP n l a
instance aak (n : Nat) (l : List Int) (a : Nat) : Decidable (uX n l a) := by unfold uX; infer_instance
theorem Q8 (n : Nat) (l : List Int) : uX n l n := fun a h h' => by omega
theorem xJ {n : Nat} {l : List Int} {i : Nat} (hi : i < n) : uX n l i ↔ rowP n l i ∧ uX n l (i + 1) := by
 constructor
 · exact fun h => ⟨h i hi (Nat.le_refl _), fun a h1 h2 => h a h1 (by omega)⟩
 · rintro ⟨h1, h2⟩ a ha hia
   rcases Nat.eq_or_lt_of_le hia with e | e
   · exact e ▸ h1
   · exact h2 a ha e
theorem qY {g : Nat → Option Bool} {P : Prop} [Decidable P] (h : ¬ P) (k : Ev g false) : Ev g (decide P) := by rw [decide_eq_false h]; exact k
theorem Ji {g : Nat → Option Bool} {P P' : Prop} [Decidable P] [Decidable P'] (h : P ↔ P') (k : Ev g (decide P)) : Ev g (decide P') := by
 have : decide P = decide P' := by simp [h]
 rw [← this]; exact k
theorem Fg (n : Nat) (r c : Int) (x : List Int) (r' c' : Int) (l : List Int) (h8 : n ≤ 8) (hl : l.length = n * n) (i : Nat) (hi : i < n)
 (next : Ev (fun k => aT.l0 k n ((i + 1 : Nat) : Int) r c x r' c' l) (decide (uX n l (i + 1)))) :
 ∀ (d j : Nat), j + d = i → Ev (fun k => aT.l1 k n i j r c x r' c' l) (decide ((∀ b, b < i → j ≤ b → l.getD (i * n + b) 0 = l.getD (b * n + i) 0) ∧ uX n l (i + 1))) := by
 intro d
 induction d with
 | zero =>
   intro j hj
   obtain rfl : j = i := by omega
   refine Ji (P := uX n l (j + 1)) ⟨fun h => ⟨fun b h1 h2 => by omega, h⟩, fun h => h.2⟩ ?_
   refine Ev.step (fun k => ?_) next
   conv => lhs; unfold aT.l1
   rw [if_neg (by omega), LG (by omega)]
 | succ d ih =>
   intro j hj
   have hji : j < i := by omega
   have h1 := kX (c := n) hi (by omega : j < n); have h2 := kX (c := n) (by omega : j < n) hi
   by_cases hx : l.getD (i * n + j) 0 = l.getD (j * n + i) 0
   · refine Ji (P := (∀ b, b < i → j + 1 ≤ b → l.getD (i * n + b) 0 = l.getD (b * n + i) 0) ∧ uX n l (i + 1)) ⟨fun h => ⟨fun b h1 h2 => ?_, h.2⟩, fun h => ⟨fun b h1 h2 => h.1 b h1 (by omega), h.2⟩⟩ ?_
     · rcases Nat.eq_or_lt_of_le h2 with e | e
       · exact e ▸ hx
       · exact h.1 b h1 e
     refine Ev.step (fun k => ?_) (ih (j + 1) (by omega))
     conv => lhs; unfold aT.l1
     rw [if_pos (by omega), A_ h8 hi (by omega), A_ h8 (by omega) hi, if_pos (by omega), if_pos (by omega), if_pos (by omega), if_pos (by omega), z_, z_, if_pos hx, LG (by omega)]
   · refine qY (fun h => hx (h.1 j hji (Nat.le_refl _))) ?_
     refine Ev.step (f := fun _ => some false) (fun k => ?_) (Ev.now _)
     conv => lhs; unfold aT.l1
     rw [if_pos (by omega), A_ h8 hi (by omega), A_ h8 (by omega) hi, if_pos (by omega), if_pos (by omega), if_pos (by omega), if_pos (by omega), z_, z_, if_neg hx]
theorem Dw (n : Nat) (r c : Int) (x : List Int) (r' c' : Int) (l : List Int) (h8 : n ≤ 8) (hl : l.length = n * n) :
 ∀ (d i : Nat), i + d = n → Ev (fun k => aT.l0 k n i r c x r' c' l) (decide (uX n l i)) := by
 intro d
 induction d with
 | zero =>
   intro i hi
   obtain rfl : i = n := by omega
   rw [decide_eq_true (Q8 i l)]; refine Ev.step (f := fun _ => some true) (fun k => ?_) (Ev.now _)
   conv => lhs; unfold aT.l0
   rw [if_neg (by omega)]
 | succ d ih =>
   intro i hi
   have hin : i < n := by omega
   have h1 := kX (c := n) hin hin
   by_cases hx : l.getD (i * n + i) 0 < 0
   · refine qY (fun h => by have := ((xJ hin).1 h).1.1; omega) ?_
     refine Ev.step (f := fun _ => some false) (fun k => ?_) (Ev.now _)
     conv => lhs; unfold aT.l0
     rw [if_pos (by omega), A_ h8 hin hin, if_pos (by omega), if_pos (by omega), z_, if_pos hx]
   · have h := Fg n r c x r' c' l h8 hl i hin (ih (i + 1) (by omega)) i 0 (by omega)
     refine Ji (P := (∀ b, b < i → 0 ≤ b → l.getD (i * n + b) 0 = l.getD (b * n + i) 0) ∧ uX n l (i + 1)) ⟨fun h => (xJ hin).2 ⟨⟨by omega, fun b hb => h.1 b hb (by omega)⟩, h.2⟩, fun h => ⟨fun b hb _ => ((xJ hin).1 h).1.2 b hb, ((xJ hin).1 h).2⟩⟩ ?_
     refine Ev.step (fun k => ?_) h
     conv => lhs; unfold aT.l0
     rw [if_pos (by omega), A_ h8 hin hin, if_pos (by omega), if_pos (by omega), z_, if_neg hx]; rfl
def iV (r c : Int) (x : List Int) (r' c' : Int) (l : List Int) : Prop := iW r c x = true ∧ iW r' c' l = true ∧ c = 1 ∧ r' = r ∧ c' = r ∧ Gp r.toNat l
instance Yu (r c : Int) (x : List Int) (r' c' : Int) (l : List Int) : Decidable (iV r c x r' c' l) := by unfold iV; infer_instance
theorem lY {r c : Int} {l : List Int} (h : iW r c l = true) : 1 ≤ r ∧ r ≤ 8 ∧ 1 ≤ c ∧ c ≤ 8 ∧ l.length = r.toNat * c.toNat ∧ l.any ny = false := by
 unfold iW at h
 simp only [Bool.and_eq_true, decide_eq_true_eq, Bool.not_eq_true', beq_iff_eq] at h; obtain ⟨⟨⟨⟨⟨h1, h2⟩, h3⟩, h4⟩, h5⟩, h6⟩ := h; have b0 : 0 ≤ r * c := Int.mul_nonneg (by omega) (by omega); have b1 : r * c ≤ 8 * c := Int.mul_le_mul_of_nonneg_right (by omega) (by omega); rw [Lp (by omega) (by omega)] at h5; exact ⟨by omega, by omega, by omega, by omega, Tt (by omega) (by omega) h5, h6⟩
theorem yQ (r c : Int) (l : List Int) : Ev (fun k => aI.f k r c l) (iW r c l) := by
 obtain ⟨k, hk⟩ := JP r c l; exact Ev.of (aI.mono r c l) hk
theorem Ih (r c : Int) (x : List Int) (r' c' : Int) (l : List Int) : Ev (fun k => aT.f k r c x r' c' l) (decide (iV r c x r' c' l)) := by
 have T : Ev (fun k => aT.j0 k r true r c x r' c' l) false := Ev.step (f := fun _ => some false) (fun k => rfl) (Ev.now _)
 unfold aT.f
 refine Ev.bind (yQ r c x) ?_
 refine Ev.bind (yQ r' c' l) ?_
 by_cases h1 : iW r c x = true
 · by_cases h2 : iW r' c' l = true
   · by_cases h3 : c = 1
     · by_cases h4 : r' = r
       · simp only [if_pos h1, if_pos h2, if_pos h3, if_pos h4]
         by_cases h5 : c' = r
         · have e : (c' != r) = false := by simp [h5]
           rw [e]; obtain ⟨a1, a2, a3, a4, a5, a6⟩ := lY h2
           obtain ⟨n, rfl⟩ : ∃ n : Nat, r = n := ⟨r.toNat, by omega⟩
           subst h4 h5; rw [Int.toNat_natCast] at a5; refine Ji (P := uX n l 0) ⟨fun h => ⟨h1, h2, h3, rfl, rfl, (AQ _ _).2 (fun a ha => h a ha (by omega))⟩, fun h a ha _ => (AQ _ _).1 h.2.2.2.2.2 a ha⟩ ?_
           exact Ev.step (fun k => rfl) (Dw n n c x n n l (by omega) a5 n 0 (by omega))
         · have e : (c' != r) = true := by simpa using h5
           rw [e]; exact qY (fun h => h5 h.2.2.2.2.1) T
       · simp only [if_pos h1, if_pos h2, if_pos h3, if_neg h4]
         exact qY (fun h => h4 h.2.2.2.1) T
     · simp only [if_pos h1, if_pos h2, if_neg h3]
       exact qY (fun h => h3 h.2.2.1) T
   · simp only [if_pos h1, if_neg h2]
     exact qY (fun h => h2 h.2.1) T
 · simp only [if_neg h1]
   exact qY (fun h => h1 h.1) T
end Go.Proofs.YtcfobekkchhbbaaGreat.PR

namespace Go.Proofs.YtcfobekkchhbbaaGreat.PR
open Go.RowKit Go.Proofs.YtcfobekkchhbbaaGreat.PQ Go.Proofs.af.aU Go.Proofs.af.a_ Go.Proofs.af.bf Go.Proofs.YtcfobekkchhbbaaGreat.KK
set_option linter.unusedVariables false
set_option linter.unusedSimpArgs false
theorem NS (l m : List Int) (hlen : l.length = m.length) (hl : l.length ≤ 1000000) : ∀ (d j : Nat), j + d = l.length → Ev (fun k => fU.l0 k l m l.length j) (decide (l.drop j = m.drop j)) := by
 intro d
 induction d with
 | zero =>
   intro j hj; refine Ev.step (f := fun _ => some true) (fun k => ?_) ?_
   · unfold fU.l0
     rw [if_neg (by omega)]
   · have : decide (l.drop j = m.drop j) = true := by
      rw [List.drop_eq_nil_of_le (by omega), List.drop_eq_nil_of_le (by omega)]; rfl
     rw [this]; exact Ev.now _
 | succ d ih =>
   intro j hj
   have h1 : j < l.length := by omega
   have h2 : j < m.length := by omega
   have r1 : rd l (j : Int) = l[j] := by unfold rd; rw [Int.toNat_natCast, List.getD_eq_getElem?_getD, List.getElem?_eq_getElem h1]; rfl
   have r2 : rd m (j : Int) = m[j] := by unfold rd; rw [Int.toNat_natCast, List.getD_eq_getElem?_getD, List.getElem?_eq_getElem h2]; rfl
   have ed : decide (l.drop j = m.drop j) = (decide (l[j] = m[j]) && decide (l.drop (j + 1) = m.drop (j + 1))) := by
    rw [List.drop_eq_getElem_cons h1, List.drop_eq_getElem_cons h2, ← Bool.decide_and]
    congr 1
    rw [List.cons.injEq]
   rw [ed]
   by_cases hx : l[j] = m[j]
   · rw [decide_eq_true hx, Bool.true_and]
     refine Ev.step (fun k => ?_) (ih (j + 1) (by omega))
     conv => lhs; unfold fU.l0
     rw [if_pos (by omega), if_pos (by omega), if_pos (by omega), if_pos (by omega), r1, r2, if_pos hx, LG (by omega)]
   · rw [decide_eq_false hx, Bool.false_and]
     refine Ev.step (f := fun _ => some false) (fun k => ?_) (Ev.now _)
     conv => lhs; unfold fU.l0
     rw [if_pos (by omega), if_pos (by omega), if_pos (by omega), if_pos (by omega), r1, r2, if_neg hx]
theorem rP (r c r' c' : Int) (l m : List Int) (hl : l.length ≤ 1000000) : Ev (fun k => iI.f k r c l r' c' m) (decide (r = r' ∧ c = c' ∧ l = m)) := by
 by_cases h1 : r = r' ∧ c = c'
 · have e : (r == r' && (c == c')) = true := by simp [h1.1, h1.2]
   refine Ev.congr (f := fun k => (fU.f k l m).bind fun t => some t) (fun k => ?_) ?_
   · show (if (r == r' && (c == c')) = true then _ else _) = _
     rw [if_pos e]
   · by_cases h3 : l.length = m.length
     · have ed : decide (r = r' ∧ c = c' ∧ l = m) = decide (l = m) := by simp [h1.1, h1.2]
       rw [ed]; refine Ev.bind (a := decide (l = m)) ?_ (Ev.now _)
       have := NS l m h3 hl l.length 0 (by omega); simp only [List.drop_zero] at this; refine Ev.congr (fun k => ?_) this
       unfold fU.f
       rw [if_pos (by omega)]; rfl
     · have ed : decide (r = r' ∧ c = c' ∧ l = m) = false := decide_eq_false (fun h => h3 (by rw [h.2.2]))
       rw [ed]; refine Ev.bind (a := false) ?_ (Ev.now _)
       refine Ev.congr (f := fun _ => some false) (fun k => ?_) (Ev.now _)
       unfold fU.f
       rw [if_neg (by omega)]
 · have e : ¬ (r == r' && (c == c')) = true := by simpa using h1
   have ed : decide (r = r' ∧ c = c' ∧ l = m) = false := decide_eq_false (fun h => h1 ⟨h.1, h.2.1⟩); rw [ed]; refine Ev.congr (f := fun _ => some false) (fun k => ?_) (Ev.now _)
   show (if (r == r' && (c == c')) = true then _ else _) = _; rw [if_neg e]
def XW (n : Nat) (l : List Int) (i : Nat) : Prop := ∀ a, a < n → i ≤ a → 0 ≤ l.getD (a * n + a) 0
theorem CV (n : Nat) (l : List Int) (hl : l.length = n * n) : (l = yM n n l ∧ XW n l 0) ↔ Gp n l := by
 rw [Yv]
 constructor
 · rintro ⟨h, d⟩ m hm
   refine ⟨?_, fun e => ?_⟩
   · conv => lhs; rw [h]
     rw [zl hm]
   · have ha : m / n < n := Nat.div_lt_of_lt_mul hm
     have h2 := Nat.div_add_mod m n; have := d (m / n) ha (by omega)
     rwa [show m / n * n + m / n = m by rw [Nat.mul_comm]; rw [← e] at h2; exact h2] at this
 · intro h
   refine ⟨Uj hl (fun m hm => (h m hm).1), fun a ha _ => ((AQ n l).1 h a ha).1⟩
end Go.Proofs.YtcfobekkchhbbaaGreat.PR

namespace Go.Proofs.YtcfobekkchhbbaaGreat.PR
open Go.RowKit Go.Proofs.YtcfobekkchhbbaaGreat.PQ Go.Proofs.af.aU Go.Proofs.af.a_ Go.Proofs.af.bf Go.Proofs.YtcfobekkchhbbaaGreat.KK
set_option linter.unusedVariables false
set_option linter.unusedSimpArgs false
theorem yU (n : Nat) (A : Option Addr) (cp : Nat) (x : List Int) (A' : Option Addr) (cp' : Nat) (l : List Int) (w : World) (hA : Rd w A x) (kA : x.length ≤ cp) (hA' : Rd w A' l) (kA' : l.length ≤ cp') (ht : iV n 1 x n n l) :
 Calls Tryz.prog 39 #[.agg #[I n, I 1, .slice A x.length cp, I n, I n, .slice A' l.length cp']] w fun e w' => e = .returned (.bool true) ∧ Below w.heap.size w w' := by
 obtain ⟨p1, p2, _, _, _, p6⟩ := ht; obtain ⟨a1, a2, _, _, a5, _⟩ := lY p1; obtain ⟨_, _, _, _, b5, _⟩ := lY p2; rw [Int.toNat_natCast] at a5 b5 p6
 have h8 : n ≤ 8 := by omega
 have h1 : 1 ≤ n := by omega
 have n64 := sq8 h8; obtain ⟨b, off, hAe, _, hcells⟩ := hA'.cells (by have := Nat.mul_le_mul h1 h1; omega); subst hAe; have et : l = yM n n l := ((CV n l b5).2 p6).1; have hd := ((CV n l b5).2 p6).2; have N : Hid (bD w [(31, #[I n, I 1, .slice A x.length cp, I n, I n, .slice (some ⟨b, off, none⟩) l.length cp'])] (w.alloc (.cells #[I n, I 1, .slice A x.length cp, I n, I n, .slice (some ⟨b, off, none⟩) l.length cp'] 31))) := Lib.hid ((bD.none w).push (by simp) _ _)
 obtain ⟨wr, hwr⟩ : ∃ wr, w.alloc (.cells #[I n, I 1, .slice A x.length cp, I n, I n, .slice (some ⟨b, off, none⟩) l.length cp'] 31) = wr := ⟨_, rfl⟩
 have NR : Hid (bD w [(31, #[I n, I 1, .slice A x.length cp, I n, I n, .slice (some ⟨b, off, none⟩) l.length cp'])] wr) := Lib.hid (by rw [← hwr]; exact N.out)
 have T39 : Hid (∀ w', Below wr.heap.size wr w' → Calls Tryz.prog 80 #[.agg #[I n, I 1, .slice A x.length cp]] w' fun e w'' => e = .returned (.bool true) ∧ Below w'.heap.size w' w'') := Lib.hid (fun w' h => by
  have hh := kG n 1 A cp x w' (hA.below (PW NR.out.be h)); rw [p1] at hh; exact hh)
 have ab3 : Hid (∀ w', Below wr.heap.size wr w' → Calls Tryz.prog 80 #[.agg #[I n, I n, .slice (some ⟨b, off, none⟩) l.length cp']] w' fun e w'' => e = .returned (.bool true) ∧ Below w'.heap.size w' w'') := Lib.hid (fun w' h => by
  have hh := kG n n (some ⟨b, off, none⟩) cp' l w' (hA'.below (PW NR.out.be h)); rw [p2] at hh; exact hh)
 have T41 : Hid (∀ w', Below wr.heap.size wr w' → Calls Tryz.prog 82 #[.agg #[I n, I n, .slice (some ⟨b, off, none⟩) l.length cp']] w' fun e w'' => ∃ Q dq, e = .returned (.agg #[I n, I n, .slice Q l.length dq]) ∧ Own w'' w'.heap.size (.slice Q l.length dq) l ∧ Below w'.heap.size w' w'') := Lib.hid (fun w' h => by
  have hh := nG n n (some ⟨b, off, none⟩) cp' l w' h8 h8 b5 (hA'.below (PW NR.out.be h)); refine hh.mono ?_
  rintro e w'' ⟨v, rfl, ho, hb⟩; rw [← et] at ho; obtain ⟨Q, dq, rfl, _, _⟩ := Own.reads ho; exact ⟨Q, dq, rfl, ho, hb⟩)
 have T40 : Hid (∀ w' Q dq, Below wr.heap.size wr w' → Rd w' Q l → l.length ≤ dq → Calls Tryz.prog 81 #[.agg #[I n, I n, .slice (some ⟨b, off, none⟩) l.length cp'], .agg #[I n, I n, .slice Q l.length dq]] w' fun e w'' => e = .returned (.bool true) ∧ Below w'.heap.size w' w'') := Lib.hid (fun w' Q dq h hq dq' => by
  have e1 := rP n n n n l l (by omega); rw [decide_eq_true ⟨rfl, rfl, rfl⟩] at e1; obtain ⟨k, hk⟩ := e1.rounds; exact iI.calls k n n (some ⟨b, off, none⟩) cp' l n n Q dq l _ w' (hA'.below (PW NR.out.be h)) kA' hq dq' hk)
 have KK : Hid (∀ w', Below wr.heap.size wr w' → (∀ o, w'.cell? ⟨w.heap.size, o, none⟩ = #[I n, I 1, .slice A x.length cp, I n, I n, .slice (some ⟨b, off, none⟩) l.length cp'][o]?) ∧ True) := Lib.hid (fun w' h => ⟨(NR.out.r0.below h NR.out.r0.lt).cell, trivial⟩)
 have CL : Hid (∀ w' (k : Nat), Below wr.heap.size wr w' → k < n → w'.cell? ⟨b, off + (k * n + k), none⟩ = some (I (l.getD (k * n + k) 0)) ∧ 0 ≤ l.getD (k * n + k) 0) := Lib.hid (fun w' k h hk => by
  have hlt := kX hk hk
  have hb := (PW NR.out.be h)
  refine ⟨?_, hd k hk (by omega)⟩
  have hc := hcells (k * n + k) _ (jw (by omega)); have := hb.cell (p := ⟨b, off + (k * n + k), none⟩) (by have := cell_lt hc; exact this); rw [this]; exact hc)
 have LN : Hid (l.length = n * n ∧ n ≤ 8) := Lib.hid ⟨b5, h8⟩; have BN := Lib.hid (Below.refl wr.heap.size wr); clear p1 p2 p6 a1 a2 a5 b5 h8 h1 n64 et hd hA kA hA' kA' hcells; have HW := Lib.hid hwr; clear hwr; have x0 := N.out.r0.cell
 go_enter Tryz.func39, Tryz.ntmps39
 go_wp2_with fail
 change Code.wp Tryz.prog _ _ _ (w.alloc (.cells #[I n, I 1, .slice A x.length cp, I n, I n, .slice (some ⟨b, off, none⟩) l.length cp'] 31)); rw [HW.out]; clear HW N x0
 go_region_held3 (fun w' => (∀ o, w'.cell? ⟨w.heap.size, o, none⟩ = #[I n, I 1, .slice A x.length cp, I n, I n, .slice (some ⟨b, off, none⟩) l.length cp'][o]?) ∧ True)
  (first | with_reducible exact KK.out _ BN.out | with_reducible exact KK.out _ (bal BN.out _) | with_reducible exact KK.out _ (N_ BN.out) | with_reducible exact KK.out _ (bal (N_ BN.out) _) | with_reducible exact KK.out _ (N_ (bal BN.out _)))
  (first
      | (go_at_call 81
         first
          | ((with_reducible refine (T40.out _ _ _ (BN.out) RQ.out DQ.out).mono ?_)
             rintro e w4 ⟨rfl, hb⟩; have RQ := Lib.hid (Rd.below RQ.out hb); have BN := Lib.hid (PW (BN.out) hb); have zw4 := BN.out.size
             clear hb))
      | (go_at_call 82
         first
          | ((with_reducible refine (T41.out _ (BN.out)).mono ?_)
             rintro e w3 ⟨Q, dq, rfl, ho, hb⟩; have RQ := Lib.hid (Own.rd ho).1; have DQ := Lib.hid (Own.rd ho).2; have BN := Lib.hid (PW (BN.out) hb); have zw3 := BN.out.size
             clear hb ho))
      | (go_at_call 80
         first
          | ((with_reducible refine (ab3.out _ (BN.out)).mono ?_)
             rintro e w2 ⟨rfl, hb⟩; have BN := Lib.hid (PW (BN.out) hb); have zw2 := BN.out.size
             clear hb))
      | (go_at_call 80
         first
          | ((with_reducible refine (T39.out _ (N_ BN.out)).mono ?_)
             rintro e w1 ⟨rfl, hb⟩; have BN := Lib.hid (PW (N_ BN.out) hb); have zw1 := BN.out.size
             clear hb)))
 have x0 := (KK.out _ BN.out).1; have BE := Lib.hid (PW NR.out.be BN.out); have CM := Lib.hid (fun k (h : k < n) => CL.out w4 k BN.out h); clear T39 ab3 T40 T41 KK CL NR BN RQ DQ zw1 zw2 zw3 zw4
 go_wp2_with fail
 go_loop [48] (fun u => ∃ k : Nat, k ≤ n ∧ u = .int .i64 k) (fun u => n - (intOf u).toNat)
 case atStart => exact ⟨0, Nat.zero_le _, rfl⟩
 case round =>
  obtain ⟨k, hk, rfl⟩ := hrel
  by_cases hlt : k < n
  · obtain ⟨c1, c2⟩ := CM.out k hlt
    have hln := LN.out; have n64 := sq8 hln.2; have hlk := kX hlt hlt
    obtain ⟨q, hq⟩ : ∃ q, l.getD (k * n + k) 0 = q := ⟨_, rfl⟩
    rw [hq] at c1 c2; have e1 : decide (q < 0) = false := decide_eq_false (by omega)
    obtain ⟨p, hp⟩ : ∃ p : Nat, k * n = p := ⟨_, rfl⟩
    have hp2 : (k : Int) * (n : Int) = (p : Int) := by rw [← hp]; push_cast; rfl
    rw [hp] at c1 hlk
    have hw1 : IntKind.i64.wrap ((k : Int) * (n : Int)) = (p : Int) := by rw [hp2]; simp [IntKind.wrap, IntKind.bits, IntKind.signed]; omega
    have hw2 : IntKind.i64.wrap ((p : Int) + (k : Int)) = ((p + k : Nat) : Int) := by simp [IntKind.wrap, IntKind.bits, IntKind.signed]; omega
    obtain ⟨j, hj⟩ : ∃ j : Nat, p + k = j := ⟨_, rfl⟩
    rw [hj] at c1 hlk hw2
    have hj0 : (0 : Int) ≤ (j : Int) := by omega
    have hj1 : (j : Int) < l.length := by omega
    have hk8 : k + 1 ≤ 8 := by omega
    have HK : Hid (k + 1 ≤ n ∧ n ≤ 8) := Lib.hid ⟨by omega, by omega⟩; clear hq hp hp2 hj hln n64 hlk c2 CM LN; go_wp2
    go_round
    case rel => exact ⟨k + 1, HK.out.1, by go_num⟩
    case measure => simp [intOf]; omega
  · go_wp2
    go_ret
    exact ⟨rfl, BE.out⟩
end Go.Proofs.YtcfobekkchhbbaaGreat.PR

namespace Go.Proofs.YtcfobekkchhbbaaGreat.PR
open Go.RowKit Go.Proofs.YtcfobekkchhbbaaGreat.PQ Go.Proofs.af.aU Go.Proofs.af.a_ Go.Proofs.af.bf Go.Proofs.YtcfobekkchhbbaaGreat.KK
set_option linter.unusedVariables false
set_option linter.unusedSimpArgs false
theorem dM {l : List Int} (h : YO l) : l.any ny = false := by
 rw [List.any_eq_false]; intro a ha; obtain ⟨j, hj, rfl⟩ := List.getElem_of_mem ha; have := h j; rw [List.getD_eq_getElem?_getD, List.getElem?_eq_getElem hj] at this
 simp at this
 unfold ny
 simp
 omega
theorem F8 {r c : Nat} {l : List Int} (h1 : 1 ≤ r) (h2 : r ≤ 8) (h3 : 1 ≤ c) (h4 : c ≤ 8) (hl : l.length = r * c) (h : YO l) : iW r c l = true := by
 have b1 : r * c ≤ 8 * 8 := Nat.mul_le_mul h2 h4
 have e : wrap64 ((r : Int) * (c : Int)) = ((r * c : Nat) : Int) := by
  have e : (r : Int) * (c : Int) = ((r * c : Nat) : Int) := by push_cast; rfl
  rw [e, Lp (by omega) (by omega)]
 unfold iW
 rw [dM h, e, hl]
 simp
 omega
end Go.Proofs.YtcfobekkchhbbaaGreat.PR

namespace Go.Proofs.YtcfobekkchhbbaaGreat.PR
open Go.RowKit Go.Proofs.YtcfobekkchhbbaaGreat.PQ Go.Proofs.af.aU Go.Proofs.af.a_ Go.Proofs.af.bf Go.Proofs.YtcfobekkchhbbaaGreat.KK
set_option linter.unusedVariables false
set_option linter.unusedSimpArgs false
theorem aaH {w : World} {B : Nat} {a b c d e f : Value} {fn : Func} {k i : Nat} {tmps : Array Value} (h : fn.results = #[.cell k 31, .tmp i]) (hk : tmps.getD k undef = .pointer (some ⟨B, 0, none⟩)) (R : Row w B 31 #[a, b, c, d, e, f]) :
 (results fn tmps).run Tryz.prog w = .ok (.tuple #[.agg #[a, b, c, d, e, f], tmps.getD i undef]) w := by
 have c := R.cell
 have hk' : tmps[k]?.getD undef = .pointer (some ⟨B, 0, none⟩) := by simpa using hk
 simp only [results, h]
 simp [go_sem, hk', c]
def newP (x v : List Int) : Prop := x.length = v.length ∧ 1 ≤ v.length ∧ v.length ≤ 8 ∧ YO x ∧ YO v ∧ ∀ j, 0 ≤ v.getD j 0
theorem KH (l : List Int) : iH l = fl (l.length * l.length) (fun j => if j / l.length = j % l.length then l.getD (j / l.length) 0 else 0) := by
 unfold iH
 rw [Oy]
theorem WV (l : List Int) (h : YO l) : YO (iH l) := by
 rw [KH]; refine YN (fun m _ => ?_)
 split
 · exact h _
 · omega
theorem Ru (l : List Int) (h : ∀ j, 0 ≤ l.getD j 0) : Gp l.length (iH l) := by
 intro m hm; rw [KH, zl hm, zl (abT hm)]
 constructor
 · by_cases e : m / l.length = m % l.length
   · rw [if_pos e, if_pos ((abU hm).2 e), P5 hm e]
   · rw [if_neg e, if_neg (fun h => e ((abU hm).1 h))]
 · intro e
   rw [if_pos e]; exact h _
theorem QL {x v : List Int} (h : newP x v) : iV (v.length : Int) 1 x v.length v.length (iH v) := by
 obtain ⟨hl, h1, h8, hx, hv, h0⟩ := h; refine ⟨F8 (c := 1) h1 h8 (by omega) (by omega) (by omega) hx, F8 h1 h8 h1 h8 (l7 v) (WV v hv), rfl, rfl, rfl, ?_⟩
 rw [Int.toNat_natCast]; exact Ru v h0
end Go.Proofs.YtcfobekkchhbbaaGreat.PR

namespace Go.Proofs.YtcfobekkchhbbaaGreat.PR
open Go.RowKit Go.Proofs.YtcfobekkchhbbaaGreat.PQ Go.Proofs.af.aU Go.Proofs.af.a_ Go.Proofs.af.bf Go.Proofs.YtcfobekkchhbbaaGreat.KK
set_option linter.unusedVariables false
set_option linter.unusedSimpArgs false
def iY (n : Nat) (lx lh : List Int) (z : Int) : Int := (ng z ((mulL 1 n 1 lh lx).getD 0 0)).1
def iS (n : Nat) (lp lh : List Int) (r : Int) : Int := (jL ((jI 1 n lh lp).getD 0 0) r).1
def iO (n : Nat) (lx lp lh : List Int) (z r : Int) : Bool := ((false || uy 1 n 1 lh lx || (ng z ((mulL 1 n 1 lh lx).getD 0 0)).2) || pJ 1 n lh lp) || (jL ((jI 1 n lh lp).getD 0 0) r).2
theorem Np (n : Nat) (lx lp lh : List Int) (z r : Int) (h8 : n ≤ 8) (hx : lx.length = n * 1) (hp : lp.length = n * n) (hh : lh.length = 1 * n) :
 fA.f false n 1 lx n n lp 1 n lh z r = some (iY n lx lh z, iS n lp lh r, iO n lx lp lh z r) := by
 have e1 := DR (r := 1) (c1 := n) (c2 := 1) (l := lh) (m := lx) (by omega) h8 (by omega) hh hx; have eo : ((1 : Nat) : Int) = 1 := rfl; rw [eo] at e1
 unfold fA.f
 rw [e1]; simp only [Option.bind_some]; rw [if_pos (by rw [lC]; omega)]; have e2 := uP (false || uy 1 n 1 lh lx || (ng z ((mulL 1 n 1 lh lx).getD 0 0)).2) 1 n lh lp (by omega) h8 hh hp; rw [eo] at e2; rw [e2]; simp only [Option.bind_some]; rw [if_pos (by unfold jI; rw [lC]; omega)]; rfl
theorem Tv (n : Nat) (lx lp lh : List Int) (r : Int) (hr : 0 < r) : PQ.fM.f 1000 n 1 lx n n lp 1 n lh r = some 0 := by
 unfold PQ.fM.f
 rw [if_pos rfl, show (1000 : Nat) = 999 + 1 from rfl]
 unfold PQ.fM.j0
 simp
 omega
def Upd (n : Nat) (lx lp lh : List Int) (z r gate : Int) (X P : List Int) (tk fl : Bool) : Prop :=
 if (kE (iY n lx lh z) (iY n lx lh z)).1 > (kE gate (iS n lp lh r)).1 ∨ iS n lp lh r ≤ 0 then
  X = lx ∧ P = lp ∧ tk = false ∧ fl = (iO n lx lp lh z r || (kE (iY n lx lh z) (iY n lx lh z)).2 || (kE gate (iS n lp lh r)).2)
 else X = tX n lx lp lh (iY n lx lh z) (iS n lp lh r) ∧ P = tP n lp lh (iS n lp lh r) r ∧ tk = true ∧ fl = tB n lx lp lh (iY n lx lh z) (iS n lp lh r) r (iO n lx lp lh z r || (kE (iY n lx lh z) (iY n lx lh z)).2 || (kE gate (iS n lp lh r)).2)
end Go.Proofs.YtcfobekkchhbbaaGreat.PR

namespace Go.Proofs.YtcfobekkchhbbaaGreat.PR
open Go.RowKit Go.Proofs.YtcfobekkchhbbaaGreat.PQ Go.Proofs.af.aU Go.Proofs.af.a_ Go.Proofs.af.bf Go.Proofs.YtcfobekkchhbbaaGreat.KK
set_option linter.unusedVariables false
set_option linter.unusedSimpArgs false
theorem Tn (n : Nat) (A1 A2 : Option Addr) (c1 c2 : Nat) (x v : List Int) (w : World) (rx : Rd w A1 x) (rv : Rd w A2 v) (h : newP x v) (ex : x.length = n) (ev : v.length = n) :
 Calls Tryz.prog 33 #[.slice A1 n c1, .slice A2 n c2] w fun e w' => ∃ Ax dx Ap dp, e = .returned (.tuple #[.agg #[I n, I 1, .slice Ax n dx, I n, I n, .slice Ap (iH v).length dp], I 0]) ∧ Own w' w.heap.size (.slice Ax x.length dx) x ∧ n ≤ dx ∧ Own w' w.heap.size (.slice Ap (iH v).length dp) (iH v) ∧ (iH v).length ≤ dp ∧ Below w.heap.size w w' := by
 have N : Hid (bD w [(31, #[I 0, I 0, .slice none 0 0, I 0, I 0, .slice none 0 0])] (w.alloc (.cells #[I 0, I 0, .slice none 0 0, I 0, I 0, .slice none 0 0] 31))) := Lib.hid ((bD.none w).push (by simp) _ _); have HT : Hid (iV (n : Int) 1 x n n (iH v)) := Lib.hid (by have := QL h; rwa [ev] at this); obtain ⟨hl, h1, h8, hx, hv, h0⟩ := h; have EX := Lib.hid ex
 have HC : Hid (∀ w', Rd w' A1 x → Calls Tryz.prog 75 #[.slice A1 n c1] w' fun e w'' => ∃ C dc, e = .returned (.slice C n dc) ∧ n ≤ dc ∧ Own w'' w'.heap.size (.slice C x.length dc) x ∧ Below w'.heap.size w' w'') := Lib.hid (fun w' h => by
  have hh := KL A1 c1 x w' h (by omega) (fun e => by
   obtain ⟨b, off, e2, _⟩ := Rd.cells h (by omega); rw [e] at e2
   cases e2)
  rw [ex] at hh; refine hh.mono ?_
  rintro e w'' ⟨v', rfl, ho, hb⟩; obtain ⟨C, dc, rfl, hc, _⟩ := Own.reads ho; rw [ex] at hc; exact ⟨C, dc, by rw [ex], hc, ho, hb⟩)
 have HD : Hid (∀ w', Rd w' A2 v → Calls Tryz.prog 74 #[.slice A2 n c2] w' fun e w'' => ∃ v', e = .returned (.tuple #[.agg #[I n, I n, v'], I 0]) ∧ Own w'' w'.heap.size v' (iH v) ∧ Below w'.heap.size w' w'') := Lib.hid (fun w' h => by
  have hh := AU A2 c2 v w' h h1 h8 (PR.dM hv); rw [ev] at hh; exact hh)
 have RX := Lib.hid rx; have RV := Lib.hid rv; clear rx rv hl h1 h8 hx hv h0 ex ev
 go_enter Tryz.func33, Tryz.ntmps33
 go_wp2_with fail
 refine (HD.out _ (RV.out.below N.out.be)).mono ?_
 rintro e w1 ⟨v', rfl, ho, hb⟩; obtain ⟨D, dd, rfl, _, _⟩ := Own.reads ho; have N1 := Lib.hid ((N.out.below hb).alloc (.cells #[I n, I n, .slice D (iH v).length dd] 29)); have PB := Lib.hid (Row.new w1 29 #[I n, I n, .slice D (iH v).length dd]); have DO : Hid (Own (w1.alloc (.cells #[I n, I n, .slice D (iH v).length dd] 29)) (w.heap.size + 1) (.slice D (iH v).length dd) (iH v)) := Lib.hid (Own.lower (Own.alloc ho _) (by simp)); have DC := Lib.hid (Own.rd ho).2; clear ho hb N HD RV
 go_wp2_with fail
 rename_i K2 aK2; generalize w1.alloc (.cells #[I n, I n, .slice D (iH v).length dd] 29) = wr at N1 PB DO ⊢; generalize w1.heap.size = pb at PB ⊢; have ZV : Hid (∀ w', Below wr.heap.size wr w' → (∀ o, w'.cell? ⟨pb, o, none⟩ = #[I n, I n, .slice D (iH v).length dd][o]?) ∧ True) := Lib.hid (fun w' h => ⟨(PB.out.below h PB.out.lt).cell, trivial⟩); have T31 := Lib.hid (fun w' (h : Below wr.heap.size wr w') => HC.out w' (RX.out.below (PW N1.out.be h))); have BN := Lib.hid (Below.refl wr.heap.size wr); clear HC RX
 have REST : Hid (∀ (tb : Nat) (w3 : World) (C : Option Addr) (dc : Nat), Below wr.heap.size wr w3 → Row w3 tb 31 #[I n, I 1, .slice C n dc, I n, I n, .slice D (iH v).length dd] → Own w3 (w.heap.size + 1) (.slice C x.length dc) x → n ≤ dc → wr.heap.size ≤ tb → K2 { tmps := #[Value.slice A1 n c1, Value.slice A2 n c2, undef, undef, Value.pointer (some ⟨w.heap.size, 0, none⟩), I 0, Value.pointer (some ⟨pb, 0, none⟩), I 0, Value.pointer (some ⟨tb, 0, none⟩), Value.tuple #[Value.agg #[I n, I n, Value.slice D (iH v).length dd], I 0], Value.slice A2 n c2, Value.tuple #[Value.agg #[I n, I n, Value.slice D (iH v).length dd], I 0], Value.agg #[I n, I n, Value.slice D (iH v).length dd], I 0, Value.slice A1 n c1, I n, Value.slice A1 n c1, Value.slice C n dc, Value.agg #[I n, I 1, Value.slice C n dc], Value.agg #[I n, I n, Value.slice D (iH v).length dd], Value.agg #[I n, I 1, Value.slice C n dc, I n, I n, Value.slice D (iH v).length dd], undef, undef, undef, undef, undef, undef, undef, undef, undef], defers := [] } w3) := Lib.hid (by
  intro tb w3 C dc hB hT hx kx htb; refine aK2 _ _ ?_
  have N3 := Lib.hid (N1.out.below hB); have TB := Lib.hid hT; have RC := Lib.hid hx; have KC := Lib.hid kx; have DO3 := Lib.hid (DO.out.below hB); have ZB : Hid (w.heap.size + 1 ≤ wr.heap.size ∧ wr.heap.size ≤ tb) := Lib.hid ⟨by have h := N1.out.rows.le N1.out.be.size; simpa using h, htb⟩
  have T18 : Hid (Calls Tryz.prog 39 #[.agg #[I n, I 1, .slice C n dc, I n, I n, .slice D (iH v).length dd]] w3 fun e w' => e = .returned (.bool true) ∧ Below w3.heap.size w3 w') := Lib.hid (by
   have hh := yU n C dc x D dd (iH v) w3 (Own.rd hx).1 (by rw [EX.out]; exact kx) (Own.rd DO3.out).1 DC.out HT.out; rw [EX.out] at hh; exact hh)
  clear hB hT hx kx htb T31 ZV BN N1 PB DO aK2; have xt := TB.out.cell
  go_wp2_with fail
  refine T18.out.mono ?_
  rintro e w4 ⟨rfl, hb⟩; have N4 := Lib.hid (N3.out.below hb); have T4 := Lib.hid (TB.out.below hb TB.out.lt); have RC4 := Lib.hid (RC.out.below hb); have DO4 := Lib.hid (DO3.out.below hb); clear hb xt N3 TB RC DO3 T18; have xt := T4.out.cell; have x0 := N4.out.r0.cell; have g0 := N4.out.r0.free; have zz := ZB.out
  have hne : tb ≠ w.heap.size := by omega
  have t0 := N4.out.r0.lt; go_wp2
  refine bodyPost_ret (aaH rfl rfl (Row.g_ N4.out.r0 _ _ _ _ _ _)) rfl ⟨_, _, _, _, rfl, ?_, KC.out, ?_, DC.out, ?_⟩
  · exact Own.lower (Own.g_ RC4.out (by omega) _ _ _ _ _ _) (by omega)
  · exact Own.lower (Own.g_ DO4.out (by omega) _ _ _ _ _ _) (by omega)
  · exact Below.g_ N4.out.be (Nat.le_refl _) _ _ _ _ _ _)
 go_region_held3 (fun w' => (∀ o, w'.cell? ⟨pb, o, none⟩ = #[I n, I n, .slice D (iH v).length dd][o]?) ∧ True)
  (first | with_reducible exact ZV.out _ BN.out | with_reducible exact ZV.out _ (bal BN.out _) | with_reducible exact ZV.out _ (N_ BN.out) | with_reducible exact ZV.out _ (bal (N_ BN.out) _) | with_reducible exact ZV.out _ (N_ (bal BN.out _)) | ((with_reducible refine ZV.out _ (Below.g_ BN.out ?_ _ _ _ _ _ _)); first | omega | (simp; omega)))
  (first
      | (go_at_call 75
         first
          | ((with_reducible refine (T31.out _ (N_ BN.out)).mono ?_)
             rintro e w2 ⟨C, dc, rfl, hc, ho, hb⟩; have OC := Lib.hid ho; have LC := Lib.hid hc; have BN := Lib.hid (PW (N_ BN.out) hb); have zw2 := BN.out.size
             clear hb ho hc)
          | ((with_reducible refine (T31.out _ (bal (N_ BN.out) _)).mono ?_)
             rintro e w2 ⟨C, dc, rfl, hc, ho, hb⟩; have OC := Lib.hid ho; have LC := Lib.hid hc; have BN := Lib.hid (PW (bal (N_ BN.out) _) hb); have zw2 := BN.out.size; have TB : Hid (Row w2 wr.heap.size 31 #[I 0, I 0, .slice none 0 0, I 0, I 0, .slice none 0 0]) := Lib.hid (Row.below (Row.new wr.drew 31 #[I 0, I 0, .slice none 0 0, I 0, I 0, .slice none 0 0]) hb (by simp)); have zt := TB.out.lt; have kc := TB.out.cell; have kf := TB.out.free
             clear hb ho hc)
          | ((with_reducible refine (T31.out _ (N_ (bal BN.out _))).mono ?_)
             rintro e w2 ⟨C, dc, rfl, hc, ho, hb⟩; have OC := Lib.hid ho; have LC := Lib.hid hc; have BN := Lib.hid (PW (N_ (bal BN.out _)) hb); have zw2 := BN.out.size; have TB : Hid (Row w2 wr.heap.size 31 #[I 0, I 0, .slice none 0 0, I 0, I 0, .slice none 0 0]) := Lib.hid (Row.below (Row.drew (Row.new wr 31 #[I 0, I 0, .slice none 0 0, I 0, I 0, .slice none 0 0])) hb (by simp)); have zt := TB.out.lt; have kc := TB.out.cell; have kf := TB.out.free
             clear hb ho hc)))
 all_goals
  show K2 _ _
  first
   | ((with_reducible refine REST.out _ _ _ _ (bal BN.out _) (Row.new _ _ _) (Own.lower (OC.out.alloc _) ?_) LC.out (by omega)); have h := N1.out.rows.le N1.out.be.size; simp at h; first | omega | (simp; omega))
   | ((with_reducible refine REST.out _ _ _ _ (Below.g_ BN.out ?_ _ _ _ _ _ _) (Row.g_ TB.out _ _ _ _ _ _) (Own.lower (Own.g_ OC.out ?_ _ _ _ _ _ _) ?_) LC.out ?_)
      all_goals have h := N1.out.rows.le N1.out.be.size
      all_goals simp at h
      all_goals first | omega | (simp; done) | (simp; omega))
theorem Nj (A1 A2 : Option Addr) (c1 c2 : Nat) (x v : List Int) (w : World) (rx : Rd w A1 x) (cx : x.length ≤ c1) (rv : Rd w A2 v) (cv : v.length ≤ c2) (h : newP x v) :
 Calls Tryz.prog 33 #[.slice A1 x.length c1, .slice A2 v.length c2] w fun e w' => ∃ Ax dx Ap dp, e = .returned (.tuple #[.agg #[I x.length, I 1, .slice Ax x.length dx, I v.length, I v.length, .slice Ap (iH v).length dp], I 0]) ∧ Own w' w.heap.size (.slice Ax x.length dx) x ∧ x.length ≤ dx ∧ Own w' w.heap.size (.slice Ap (iH v).length dp) (iH v) ∧ (iH v).length ≤ dp ∧ Below w.heap.size w w' := by
 have hh := Tn v.length A1 A2 c1 c2 x v w rx rv h h.1 rfl; rw [h.1] at hh ⊢; exact hh
end Go.Proofs.YtcfobekkchhbbaaGreat.PR

namespace Go.Proofs.YtcfobekkchhbbaaGreat.KK
open Go.ChangeShapes Go.WideShapes Go.ChangeAt Go.RowKit Go.Deep Go.Proofs.af.aU
set_option linter.unusedVariables false
set_option linter.unusedSimpArgs false
theorem k22 : Tryz.prog.cellsOf 22 = 1 := by kernel_rfl
theorem k24 : Tryz.prog.cellsOf 27 = 1 := by kernel_rfl
theorem k26 : Tryz.prog.cellsOf 29 = 3 := by kernel_rfl
theorem k28 : Tryz.prog.cellsOf 31 = 6 := by kernel_rfl
theorem k2 : Tryz.prog.cellsOf 2 = 1 := by kernel_rfl
theorem k3 : Tryz.prog.cellsOf 3 = 1 := by kernel_rfl
theorem laidOut : laidOutB Tryz.prog = true := by kernel_rfl
theorem agj {α : Type} {l : List α} (h : l.length = 3) : ∃ a b c, l = [a, b, c] := by
 match l, h with
 | [a, b, c], _ => exact ⟨a, b, c, rfl⟩
theorem agi {α : Type} {l : List α} (h : l.length = 6) : ∃ a b c d e f, l = [a, b, c, d, e, f] := by
 match l, h with
 | [a, b, c, d, e, f], _ => exact ⟨a, b, c, d, e, f, rfl⟩
theorem BH {α : Type} {P : Nat → α → Prop} : ∀ {n : Nat}, (∀ i, i < n → ∃ o, P i o) → ∃ l : List α, l.length = n ∧ ∀ i o, l[i]? = some o → P i o
 | 0, _ => ⟨[], rfl, fun i o h => by simp at h⟩
 | n + 1, h => by
   obtain ⟨l, hl, hk⟩ := BH (P := P) (n := n) fun i hi => h i (by omega)
   obtain ⟨o, ho⟩ := h n (by omega); refine ⟨l ++ [o], by simp [hl], fun i x hx => ?_⟩
   rw [List.getElem?_append] at hx
   split at hx
   · exact hk i x hx
   · have : i - l.length = 0 := by
      rcases Nat.eq_zero_or_pos (i - l.length) with h | h
      · exact h
      · rw [List.getElem?_eq_none (by simp; omega)] at hx; cases hx
     rw [this] at hx
     simp at hx
     subst hx
     have : i = n := by omega
     subst this; exact ho
section
variable {H : Type} {enc : TypeId × Value → H} {W : World} {base : Nat} {sp : Nat → Bool} {held : Bool} {fuel : Nat} {cs : List Value} {x : DataW H × List MemPlace}
theorem FM {fs : Array Field} {n : Nat} {xs : List (DataW H × List MemPlace)} (hf : ∀ (i : Nat) (f : Field), fs[i]? = some f → DataW.trod enc Tryz.prog W base sp held n f.type ((cs.drop f.offset).take (Tryz.prog.cellsOf f.type)) = xs[i]?)
 (i : Nat) (t : TypeId) (o k : Nat) (h : (fs[i]?).map (fun f => (f.type, f.offset)) = some (t, o)) (hk : Tryz.prog.cellsOf t = k) : DataW.trod enc Tryz.prog W base sp held n t ((cs.drop o).take k) = xs[i]? := by
 cases e : fs[i]? with
 | none => rw [e] at h; cases h
 | some f =>
   rw [e] at h
   simp at h
   obtain ⟨rfl, rfl⟩ := h; subst hk; exact hf i f e
theorem Vz (h : DataW.trod enc Tryz.prog W base sp held fuel 27 cs = some x) : ∃ A c l, cs = [.slice A (l : List Int).length c] ∧ l.length ≤ c ∧ Rd W A l := by
 rcases open_slice Tryz.underlying27 h with ⟨rfl, _⟩ | ⟨a, len, cap, m, n, D, Pl, rfl, hb, hl, hm, hmm, hx, hi⟩
 · exact ⟨none, 0, [], rfl, by simp, Rd.nil _ _⟩
 · have hle : len ≤ m := by rw [hmm]; split <;> omega
   have key : ∀ i, i < len → ∃ q : Int, W.cell? ((a.add (i * 1)).add 0) = some (I q) := by
    intro i hil; obtain ⟨cs', hc, ht⟩ := hi i (by omega); rw [k22] at hc; obtain ⟨hlen, _, hat⟩ := World.cells?_some hc; obtain ⟨q, e0, _, _⟩ := DataW.trod_int Tryz.underlying22 ht; subst e0; exact ⟨q, hat 0 (by simp)⟩
   obtain ⟨l, hlen, hk⟩ := BH key; subst hlen; refine ⟨some a, cap, l, rfl, hl, rfl, (by unfold maxLen at hm; show l.length ≤ _; omega), fun hne => ⟨a, rfl, fun j p hj => ⟨[I p], rfl, rfl, fun i u hi => ?_⟩⟩⟩
   match i, hi with
   | 0, hi =>
     simp at hi
     subst hi; have := hk j p hj; have h1 : (Kd.int .i64).sz = 1 := rfl; rw [h1]
     simpa [Addr.add] using this
theorem JS (h : DataW.trod enc Tryz.prog W base sp held fuel 29 cs = some x) : ∃ r c A cp l, cs = [I r, I c, .slice A (l : List Int).length cp] ∧ l.length ≤ cp ∧ Rd W A l := by
 obtain ⟨xs, n, _, _, hl, hlen, hf⟩ := DataW.trod_struct Tryz.underlying29 h; rw [k26] at hl; obtain ⟨c0, c1, c2, rfl⟩ := agj hl; have hl3 : xs.length = 3 := hlen
 have get : ∀ i (h : i < 3), xs[i]? = some (xs[i]'(by omega)) := fun i h => List.getElem?_eq_getElem (by omega)
 have h0 := (FM hf 0 3 0 1 rfl k3).trans (get 0 (by omega)); have h1 := (FM hf 1 3 1 1 rfl k3).trans (get 1 (by omega)); have h2 := (FM hf 2 27 2 1 rfl k24).trans (get 2 (by omega)); obtain ⟨r, e0, _, _⟩ := DataW.trod_int Tryz.underlying3 h0; obtain ⟨c, e1, _, _⟩ := DataW.trod_int Tryz.underlying3 h1; obtain ⟨A, cp, l, e2, hc, hr⟩ := Vz h2
 simp at e0 e1 e2
 subst e0 e1 e2; exact ⟨r, c, A, cp, l, rfl, hc, hr⟩
theorem Nc (h : DataW.trod enc Tryz.prog W base sp held fuel 31 cs = some x) : ∃ r c A cp l r' c' A' cp' l', cs = [I r, I c, .slice A (l : List Int).length cp, I r', I c', .slice A' (l' : List Int).length cp'] ∧ (l.length ≤ cp ∧ Rd W A l) ∧ (l'.length ≤ cp' ∧ Rd W A' l') := by
 obtain ⟨xs, n, _, _, hl, hlen, hf⟩ := DataW.trod_struct Tryz.underlying31 h; rw [k28] at hl; obtain ⟨c0, c1, c2, c3, c4, c5, rfl⟩ := agi hl; have hl2 : xs.length = 2 := hlen
 have get : ∀ i (h : i < 2), xs[i]? = some (xs[i]'(by omega)) := fun i h => List.getElem?_eq_getElem (by omega)
 have h0 := (FM hf 0 29 0 3 rfl k26).trans (get 0 (by omega)); have h1 := (FM hf 1 29 3 3 rfl k26).trans (get 1 (by omega)); obtain ⟨r, c, A, cp, l, e0, hc, hr⟩ := JS h0; obtain ⟨r', c', A', cp', l', e1, hc', hr'⟩ := JS h1
 simp at e0 e1
 obtain ⟨rfl, rfl, rfl⟩ := e0; obtain ⟨rfl, rfl, rfl⟩ := e1; exact ⟨_, _, _, _, l, _, _, _, _, l', rfl, ⟨hc, hr⟩, ⟨hc', hr'⟩⟩
end
end Go.Proofs.YtcfobekkchhbbaaGreat.KK

