import Derived.OrdersHeld
import Derived.Test.YtnijhjbcjeohhaaU5
import Derived.WalkKit
import Derived.Below
import Derived.Deep.MidRow
import Derived.Lib.Hide
import Derived.Test.YtnijhjbcjeohhaaU12
import Derived.Test.YtnijhjbcjeohhaaU10
import Derived.Test.YtnijhjbcjeohhaaU4
import Derived.Test.YtnijhjbcjeohhaaU9
/- Joined and thinned by a program of this session's own (wip/pack2.py) out of its texts (wip/ of its repo); parts were laid by its own program (wip/print-patch.py over the kit's print) out of the translation; Lean checks all. -/
set_option maxRecDepth 100000
set_option maxHeartbeats 4000000
namespace Go.Proofs.Ytnijhjbcjeohhaa.OG
open Go Go.RowKit Go.Proofs.Ytnijhjbcjeohhaa.KK
section
variable {P : Program} {ops : Array Oper} {Q : Exit → Act → World → Prop}
def upd (l : Nat → Bool) (i : Nat) : Nat → Bool := fun k => if k = i then true else l k
def deps (o : Oper) (l : Nat → Bool) : Prop := ∀ e ∈ o.after.toList, Region.binds .any e = true → l e.on = true
def Closed (ops : Array Oper) (l : Nat → Bool) : Prop := ∀ j o, ops[j]? = some o → l j = true → deps o l
theorem Closed.off {l : Nat → Bool} (hc : Closed ops l) (j k : Nat) (h : ((ops[j]?).map fun o => o.after.toList.any (fun e => Region.binds .any e && decide (e.on = k))) = some true) (h0 : l k = false) : l j = false := by
 cases hj : l j with
 | false => rfl
 | true =>
   exfalso
   cases ho : ops[j]? with
   | none => rw [ho] at h; cases h
   | some o =>
     rw [ho] at h
     simp only [Option.map_some, Option.some.injEq, List.any_eq_true, Bool.and_eq_true, decide_eq_true_eq] at h
     obtain ⟨e, he, h2, rfl⟩ := h
     have := hc j o ho hj e he h2
     rw [h0] at this
     cases this
def Steps (P : Program) (ops : Array Oper) (Q : Exit → Act → World → Prop) (J : (Nat → Bool) → Act → World → Prop) : Nat → List Oper → Prop
 | _, [] => True
 | k, o :: r => (∀ l a w, J l a w → Closed ops l → l k = false → deps o l → (Region.wanted o (yielded ops a.tmps) = true ∧ o.wp P a w (fun a' w' => J (upd l k) a' w') Q) ∨ (Region.wanted o (yielded ops a.tmps) = false ∧ J (upd l k) (a.put o.dst undef) w)) ∧ Steps P ops Q J (k + 1) r
theorem deps.get {o : Oper} {l : Nat → Bool} (h : deps o l) (k : Nat) (hk : o.after.toList.any (fun e => Region.binds .any e && decide (e.on = k)) = true) : l k = true := by
 rw [List.any_eq_true] at hk
 obtain ⟨e, he, h2⟩ := hk
 simp only [Bool.and_eq_true, decide_eq_true_eq] at h2
 obtain ⟨h3, rfl⟩ := h2
 exact h e he h3
theorem Steps.nil {J : (Nat → Bool) → Act → World → Prop} {k : Nat} : Steps P ops Q J k [] := trivial
theorem Steps.cons {J : (Nat → Bool) → Act → World → Prop} {k : Nat} {o : Oper} {r : List Oper} (hg : o.guard = none)
 (h : ∀ l a w (K : Act → World → Prop), Hid (∀ a' w', J (upd l k) a' w' → K a' w') → J l a w → Closed ops l → l k = false → deps o l → o.wp P a w K Q) (hr : Steps P ops Q J (k + 1) r) : Steps P ops Q J k (o :: r) :=
 ⟨fun l a w hJ hc hl hd => .inl ⟨by simp [Region.wanted, hg], h l a w _ (Lib.hid fun _ _ h => h) hJ hc hl hd⟩, hr⟩
theorem Steps.get {J : (Nat → Bool) → Act → World → Prop} : ∀ {r : List Oper} {k : Nat}, Steps P ops Q J k r → ∀ i o, r[i]? = some o →
 ∀ l a w, J l a w → Closed ops l → l (k + i) = false → deps o l → (Region.wanted o (yielded ops a.tmps) = true ∧ o.wp P a w (fun a' w' => J (upd l (k + i)) a' w') Q) ∨ (Region.wanted o (yielded ops a.tmps) = false ∧ J (upd l (k + i)) (a.put o.dst undef) w)
 | [], _, _, i, o, h => by simp at h
 | x :: r, k, hs, 0, o, h => by
   simp at h; subst h; exact hs.1
 | x :: r, k, hs, i + 1, o, h => by
   have := hs.2.get i o (by simpa using h)
   rwa [show k + 1 + i = k + (i + 1) from by omega] at this
def back (ops : Array Oper) : Bool := (List.range ops.size).all fun i => ((ops[i]?).map fun o => o.after.toList.all fun e => !Region.binds .any e || decide (e.on < i)).getD true
theorem QL {listed : Array Bool} (hb : back ops = true) (hsz : listed.size = ops.size) (hr : Region.ready .any ops listed = []) : ∀ n i, i < n → i < ops.size → listed.getD i false = true := by
 intro n
 induction n with
 | zero => intro i h; omega
 | succ n ih =>
   intro i hi ho
   cases hc : listed.getD i false with
   | true => rfl
   | false =>
     exfalso
     have hm : i ∈ Region.ready .any ops listed := by
      refine mem_ready.2 ⟨?_, ops[i], by simp [ho], fun e he hbi => ?_⟩
      · have hlt : i < listed.size := by omega
        simpa [hlt] using hc
      · unfold back at hb
        rw [List.all_eq_true] at hb
        have h1 := hb i (by simpa using ho)
        rw [show ops[i]? = some ops[i] from by simp [ho]] at h1
        simp only [Option.map_some, Option.getD_some, List.all_eq_true, Bool.or_eq_true, Bool.not_eq_true', decide_eq_true_eq] at h1
        have h2 := (h1 e (by simpa using he)).resolve_left (by simp [hbi])
        exact ih e.on (by omega) (by omega)
     rw [hr] at hm
     cases hm
theorem count_set : ∀ (l : List Bool) (i : Nat), l[i]? = some false → (l.set i true).count false + 1 = l.count false
 | [], i, h => by simp at h
 | b :: l, 0, h => by simp at h; subst h; simp
 | b :: l, i + 1, h => by
   have := count_set l i (by simpa using h)
   cases b <;> simp <;> omega
theorem XH (J : (Nat → Bool) → Act → World → Prop) (hb : back ops = true) (hs : Steps P ops Q J 0 ops.toList)
 (he : ∀ l a w, J l a w → (∀ i, i < ops.size → l i = true) → Q .normal a w) :
 ∀ (fuel : Nat) (listed : Array Bool) (a : Act) (w : World), listed.size = ops.size → listed.toList.count false ≤ fuel → Closed ops (fun k => listed.getD k false) → J (fun k => listed.getD k false) a w → wpAny P .any ops Q fuel listed a w := by
 intro fuel
 induction fuel with
 | zero =>
   intro listed a w hsz hc hcl hJ
   have hall : ∀ i, i < ops.size → listed.getD i false = true := by
    intro i hi
    cases hx : listed.getD i false with
    | true => rfl
    | false =>
      exfalso
      have hlt : i < listed.size := by omega
      have hm : false ∈ listed.toList := by
       have : listed[i] = false := by simpa [hlt] using hx
       rw [← this]; simp
      have := List.count_pos_iff.2 hm
      omega
   refine ⟨?_, he _ _ _ hJ hall⟩
   cases hr : Region.ready .any ops listed with
   | nil => rfl
   | cons i t =>
     have hm : i ∈ Region.ready .any ops listed := by rw [hr]; simp
     obtain ⟨h0, o, ho, _⟩ := mem_ready.1 hm
     have hlt := (Array.getElem?_eq_some_iff.1 ho).1
     have := hall i hlt
     have hlt' : i < listed.size := by omega
     simp [hlt'] at h0 this
     rw [h0] at this; cases this
 | succ fuel ih =>
   intro listed a w hsz hc hcl hJ
   refine ⟨fun hr => he _ _ _ hJ fun i hi => QL hb hsz hr (i + 1) i (by omega) hi, fun i hi => ?_⟩
   obtain ⟨h0, o, ho, hd⟩ := mem_ready.1 hi
   have hlt := (Array.getElem?_eq_some_iff.1 ho).1
   have hlt' : i < listed.size := by omega
   have h0' : listed.getD i false = false := by simpa [hlt'] using h0
   have hst := hs.get i o (by simpa using ho) (fun k => listed.getD k false) a w hJ hcl (by simpa using h0') (fun e he hbi => hd e (by simpa using he) hbi)
   have hup : upd (fun k => listed.getD k false) (0 + i) = fun k => (listed.setIfInBounds i true).getD k false := by
    funext k
    unfold upd
    simp only [Nat.zero_add]
    split
    · rename_i h; subst h; simp [hlt']
    · rename_i h; simp [Array.getD_eq_getD_getElem?, Array.getElem?_setIfInBounds_ne (Ne.symm h)]
   have hnext : ∀ a' w', J (upd (fun k => listed.getD k false) (0 + i)) a' w' → wpAny P .any ops Q fuel (listed.setIfInBounds i true) a' w' := by
    intro a' w' h
    rw [hup] at h
    refine ih _ _ _ (by simpa using hsz) ?_ ?_ h
    rotate_left
    · rw [← hup]
      intro j o' ho' hj e he hbi
      by_cases hji : j = 0 + i
      · have : o' = o := by
         rw [hji, Nat.zero_add, ho] at ho'
         injection ho' with ho'
         exact ho'.symm
        subst this
        unfold upd
        split
        · rfl
        · exact hd e (by simpa using he) hbi
      · have hj' : listed.getD j false = true := by
         unfold upd at hj
         rwa [if_neg hji] at hj
        unfold upd
        split
        · rfl
        · exact hcl j o' ho' hj' e he hbi
    have : listed.toList[i]? = some false := by
     have : listed[i] = false := by simpa [hlt'] using h0'
     simp [hlt', this]
    have := count_set _ _ this
    simp
    omega
   unfold wpOp
   simp only [ho]
   rcases hst with ⟨hw, h⟩ | ⟨hw, h⟩
   · simp only [hw, if_true]
     exact .inl (Oper.wp_mono hnext h)
   · simp only [hw, Bool.false_eq_true, if_false]
     exact hnext _ _ h
theorem MC {id : Nat} {a : Act} {w : World} (hm : P.follows .mixedOrders = true) (J : (Nat → Bool) → Act → World → Prop) (hb : back ops = true)
 (h0 : J (fun _ => false) a w.drew) (hs : Steps P ops Q J 0 ops.toList) (he : ∀ l a w, J l a w → (∀ i, i < ops.size → l i = true) → Q .normal a w) : (Code.region id ops true).wp P Q a w := by
 refine wp_region_any hm ?_
 refine XH J hb hs he _ _ _ _ (by simp) ?_ ?_ ?_
 · rw [Array.toList_replicate, List.count_replicate]; simp
 · intro j o _ hj
   exfalso
   have : (Array.replicate ops.size false).getD j false = false := by simp [Array.getD_eq_getD_getElem?, Array.getElem?_replicate]; split <;> rfl
   simp only [this] at hj
   cases hj
 · rw [show (fun k => (Array.replicate ops.size false).getD k false) = fun _ => false from by funext k; simp [Array.getD_eq_getD_getElem?, Array.getElem?_replicate]; split <;> rfl]
   exact h0
end
theorem dP {P : Program} {ops : Array Oper} {rest : List Oper} {op : Oper} {a : Act} {w : World} {Q : Exit → Act → World → Prop} (hw : Region.wanted op (yielded ops a.tmps) = true) (ty : TypeId) (x : Operand) (ho : op.op = .load ty x)
 (b o : Nat) (hx : a.eval x = .pointer (some ⟨b, o, none⟩)) (cs : List Value) (d : TypeDesc) (hc : w.rangeAt b o cs) (hu : P.underlying ty = some d) (hd : d.isRow = true) (hi : (P.info? ty).map (·.size) = some cs.length)
 (h : wpList P ops Q rest (a.put op.dst (.agg cs.toArray)) w) : wpList P ops Q (op :: rest) a w :=
 wpList_step fun K hK => by rw [if_pos hw]; exact wp_load_mid ty x ho b o hx cs d hc hu hd hi (hK _ _ h)
theorem jL {g : Nat} : ∀ (vs : List Value) (o : Nat) (w : World) (k : Nat), k ≠ g → (w.setCells g o vs).heap[k]? = w.heap[k]?
 | [], _, _, _, _ => rfl
 | v :: r, o, w, k, hk => by
   rw [World.setCells, jL r (o + 1) _ k hk]
   exact Below.heap_setCell w ⟨g, o, none⟩ v k hk
def xC (n : Nat) (w : World) (on : Bool) (b : Nat) (t : TypeId) (cs : Array Value) : Prop := on = true → n ≤ b ∧ Row w b t cs
section
variable {n b : Nat} {w w' : World} {on : Bool} {t : TypeId} {cs : Array Value}
theorem xC.off : xC n w false b t cs := fun h => by cases h
theorem xC.new (h : n ≤ w.heap.size) : xC n (w.alloc (.cells cs t)) true w.heap.size t cs := fun _ => ⟨h, Row.new w t cs⟩
theorem xC.alloc (h : xC n w on b t cs) (o : Obj) : xC n (w.alloc o) on b t cs := fun e => ⟨(h e).1, (h e).2.alloc o⟩
theorem xC.below (h : xC n w on b t cs) (hb : Below w.heap.size w w') : xC n w' on b t cs := fun e => ⟨(h e).1, (h e).2.below hb (h e).2.lt⟩
theorem xC.bound (h : xC n w on b t cs) : on = true → b < w.heap.size := fun e => (h e).2.lt
theorem xC.row (h : xC n w true b t cs) : Row w b t cs := (h rfl).2
theorem xC.le (h : xC n w true b t cs) : n ≤ b := (h rfl).1
theorem xC.ne (h : xC n w on b t cs) : on = true → b ≠ w.heap.size := fun e => by have := (h e).2.lt; omega
theorem xC.cells (h : xC n w on b t cs) {g o : Nat} (hp : on = true → b ≠ g) (vs : List Value) : xC n (w.setCells g o vs) on b t cs := fun e => ⟨(h e).1, (jL vs o w b (hp e)).trans (h e).2⟩
end
end Go.Proofs.Ytnijhjbcjeohhaa.OG

namespace Go.Proofs.Ytnijhjbcjeohhaa.EE
open Go.RowKit Go.Proofs.Ytnijhjbcjeohhaa.KK Go.Proofs.Ytnijhjbcjeohhaa.OG Go.Proofs.af.aO Go.Proofs.af.aV Go.Proofs.af.aX
set_option linter.unusedVariables false
set_option linter.unusedSimpArgs false
def VL (t : Tr) (b : Nat) : Prop := (∀ ad, t.A = some ad → ad.block ≠ b) ∧ (∀ ad, t.B = some ad → ad.block ≠ b)
theorem Ro.YB {n b : Nat} {w : World} {t : Tr} (h : Ro n w t) (hb : b < n) : VL t b := ⟨fun ad e => by have := h.na ad e; omega, fun ad e => by have := h.nb ad e; omega⟩
theorem Rw.YB {w : World} {t : Tr} (h : Rw w t) (hx : 0 < t.x.length) (hp : 0 < t.p.length) {b : Nat} (hb : w.heap.size ≤ b) : VL t b :=
 ⟨fun ad e => by have := PR.Rd.blk h.x ad e hx; omega, fun ad e => by have := PR.Rd.blk h.p ad e hp; omega⟩
theorem Rw.cells {w : World} {t : Tr} (h : Rw w t) {b o : Nat} (ha : VL t b) (vs : List Value) : Rw (w.setCells b o vs) t :=
 ⟨Rd.gr h.x (oD vs o w) ha.1, h.xc, Rd.gr h.p (oD vs o w) ha.2, h.pd⟩
def Bv (on o7 o8 : Bool) (N : En) (e : Es) (b7 b8 : Nat) (w : World) : Prop := on = true → e.nu = N ∧ ∀ j, j < 3 → Rw w (e.ax j) ∧ (o7 = true → VL (e.ax j) b7) ∧ (o8 = true → VL (e.ax j) b8)
section
variable {on o7 o8 : Bool} {N : En} {e : Es} {b7 b8 : Nat} {w w' : World}
theorem Bv.off : Bv false o7 o8 N e b7 b8 w := fun h => by cases h
theorem Bv.below (h : Bv on o7 o8 N e b7 b8 w) (hb : Below w.heap.size w w') : Bv on o7 o8 N e b7 b8 w' := fun k => ⟨(h k).1, fun j hj => ⟨((h k).2 j hj).1.below hb, ((h k).2 j hj).2⟩⟩
theorem Bv.ags (G : Gd N) (h : Bv on o7 o8 N e b7 b8 w) (o : Obj) : Bv on true o8 N e w.heap.size b8 (w.alloc o) := fun k => ⟨(h k).1, fun j hj => by
 have hj' := (h k).2 j hj
 refine ⟨hj'.1.below ((Below.refl _ _).alloc (Nat.le_refl _) o), fun _ => hj'.1.YB ?_ ?_ (Nat.le_refl _), hj'.2.2⟩
 · rw [BL, (h k).1, G.lx j hj]; decide
 · rw [zK, (h k).1, G.lp j hj]; decide⟩
theorem Bv.agr (G : Gd N) (h : Bv on o7 o8 N e b7 b8 w) (o : Obj) : Bv on o7 true N e b7 w.heap.size (w.alloc o) := fun k => ⟨(h k).1, fun j hj => by
 have hj' := (h k).2 j hj
 refine ⟨hj'.1.below ((Below.refl _ _).alloc (Nat.le_refl _) o), hj'.2.1, fun _ => hj'.1.YB ?_ ?_ (Nat.le_refl _)⟩
 · rw [BL, (h k).1, G.lx j hj]; decide
 · rw [zK, (h k).1, G.lp j hj]; decide⟩
theorem Bv.Z9 (h : Bv on true o8 N e b7 b8 w) (o : Nat) (vs : List Value) : Bv on true o8 N e b7 b8 (w.setCells b7 o vs) := fun k => ⟨(h k).1, fun j hj => ⟨((h k).2 j hj).1.cells (((h k).2 j hj).2.1 rfl) vs, ((h k).2 j hj).2⟩⟩
theorem Bv.Z8 (h : Bv on o7 true N e b7 b8 w) (o : Nat) (vs : List Value) : Bv on o7 true N e b7 b8 (w.setCells b8 o vs) := fun k => ⟨(h k).1, fun j hj => ⟨((h k).2 j hj).1.cells (((h k).2 j hj).2.2 rfl) vs, ((h k).2 j hj).2⟩⟩
theorem Bv.mk (he : e.nu = N) (hr : ∀ j, j < 3 → Ro w.heap.size w' (e.ax j)) (h7 : o7 = true → b7 < w.heap.size) (h8 : o8 = true → b8 < w.heap.size) : Bv on o7 o8 N e b7 b8 w' :=
 fun _ => ⟨he, fun j hj => ⟨(hr j hj).rw, fun k => (hr j hj).YB (h7 k), fun k => (hr j hj).YB (h8 k)⟩⟩
end
theorem xC.full {n b : Nat} {w : World} {t : TypeId} {cs : Array Value} (h : xC n w true b t cs) (D : Array Value) (hD : D.size = cs.size) : xC n (w.setCells b 0 D.toList) true b t D := fun _ => ⟨h.le, Row.full h.row D hD⟩
end Go.Proofs.Ytnijhjbcjeohhaa.EE

namespace Go.Proofs.Ytnijhjbcjeohhaa.EE
open Go.RowKit Go.Proofs.Ytnijhjbcjeohhaa.KK Go.Proofs.af.aO Go.Proofs.af.aV Go.Proofs.af.aX
set_option linter.unusedVariables false
set_option linter.unusedSimpArgs false
def DK (t : Nat → Tr) : Es := ⟨16777216, 0, 0, 0, t 0, t 1, t 2, 0, 0, 0, 0, 0, 0, false⟩
theorem Ui (t : Nat → Tr) (h : ∀ j, j < 3 → (t j).x = [0, 0, 0] ∧ (t j).p = sN) : rP t 3 = (DK t).R := by
 have l9 : sN.length = 9 := PR.kU _
 simp [rP, DK, Es.R, Es.row, h 0 (by decide), h 1 (by decide), h 2 (by decide), l9]
theorem Pz (t : Nat → Tr) (h : ∀ j, j < 3 → (t j).x = [0, 0, 0] ∧ (t j).p = sN) : (DK t).nu = en0 := by
 simp [DK, Es.nu, en0, h 0 (by decide), h 1 (by decide), h 2 (by decide)]
theorem Q_ : PR.lU 3 1 [0, 0, 0] 3 3 sN := by decide +kernel
theorem Nz (t : Nat → Tr) : (DK t).right = true := by rfl
def zE : Array Value := #[I 0, I 0, I 0, I 0, I 0, I 0, .slice none 0 0, I 0, I 0, .slice none 0 0, I 0, I 0, .slice none 0 0, I 0, I 0, .slice none 0 0, I 0, I 0, .slice none 0 0, I 0, I 0, .slice none 0 0, I 0, I 0, I 0, I 0, I 0, I 0, .bool false]
theorem Je : Gd (SL.cnt true) := Jf.ahead.cnt true
theorem jE (w : World) : Calls Try.prog 13 #[] w fun x w' => x = .returned (.bool true) ∧ Below w.heap.size w w' := by
 have HC : Hid (∀ w', Calls Try.prog 34 #[] w' fun x w'' => x = .returned (.agg Yz.row) ∧ Below w'.heap.size w' w'') := Lib.hid (fun w' => PQ.nN.calls _ _ _ _ _ _ w' rfl)
 go_enter Try.func13, Try.ntmps13
 go_wp2_with fail
 refine (HC.out _).mono ?_
 rintro x w1 ⟨rfl, hb⟩
 have B1 := Lib.hid hb
 clear hb
 go_wp2_with fail
 refine (DI Yz _ (by decide +kernel)).mono ?_
 rintro x w2 ⟨t, rfl, ht, hb⟩
 rw [Ui t (fun j hj => ⟨(ht j hj).1, (ht j hj).2.1⟩)]
 have HE := Lib.hid (Pz t (fun j hj => ⟨(ht j hj).1, (ht j hj).2.1⟩))
 have HT := Lib.hid ht
 have B2 := Lib.hid hb
 clear ht hb
 have ER := Lib.hid (Nz t)
 have AX : Hid (∀ j, j < 3 → Rw w2 ((DK t).ax j)) := Lib.hid (fun j hj => by
  obtain rfl | rfl | rfl : j = 0 ∨ j = 1 ∨ j = 2 := by omega
  all_goals exact (HT.out _ (by omega)).2.2.rw)
 have XP : Hid (∀ j, j < 3 → ((DK t).ax j).x = [0, 0, 0] ∧ ((DK t).ax j).p = sN) := Lib.hid (fun j hj => by
  obtain rfl | rfl | rfl : j = 0 ∨ j = 1 ∨ j = 2 := by omega
  all_goals exact ⟨(HT.out _ (by omega)).1, (HT.out _ (by omega)).2.1⟩)
 clear HT
 generalize DK t = e at HE ER AX XP ⊢
 have ST : Hid ((w2.alloc (.cells #[.int .i64 0, .int .i64 0, .int .i64 0, .int .i64 0, .int .i64 0, .int .i64 0, .slice none 0 0, .int .i64 0, .int .i64 0, .slice none 0 0, .int .i64 0, .int .i64 0, .slice none 0 0, .int .i64 0, .int .i64 0, .slice none 0 0, .int .i64 0, .int .i64 0, .slice none 0 0, .int .i64 0, .int .i64 0, .slice none 0 0, .int .i64 0, .int .i64 0, .int .i64 0, .int .i64 0, .int .i64 0, .int .i64 0, .bool false] 37)).there w2.heap.size 0 e.R.size) := Lib.hid (by have h := Row.there (Row.new w2 37 #[.int .i64 0, .int .i64 0, .int .i64 0, .int .i64 0, .int .i64 0, .int .i64 0, .slice none 0 0, .int .i64 0, .int .i64 0, .slice none 0 0, .int .i64 0, .int .i64 0, .slice none 0 0, .int .i64 0, .int .i64 0, .slice none 0 0, .int .i64 0, .int .i64 0, .slice none 0 0, .int .i64 0, .int .i64 0, .slice none 0 0, .int .i64 0, .int .i64 0, .int .i64 0, .int .i64 0, .int .i64 0, .int .i64 0, .bool false]); exact h)
 have i37 : Hid ((Try.prog.info? 37).map (·.size) = some e.R.size) := Lib.hid (by kernel_rfl)
 have one : Hid (e.R.all (·.oneCell') = true) := Lib.hid (by kernel_rfl)
 go_upto_region 2 with (with_reducible refine wpList_store_mid rfl 37 (.tmp 1) (.tmp 8) rfl w2.heap.size 0 e.R rfl rfl ST.out i37.out one.out ?_)
 have RE : Hid (Row ((w2.alloc (.cells #[.int .i64 0, .int .i64 0, .int .i64 0, .int .i64 0, .int .i64 0, .int .i64 0, .slice none 0 0, .int .i64 0, .int .i64 0, .slice none 0 0, .int .i64 0, .int .i64 0, .slice none 0 0, .int .i64 0, .int .i64 0, .slice none 0 0, .int .i64 0, .int .i64 0, .slice none 0 0, .int .i64 0, .int .i64 0, .slice none 0 0, .int .i64 0, .int .i64 0, .int .i64 0, .int .i64 0, .int .i64 0, .int .i64 0, .bool false] 37)).setCells w2.heap.size 0 e.R.toList) w2.heap.size 37 e.R) := Lib.hid (Row.full (Row.new w2 37 #[.int .i64 0, .int .i64 0, .int .i64 0, .int .i64 0, .int .i64 0, .int .i64 0, .slice none 0 0, .int .i64 0, .int .i64 0, .slice none 0 0, .int .i64 0, .int .i64 0, .slice none 0 0, .int .i64 0, .int .i64 0, .slice none 0 0, .int .i64 0, .int .i64 0, .slice none 0 0, .int .i64 0, .int .i64 0, .slice none 0 0, .int .i64 0, .int .i64 0, .int .i64 0, .int .i64 0, .int .i64 0, .int .i64 0, .bool false]) e.R rfl)
 have B3 : Hid (Below w2.heap.size w2 ((w2.alloc (.cells #[.int .i64 0, .int .i64 0, .int .i64 0, .int .i64 0, .int .i64 0, .int .i64 0, .slice none 0 0, .int .i64 0, .int .i64 0, .slice none 0 0, .int .i64 0, .int .i64 0, .slice none 0 0, .int .i64 0, .int .i64 0, .slice none 0 0, .int .i64 0, .int .i64 0, .slice none 0 0, .int .i64 0, .int .i64 0, .slice none 0 0, .int .i64 0, .int .i64 0, .int .i64 0, .int .i64 0, .int .i64 0, .int .i64 0, .bool false] 37)).setCells w2.heap.size 0 e.R.toList)) := Lib.hid (KK.d_ _ _ _ ((Below.refl _ _).alloc (Nat.le_refl _) _) (Nat.le_refl _))
 clear ST one
 generalize (w2.alloc (.cells #[.int .i64 0, .int .i64 0, .int .i64 0, .int .i64 0, .int .i64 0, .int .i64 0, .slice none 0 0, .int .i64 0, .int .i64 0, .slice none 0 0, .int .i64 0, .int .i64 0, .slice none 0 0, .int .i64 0, .int .i64 0, .slice none 0 0, .int .i64 0, .int .i64 0, .slice none 0 0, .int .i64 0, .int .i64 0, .slice none 0 0, .int .i64 0, .int .i64 0, .int .i64 0, .int .i64 0, .int .i64 0, .int .i64 0, .bool false] 37)).setCells w2.heap.size 0 e.R.toList = w3 at RE B3 ⊢
 have RL := Lib.hid (Row.whole RE.out)
 have Fv : Hid ((Try.prog.info? 37).map (·.size) = some e.R.toList.length) := Lib.hid (by kernel_rfl)
 go_wp2_with (with_reducible refine OG.dP rfl 37 (.tmp 1) rfl w2.heap.size 0 rfl e.R.toList _ RL.out Try.underlying37 rfl Fv.out ?_)
 have RR : Hid (Calls Try.prog 20 #[.agg e.R] w3 fun x w' => x = .returned (.bool true) ∧ Below w3.heap.size w3 w') := Lib.hid (by
  have hw : ∀ j, j < 3 → Rw w3 (e.ax j) := fun j hj => AX.out j hj |>.below B3.out
  have hh := QI e w3 hw (fun j hj => by rw [(XP.out j hj).1, (XP.out j hj).2]; exact ⟨rfl, PR.kU _⟩) (fun j hj => by rw [(XP.out j hj).1, (XP.out j hj).2]; exact Q_)
  rw [ER.out] at hh
  exact hh)
 refine RR.out.mono ?_
 rintro x w4 ⟨rfl, hb⟩
 have H16 : Hid (∀ (e : Es) (w : World), e.nu = en0 → (∀ j, j < 3 → Rw w (e.ax j)) → Calls Try.prog 16 #[.agg Yz.row, .agg e.R, .agg sm0.R] w fun x w' => ∃ e' : Es, e'.nu = SL.cnt true ∧ x = .returned (.tuple #[.agg e'.R, .agg #[I 0, I 0, I 0]]) ∧ (∀ j, j < 3 → Ro w.heap.size w' (e'.ax j)) ∧ Below w.heap.size w w') := Lib.hid (fun e w he hr => by
  refine (Mc e w he hr).mono ?_
  rintro x w' ⟨e', h1, rfl, h3⟩
  exact ⟨e', h1, by rw [show (SL.cnt true).x0 = _ from PU.1, show (SL.cnt true).x1 = _ from PU.2.1, show (SL.cnt true).x2 = _ from PU.2.2.1]; rfl, h3⟩)
 have B4 := Lib.hid (B3.out.trans (hb.mono B3.out.size))
 have RE4 := Lib.hid (RE.out.below hb RE.out.lt)
 clear hb RR RE RL B3
 go_upto_region 4 with fail
 refine OG.MC (by kernel_rfl) (fun l a w => ∃ e1 : Es, ∃ b3 : Nat, ∃ b4 : Nat, a = { tmps := List.toArray (Value.bool false :: Value.pointer (some ⟨w2.heap.size, 0, none⟩) :: I 0 :: (bif l 7 then .pointer (some ⟨b3, 0, none⟩) else undef) :: (bif l 8 then .pointer (some ⟨b4, 0, none⟩) else undef) :: Value.tuple #[Value.agg e.R, I 0] :: Value.agg Yz.row :: Value.tuple #[Value.agg e.R, I 0] :: Value.agg e.R :: I 0 :: I 0 :: Value.bool false :: Value.bool false :: Value.agg e.R :: Value.bool true :: Value.bool false :: Value.bool false :: (bif l 4 then .tuple #[.agg e1.R, .agg #[I 0, I 0, I 0]] else undef) :: (bif l 0 then .agg Yz.row else undef) :: (bif l 1 then .agg e.R else undef) :: (bif l 2 then .agg sm0.R else undef) :: (bif l 3 then .tuple #[.agg e1.R, .agg #[I 0, I 0, I 0]] else undef) :: (bif l 5 then .agg e1.R else undef) :: (bif l 6 then .agg #[I 0, I 0, I 0] else undef) :: undef :: undef :: undef :: undef :: undef :: undef :: undef :: undef :: undef :: undef :: undef :: undef :: undef :: undef :: undef :: undef :: undef :: undef :: undef :: undef :: undef :: undef :: undef :: undef :: []), defers := [] } ∧ (Below w4.heap.size w4 w) ∧ (OG.xC w4.heap.size w (l 7) b3 37 (bif l 9 then e1.R else zE)) ∧ (OG.xC w4.heap.size w (l 8) b4 42 #[I 0, I 0, I 0]) ∧ (l 7 = true → l 8 = true → b3 ≠ b4) ∧ (Bv (l 3) (l 7) (l 8) (SL.cnt true) e1 b3 b4 w)) (by kernel_rfl) ?s0 ?ss ?se
 case s0 => exact ⟨e, 0, 0, rfl, (Below.refl _ _).drew, OG.xC.off, OG.xC.off, (fun h => by cases h), Bv.off⟩
 case ss =>
  refine OG.Steps.cons rfl (fun l a w K hK hJ hcl h0 hd => ?_) (OG.Steps.cons rfl (fun l a w K hK hJ hcl h0 hd => ?_) (OG.Steps.cons rfl (fun l a w K hK hJ hcl h0 hd => ?_) (OG.Steps.cons rfl (fun l a w K hK hJ hcl h0 hd => ?_) (OG.Steps.cons rfl (fun l a w K hK hJ hcl h0 hd => ?_) (OG.Steps.cons rfl (fun l a w K hK hJ hcl h0 hd => ?_) (OG.Steps.cons rfl (fun l a w K hK hJ hcl h0 hd => ?_) (OG.Steps.cons rfl (fun l a w K hK hJ hcl h0 hd => ?_) (OG.Steps.cons rfl (fun l a w K hK hJ hcl h0 hd => ?_) (OG.Steps.cons rfl (fun l a w K hK hJ hcl h0 hd => ?_) (OG.Steps.cons rfl (fun l a w K hK hJ hcl h0 hd => ?_) OG.Steps.nil))))))))))
  · obtain ⟨e1, b3, b4, rfl, hP0, hP1, hP2, hP3, uP⟩ := hJ
    have HJ := Lib.hid (And.intro hP0 (And.intro hP1 (And.intro hP2 (And.intro hP3 (uP)))))
    clear hP0 hP1 hP2 hP3 uP hd hcl h0
    go_simp
    refine (HC.out _).mono ?_
    rintro x w' ⟨rfl, hb⟩
    exact hK.out _ _ ⟨e1, b3, b4, (rfl), (HJ.out.1.trans (hb.mono HJ.out.1.size)), (HJ.out.2.1.below hb), (HJ.out.2.2.1.below hb), (HJ.out.2.2.2.1), (HJ.out.2.2.2.2.below hb)⟩
  · obtain ⟨e1, b3, b4, rfl, hP0, hP1, hP2, hP3, uP⟩ := hJ
    have HJ := Lib.hid (And.intro hP0 (And.intro hP1 (And.intro hP2 (And.intro hP3 (uP)))))
    clear hP0 hP1 hP2 hP3 uP hd hcl h0
    refine wp_load_mid 37 (.tmp 1) rfl w2.heap.size 0 rfl e.R.toList _ (Row.whole (RE4.out.below HJ.out.1 RE4.out.lt)) Try.underlying37 rfl Fv.out ?_
    exact hK.out _ _ ⟨e1, b3, b4, (rfl), (HJ.out.1), (HJ.out.2.1), (HJ.out.2.2.1), (HJ.out.2.2.2.1), (HJ.out.2.2.2.2)⟩
  · obtain ⟨e1, b3, b4, rfl, hP0, hP1, hP2, hP3, uP⟩ := hJ
    have HJ := Lib.hid (And.intro hP0 (And.intro hP1 (And.intro hP2 (And.intro hP3 (uP)))))
    clear hP0 hP1 hP2 hP3 uP hd hcl h0
    go_simp
    exact hK.out _ _ ⟨e1, b3, b4, (rfl), (HJ.out.1), (HJ.out.2.1), (HJ.out.2.2.1), (HJ.out.2.2.2.1), (HJ.out.2.2.2.2)⟩
  · obtain ⟨e1, b3, b4, rfl, hP0, hP1, hP2, hP3, uP⟩ := hJ
    have d0 := hd.get 0 (by rfl)
    have d1 := hd.get 1 (by rfl)
    have d2 := hd.get 2 (by rfl)
    have f4 := hcl.off 4 3 (by rfl) h0
    have f5 := hcl.off 5 4 (by rfl) f4
    have f9 := hcl.off 9 3 (by rfl) h0
    have HJ := Lib.hid (And.intro hP0 (And.intro hP1 (And.intro hP2 (And.intro hP3 (uP)))))
    clear hP0 hP1 hP2 hP3 uP hd hcl h0
    go_simp
    refine (H16.out _ w HE.out (fun j hj => ((AX.out j hj).below B4.out).below HJ.out.1)).mono ?_
    rintro x w' ⟨e', hn', rfl, hr', hb⟩
    exact hK.out _ _ ⟨e', b3, b4, (by simp only [OG.upd, d0, d1, d2, f4, f5, f9]; rfl), (HJ.out.1.trans (hb.mono HJ.out.1.size)), (by rw [show (OG.upd l 3) 9 = false from f9]; have h1 := HJ.out.2.1; rw [f9] at h1; exact h1.below hb), (HJ.out.2.2.1.below hb), (HJ.out.2.2.2.1), (Bv.mk hn' hr' HJ.out.2.1.bound HJ.out.2.2.1.bound)⟩
  · obtain ⟨e1, b3, b4, rfl, hP0, hP1, hP2, hP3, uP⟩ := hJ
    have d3 := hd.get 3 (by rfl)
    have HJ := Lib.hid (And.intro hP0 (And.intro hP1 (And.intro hP2 (And.intro hP3 (uP)))))
    clear hP0 hP1 hP2 hP3 uP hd hcl h0
    go_simp
    exact hK.out _ _ ⟨e1, b3, b4, (by simp only [OG.upd, d3]; rfl), (HJ.out.1), (HJ.out.2.1), (HJ.out.2.2.1), (HJ.out.2.2.2.1), (HJ.out.2.2.2.2)⟩
  · obtain ⟨e1, b3, b4, rfl, hP0, hP1, hP2, hP3, uP⟩ := hJ
    have d4 := hd.get 4 (by rfl)
    have HJ := Lib.hid (And.intro hP0 (And.intro hP1 (And.intro hP2 (And.intro hP3 (uP)))))
    clear hP0 hP1 hP2 hP3 uP hd hcl h0
    go_simp
    exact hK.out _ _ ⟨e1, b3, b4, (by simp only [OG.upd, d4]; rfl), (HJ.out.1), (HJ.out.2.1), (HJ.out.2.2.1), (HJ.out.2.2.2.1), (HJ.out.2.2.2.2)⟩
  · obtain ⟨e1, b3, b4, rfl, hP0, hP1, hP2, hP3, uP⟩ := hJ
    have d4 := hd.get 4 (by rfl)
    have HJ := Lib.hid (And.intro hP0 (And.intro hP1 (And.intro hP2 (And.intro hP3 (uP)))))
    clear hP0 hP1 hP2 hP3 uP hd hcl h0
    go_simp
    exact hK.out _ _ ⟨e1, b3, b4, (by simp only [OG.upd, d4]; rfl), (HJ.out.1), (HJ.out.2.1), (HJ.out.2.2.1), (HJ.out.2.2.2.1), (HJ.out.2.2.2.2)⟩
  · obtain ⟨e1, b3, b4, rfl, hP0, hP1, hP2, hP3, uP⟩ := hJ
    have f9 := hcl.off 9 7 (by rfl) h0
    have HJ := Lib.hid (And.intro hP0 (And.intro hP1 (And.intro hP2 (And.intro hP3 (uP)))))
    clear hP0 hP1 hP2 hP3 uP hd hcl h0
    go_simp
    exact hK.out _ _ ⟨e1, w.heap.size, b4, (rfl), (HJ.out.1.alloc HJ.out.1.size _), (by rw [show (OG.upd l 7) 9 = false from f9]; exact OG.xC.new HJ.out.1.size), (HJ.out.2.2.1.alloc _), (fun _ e8 => Ne.symm (HJ.out.2.2.1.ne e8)), (Bv.ags Je HJ.out.2.2.2.2 _)⟩
  · obtain ⟨e1, b3, b4, rfl, hP0, hP1, hP2, hP3, uP⟩ := hJ
    have HJ := Lib.hid (And.intro hP0 (And.intro hP1 (And.intro hP2 (And.intro hP3 (uP)))))
    clear hP0 hP1 hP2 hP3 uP hd hcl h0
    go_simp
    exact hK.out _ _ ⟨e1, b3, w.heap.size, (rfl), (HJ.out.1.alloc HJ.out.1.size _), (HJ.out.2.1.alloc _), (OG.xC.new HJ.out.1.size), (fun e7 _ => HJ.out.2.1.ne e7), (Bv.agr Je HJ.out.2.2.2.2 _)⟩
  · obtain ⟨e1, b3, b4, rfl, hP0, hP1, hP2, hP3, uP⟩ := hJ
    have d5 := hd.get 5 (by rfl)
    have d7 := hd.get 7 (by rfl)
    have HJ := Lib.hid (And.intro hP0 (And.intro hP1 (And.intro hP2 (And.intro hP3 (uP)))))
    clear hP0 hP1 hP2 hP3 uP hd hcl h0
    have h1 := HJ.out.2.1
    have h4 := HJ.out.2.2.2.2
    rw [d7] at h1 h4
    refine wp_store_mid 37 (.tmp 3) (.tmp 22) rfl b3 0 e1.R (by show cond (l 7) _ _ = _; rw [d7]; rfl) (by show cond (l 5) _ _ = _; rw [d5]; rfl) (by have := Row.there h1.row; cases h9 : l 9 <;> rw [h9] at this <;> exact this) (by kernel_rfl) (by kernel_rfl) ?_
    exact hK.out _ _ ⟨e1, b3, b4, (by simp only [OG.upd, d5, d7]; rfl), (KK.d_ _ _ _ HJ.out.1 h1.le), (by show OG.xC _ _ (l 7) _ _ e1.R; rw [d7]; exact xC.full h1 e1.R (by cases l 9 <;> rfl)), (HJ.out.2.2.1.cells (fun k => Ne.symm (HJ.out.2.2.2.1 d7 k)) _), (HJ.out.2.2.2.1), (by show Bv (l 3) (l 7) (l 8) _ _ _ _ _; rw [d7]; exact h4.Z9 _ _)⟩
  · obtain ⟨e1, b3, b4, rfl, hP0, hP1, hP2, hP3, uP⟩ := hJ
    have d6 := hd.get 6 (by rfl)
    have d8 := hd.get 8 (by rfl)
    have HJ := Lib.hid (And.intro hP0 (And.intro hP1 (And.intro hP2 (And.intro hP3 (uP)))))
    clear hP0 hP1 hP2 hP3 uP hd hcl h0
    have h2 := HJ.out.2.2.1
    have h4 := HJ.out.2.2.2.2
    rw [d8] at h2 h4
    refine wp_store_mid 42 (.tmp 4) (.tmp 23) rfl b4 0 #[I 0, I 0, I 0] (by show cond (l 8) _ _ = _; rw [d8]; rfl) (by show cond (l 6) _ _ = _; rw [d6]; rfl) (Row.there h2.row) (by kernel_rfl) (by kernel_rfl) ?_
    exact hK.out _ _ ⟨e1, b3, b4, (by simp only [OG.upd, d6, d8]; rfl), (KK.d_ _ _ _ HJ.out.1 h2.le), (HJ.out.2.1.cells (fun k => HJ.out.2.2.2.1 k d8) _), (by show OG.xC _ _ (l 8) _ _ _; rw [d8]; exact xC.full h2 #[I 0, I 0, I 0] rfl), (HJ.out.2.2.2.1), (by show Bv (l 3) (l 7) (l 8) _ _ _ _ _; rw [d8]; exact h4.Z8 _ _)⟩
 case se =>
  intro l a w hJ he
  obtain ⟨e1, b3, b4, rfl, hP0, hP1, hP2, hP3, uP⟩ := hJ
  rw [he 0 (by decide), he 1 (by decide), he 2 (by decide), he 3 (by decide), he 4 (by decide), he 5 (by decide), he 6 (by decide), he 7 (by decide), he 8 (by decide)]
  rw [he 7 (by decide), he 9 (by decide)] at hP1
  rw [he 8 (by decide)] at hP2
  rw [he 3 (by decide), he 7 (by decide), he 8 (by decide)] at uP
  clear he
  have B5 := Lib.hid (B4.out.trans (hP0.mono B4.out.size))
  have R3 : Hid (Row w b3 37 e1.R) := Lib.hid hP1.row
  have R4 := Lib.hid hP2.row
  have GE := Lib.hid (uP rfl)
  clear hP0 hP1 hP2 hP3 uP
  have v1 : e1.steps = 1 := (congrArg En.steps GE.out.1 : _)
  have v2 : e1.dD = 1 := (congrArg En.dD GE.out.1 : _)
  have v3 : e1.sat = false := (congrArg En.sat GE.out.1 : _).trans PU.2.2.2
  have c1 : w.cell? ⟨b3, 22, none⟩ = some (I 1) := by rw [R3.out.cell, ← v1]; rfl
  have c2 : w.cell? ⟨b3, 23, none⟩ = some (I 1) := by rw [R3.out.cell, ← v2]; rfl
  have c3 : w.cell? ⟨b3, 28, none⟩ = some (.bool false) := by rw [R3.out.cell, ← v3]; rfl
  have c4 := R4.out.cell 0
  have c5 := R4.out.cell 1
  have c6 := R4.out.cell 2
  clear v1 v2 v3
  have RL := Lib.hid (Row.whole R3.out)
  have agz : Hid ((Try.prog.info? 37).map (·.size) = some e1.R.toList.length) := Lib.hid (by kernel_rfl)
  have EQ := PQ.ab1 0 0 0 0 0 0 w
  go_wp2_with (with_reducible refine OG.dP rfl 37 (.tmp 3) rfl b3 0 rfl e1.R.toList _ RL.out Try.underlying37 rfl agz.out ?_)
  refine (Jq e1 _ (fun j hj => (GE.out.2 j hj).1) (fun j hj => by rw [BL, zK, GE.out.1]; exact ⟨Je.lx j hj, Je.lp j hj⟩)).mono ?_
  rintro x w6 ⟨A, cc, rfl, _, hb⟩
  have B6 := Lib.hid (B5.out.trans (hb.mono B5.out.size))
  clear hb
  go_wp2
  go_ret
  exact ⟨rfl, (B1.out.trans (B2.out.mono B1.out.size)).trans (B6.out.mono (B1.out.trans (B2.out.mono B1.out.size)).size)⟩
end Go.Proofs.Ytnijhjbcjeohhaa.EE

namespace Go.Proofs.Ytnijhjbcjeohhaa.EE
open Go.RowKit Go.Proofs.Ytnijhjbcjeohhaa.KK Go.Proofs.af.aO Go.Proofs.af.aV Go.Proofs.af.aX
set_option linter.unusedVariables false
set_option linter.unusedSimpArgs false
structure Tg where
 r : Int
 c : Int
 A : Option Addr
 cx : Nat
 x : List Int
 r' : Int
 c' : Int
 B : Option Addr
 cp : Nat
 p : List Int
abbrev Tg.row (t : Tg) : Array Value := #[I t.r, I t.c, .slice t.A t.x.length t.cx, I t.r', I t.c', .slice t.B t.p.length t.cp]
structure Eg where
 q0 : Int
 q1 : Int
 q2 : Int
 q3 : Int
 t0 : Tg
 t1 : Tg
 t2 : Tg
 steps : Int
 dD : Int
 f0 : Int
 f1 : Int
 f2 : Int
 f3 : Int
 sat : Bool
abbrev Eg.row (e : Eg) : Array Value :=
 #[I e.q0, I e.q1, I e.q2, I e.q3,
   I e.t0.r, I e.t0.c, .slice e.t0.A e.t0.x.length e.t0.cx, I e.t0.r', I e.t0.c', .slice e.t0.B e.t0.p.length e.t0.cp,
   I e.t1.r, I e.t1.c, .slice e.t1.A e.t1.x.length e.t1.cx, I e.t1.r', I e.t1.c', .slice e.t1.B e.t1.p.length e.t1.cp,
   I e.t2.r, I e.t2.c, .slice e.t2.A e.t2.x.length e.t2.cx, I e.t2.r', I e.t2.c', .slice e.t2.B e.t2.p.length e.t2.cp,
   I e.steps, I e.dD, I e.f0, I e.f1, I e.f2, I e.f3, .bool e.sat]
def Eg.R (e : Eg) : Array Value := e.row
def Eg.t (e : Eg) : Nat → Tg
 | 0 => e.t0
 | 1 => e.t1
 | _ => e.t2
structure BO (w : World) (t : Tg) : Prop where
 x : Rd w t.A t.x
 xc : t.x.length ≤ t.cx
 p : Rd w t.B t.p
 pd : t.p.length ≤ t.cp
theorem BO.below {w w' : World} {t : Tg} (h : BO w t) (hb : Below w.heap.size w w') : BO w' t := ⟨h.x.below hb, h.xc, h.p.below hb, h.pd⟩
def Tg.ok (t : Tg) : Bool := decide (PR.lU t.r t.c t.x t.r' t.c' t.p) && decide (t.r = 3)
def Eg.Fq (e : Eg) : Nat → Int
 | 0 => e.f0
 | 1 => e.f1
 | 2 => e.f2
 | _ => e.f3
def Eg.n0 (e : Eg) : Bool := ((decide (e.steps < 0) || decide (e.steps > 1099511627776)) || decide (e.dD < 0)) || decide (e.dD > 1000)
def Eg.o4 (e : Eg) : Bool := !jD e.f0 && (!jD e.f1 && (!jD e.f2 && !jD e.f3))
def Eg.t3 (e : Eg) : Bool := e.t0.ok && (e.t1.ok && e.t2.ok)
def Eg.ok (e : Eg) : Bool := !e.n0 && (e.o4 && (e.t3 && PQ.g_ (PQ.at4 e.q0 e.q1 e.q2 e.q3) 4))
theorem jv (t : Tg) (w : World) (h : BO w t) : Calls Try.prog 41 #[.agg t.row] w fun e w' => e = .returned (.bool (decide (PR.lU t.r t.c t.x t.r' t.c' t.p))) ∧ Below w.heap.size w w' := by
 obtain ⟨k, hk⟩ := (PR.Ht t.r t.c t.x t.r' t.c' t.p).rounds
 exact PQ.aJ.calls k t.r t.c t.A t.cx t.x t.r' t.c' t.B t.cp t.p _ w h.x h.xc h.p h.pd hk
theorem Za (l : List Int) (i k : Nat) (hi : i < l.length) (hl : l.length ≤ 1000) : PQ.bP.l0 (k + 1) l i = if nM (l.getD i 0) = true then some false else PQ.bP.l0 k l ((i + 1 : Nat) : Int) := by
 have h1 : (i : Int) < (l.length : Int) := by omega
 have h2 : wrap64 ((i : Int) + 1) = ((i + 1 : Nat) : Int) := by unfold wrap64; omega
 rw [PQ.bP.l0, if_pos h1, if_pos (by omega), h2]
 have e : rd l (i : Int) = l.getD i 0 := by simp [rd]
 rw [e]
 unfold nM
 generalize l.getD i 0 = q
 by_cases a : q < 1
 · rw [if_pos a, if_pos (by simp; omega)]
 · rw [if_neg a]
   by_cases b : q > 17179869184
   · rw [if_pos b, if_pos (by simp; omega)]
   · rw [if_neg b, if_neg (by simp; omega)]
theorem abt (c : Cf) : PQ.bP.f 7 c.dt c.acc c.bias c.je c.nI c.gate = some c.may := by
 unfold PQ.bP.f
 have s : ∀ (i k : Nat), i < 6 → PQ.bP.l0 (k + 1) [c.dt, c.acc, c.bias, c.je, c.nI, c.gate] i = if nM ([c.dt, c.acc, c.bias, c.je, c.nI, c.gate].getD i 0) = true then some false else PQ.bP.l0 k [c.dt, c.acc, c.bias, c.je, c.nI, c.gate] ((i + 1 : Nat) : Int) := fun i k hi => Za _ i k (by simpa using hi) (by simp)
 have e6 : PQ.bP.l0 (0 + 1) [c.dt, c.acc, c.bias, c.je, c.nI, c.gate] ((6 : Nat) : Int) = some true := by rw [PQ.bP.l0, if_neg (by simp)]
 have h := s 0 6 (by omega)
 rw [s 1 5 (by omega), s 2 4 (by omega), s 3 3 (by omega), s 4 2 (by omega), s 5 1 (by omega), e6] at h
 refine h.trans ?_
 simp only [Cf.may, Cf.l, List.any_cons, List.any_nil, List.getD_cons_zero, List.getD_cons_succ]
 generalize nM c.dt = a, nM c.acc = b, nM c.bias = d, nM c.je = e, nM c.nI = f, nM c.gate = g
 revert a b d e f g
 decide
theorem iP (c : Cf) (w : World) : Calls Try.prog 14 #[.agg c.row] w fun x w' => x = .returned (.bool c.may) ∧ Below w.heap.size w w' :=
 PQ.bP.calls 7 c.dt c.acc c.bias c.je c.nI c.gate _ w (abt c)
theorem iq (q : Int) : jD q = (decide (q < 0) || decide (q > 1000)) := rfl
theorem oW (e : Eg) (w : World) (hr : ∀ j, j < 3 → BO w (e.t j)) : Calls Try.prog 17 #[.agg e.R] w fun x w' => x = .returned (.bool e.ok) ∧ Below w.heap.size w w' := by
 have HR := Lib.hid hr
 have L : Hid (aW w [(37, e.R)] (w.alloc (.cells e.R 37))) := Lib.hid ((aW.none w).push (by simp) _ _)
 clear hr
 go_enter Try.func17, Try.ntmps17
 go_upto_region 1 with fail
 generalize (w.alloc (.cells e.R 37)) = w1 at L ⊢
 have hc : ∀ i, w1.cell? ⟨w.heap.size, i, none⟩ = e.row[i]? := L.out.r0.cell
 cases n1 : decide (e.steps < 0)
 case true =>
  have N0 : Hid (e.n0 = true) := Lib.hid (by simp [Eg.n0, n1])
  go_wp2
  go_ret
  exact ⟨by simp only [Eg.ok, N0.out]; rfl, L.out.be⟩
 cases n2 : decide (e.steps > 1099511627776)
 case true =>
  have N0 : Hid (e.n0 = true) := Lib.hid (by simp [Eg.n0, n2])
  go_wp2
  go_ret
  exact ⟨by simp only [Eg.ok, N0.out]; rfl, L.out.be⟩
 cases n3 : decide (e.dD < 0)
 case true =>
  have N0 : Hid (e.n0 = true) := Lib.hid (by simp [Eg.n0, n3])
  go_wp2
  go_ret
  exact ⟨by simp only [Eg.ok, N0.out]; rfl, L.out.be⟩
 cases n4 : decide (e.dD > 1000)
 case true =>
  have N0 : Hid (e.n0 = true) := Lib.hid (by simp [Eg.n0, n4])
  go_wp2
  go_ret
  exact ⟨by simp only [Eg.ok, N0.out]; rfl, L.out.be⟩
 have N0 : Hid (e.n0 = false) := Lib.hid (by simp only [Eg.n0, n1, n2, n3, n4]; rfl)
 go_wp2
 clear n1 n2 n3 n4
 go_loop [3] (fun i => ∃ k : Nat, k ≤ 4 ∧ i = .int .i64 k ∧ Hid (∀ j, j < k → jD (e.Fq j) = false)) (fun i => 4 - (intOf i).toNat)
 case atStart => exact ⟨0, by omega, rfl, Lib.hid (fun j hj => by omega)⟩
 case round =>
  obtain ⟨k, hk, rfl, F⟩ := hrel
  obtain rfl | h4 : k = 4 ∨ k < 4 := by omega
  · have O4 : Hid (e.o4 = true) := Lib.hid (by
     have h0 := F.out 0 (by decide)
     have h1 := F.out 1 (by decide)
     have h2 := F.out 2 (by decide)
     have h3 := F.out 3 (by decide)
     simp only [Eg.Fq] at h0 h1 h2 h3
     simp [Eg.o4, h0, h1, h2, h3])
    clear F hc hk
    go_wp2
    go_loopw [4, 5] (fun i x wl => ∃ k : Nat, k ≤ 3 ∧ i = .int .i64 k ∧ Hid (∀ j, j < k → (e.t j).ok = true) ∧ Hid (aW w [(37, e.R)] wl)) (fun i _ _ => 3 - (intOf i).toNat)
    case atStart => exact ⟨0, by omega, rfl, Lib.hid (fun j hj => by omega), L⟩
    case round =>
     clear L
     obtain ⟨k, hk, rfl, F, L⟩ := hrel
     obtain rfl | h3 : k = 3 ∨ k < 3 := by omega
     · have T3 : Hid (e.t3 = true) := Lib.hid (by
        have h0 := F.out 0 (by decide)
        have h1 := F.out 1 (by decide)
        have h2 := F.out 2 (by decide)
        simp only [Eg.t] at h0 h1 h2
        simp [Eg.t3, h0, h1, h2])
       clear F hk
       have hc : ∀ i, wr.cell? ⟨w.heap.size, i, none⟩ = e.row[i]? := L.out.r0.cell
       go_wp2_with fail
       refine (PQ.Dl e.q0 e.q1 e.q2 e.q3 _).mono ?_
       rintro x w5 ⟨rfl, hb⟩
       have L5 := Lib.hid (L.out.below hb)
       clear hb hc L
       go_wp2
       go_ret
       exact ⟨by simp only [Eg.ok, N0.out, O4.out, T3.out]; rfl, L5.out.be⟩
     · have RA := Lib.hid (BO.below (HR.out k h3) L.out.be)
       have hc : ∀ i, wr.cell? ⟨w.heap.size, i, none⟩ = e.row[i]? := L.out.r0.cell
       obtain rfl | rfl | rfl : k = 0 ∨ k = 1 ∨ k = 2 := by omega
       · cases ht : decide (PR.lU (e.t 0).r (e.t 0).c (e.t 0).x (e.t 0).r' (e.t 0).c' (e.t 0).p)
         case false =>
          have T3 : Hid (e.t3 = false) := Lib.hid (by
           have : (e.t 0).ok = false := by simp only [Tg.ok, ht]; rfl
           simp only [Eg.t] at this
           simp [Eg.t3, this])
          go_wp2_with fail
          refine (jv (e.t 0) _ RA.out).mono ?_
          rintro x w5 ⟨rfl, hb⟩
          have L5 := Lib.hid (L.out.below hb)
          rw [ht]
          clear hb hc L ht
          have hc : ∀ i, w5.cell? ⟨w.heap.size, i, none⟩ = e.row[i]? := L5.out.r0.cell
          go_wp2
          go_ret
          exact ⟨by simp only [Eg.ok, N0.out, O4.out, T3.out]; rfl, L5.out.be⟩
         have HT := Lib.hid ht
         go_wp2_with fail
         refine (jv (e.t 0) _ RA.out).mono ?_
         rintro x w5 ⟨rfl, hb⟩
         have L5 := Lib.hid (L.out.below hb)
         rw [ht]
         clear hb hc L ht
         have hc : ∀ i, w5.cell? ⟨w.heap.size, i, none⟩ = e.row[i]? := L5.out.r0.cell
         cases h5 : ((e.t 0).r == 3)
         · have h6 : ((e.t 0).r != 3) = true := by rw [bne, h5]; rfl
           have T3 : Hid (e.t3 = false) := Lib.hid (by
            have h7 : (e.t 0).r ≠ 3 := by simpa using h5
            have : (e.t 0).ok = false := by simp [Tg.ok, h7]
            simp only [Eg.t] at this
            simp [Eg.t3, this])
           simp only [Eg.t] at h5 h6
           go_wp2
           go_ret
           exact ⟨by simp only [Eg.ok, N0.out, O4.out, T3.out]; rfl, L5.out.be⟩
         · have h6 : ((e.t 0).r != 3) = false := by rw [bne, h5]; rfl
           have TK : Hid ((e.t 0).ok = true) := Lib.hid (by
            have h7 : (e.t 0).r = 3 := by simpa using h5
            simp only [Tg.ok, HT.out, Bool.true_and]; exact decide_eq_true h7)
           simp only [Eg.t] at h5 h6
           have FN : Hid (∀ j, j < 0 + 1 → (e.t j).ok = true) := Lib.hid (fun j hj => by
            rcases Nat.lt_or_ge j 0 with h | h
            · exact F.out j h
            · obtain rfl : j = 0 := by omega
              exact TK.out)
           clear F HT TK
           go_wp2
           go_roundw
           case rel => exact ⟨0 + 1, by omega, by go_num, FN, L5⟩
           case measure => simp [intOf]
       · cases ht : decide (PR.lU (e.t 1).r (e.t 1).c (e.t 1).x (e.t 1).r' (e.t 1).c' (e.t 1).p)
         case false =>
          have T3 : Hid (e.t3 = false) := Lib.hid (by
           have : (e.t 1).ok = false := by simp only [Tg.ok, ht]; rfl
           simp only [Eg.t] at this
           simp [Eg.t3, this])
          go_wp2_with fail
          refine (jv (e.t 1) _ RA.out).mono ?_
          rintro x w5 ⟨rfl, hb⟩
          have L5 := Lib.hid (L.out.below hb)
          rw [ht]
          clear hb hc L ht
          have hc : ∀ i, w5.cell? ⟨w.heap.size, i, none⟩ = e.row[i]? := L5.out.r0.cell
          go_wp2
          go_ret
          exact ⟨by simp only [Eg.ok, N0.out, O4.out, T3.out]; rfl, L5.out.be⟩
         have HT := Lib.hid ht
         go_wp2_with fail
         refine (jv (e.t 1) _ RA.out).mono ?_
         rintro x w5 ⟨rfl, hb⟩
         have L5 := Lib.hid (L.out.below hb)
         rw [ht]
         clear hb hc L ht
         have hc : ∀ i, w5.cell? ⟨w.heap.size, i, none⟩ = e.row[i]? := L5.out.r0.cell
         cases h5 : ((e.t 1).r == 3)
         · have h6 : ((e.t 1).r != 3) = true := by rw [bne, h5]; rfl
           have T3 : Hid (e.t3 = false) := Lib.hid (by
            have h7 : (e.t 1).r ≠ 3 := by simpa using h5
            have : (e.t 1).ok = false := by simp [Tg.ok, h7]
            simp only [Eg.t] at this
            simp [Eg.t3, this])
           simp only [Eg.t] at h5 h6
           go_wp2
           go_ret
           exact ⟨by simp only [Eg.ok, N0.out, O4.out, T3.out]; rfl, L5.out.be⟩
         · have h6 : ((e.t 1).r != 3) = false := by rw [bne, h5]; rfl
           have TK : Hid ((e.t 1).ok = true) := Lib.hid (by
            have h7 : (e.t 1).r = 3 := by simpa using h5
            simp only [Tg.ok, HT.out, Bool.true_and]; exact decide_eq_true h7)
           simp only [Eg.t] at h5 h6
           have FN : Hid (∀ j, j < 1 + 1 → (e.t j).ok = true) := Lib.hid (fun j hj => by
            rcases Nat.lt_or_ge j 1 with h | h
            · exact F.out j h
            · obtain rfl : j = 1 := by omega
              exact TK.out)
           clear F HT TK
           go_wp2
           go_roundw
           case rel => exact ⟨1 + 1, by omega, by go_num, FN, L5⟩
           case measure => simp [intOf]
       · cases ht : decide (PR.lU (e.t 2).r (e.t 2).c (e.t 2).x (e.t 2).r' (e.t 2).c' (e.t 2).p)
         case false =>
          have T3 : Hid (e.t3 = false) := Lib.hid (by
           have : (e.t 2).ok = false := by simp only [Tg.ok, ht]; rfl
           simp only [Eg.t] at this
           simp [Eg.t3, this])
          go_wp2_with fail
          refine (jv (e.t 2) _ RA.out).mono ?_
          rintro x w5 ⟨rfl, hb⟩
          have L5 := Lib.hid (L.out.below hb)
          rw [ht]
          clear hb hc L ht
          have hc : ∀ i, w5.cell? ⟨w.heap.size, i, none⟩ = e.row[i]? := L5.out.r0.cell
          go_wp2
          go_ret
          exact ⟨by simp only [Eg.ok, N0.out, O4.out, T3.out]; rfl, L5.out.be⟩
         have HT := Lib.hid ht
         go_wp2_with fail
         refine (jv (e.t 2) _ RA.out).mono ?_
         rintro x w5 ⟨rfl, hb⟩
         have L5 := Lib.hid (L.out.below hb)
         rw [ht]
         clear hb hc L ht
         have hc : ∀ i, w5.cell? ⟨w.heap.size, i, none⟩ = e.row[i]? := L5.out.r0.cell
         cases h5 : ((e.t 2).r == 3)
         · have h6 : ((e.t 2).r != 3) = true := by rw [bne, h5]; rfl
           have T3 : Hid (e.t3 = false) := Lib.hid (by
            have h7 : (e.t 2).r ≠ 3 := by simpa using h5
            have : (e.t 2).ok = false := by simp [Tg.ok, h7]
            simp only [Eg.t] at this
            simp [Eg.t3, this])
           simp only [Eg.t] at h5 h6
           go_wp2
           go_ret
           exact ⟨by simp only [Eg.ok, N0.out, O4.out, T3.out]; rfl, L5.out.be⟩
         · have h6 : ((e.t 2).r != 3) = false := by rw [bne, h5]; rfl
           have TK : Hid ((e.t 2).ok = true) := Lib.hid (by
            have h7 : (e.t 2).r = 3 := by simpa using h5
            simp only [Tg.ok, HT.out, Bool.true_and]; exact decide_eq_true h7)
           simp only [Eg.t] at h5 h6
           have FN : Hid (∀ j, j < 2 + 1 → (e.t j).ok = true) := Lib.hid (fun j hj => by
            rcases Nat.lt_or_ge j 2 with h | h
            · exact F.out j h
            · obtain rfl : j = 2 := by omega
              exact TK.out)
           clear F HT TK
           go_wp2
           go_roundw
           case rel => exact ⟨2 + 1, by omega, by go_num, FN, L5⟩
           case measure => simp [intOf]
  · have hc' : ∀ i, w1.cell? ⟨w.heap.size, i, none⟩ = e.row[i]? := hc
    obtain rfl | rfl | rfl | rfl : k = 0 ∨ k = 1 ∨ k = 2 ∨ k = 3 := by omega
    · cases h1 : decide (e.f0 < 0)
      case true =>
       have O4 : Hid (e.o4 = false) := Lib.hid (by simp [Eg.o4, iq, h1])
       go_wp2
       go_ret
       exact ⟨by simp only [Eg.ok, N0.out, O4.out]; rfl, L.out.be⟩
      cases h2 : decide (e.f0 > 1000)
      case true =>
       have O4 : Hid (e.o4 = false) := Lib.hid (by simp [Eg.o4, iq, h2])
       go_wp2
       go_ret
       exact ⟨by simp only [Eg.ok, N0.out, O4.out]; rfl, L.out.be⟩
      have FN : Hid (∀ j, j < 0 + 1 → jD (e.Fq j) = false) := Lib.hid (fun j hj => by
       rcases Nat.lt_or_ge j 0 with h | h
       · exact F.out j h
       · obtain rfl : j = 0 := by omega
         simp only [Eg.Fq, iq, h1, h2]; rfl)
      clear F
      go_wp2
      go_round
      case rel => exact ⟨0 + 1, by omega, by go_num, FN⟩
      case measure => simp [intOf]
    · cases h1 : decide (e.f1 < 0)
      case true =>
       have O4 : Hid (e.o4 = false) := Lib.hid (by simp [Eg.o4, iq, h1])
       go_wp2
       go_ret
       exact ⟨by simp only [Eg.ok, N0.out, O4.out]; rfl, L.out.be⟩
      cases h2 : decide (e.f1 > 1000)
      case true =>
       have O4 : Hid (e.o4 = false) := Lib.hid (by simp [Eg.o4, iq, h2])
       go_wp2
       go_ret
       exact ⟨by simp only [Eg.ok, N0.out, O4.out]; rfl, L.out.be⟩
      have FN : Hid (∀ j, j < 1 + 1 → jD (e.Fq j) = false) := Lib.hid (fun j hj => by
       rcases Nat.lt_or_ge j 1 with h | h
       · exact F.out j h
       · obtain rfl : j = 1 := by omega
         simp only [Eg.Fq, iq, h1, h2]; rfl)
      clear F
      go_wp2
      go_round
      case rel => exact ⟨1 + 1, by omega, by go_num, FN⟩
      case measure => simp [intOf]
    · cases h1 : decide (e.f2 < 0)
      case true =>
       have O4 : Hid (e.o4 = false) := Lib.hid (by simp [Eg.o4, iq, h1])
       go_wp2
       go_ret
       exact ⟨by simp only [Eg.ok, N0.out, O4.out]; rfl, L.out.be⟩
      cases h2 : decide (e.f2 > 1000)
      case true =>
       have O4 : Hid (e.o4 = false) := Lib.hid (by simp [Eg.o4, iq, h2])
       go_wp2
       go_ret
       exact ⟨by simp only [Eg.ok, N0.out, O4.out]; rfl, L.out.be⟩
      have FN : Hid (∀ j, j < 2 + 1 → jD (e.Fq j) = false) := Lib.hid (fun j hj => by
       rcases Nat.lt_or_ge j 2 with h | h
       · exact F.out j h
       · obtain rfl : j = 2 := by omega
         simp only [Eg.Fq, iq, h1, h2]; rfl)
      clear F
      go_wp2
      go_round
      case rel => exact ⟨2 + 1, by omega, by go_num, FN⟩
      case measure => simp [intOf]
    · cases h1 : decide (e.f3 < 0)
      case true =>
       have O4 : Hid (e.o4 = false) := Lib.hid (by simp [Eg.o4, iq, h1])
       go_wp2
       go_ret
       exact ⟨by simp only [Eg.ok, N0.out, O4.out]; rfl, L.out.be⟩
      cases h2 : decide (e.f3 > 1000)
      case true =>
       have O4 : Hid (e.o4 = false) := Lib.hid (by simp [Eg.o4, iq, h2])
       go_wp2
       go_ret
       exact ⟨by simp only [Eg.ok, N0.out, O4.out]; rfl, L.out.be⟩
      have FN : Hid (∀ j, j < 3 + 1 → jD (e.Fq j) = false) := Lib.hid (fun j hj => by
       rcases Nat.lt_or_ge j 3 with h | h
       · exact F.out j h
       · obtain rfl : j = 3 := by omega
         simp only [Eg.Fq, iq, h1, h2]; rfl)
      clear F
      go_wp2
      go_round
      case rel => exact ⟨3 + 1, by omega, by go_num, FN⟩
      case measure => simp [intOf]
end Go.Proofs.Ytnijhjbcjeohhaa.EE

namespace Go.Proofs.Ytnijhjbcjeohhaa.EE
open Go.RowKit Go.Proofs.Ytnijhjbcjeohhaa.KK Go.Proofs.af.aO Go.Proofs.af.aV Go.Proofs.af.aX
set_option linter.unusedVariables false
set_option linter.unusedSimpArgs false
theorem Gt.counts {miss : Bool} {dt : Int} {n : En} {g0 g1 g2 a0 a1 a2 : Int} {n1 : En} {y : Nat → Int} (h : Gt miss dt n g0 g1 g2 a0 a1 a2 n1 y) : n1.steps = n.steps ∧ n1.dD = n.dD ∧ ∀ k, n1.off k = n.off k := by
 rcases h with ⟨_, rfl, _⟩ | ⟨_, _, _, _, _, _, _, _, _, _, _, _, _, _, _, _, _, _, _, _, _, _, _, _, _, rfl, _⟩
 · exact ⟨rfl, rfl, fun _ => rfl⟩
 · exact ⟨rfl, rfl, fun _ => rfl⟩
theorem pJ (c : Cf) (n : En) (y : Nat → Int) : (En.ahead c n y).steps = n.steps ∧ (En.ahead c n y).dD = n.dD ∧ ∀ k, (En.ahead c n y).off k = n.off k := ⟨rfl, rfl, fun _ => rfl⟩
def Cnt (has : Bool) (a b : Int) : Prop := (has = false → b = a) ∧ (has = true → b = 0 ∨ b = min (a + 1) 1000)
theorem Kr (tk : Bool) (n : Int) : jV tk n = 0 ∨ jV tk n = min (n + 1) 1000 := by
 cases tk
 · exact .inr rfl
 · exact .inl rfl
theorem Bl.counts {n n' : En} {i k : Nat} {z r gate : Int} (hk : k < 4) (h : Bl n i k z r gate n') : n'.steps = n.steps ∧ n'.dD = n.dD ∧ (∀ j, j < 4 → j ≠ k → n'.off j = n.off j) ∧ Cnt true (n.off k) (n'.off k) := by
 obtain ⟨X, P, tk, fl, _, rfl⟩ := h
 refine ⟨?_, ?_, fun j hj hne => ?_, (fun e => by cases e), fun _ => ?_⟩
 · unfold En.held; rfl
 · unfold En.held; rfl
 · rw [yT n i k j hj hk, if_neg (Ne.symm hne)]
 · rw [yT n i k k hk hk, if_pos rfl]
   exact Kr tk _
def Sm.has (s : Sm) : Nat → Bool
 | 0 => s.hasB
 | _ => s.nR
theorem EN.counts {c : Cf} {n : En} {s : Sm} {n' : En} (h : EN c n s n') : n'.steps = n.steps ∧ n'.dD = n.dD ∧ (s.missing = true → ∀ k, n'.off k = n.off k) ∧ (s.missing = false → ∀ k, k < 4 → Cnt (s.has k) (n.off k) (n'.off k)) := by
 cases hm : s.missing
 case true =>
  obtain rfl := h.miss hm
  exact ⟨rfl, rfl, fun _ _ => rfl, fun e => by cases e⟩
 obtain ⟨m1, gk, h1, h2, h3, h4, h5, h6⟩ := h.go hm
 have B : m1.steps = n.steps ∧ m1.dD = n.dD ∧ (∀ j, j < 4 → j ≠ 0 → m1.off j = n.off j) ∧ Cnt s.hasB (n.off 0) (m1.off 0) := by
  cases hb : s.hasB
  · obtain rfl := h2 hb
    exact ⟨rfl, rfl, fun _ _ _ => rfl, fun _ => rfl, fun e => by cases e⟩
  · exact (h1 hb).counts (by decide)
 cases hg : s.nR
 · have e1 := h6 hg 0 (by decide)
   have e2 := h6 hg 1 (by decide)
   have e3 := h6 hg 2 (by decide)
   have : n' = m1 := by rw [← h4, ← h3, e3, e2, e1]
   subst this
   refine ⟨B.1, B.2.1, (fun e => by cases e), fun _ k hk => ?_⟩
   match k, hk with
   | 0, _ => exact B.2.2.2
   | k + 1, hk =>
     rw [B.2.2.1 (k + 1) hk (by omega)]
     show Cnt s.nR _ _
     rw [hg]
     exact ⟨fun _ => rfl, fun e => by cases e⟩
 · have c1 := (h5 hg 0 (by decide)).counts (by decide)
   have c2 := (h5 hg 1 (by decide)).counts (by decide)
   have c3 := (h5 hg 2 (by decide)).counts (by decide)
   simp only [Nat.zero_add, Nat.reduceAdd] at c1 c2 c3
   rw [h3] at c1
   rw [h4] at c3
   refine ⟨c3.1.trans (c2.1.trans (c1.1.trans B.1)), c3.2.1.trans (c2.2.1.trans (c1.2.1.trans B.2.1)), (fun e => by cases e), fun _ k hk => ?_⟩
   obtain rfl | rfl | rfl | rfl : k = 0 ∨ k = 1 ∨ k = 2 ∨ k = 3 := by omega
   · rw [c3.2.2.1 0 (by decide) (by decide), c2.2.2.1 0 (by decide) (by decide), c1.2.2.1 0 (by decide) (by decide)]
     exact B.2.2.2
   · rw [c3.2.2.1 1 (by decide) (by decide), c2.2.2.1 1 (by decide) (by decide)]
     show Cnt s.nR _ _
     rw [hg, ← B.2.2.1 1 (by decide) (by decide)]
     exact c1.2.2.2
   · rw [c3.2.2.1 2 (by decide) (by decide)]
     show Cnt s.nR _ _
     rw [hg, ← B.2.2.1 2 (by decide) (by decide), ← c1.2.2.1 2 (by decide) (by decide)]
     exact c2.2.2.2
   · show Cnt s.nR _ _
     rw [hg, ← B.2.2.1 3 (by decide) (by decide), ← c1.2.2.1 3 (by decide) (by decide), ← c2.2.2.1 3 (by decide) (by decide)]
     exact c3.2.2.2
theorem Jy (c : Cf) (n : En) (s : Sm) (G : Gd n) (hb : 0 < c.je) (hn : 0 < c.nI) : ∃ n', Ac c n s n' ∧ Gd n' ∧ n'.steps = min (n.steps + 1) 1099511627776 ∧ n'.dD = (if s.missing = true then min (n.dD + 1) 1000 else 0) ∧
 (s.missing = true → ∀ k, n'.off k = n.off k) ∧ (s.missing = false → ∀ k, k < 4 → Cnt (s.has k) (n.off k) (n'.off k)) := by
 obtain ⟨n1, y, T⟩ := C9 s.missing c.dt n s.g0 s.g1 s.g2 s.a0 s.a1 s.a2
 obtain ⟨n3, H, G3⟩ := NL c s (T.gd G).ahead (n := En.ahead c n1 y)
 have t := T.counts
 have h := H.counts
 refine ⟨n3.cnt s.missing, yD c n s n1 n3 y G hb hn T H G3, G3.cnt _, ?_, ?_, fun m k => ?_, fun m k hk => ?_⟩
 · show min (n3.steps + 1) _ = _
   rw [h.1, (pJ c n1 y).1, t.1]
 · show (if s.missing = true then min (n3.dD + 1) 1000 else 0) = _
   rw [h.2.1, (pJ c n1 y).2.1, t.2.1]
 · have := h.2.2.1 m k
   rw [(pJ c n1 y).2.2, t.2.2] at this
   exact this
 · have := h.2.2.2 m k hk
   rw [(pJ c n1 y).2.2, t.2.2] at this
   exact this
end Go.Proofs.Ytnijhjbcjeohhaa.EE

namespace Go.Proofs.Ytnijhjbcjeohhaa.EE
open Go.RowKit Go.Proofs.Ytnijhjbcjeohhaa.KK Go.Proofs.af.aO Go.Proofs.af.aV Go.Proofs.af.aX
set_option linter.unusedVariables false
set_option linter.unusedSimpArgs false
theorem BX (w : World) (z y D E : Array Value) (t u : TypeId) (hD : D.size = z.size) (hE : E.size = y.size) :
 Row ((((w.alloc (.cells z t)).alloc (.cells y u)).setCells w.heap.size 0 D.toList).setCells (w.heap.size + 1) 0 E.toList) w.heap.size t D ∧
 Row ((((w.alloc (.cells z t)).alloc (.cells y u)).setCells w.heap.size 0 D.toList).setCells (w.heap.size + 1) 0 E.toList) (w.heap.size + 1) u E ∧
 Below w.heap.size w ((((w.alloc (.cells z t)).alloc (.cells y u)).setCells w.heap.size 0 D.toList).setCells (w.heap.size + 1) 0 E.toList) := by
 have r1 := (Row.new w t z).alloc (.cells y u)
 have r2 := Row.new (w.alloc (.cells z t)) u y
 rw [World.size_alloc] at r2
 have s1 := Row.full r1 D hD
 have s2 : Row (((w.alloc (.cells z t)).alloc (.cells y u)).setCells w.heap.size 0 D.toList) (w.heap.size + 1) u y := (OG.jL _ _ _ _ (by omega)).trans r2
 refine ⟨(OG.jL _ _ _ _ (by omega)).trans s1, Row.full s2 E hE, ?_⟩
 exact KK.d_ _ _ _ (KK.d_ _ _ _ (((Below.refl _ _).alloc (Nat.le_refl _) _).alloc (by simp) _) (Nat.le_refl _)) (by omega)
theorem wM (w : World) (z y D E : Array Value) (t u : TypeId) (hD : D.size = z.size) (hE : E.size = y.size) :
 ((w.alloc (.cells z t)).alloc (.cells y u)).there w.heap.size 0 D.size ∧ (((w.alloc (.cells z t)).alloc (.cells y u)).setCells w.heap.size 0 D.toList).there (w.heap.size + 1) 0 E.size := by
 have r1 := Row.there ((Row.new w t z).alloc (.cells y u))
 have r2 := Row.new (w.alloc (.cells z t)) u y
 rw [World.size_alloc] at r2
 have r3 : Row (((w.alloc (.cells z t)).alloc (.cells y u)).setCells w.heap.size 0 D.toList) (w.heap.size + 1) u y := (OG.jL _ _ _ _ (by omega)).trans r2
 rw [hD, hE]
 exact ⟨r1, Row.there r3⟩
theorem Pj (w : World) (z D : Array Value) (t : TypeId) (hD : D.size = z.size) :
 Row ((w.alloc (.cells z t)).setCells w.heap.size 0 D.toList) w.heap.size t D ∧ Below w.heap.size w ((w.alloc (.cells z t)).setCells w.heap.size 0 D.toList) :=
 ⟨Row.full (Row.new w t z) D hD, KK.d_ _ _ _ ((Below.refl _ _).alloc (Nat.le_refl _) _) (Nat.le_refl _)⟩
theorem H9 {c : Cf} (h : c.may = true) : 0 < c.je ∧ 0 < c.nI ∧ 0 < c.dt := by
 have h2 : ∀ q ∈ c.l, nM q = false := by
  simp only [Cf.may, Bool.not_eq_true', List.any_eq_false] at h
  intro q hq
  simpa using h q hq
 have p : ∀ q, nM q = false → 0 < q := fun q hq => by
  unfold nM at hq
  simp at hq
  omega
 exact ⟨p _ (h2 _ (by simp [Cf.l])), p _ (h2 _ (by simp [Cf.l])), p _ (h2 _ (by simp [Cf.l]))⟩
theorem zC {r c r' c' : Int} {x p : List Int} (h : PR.lU r c x r' c' p) (h3 : r = 3) : c = 1 ∧ r' = 3 ∧ c' = 3 ∧ x.length = 3 ∧ p.length = 9 := by
 obtain ⟨h1, h2, rfl, rfl, rfl, _⟩ := h
 subst h3
 have l1 := (PR.mW h1).2.2.2.2.1
 have l2 := (PR.mW h2).2.2.2.2.1
 exact ⟨rfl, rfl, rfl, by simpa using l1, by simpa using l2⟩
theorem Eg.good {e : Eg} {w : World} (h : e.ok = true) (hr : ∀ j, j < 3 → BO w (e.t j)) : ∃ s : Es, s.R = e.R ∧ (∀ j, j < 3 → Rw w (s.ax j)) ∧ Gd s.nu ∧ (∀ j, j < 3 → PR.lU 3 1 (s.ax j).x 3 3 (s.ax j).p) ∧ PQ.g_ (PQ.at4 s.q0 s.q1 s.q2 s.q3) 4 = true ∧ s.nu = ⟨e.q0, e.q1, e.q2, e.q3, e.t0.x, e.t0.p, e.t1.x, e.t1.p, e.t2.x, e.t2.p, e.steps, e.dD, e.f0, e.f1, e.f2, e.f3, e.sat⟩ := by
 obtain ⟨q0, q1, q2, q3, ⟨r0, c0, A0, d0, x0, r0', c0', B0, e0, p0⟩, ⟨r1, c1, A1, d1, x1, r1', c1', B1, e1, p1⟩, ⟨r2, c2, A2, d2, x2, r2', c2', B2, e2, p2⟩, steps, dD, f0, f1, f2, f3, sat⟩ := e
 simp only [Eg.ok, Eg.t3, Tg.ok, Eg.o4, Eg.n0, Bool.and_eq_true, Bool.not_eq_true', Bool.or_eq_false_iff, decide_eq_true_eq, decide_eq_false_iff_not] at h
 obtain ⟨hn, ⟨o0, o1, o2, o3⟩, ⟨⟨t0, k0⟩, ⟨t1, k1⟩, ⟨t2, k2⟩⟩, hq⟩ := h
 obtain ⟨rfl, rfl, rfl, lx0, lp0⟩ := zC t0 k0
 obtain ⟨rfl, rfl, rfl, lx1, lp1⟩ := zC t1 k1
 obtain ⟨rfl, rfl, rfl, lx2, lp2⟩ := zC t2 k2
 subst k0 k1 k2
 have bo : ∀ q, jD q = false → 0 ≤ q ∧ q ≤ 1000 := fun q hq => by
  unfold jD at hq
  simp at hq
  omega
 refine ⟨⟨q0, q1, q2, q3, ⟨A0, d0, x0, B0, e0, p0⟩, ⟨A1, d1, x1, B1, e1, p1⟩, ⟨A2, d2, x2, B2, e2, p2⟩, steps, dD, f0, f1, f2, f3, sat⟩, rfl, fun j hj => ?_, ⟨fun j hj => ?_, fun j hj => ?_, by show 0 ≤ steps; omega, by show steps ≤ 1099511627776; omega, by show 0 ≤ dD; omega, by show dD ≤ 1000; omega, fun k hk => ?_, fun k hk => ?_⟩, fun j hj => ?_, hq, rfl⟩
 · obtain rfl | rfl | rfl : j = 0 ∨ j = 1 ∨ j = 2 := by omega
   · exact ⟨(hr 0 (by decide)).x, (hr 0 (by decide)).xc, (hr 0 (by decide)).p, (hr 0 (by decide)).pd⟩
   · exact ⟨(hr 1 (by decide)).x, (hr 1 (by decide)).xc, (hr 1 (by decide)).p, (hr 1 (by decide)).pd⟩
   · exact ⟨(hr 2 (by decide)).x, (hr 2 (by decide)).xc, (hr 2 (by decide)).p, (hr 2 (by decide)).pd⟩
 · obtain rfl | rfl | rfl : j = 0 ∨ j = 1 ∨ j = 2 := by omega
   · exact lx0
   · exact lx1
   · exact lx2
 · obtain rfl | rfl | rfl : j = 0 ∨ j = 1 ∨ j = 2 := by omega
   · exact lp0
   · exact lp1
   · exact lp2
 · obtain rfl | rfl | rfl | rfl : k = 0 ∨ k = 1 ∨ k = 2 ∨ k = 3 := by omega
   · exact (bo _ o0).1
   · exact (bo _ o1).1
   · exact (bo _ o2).1
   · exact (bo _ o3).1
 · obtain rfl | rfl | rfl | rfl : k = 0 ∨ k = 1 ∨ k = 2 ∨ k = 3 := by omega
   · exact (bo _ o0).2
   · exact (bo _ o1).2
   · exact (bo _ o2).2
   · exact (bo _ o3).2
 · obtain rfl | rfl | rfl : j = 0 ∨ j = 1 ∨ j = 2 := by omega
   · exact t0
   · exact t1
   · exact t2
theorem Ym (xs : Array Value) (k : Nat) (x : Int) (h : xs[k]? = some (.int .i64 x)) (w : World) : (part 3 xs k).run Try.prog w = .ok (.int .i64 x) w := by
 simp [part, go_sem, h]
theorem qR (a e : Int) (xs ys : Array Value) (k : Nat) (hx : xs[k]? = some (.int .i64 a)) (hy : ys[k]? = some (.int .i64 e)) (ks : List Nat) (r : Bool) (w : World)
 (h : (Op.eqItems 9999 3 1 xs ys ks).run Try.prog w = .ok r w) : (Op.eqItems 9999 3 1 xs ys (k :: ks)).run Try.prog w = .ok ((a == e) && r) w := by
 have p1 := Ym xs (k * 1) a (by simpa using hx) w
 have p2 := Ym ys (k * 1) e (by simpa using hy) w
 have p3 := run_equalIn_int w (P := Try.prog) 9998 3 .i64 .i64 a e rfl
 simp only [Op.eqItems, Sem.run_bind, p1, p2, p3, Result.andThen_ok]
 cases hr : (a == e)
 · simp
 · simpa using h
theorem UL (a b c d e f g h : Int) (w : World) :
 (Op.equalIn 10000 35 (.agg #[.int .i64 a, .int .i64 b, .int .i64 c, .int .i64 d]) (.agg #[.int .i64 e, .int .i64 f, .int .i64 g, .int .i64 h])).run Try.prog w = .ok ((a == e) && ((b == f) && ((c == g) && ((d == h) && true)))) w := by
 rw [run_equalIn_array (P := Try.prog) (w := w) 9999 (e := 3) (n := 4) (i := _) _ _ rfl rfl]
 exact qR _ _ _ _ 0 rfl rfl _ _ w (qR _ _ _ _ 1 rfl rfl _ _ w (qR _ _ _ _ 2 rfl rfl _ _ w (qR _ _ _ _ 3 rfl rfl _ _ w (by simp [Op.eqItems]))))
end Go.Proofs.Ytnijhjbcjeohhaa.EE

namespace Go.Proofs.Ytnijhjbcjeohhaa.EE
open Go.RowKit Go.Proofs.Ytnijhjbcjeohhaa.KK Go.Proofs.af.aO Go.Proofs.af.aV Go.Proofs.af.aX
set_option linter.unusedVariables false
set_option linter.unusedSimpArgs false
theorem Vb (c : Cf) (e : Eg) (s : Sm) (w : World) (hr : ∀ j, j < 3 → BO w (e.t j)) (hm : c.may = false) :
 Calls Try.prog 4 #[.agg c.row, .agg e.R, .agg s.R] w fun x w' => x = .returned (.bool true) ∧ Below w.heap.size w w' := by
 have HM := Lib.hid hm
 clear hm
 have HR := Lib.hid hr
 have L : Hid (aW w [(24, c.row), (37, e.R), (46, s.R)] (((w.alloc (.cells c.row 24)).alloc (.cells e.R 37)).alloc (.cells s.R 46))) := Lib.hid ((((aW.none w).push (by simp) _ _).push (by simp) _ _).push (by simp) _ _)
 clear hr
 go_enter Try.func4, Try.ntmps4
 go_upto_region 1 with fail
 generalize ((w.alloc (.cells c.row 24)).alloc (.cells e.R 37)).alloc (.cells s.R 46) = w1 at L ⊢
 go_wp2_with fail
 refine (jE _).mono ?_
 rintro x w2 ⟨rfl, hb⟩
 have L2 := Lib.hid (L.out.below hb)
 clear hb L
 have hc : ∀ i, w2.cell? ⟨w.heap.size, i, none⟩ = c.row[i]? := L2.out.r0.cell
 go_wp2_with fail
 refine (iP c _).mono ?_
 rintro x w3 ⟨rfl, hb⟩
 have L3 := Lib.hid (L2.out.below hb)
 clear hb L2 hc
 rw [HM.out]
 go_wp2
 go_ret
 exact ⟨rfl, L3.out.be⟩
theorem Va (c : Cf) (e : Eg) (s : Sm) (w : World) (hr : ∀ j, j < 3 → BO w (e.t j)) (hm : c.may = true) (ho : e.ok = false) :
 Calls Try.prog 4 #[.agg c.row, .agg e.R, .agg s.R] w fun x w' => x = .returned (.bool true) ∧ Below w.heap.size w w' := by
 have HM := Lib.hid hm
 have HO := Lib.hid ho
 clear hm ho
 have HR := Lib.hid hr
 have L : Hid (aW w [(24, c.row), (37, e.R), (46, s.R)] (((w.alloc (.cells c.row 24)).alloc (.cells e.R 37)).alloc (.cells s.R 46))) := Lib.hid ((((aW.none w).push (by simp) _ _).push (by simp) _ _).push (by simp) _ _)
 clear hr
 go_enter Try.func4, Try.ntmps4
 go_upto_region 1 with fail
 generalize ((w.alloc (.cells c.row 24)).alloc (.cells e.R 37)).alloc (.cells s.R 46) = w1 at L ⊢
 go_wp2_with fail
 refine (jE _).mono ?_
 rintro x w2 ⟨rfl, hb⟩
 have L2 := Lib.hid (L.out.below hb)
 clear hb L
 have hc : ∀ i, w2.cell? ⟨w.heap.size, i, none⟩ = c.row[i]? := L2.out.r0.cell
 go_wp2_with fail
 refine (iP c _).mono ?_
 rintro x w3 ⟨rfl, hb⟩
 have L3 := Lib.hid (L2.out.below hb)
 clear hb L2 hc
 rw [HM.out]
 have RL := Lib.hid (Row.whole L3.out.r1)
 have i37 : Hid ((Try.prog.info? 37).map (·.size) = some e.R.toList.length) := Lib.hid (by kernel_rfl)
 go_wp2_with (with_reducible refine OG.dP rfl 37 (.tmp 4) rfl (w.heap.size + 1) 0 rfl e.R.toList _ RL.out Try.underlying37 rfl i37.out ?_)
 refine (oW e _ (fun j hj => (HR.out j hj).below L3.out.be)).mono ?_
 rintro x w4 ⟨rfl, hb⟩
 have L4 := Lib.hid (L3.out.below hb)
 clear hb L3 RL
 rw [HO.out]
 go_wp2
 go_ret
 exact ⟨rfl, L4.out.be⟩
theorem U_ (c : Cf) (e : Eg) (s : Sm) (w : World) (hr : ∀ j, j < 3 → BO w (e.t j)) (hm : c.may = true) (ho : e.ok = true) :
 Calls Try.prog 4 #[.agg c.row, .agg e.R, .agg s.R] w fun x w' => x = .returned (.bool true) ∧ Below w.heap.size w w' := by
 have HM := Lib.hid hm
 have HO := Lib.hid ho
 clear hm ho
 have HR := Lib.hid hr
 have L : Hid (aW w [(24, c.row), (37, e.R), (46, s.R)] (((w.alloc (.cells c.row 24)).alloc (.cells e.R 37)).alloc (.cells s.R 46))) := Lib.hid ((((aW.none w).push (by simp) _ _).push (by simp) _ _).push (by simp) _ _)
 clear hr
 go_enter Try.func4, Try.ntmps4
 go_upto_region 1 with fail
 generalize ((w.alloc (.cells c.row 24)).alloc (.cells e.R 37)).alloc (.cells s.R 46) = w1 at L ⊢
 go_wp2_with fail
 refine (jE _).mono ?_
 rintro x w2 ⟨rfl, hb⟩
 have L2 := Lib.hid (L.out.below hb)
 clear hb L
 have hc : ∀ i, w2.cell? ⟨w.heap.size, i, none⟩ = c.row[i]? := L2.out.r0.cell
 go_wp2_with fail
 refine (iP c _).mono ?_
 rintro x w3 ⟨rfl, hb⟩
 have L3 := Lib.hid (L2.out.below hb)
 clear hb L2 hc
 rw [HM.out]
 have RL := Lib.hid (Row.whole L3.out.r1)
 have i37 : Hid ((Try.prog.info? 37).map (·.size) = some e.R.toList.length) := Lib.hid (by kernel_rfl)
 go_wp2_with (with_reducible refine OG.dP rfl 37 (.tmp 4) rfl (w.heap.size + 1) 0 rfl e.R.toList _ RL.out Try.underlying37 rfl i37.out ?_)
 refine (oW e _ (fun j hj => (HR.out j hj).below L3.out.be)).mono ?_
 rintro x w4 ⟨rfl, hb⟩
 have L4 := Lib.hid (L3.out.below hb)
 clear hb L3 RL
 rw [HO.out]
 go_upto_region 4 with fail
 obtain ⟨es, hR, hrw, G, ht, hq, hnu⟩ := Eg.good HO.out (fun j hj => (HR.out j hj).below L4.out.be)
 have MP := H9 HM.out
 obtain ⟨n', ST, G', v1, v2, v3, v4⟩ := Jy c es.nu s G MP.1 MP.2.1
 have HST := Lib.hid (ST es w4 rfl hrw)
 have HV := Lib.hid (And.intro (And.intro v1 v2) (And.intro v3 v4))
 have HG := Lib.hid G
 clear ST v1 v2 v3 v4 G G' hrw ht hq hnu MP HR HO HM i37
 rw [← hR] at L4 ⊢
 clear hR
 have hc : ∀ i, w4.cell? ⟨w.heap.size, i, none⟩ = c.row[i]? := L4.out.r0.cell
 have RE := Lib.hid (Row.whole L4.out.r1)
 have RS := Lib.hid (Row.whole L4.out.r2)
 have i37 : Hid ((Try.prog.info? 37).map (·.size) = some es.R.toList.length) := Lib.hid (by kernel_rfl)
 have i46 : Hid ((Try.prog.info? 46).map (·.size) = some s.R.toList.length) := Lib.hid (by kernel_rfl)
 go_wp2_with (first | with_reducible refine OG.dP rfl 37 (.tmp 4) rfl (w.heap.size + 1) 0 rfl es.R.toList _ RE.out Try.underlying37 rfl i37.out ?_ | with_reducible refine OG.dP rfl 46 (.tmp 5) rfl (w.heap.size + 1 + 1) 0 rfl s.R.toList _ RS.out Try.underlying46 rfl i46.out ?_)
 refine HST.out.mono ?_
 rintro x w5 ⟨e', hn, rfl, _, hb⟩
 have L5 := Lib.hid (L4.out.below hb)
 have HN := Lib.hid hn
 clear hb L4 RE RS hc HST hn i37 i46
 generalize n'.x0.getD 0 0 = y0
 generalize n'.x1.getD 0 0 = y1
 generalize n'.x2.getD 0 0 = y2
 have TN := Lib.hid (BX w5 #[.int .i64 0, .int .i64 0, .int .i64 0, .int .i64 0, .int .i64 0, .int .i64 0, .slice none 0 0, .int .i64 0, .int .i64 0, .slice none 0 0, .int .i64 0, .int .i64 0, .slice none 0 0, .int .i64 0, .int .i64 0, .slice none 0 0, .int .i64 0, .int .i64 0, .slice none 0 0, .int .i64 0, .int .i64 0, .slice none 0 0, .int .i64 0, .int .i64 0, .int .i64 0, .int .i64 0, .int .i64 0, .int .i64 0, .bool false] #[.int .i64 0, .int .i64 0, .int .i64 0] e'.R #[I y0, I y1, I y2] 37 42 rfl rfl)
 have TH := Lib.hid (wM w5 #[.int .i64 0, .int .i64 0, .int .i64 0, .int .i64 0, .int .i64 0, .int .i64 0, .slice none 0 0, .int .i64 0, .int .i64 0, .slice none 0 0, .int .i64 0, .int .i64 0, .slice none 0 0, .int .i64 0, .int .i64 0, .slice none 0 0, .int .i64 0, .int .i64 0, .slice none 0 0, .int .i64 0, .int .i64 0, .slice none 0 0, .int .i64 0, .int .i64 0, .int .i64 0, .int .i64 0, .int .i64 0, .int .i64 0, .bool false] #[.int .i64 0, .int .i64 0, .int .i64 0] e'.R #[I y0, I y1, I y2] 37 42 rfl rfl)
 have i37 : Hid ((Try.prog.info? 37).map (·.size) = some e'.R.size) := Lib.hid (by kernel_rfl)
 have one : Hid (e'.R.all (·.oneCell') = true) := Lib.hid (by kernel_rfl)
 go_upto_region 5 with (first | with_reducible refine wpList_store_mid rfl 37 (.tmp 8) (.tmp 28) rfl w5.heap.size 0 e'.R rfl rfl TH.out.1 i37.out one.out ?_ | with_reducible refine wpList_store_mid rfl 42 (.tmp 9) (.tmp 29) rfl (w5.heap.size + 1) 0 #[I y0, I y1, I y2] rfl rfl TH.out.2 (by kernel_rfl) (by kernel_rfl) ?_)
 clear TH i37 one
 generalize (((w5.alloc (.cells #[.int .i64 0, .int .i64 0, .int .i64 0, .int .i64 0, .int .i64 0, .int .i64 0, .slice none 0 0, .int .i64 0, .int .i64 0, .slice none 0 0, .int .i64 0, .int .i64 0, .slice none 0 0, .int .i64 0, .int .i64 0, .slice none 0 0, .int .i64 0, .int .i64 0, .slice none 0 0, .int .i64 0, .int .i64 0, .slice none 0 0, .int .i64 0, .int .i64 0, .int .i64 0, .int .i64 0, .int .i64 0, .int .i64 0, .bool false] 37)).alloc (.cells #[.int .i64 0, .int .i64 0, .int .i64 0] 42)).setCells w5.heap.size 0 e'.R.toList).setCells (w5.heap.size + 1) 0 #[I y0, I y1, I y2].toList = w6 at TN ⊢
 have L6 := Lib.hid (L5.out.below TN.out.2.2)
 have R8 := Lib.hid TN.out.1
 clear TN L5
 generalize w5.heap.size = b8 at R8 ⊢
 simp only [Act.put]
 have cE : ∀ i, w6.cell? ⟨w.heap.size + 1, i, none⟩ = es.row[i]? := L6.out.r1.cell
 have cS : ∀ i, w6.cell? ⟨w.heap.size + 1 + 1, i, none⟩ = s.row[i]? := L6.out.r2.cell
 have v1 : e'.steps = min (es.steps + 1) 1099511627776 := (congrArg En.steps HN.out : _).trans HV.out.1.1
 have v2 : e'.dD = (if s.missing = true then min (es.dD + 1) 1000 else 0) := (congrArg En.dD HN.out : _).trans HV.out.1.2
 have g1 : 0 ≤ es.steps := HG.out.s0
 have g2 : es.steps ≤ 1099511627776 := HG.out.s1
 have g3 : 0 ≤ es.dD := HG.out.c0
 have g4 : es.dD ≤ 1000 := HG.out.c1
 have EZ : w6.cell? ⟨b8, 22, none⟩ = some (I (min (es.steps + 1) 1099511627776)) := by rw [R8.out.cell, ← v1]; rfl
 cases hm : s.missing
 · have c23 : w6.cell? ⟨b8, 23, none⟩ = some (I 0) := by
    have h : e'.dD = 0 := by rw [v2, hm]; rfl
    rw [R8.out.cell, ← h]; rfl
   have K1 : Hid (∀ k, k < 4 → Cnt (s.has k) (es.nu.off k) (n'.off k)) := Lib.hid (HV.out.2.2 hm)
   clear v1 v2 HV
   have HB : Hid (s.hasB = false → e'.f0 = es.f0) := Lib.hid (fun h => by
    have h2 := (K1.out 0 (by decide)).1 h
    rw [← HN.out] at h2
    exact h2)
   have c24 : w6.cell? ⟨b8, 24, none⟩ = some (I e'.f0) := R8.out.cell 24
   cases hb : s.hasB
   · rw [HB.out hb] at c24
     go_wp2
     have HBB := Lib.hid hb
     clear hb EZ c23 c24 HB cE cS g1 g2 g3 g4
     go_loopw [11, 12] (fun i x wl => ∃ k : Nat, k ≤ 4 ∧ i = .int .i64 k ∧ Hid (aW w [(24, c.row), (37, es.R), (46, s.R)] wl) ∧ Hid (Row wl b8 37 e'.R)) (fun i _ _ => 4 - (intOf i).toNat)
     case atStart => exact ⟨0, by omega, rfl, L6, R8⟩
     case round =>
      clear L6 R8
      obtain ⟨k, hk, rfl, L6, R8⟩ := hrel
      have cE : ∀ i, wr.cell? ⟨w.heap.size + 1, i, none⟩ = es.row[i]? := L6.out.r1.cell
      have cS : ∀ i, wr.cell? ⟨w.heap.size + 1 + 1, i, none⟩ = s.row[i]? := L6.out.r2.cell
      obtain rfl | rfl | rfl | rfl | rfl : k = 4 ∨ k = 0 ∨ k = 1 ∨ k = 2 ∨ k = 3 := by omega
      · go_wp2
        go_ret
        exact ⟨rfl, L6.out.be⟩
      · have g5 : 0 ≤ es.f0 := HG.out.o0 0 (by decide)
        have g6 : es.f0 ≤ 1000 := HG.out.o1 0 (by decide)
        have F : Cnt s.hasB es.f0 e'.f0 := by have h := K1.out 0 (by decide); rw [← HN.out] at h; exact h
        have c8 : wr.cell? ⟨b8, 24, none⟩ = some (I e'.f0) := R8.out.cell 24
        have hw : IntKind.i64.wrap (es.f0 + 1) = es.f0 + 1 := IntWalk.i64_in _ (by omega)
        have FF := Lib.hid F
        clear F
        cases hh : s.hasB
        · rw [FF.out.1 hh] at c8
          go_wp2
          go_quiet (fail)
          go_wp2
          go_roundw
          case rel => exact ⟨1, by omega, by go_num, Lib.hid (L6.out.below (ah (Below.refl _ _) _)), Lib.hid (R8.out.below (ah (Below.refl _ _) _) R8.out.lt)⟩
          case measure => simp [intOf]
        · rcases FF.out.2 hh with h | h
          · rw [h] at c8
            clear h
            go_wp2
            go_quiet (fail)
            go_wp2
            go_roundw
            case rel => exact ⟨1, by omega, by go_num, Lib.hid (L6.out.below (ah (Below.refl _ _) _)), Lib.hid (R8.out.below (ah (Below.refl _ _) _) R8.out.lt)⟩
            case measure => simp [intOf]
          · rw [h] at c8
            have n1 : (min (es.f0 + 1) 1000 != 0) = true := by rw [bne_iff_ne]; omega
            clear h
            go_wp2
            go_quiet (fail)
            go_wp2
            go_roundw
            case rel => exact ⟨1, by omega, by go_num, Lib.hid (L6.out.below (ah (Below.refl _ _) _)), Lib.hid (R8.out.below (ah (Below.refl _ _) _) R8.out.lt)⟩
            case measure => simp [intOf]
      · have g5 : 0 ≤ es.f1 := HG.out.o0 1 (by decide)
        have g6 : es.f1 ≤ 1000 := HG.out.o1 1 (by decide)
        have F : Cnt s.nR es.f1 e'.f1 := by have h := K1.out 1 (by decide); rw [← HN.out] at h; exact h
        have c8 : wr.cell? ⟨b8, 25, none⟩ = some (I e'.f1) := R8.out.cell 25
        have hw : IntKind.i64.wrap (es.f1 + 1) = es.f1 + 1 := IntWalk.i64_in _ (by omega)
        have FF := Lib.hid F
        clear F
        cases hh : s.nR
        · rw [FF.out.1 hh] at c8
          go_wp2
          go_quiet (fail)
          go_wp2
          go_roundw
          case rel => exact ⟨2, by omega, by go_num, Lib.hid (L6.out.below (ah (Below.refl _ _) _)), Lib.hid (R8.out.below (ah (Below.refl _ _) _) R8.out.lt)⟩
          case measure => simp [intOf]
        · rcases FF.out.2 hh with h | h
          · rw [h] at c8
            clear h
            go_wp2
            go_quiet (fail)
            go_wp2
            go_roundw
            case rel => exact ⟨2, by omega, by go_num, Lib.hid (L6.out.below (ah (Below.refl _ _) _)), Lib.hid (R8.out.below (ah (Below.refl _ _) _) R8.out.lt)⟩
            case measure => simp [intOf]
          · rw [h] at c8
            have n1 : (min (es.f1 + 1) 1000 != 0) = true := by rw [bne_iff_ne]; omega
            clear h
            go_wp2
            go_quiet (fail)
            go_wp2
            go_roundw
            case rel => exact ⟨2, by omega, by go_num, Lib.hid (L6.out.below (ah (Below.refl _ _) _)), Lib.hid (R8.out.below (ah (Below.refl _ _) _) R8.out.lt)⟩
            case measure => simp [intOf]
      · have g5 : 0 ≤ es.f2 := HG.out.o0 2 (by decide)
        have g6 : es.f2 ≤ 1000 := HG.out.o1 2 (by decide)
        have F : Cnt s.nR es.f2 e'.f2 := by have h := K1.out 2 (by decide); rw [← HN.out] at h; exact h
        have c8 : wr.cell? ⟨b8, 26, none⟩ = some (I e'.f2) := R8.out.cell 26
        have hw : IntKind.i64.wrap (es.f2 + 1) = es.f2 + 1 := IntWalk.i64_in _ (by omega)
        have FF := Lib.hid F
        clear F
        cases hh : s.nR
        · rw [FF.out.1 hh] at c8
          go_wp2
          go_quiet (fail)
          go_wp2
          go_roundw
          case rel => exact ⟨3, by omega, by go_num, Lib.hid (L6.out.below (ah (Below.refl _ _) _)), Lib.hid (R8.out.below (ah (Below.refl _ _) _) R8.out.lt)⟩
          case measure => simp [intOf]
        · rcases FF.out.2 hh with h | h
          · rw [h] at c8
            clear h
            go_wp2
            go_quiet (fail)
            go_wp2
            go_roundw
            case rel => exact ⟨3, by omega, by go_num, Lib.hid (L6.out.below (ah (Below.refl _ _) _)), Lib.hid (R8.out.below (ah (Below.refl _ _) _) R8.out.lt)⟩
            case measure => simp [intOf]
          · rw [h] at c8
            have n1 : (min (es.f2 + 1) 1000 != 0) = true := by rw [bne_iff_ne]; omega
            clear h
            go_wp2
            go_quiet (fail)
            go_wp2
            go_roundw
            case rel => exact ⟨3, by omega, by go_num, Lib.hid (L6.out.below (ah (Below.refl _ _) _)), Lib.hid (R8.out.below (ah (Below.refl _ _) _) R8.out.lt)⟩
            case measure => simp [intOf]
      · have g5 : 0 ≤ es.f3 := HG.out.o0 3 (by decide)
        have g6 : es.f3 ≤ 1000 := HG.out.o1 3 (by decide)
        have F : Cnt s.nR es.f3 e'.f3 := by have h := K1.out 3 (by decide); rw [← HN.out] at h; exact h
        have c8 : wr.cell? ⟨b8, 27, none⟩ = some (I e'.f3) := R8.out.cell 27
        have hw : IntKind.i64.wrap (es.f3 + 1) = es.f3 + 1 := IntWalk.i64_in _ (by omega)
        have FF := Lib.hid F
        clear F
        cases hh : s.nR
        · rw [FF.out.1 hh] at c8
          go_wp2
          go_quiet (fail)
          go_wp2
          go_roundw
          case rel => exact ⟨4, by omega, by go_num, Lib.hid (L6.out.below (ah (Below.refl _ _) _)), Lib.hid (R8.out.below (ah (Below.refl _ _) _) R8.out.lt)⟩
          case measure => simp [intOf]
        · rcases FF.out.2 hh with h | h
          · rw [h] at c8
            clear h
            go_wp2
            go_quiet (fail)
            go_wp2
            go_roundw
            case rel => exact ⟨4, by omega, by go_num, Lib.hid (L6.out.below (ah (Below.refl _ _) _)), Lib.hid (R8.out.below (ah (Below.refl _ _) _) R8.out.lt)⟩
            case measure => simp [intOf]
          · rw [h] at c8
            have n1 : (min (es.f3 + 1) 1000 != 0) = true := by rw [bne_iff_ne]; omega
            clear h
            go_wp2
            go_quiet (fail)
            go_wp2
            go_roundw
            case rel => exact ⟨4, by omega, by go_num, Lib.hid (L6.out.below (ah (Below.refl _ _) _)), Lib.hid (R8.out.below (ah (Below.refl _ _) _) R8.out.lt)⟩
            case measure => simp [intOf]
   · go_wp2
     have HBB := Lib.hid hb
     clear hb EZ c23 c24 HB cE cS g1 g2 g3 g4
     go_loopw [11, 12] (fun i x wl => ∃ k : Nat, k ≤ 4 ∧ i = .int .i64 k ∧ Hid (aW w [(24, c.row), (37, es.R), (46, s.R)] wl) ∧ Hid (Row wl b8 37 e'.R)) (fun i _ _ => 4 - (intOf i).toNat)
     case atStart => exact ⟨0, by omega, rfl, L6, R8⟩
     case round =>
      clear L6 R8
      obtain ⟨k, hk, rfl, L6, R8⟩ := hrel
      have cE : ∀ i, wr.cell? ⟨w.heap.size + 1, i, none⟩ = es.row[i]? := L6.out.r1.cell
      have cS : ∀ i, wr.cell? ⟨w.heap.size + 1 + 1, i, none⟩ = s.row[i]? := L6.out.r2.cell
      obtain rfl | rfl | rfl | rfl | rfl : k = 4 ∨ k = 0 ∨ k = 1 ∨ k = 2 ∨ k = 3 := by omega
      · go_wp2
        go_ret
        exact ⟨rfl, L6.out.be⟩
      · have g5 : 0 ≤ es.f0 := HG.out.o0 0 (by decide)
        have g6 : es.f0 ≤ 1000 := HG.out.o1 0 (by decide)
        have F : Cnt s.hasB es.f0 e'.f0 := by have h := K1.out 0 (by decide); rw [← HN.out] at h; exact h
        have c8 : wr.cell? ⟨b8, 24, none⟩ = some (I e'.f0) := R8.out.cell 24
        have hw : IntKind.i64.wrap (es.f0 + 1) = es.f0 + 1 := IntWalk.i64_in _ (by omega)
        have FF := Lib.hid F
        clear F
        cases hh : s.hasB
        · rw [FF.out.1 hh] at c8
          go_wp2
          go_quiet (fail)
          go_wp2
          go_roundw
          case rel => exact ⟨1, by omega, by go_num, Lib.hid (L6.out.below (ah (Below.refl _ _) _)), Lib.hid (R8.out.below (ah (Below.refl _ _) _) R8.out.lt)⟩
          case measure => simp [intOf]
        · rcases FF.out.2 hh with h | h
          · rw [h] at c8
            clear h
            go_wp2
            go_quiet (fail)
            go_wp2
            go_roundw
            case rel => exact ⟨1, by omega, by go_num, Lib.hid (L6.out.below (ah (Below.refl _ _) _)), Lib.hid (R8.out.below (ah (Below.refl _ _) _) R8.out.lt)⟩
            case measure => simp [intOf]
          · rw [h] at c8
            have n1 : (min (es.f0 + 1) 1000 != 0) = true := by rw [bne_iff_ne]; omega
            clear h
            go_wp2
            go_quiet (fail)
            go_wp2
            go_roundw
            case rel => exact ⟨1, by omega, by go_num, Lib.hid (L6.out.below (ah (Below.refl _ _) _)), Lib.hid (R8.out.below (ah (Below.refl _ _) _) R8.out.lt)⟩
            case measure => simp [intOf]
      · have g5 : 0 ≤ es.f1 := HG.out.o0 1 (by decide)
        have g6 : es.f1 ≤ 1000 := HG.out.o1 1 (by decide)
        have F : Cnt s.nR es.f1 e'.f1 := by have h := K1.out 1 (by decide); rw [← HN.out] at h; exact h
        have c8 : wr.cell? ⟨b8, 25, none⟩ = some (I e'.f1) := R8.out.cell 25
        have hw : IntKind.i64.wrap (es.f1 + 1) = es.f1 + 1 := IntWalk.i64_in _ (by omega)
        have FF := Lib.hid F
        clear F
        cases hh : s.nR
        · rw [FF.out.1 hh] at c8
          go_wp2
          go_quiet (fail)
          go_wp2
          go_roundw
          case rel => exact ⟨2, by omega, by go_num, Lib.hid (L6.out.below (ah (Below.refl _ _) _)), Lib.hid (R8.out.below (ah (Below.refl _ _) _) R8.out.lt)⟩
          case measure => simp [intOf]
        · rcases FF.out.2 hh with h | h
          · rw [h] at c8
            clear h
            go_wp2
            go_quiet (fail)
            go_wp2
            go_roundw
            case rel => exact ⟨2, by omega, by go_num, Lib.hid (L6.out.below (ah (Below.refl _ _) _)), Lib.hid (R8.out.below (ah (Below.refl _ _) _) R8.out.lt)⟩
            case measure => simp [intOf]
          · rw [h] at c8
            have n1 : (min (es.f1 + 1) 1000 != 0) = true := by rw [bne_iff_ne]; omega
            clear h
            go_wp2
            go_quiet (fail)
            go_wp2
            go_roundw
            case rel => exact ⟨2, by omega, by go_num, Lib.hid (L6.out.below (ah (Below.refl _ _) _)), Lib.hid (R8.out.below (ah (Below.refl _ _) _) R8.out.lt)⟩
            case measure => simp [intOf]
      · have g5 : 0 ≤ es.f2 := HG.out.o0 2 (by decide)
        have g6 : es.f2 ≤ 1000 := HG.out.o1 2 (by decide)
        have F : Cnt s.nR es.f2 e'.f2 := by have h := K1.out 2 (by decide); rw [← HN.out] at h; exact h
        have c8 : wr.cell? ⟨b8, 26, none⟩ = some (I e'.f2) := R8.out.cell 26
        have hw : IntKind.i64.wrap (es.f2 + 1) = es.f2 + 1 := IntWalk.i64_in _ (by omega)
        have FF := Lib.hid F
        clear F
        cases hh : s.nR
        · rw [FF.out.1 hh] at c8
          go_wp2
          go_quiet (fail)
          go_wp2
          go_roundw
          case rel => exact ⟨3, by omega, by go_num, Lib.hid (L6.out.below (ah (Below.refl _ _) _)), Lib.hid (R8.out.below (ah (Below.refl _ _) _) R8.out.lt)⟩
          case measure => simp [intOf]
        · rcases FF.out.2 hh with h | h
          · rw [h] at c8
            clear h
            go_wp2
            go_quiet (fail)
            go_wp2
            go_roundw
            case rel => exact ⟨3, by omega, by go_num, Lib.hid (L6.out.below (ah (Below.refl _ _) _)), Lib.hid (R8.out.below (ah (Below.refl _ _) _) R8.out.lt)⟩
            case measure => simp [intOf]
          · rw [h] at c8
            have n1 : (min (es.f2 + 1) 1000 != 0) = true := by rw [bne_iff_ne]; omega
            clear h
            go_wp2
            go_quiet (fail)
            go_wp2
            go_roundw
            case rel => exact ⟨3, by omega, by go_num, Lib.hid (L6.out.below (ah (Below.refl _ _) _)), Lib.hid (R8.out.below (ah (Below.refl _ _) _) R8.out.lt)⟩
            case measure => simp [intOf]
      · have g5 : 0 ≤ es.f3 := HG.out.o0 3 (by decide)
        have g6 : es.f3 ≤ 1000 := HG.out.o1 3 (by decide)
        have F : Cnt s.nR es.f3 e'.f3 := by have h := K1.out 3 (by decide); rw [← HN.out] at h; exact h
        have c8 : wr.cell? ⟨b8, 27, none⟩ = some (I e'.f3) := R8.out.cell 27
        have hw : IntKind.i64.wrap (es.f3 + 1) = es.f3 + 1 := IntWalk.i64_in _ (by omega)
        have FF := Lib.hid F
        clear F
        cases hh : s.nR
        · rw [FF.out.1 hh] at c8
          go_wp2
          go_quiet (fail)
          go_wp2
          go_roundw
          case rel => exact ⟨4, by omega, by go_num, Lib.hid (L6.out.below (ah (Below.refl _ _) _)), Lib.hid (R8.out.below (ah (Below.refl _ _) _) R8.out.lt)⟩
          case measure => simp [intOf]
        · rcases FF.out.2 hh with h | h
          · rw [h] at c8
            clear h
            go_wp2
            go_quiet (fail)
            go_wp2
            go_roundw
            case rel => exact ⟨4, by omega, by go_num, Lib.hid (L6.out.below (ah (Below.refl _ _) _)), Lib.hid (R8.out.below (ah (Below.refl _ _) _) R8.out.lt)⟩
            case measure => simp [intOf]
          · rw [h] at c8
            have n1 : (min (es.f3 + 1) 1000 != 0) = true := by rw [bne_iff_ne]; omega
            clear h
            go_wp2
            go_quiet (fail)
            go_wp2
            go_roundw
            case rel => exact ⟨4, by omega, by go_num, Lib.hid (L6.out.below (ah (Below.refl _ _) _)), Lib.hid (R8.out.below (ah (Below.refl _ _) _) R8.out.lt)⟩
            case measure => simp [intOf]
 · have c23 : w6.cell? ⟨b8, 23, none⟩ = some (I (min (es.dD + 1) 1000)) := by
    rw [hm, if_pos rfl] at v2
    rw [R8.out.cell, ← v2]; rfl
   have K0 := Lib.hid (HV.out.2.1 hm)
   clear v1 v2 HV
   have c24 : w6.cell? ⟨b8, 24, none⟩ = some (I es.f0) := by
    have h : e'.f0 = es.f0 := by have h := K0.out 0; rw [← HN.out] at h; exact h
    rw [R8.out.cell, ← h]; rfl
   have c25 : w6.cell? ⟨b8, 25, none⟩ = some (I es.f1) := by
    have h : e'.f1 = es.f1 := by have h := K0.out 1; rw [← HN.out] at h; exact h
    rw [R8.out.cell, ← h]; rfl
   have FC : w6.cell? ⟨b8, 26, none⟩ = some (I es.f2) := by
    have h : e'.f2 = es.f2 := by have h := K0.out 2; rw [← HN.out] at h; exact h
    rw [R8.out.cell, ← h]; rfl
   have Lm : w6.cell? ⟨b8, 27, none⟩ = some (I es.f3) := by
    have h : e'.f3 = es.f3 := by have h := K0.out 3; rw [← HN.out] at h; exact h
    rw [R8.out.cell, ← h]; rfl
   have EQ := UL es.f0 es.f1 es.f2 es.f3 es.f0 es.f1 es.f2 es.f3 w6
   simp only [beq_self_eq_true, Bool.and_self, Bool.true_and, Bool.and_true] at EQ
   go_wp2
   go_ret
   exact ⟨rfl, L6.out.be⟩
theorem KG (c : Cf) (e : Eg) (s : Sm) (w : World) (hr : ∀ j, j < 3 → BO w (e.t j)) :
 Calls Try.prog 4 #[.agg c.row, .agg e.row, .agg s.row] w fun x w' => x = .returned (.bool true) ∧ Below w.heap.size w w' := by
 cases hm : c.may
 · exact Vb c e s w hr hm
 cases ho : e.ok
 · exact Va c e s w hr hm ho
 · exact U_ c e s w hr hm ho
end Go.Proofs.Ytnijhjbcjeohhaa.EE

namespace Go.Proofs.Ytnijhjbcjeohhaa.EE
open Go.ChangeShapes Go.WideShapes Go.ChangeAt Go.RowKit Go.Deep Go.Proofs.Ytnijhjbcjeohhaa.KK Go.Proofs.af.aO
set_option linter.unusedVariables false
set_option linter.unusedSimpArgs false
theorem z22 : Try.prog.cellsOf 22 = 1 := by kernel_rfl
theorem z24 : Try.prog.cellsOf 24 = 6 := by kernel_rfl
theorem z3 : Try.prog.cellsOf 3 = 1 := by kernel_rfl
theorem z4 : Try.prog.cellsOf 4 = 1 := by kernel_rfl
theorem z28 : Try.prog.cellsOf 28 = 4 := by kernel_rfl
theorem z33 : Try.prog.cellsOf 33 = 6 := by kernel_rfl
theorem z34 : Try.prog.cellsOf 34 = 18 := by kernel_rfl
theorem z35 : Try.prog.cellsOf 35 = 4 := by kernel_rfl
theorem z37 : Try.prog.cellsOf 37 = 29 := by kernel_rfl
theorem z42 : Try.prog.cellsOf 42 = 3 := by kernel_rfl
theorem z46 : Try.prog.cellsOf 46 = 13 := by kernel_rfl
theorem abw {α : Type} {l : List α} (h : l.length = 6) : ∃ c0 c1 c2 c3 c4 c5, l = [c0, c1, c2, c3, c4, c5] := by
 match l, h with
 | [c0, c1, c2, c3, c4, c5], _ => exact ⟨c0, c1, c2, c3, c4, c5, rfl⟩
theorem abx {α : Type} {l : List α} (h : l.length = 4) : ∃ c0 c1 c2 c3, l = [c0, c1, c2, c3] := by
 match l, h with
 | [c0, c1, c2, c3], _ => exact ⟨c0, c1, c2, c3, rfl⟩
theorem Ze {α : Type} {l : List α} (h : l.length = 13) : ∃ c0 c1 c2 c3 c4 c5 c6 c7 c8 c9 c10 c11 c12, l = [c0, c1, c2, c3, c4, c5, c6, c7, c8, c9, c10, c11, c12] := by
 match l, h with
 | [c0, c1, c2, c3, c4, c5, c6, c7, c8, c9, c10, c11, c12], _ => exact ⟨c0, c1, c2, c3, c4, c5, c6, c7, c8, c9, c10, c11, c12, rfl⟩
theorem Zc {α : Type} {l : List α} (h : l.length = 29) : ∃ c0 c1 c2 c3 c4 c5 c6 c7 c8 c9 c10 c11 c12 c13 c14 c15 c16 c17 c18 c19 c20 c21 EZ c23 c24 c25 FC Lm c28, l = [c0, c1, c2, c3, c4, c5, c6, c7, c8, c9, c10, c11, c12, c13, c14, c15, c16, c17, c18, c19, c20, c21, EZ, c23, c24, c25, FC, Lm, c28] := by
 match l, h with
 | [c0, c1, c2, c3, c4, c5, c6, c7, c8, c9, c10, c11, c12, c13, c14, c15, c16, c17, c18, c19, c20, c21, EZ, c23, c24, c25, FC, Lm, c28], _ => exact ⟨c0, c1, c2, c3, c4, c5, c6, c7, c8, c9, c10, c11, c12, c13, c14, c15, c16, c17, c18, c19, c20, c21, EZ, c23, c24, c25, FC, Lm, c28, rfl⟩
theorem Zd {α : Type} {l : List α} (h : l.length = 18) : ∃ c0 c1 c2 c3 c4 c5 c6 c7 c8 c9 c10 c11 c12 c13 c14 c15 c16 c17, l = [c0, c1, c2, c3, c4, c5, c6, c7, c8, c9, c10, c11, c12, c13, c14, c15, c16, c17] := by
 match l, h with
 | [c0, c1, c2, c3, c4, c5, c6, c7, c8, c9, c10, c11, c12, c13, c14, c15, c16, c17], _ => exact ⟨c0, c1, c2, c3, c4, c5, c6, c7, c8, c9, c10, c11, c12, c13, c14, c15, c16, c17, rfl⟩
theorem aby {α : Type} {l : List α} (h : l.length = 3) : ∃ c0 c1 c2, l = [c0, c1, c2] := by
 match l, h with
 | [c0, c1, c2], _ => exact ⟨c0, c1, c2, rfl⟩
section
variable {H : Type} {enc : TypeId × Value → H} {W : World} {base : Nat} {sp : Nat → Bool} {held : Bool} {fuel : Nat} {cs : List Value} {x : DataW H × List MemPlace}
theorem zJ (h : DataW.trod enc Try.prog W base sp held fuel 24 cs = some x) : ∃ c : Cf, cs = c.row.toList := by
 obtain ⟨xs, n, _, _, hl, hlen, hf⟩ := DataW.trod_struct Try.underlying24 h
 rw [z24] at hl
 obtain ⟨c0, c1, c2, c3, c4, c5, rfl⟩ := abw hl
 have hl2 : xs.length = 6 := hlen
 have get : ∀ i (h : i < 6), xs[i]? = some (xs[i]'(by omega)) := fun i h => List.getElem?_eq_getElem (by omega)
 obtain ⟨v0, e0, _, _⟩ := DataW.trod_int Try.underlying22 ((CB hf 0 22 0 1 rfl z22).trans (get 0 (by omega)))
 obtain ⟨v1, e1, _, _⟩ := DataW.trod_int Try.underlying22 ((CB hf 1 22 1 1 rfl z22).trans (get 1 (by omega)))
 obtain ⟨v2, e2, _, _⟩ := DataW.trod_int Try.underlying22 ((CB hf 2 22 2 1 rfl z22).trans (get 2 (by omega)))
 obtain ⟨v3, e3, _, _⟩ := DataW.trod_int Try.underlying22 ((CB hf 3 22 3 1 rfl z22).trans (get 3 (by omega)))
 obtain ⟨v4, e4, _, _⟩ := DataW.trod_int Try.underlying22 ((CB hf 4 22 4 1 rfl z22).trans (get 4 (by omega)))
 obtain ⟨v5, e5, _, _⟩ := DataW.trod_int Try.underlying22 ((CB hf 5 22 5 1 rfl z22).trans (get 5 (by omega)))
 simp at e0 e1 e2 e3 e4 e5
 subst e0 e1 e2 e3 e4 e5
 exact ⟨⟨v0, v1, v2, v3, v4, v5⟩, rfl⟩
theorem open_ints {n : Nat} {t e : TypeId} (ht : Try.prog.underlying t = some (.array n e)) (he : Try.prog.underlying e = some (.int .i64)) (hc : Try.prog.cellsOf e = 1) (hn : Try.prog.cellsOf t = n) (h : DataW.trod enc Try.prog W base sp held fuel t cs = some x) :
 cs.length = n ∧ ∀ i, i < n → ∃ q : Int, cs[i]? = some (I q) := by
 obtain ⟨xs, m, _, _, hl, hlen, hf⟩ := DataW.trod_array ht h
 rw [hn] at hl
 refine ⟨hl, fun i hi => ?_⟩
 have h1 := (hf i hi).trans (List.getElem?_eq_getElem (by omega))
 rw [hc, Nat.mul_one] at h1
 obtain ⟨q, e1, _, _⟩ := DataW.trod_int he h1
 refine ⟨q, ?_⟩
 have h2 : (List.take 1 (List.drop i cs))[0]? = some (I q) := by rw [e1]; rfl
 simpa using h2
theorem Dv (h : DataW.trod enc Try.prog W base sp held fuel 42 cs = some x) : ∃ a b c : Int, cs = [I a, I b, I c] := by
 obtain ⟨hl, hk⟩ := open_ints Try.underlying42 Try.underlying22 z22 z42 h
 obtain ⟨c0, c1, c2, rfl⟩ := aby hl
 obtain ⟨a, ha⟩ := hk 0 (by decide)
 obtain ⟨b, hb⟩ := hk 1 (by decide)
 obtain ⟨c, hc⟩ := hk 2 (by decide)
 simp at ha hb hc
 subst ha hb hc
 exact ⟨a, b, c, rfl⟩
theorem F7 {t e : TypeId} (ht : Try.prog.underlying t = some (.array 4 e)) (he : Try.prog.underlying e = some (.int .i64)) (hc : Try.prog.cellsOf e = 1) (hn : Try.prog.cellsOf t = 4) (h : DataW.trod enc Try.prog W base sp held fuel t cs = some x) : ∃ a b c d : Int, cs = [I a, I b, I c, I d] := by
 obtain ⟨hl, hk⟩ := open_ints ht he hc hn h
 obtain ⟨c0, c1, c2, c3, rfl⟩ := abx hl
 obtain ⟨a, ha⟩ := hk 0 (by decide)
 obtain ⟨b, hb⟩ := hk 1 (by decide)
 obtain ⟨c, hc⟩ := hk 2 (by decide)
 obtain ⟨d, hd⟩ := hk 3 (by decide)
 simp at ha hb hc hd
 subst ha hb hc hd
 exact ⟨a, b, c, d, rfl⟩
theorem JL (h : DataW.trod enc Try.prog W base sp held fuel 46 cs = some x) : ∃ s : Sm, cs = s.row.toList := by
 obtain ⟨xs, n, _, _, hl, hlen, hf⟩ := DataW.trod_struct Try.underlying46 h
 rw [z46] at hl
 obtain ⟨c0, c1, c2, c3, c4, c5, c6, c7, c8, c9, c10, c11, c12, rfl⟩ := Ze hl
 have hl2 : xs.length = 7 := hlen
 have get : ∀ i (h : i < 7), xs[i]? = some (xs[i]'(by omega)) := fun i h => List.getElem?_eq_getElem (by omega)
 obtain ⟨b0, e0, _⟩ := DataW.trod_bool Try.underlying4 ((CB hf 0 4 0 1 rfl z4).trans (get 0 (by omega)))
 obtain ⟨g0, g1, g2, e1⟩ := Dv ((CB hf 1 42 1 3 rfl z42).trans (get 1 (by omega)))
 obtain ⟨a0, a1, a2, e2⟩ := Dv ((CB hf 2 42 4 3 rfl z42).trans (get 2 (by omega)))
 obtain ⟨b1, e3, _⟩ := DataW.trod_bool Try.underlying4 ((CB hf 3 4 7 1 rfl z4).trans (get 3 (by omega)))
 obtain ⟨q, e4, _, _⟩ := DataW.trod_int Try.underlying22 ((CB hf 4 22 8 1 rfl z22).trans (get 4 (by omega)))
 obtain ⟨b2, e5, _⟩ := DataW.trod_bool Try.underlying4 ((CB hf 5 4 9 1 rfl z4).trans (get 5 (by omega)))
 obtain ⟨n0, n1, n2, e6⟩ := Dv ((CB hf 6 42 10 3 rfl z42).trans (get 6 (by omega)))
 simp at e0 e1 e2 e3 e4 e5 e6
 obtain ⟨rfl, rfl, rfl⟩ := e1
 obtain ⟨rfl, rfl, rfl⟩ := e2
 obtain ⟨rfl, rfl, rfl⟩ := e6
 subst e0 e3 e4 e5
 exact ⟨⟨b0, g0, g1, g2, a0, a1, a2, b1, q, b2, n0, n1, n2⟩, rfl⟩
theorem Hy (h : DataW.trod enc Try.prog W base sp held fuel 33 cs = some x) : ∃ t : Tg, cs = t.row.toList ∧ BO W t := by
 obtain ⟨r, c, A, cp, l, r', c', A', cp', l', rfl, ⟨h1, h2⟩, ⟨h3, h4⟩⟩ := Nl h
 exact ⟨⟨r, c, A, cp, l, r', c', A', cp', l'⟩, rfl, h2, h1, h4, h3⟩
theorem QU (h : DataW.trod enc Try.prog W base sp held fuel 34 cs = some x) : ∃ t0 t1 t2 : Tg, cs = t0.row.toList ++ (t1.row.toList ++ t2.row.toList) ∧ BO W t0 ∧ BO W t1 ∧ BO W t2 := by
 obtain ⟨xs, m, _, _, hl, hlen, hf⟩ := DataW.trod_array Try.underlying34 h
 rw [z34] at hl
 have h0 := (hf 0 (by decide)).trans (List.getElem?_eq_getElem (by omega))
 have h1 := (hf 1 (by decide)).trans (List.getElem?_eq_getElem (by omega))
 have h2 := (hf 2 (by decide)).trans (List.getElem?_eq_getElem (by omega))
 rw [z33] at h0 h1 h2
 obtain ⟨t0, e0, r0⟩ := Hy h0
 obtain ⟨t1, e1, r1⟩ := Hy h1
 obtain ⟨t2, e2, r2⟩ := Hy h2
 refine ⟨t0, t1, t2, ?_, r0, r1, r2⟩
 rw [← e0, ← e1, ← e2]
 obtain ⟨c0, c1, c2, c3, c4, c5, c6, c7, c8, c9, c10, c11, c12, c13, c14, c15, c16, c17, rfl⟩ := Zd hl
 rfl
theorem JO (h : DataW.trod enc Try.prog W base sp held fuel 37 cs = some x) : ∃ e : Eg, cs = e.row.toList ∧ ∀ j, j < 3 → BO W (e.t j) := by
 obtain ⟨xs, n, _, _, hl, hlen, hf⟩ := DataW.trod_struct Try.underlying37 h
 rw [z37] at hl
 have hl2 : xs.length = 6 := hlen
 have get : ∀ i (h : i < 6), xs[i]? = some (xs[i]'(by omega)) := fun i h => List.getElem?_eq_getElem (by omega)
 obtain ⟨q0, q1, q2, q3, e0⟩ := F7 Try.underlying28 Try.underlying22 z22 z28 ((CB hf 0 28 0 4 rfl z28).trans (get 0 (by omega)))
 obtain ⟨t0, t1, t2, e1, r0, r1, r2⟩ := QU ((CB hf 1 34 4 18 rfl z34).trans (get 1 (by omega)))
 obtain ⟨st, e2, _, _⟩ := DataW.trod_int Try.underlying3 ((CB hf 2 3 22 1 rfl z3).trans (get 2 (by omega)))
 obtain ⟨co, e3, _, _⟩ := DataW.trod_int Try.underlying3 ((CB hf 3 3 23 1 rfl z3).trans (get 3 (by omega)))
 obtain ⟨f0, f1, f2, f3, e4⟩ := F7 Try.underlying35 Try.underlying3 z3 z35 ((CB hf 4 35 24 4 rfl z35).trans (get 4 (by omega)))
 obtain ⟨sat, e5, _⟩ := DataW.trod_bool Try.underlying4 ((CB hf 5 4 28 1 rfl z4).trans (get 5 (by omega)))
 refine ⟨⟨q0, q1, q2, q3, t0, t1, t2, st, co, f0, f1, f2, f3, sat⟩, ?_, fun j hj => ?_⟩
 · have : cs = (cs.drop 0).take 4 ++ ((cs.drop 4).take 18 ++ ((cs.drop 22).take 1 ++ ((cs.drop 23).take 1 ++ ((cs.drop 24).take 4 ++ (cs.drop 28).take 1)))) := by
    obtain ⟨c0, c1, c2, c3, c4, c5, c6, c7, c8, c9, c10, c11, c12, c13, c14, c15, c16, c17, c18, c19, c20, c21, EZ, c23, c24, c25, FC, Lm, c28, rfl⟩ := Zc hl
    rfl
   rw [this, e0, e1, e2, e3, e4, e5]
   rfl
 · obtain rfl | rfl | rfl : j = 0 ∨ j = 1 ∨ j = 2 := by omega
   · exact r0
   · exact r1
   · exact r2
end
end Go.Proofs.Ytnijhjbcjeohhaa.EE

namespace Go.Proofs.Ytnijhjbcjeohhaa.PR
open Go.RowKit Go.Proofs.Ytnijhjbcjeohhaa.PQ Go.Proofs.af.aO Go.Proofs.af.aV Go.Proofs.af.aX Go.Proofs.Ytnijhjbcjeohhaa.KK
set_option linter.unusedVariables false
set_option linter.unusedSimpArgs false
theorem Ub {q : Int} (h0 : -70368744177664 ≤ q) (h1 : q ≤ 70368744177663) : ig 16777216 q = (q, false) := by
 have e1 : cl 16777216 = 16777216 := by decide
 have e2 : od 16777216 = false := by decide
 have e3 : sz (16777216 : Int) = 16777216 := by decide
 unfold ig
 rw [jX h0 h1, qQ h0 h1, e1, e2, e3]
 have hs0 := LU q
 have hs1 : sz q ≤ 70368744177664 := by unfold sz; split <;> omega
 have hx : lw (16777216 * sz q) = sz q := by
  unfold lw
  dsimp only
  rw [if_neg (by omega), if_neg (by omega)]
  omega
 have hh : 16777216 * sz q / 309485009821345068724781056 = 0 := by omega
 rw [hx, hh]
 have hn : decide ((16777216 : Int) < 0) = false := by decide
 rw [hn]
 unfold flag sg
 by_cases hq : q < 0
 · have es : sz q = -q := by unfold sz; rw [if_pos hq]
   rw [es, decide_eq_true hq]
   have e : -q ≤ 70368744177664 := by omega
   simp
   rcases Int.lt_or_le 70368744177663 (-q) with h | h
   · have : q = -70368744177664 := by omega
     subst this
     decide
   · rw [if_neg (by omega)]
     simp [jX h0 h1, qQ h0 h1]
 · have es : sz q = q := by unfold sz; rw [if_neg hq]
   rw [es, decide_eq_false hq]
   simp
   rw [if_neg (by omega)]
   simp [jX h0 h1, qQ h0 h1]
theorem QX (a b : Int) : ig a b = ig b a := by
 unfold ig
 rw [Bool.or_comm (od a), Int.mul_comm (sz (cl a))]
 congr 2
 cases decide (cl a < 0) <;> cases decide (cl b < 0) <;> rfl
theorem Uc {q : Int} (h0 : -70368744177664 ≤ q) (h1 : q ≤ 70368744177663) : ig 0 q = (0, false) := by
 have e1 : cl 0 = 0 := by decide
 have e2 : od 0 = false := by decide
 have e3 : sz (0 : Int) = 0 := by decide
 unfold ig
 rw [jX h0 h1, qQ h0 h1, e1, e2, e3, Int.zero_mul]
 cases (decide ((0 : Int) < 0) != decide (q < 0)) <;> decide
abbrev qJ (a : Int) : Prop := -70368744177664 ≤ a ∧ a ≤ 70368744177663
def ml (a b : Int) : Int := (ig a b).1
def ad (a b : Int) : Int := (gB a b).1
theorem yP (a b : Int) : qJ (ml a b) := EE.Pq a b
theorem Vr (a b : Int) : qJ (ad a b) := ⟨uC _, uD _⟩
theorem wR (a b : Int) : ml a b = ml b a := by unfold ml; rw [QX]
theorem rO {q : Int} (h : qJ q) : ml 16777216 q = q := by unfold ml; rw [Ub h.1 h.2]
theorem oZ {q : Int} (h : qJ q) : ml q 16777216 = q := by rw [wR]; exact rO h
theorem jS {q : Int} (h : qJ q) : ml 0 q = 0 := by unfold ml; rw [Uc h.1 h.2]
theorem gp {q : Int} (h : qJ q) : ml q 0 = 0 := by rw [wR]; exact jS h
theorem Nv (X : Int) : 0 ≤ lw X := by
 unfold lw
 dsimp only
 repeat' split
 all_goals omega
theorem Tu (h l : Int) (hl : 0 ≤ l) : 0 ≤ (sg h l false).1 := by
 unfold sg cl
 simp only [Bool.false_eq_true, if_false]
 repeat' split
 all_goals (first | omega | (simp only []; omega) | (dsimp only; repeat' split; all_goals omega))
theorem Y2 (h l : Int) (hl : 0 ≤ l) : (sg h l true).1 ≤ 0 := by
 unfold sg cl
 simp only [if_true]
 repeat' split
 all_goals (first | omega | (simp only []; omega) | (dsimp only; repeat' split; all_goals omega))
theorem Vf {a : Int} (h : 0 ≤ a) : decide (cl a < 0) = false := by
 have : 0 ≤ cl a := by unfold cl; repeat' split <;> omega
 simp; omega
theorem Ve {a : Int} (h : a < 0) : decide (cl a < 0) = true := by
 have : cl a < 0 := by unfold cl; repeat' split <;> omega
 simp; omega
theorem F_ {a b : Int} (ha : 0 ≤ a) (hb : 0 ≤ b) : 0 ≤ ml a b := by
 unfold ml ig flag
 rw [Vf ha, Vf hb]
 exact Tu _ _ (Nv _)
theorem Px {a b : Int} (ha : 0 ≤ a) (hA : a ≤ 70368744177663) (hb : b ≤ 0) : ml a b ≤ 0 := by
 rcases Int.lt_or_le b 0 with h | h
 · unfold ml ig flag
   rw [Vf ha, Ve h]
   exact Y2 _ _ (Nv _)
 · obtain rfl : b = 0 := by omega
   rw [gp ⟨by omega, hA⟩]
   omega
theorem Py {a b : Int} (ha : a < 0) (hb : b ≤ 0) (hA : -70368744177664 ≤ a) : 0 ≤ ml a b := by
 rcases Int.lt_or_le b 0 with h | h
 · unfold ml ig flag
   rw [Ve ha, Ve h]
   exact Tu _ _ (Nv _)
 · obtain rfl : b = 0 := by omega
   rw [gp ⟨hA, by omega⟩]
   omega
theorem EJ (a b : Int) (ha : qJ a) (hb : qJ b) : ad a b = cl (a + b) := by
 unfold ad gB
 rw [jX ha.1 ha.2, jX hb.1 hb.2]
theorem Qa {a b : Int} (ha : qJ a) (hb : qJ b) (h : 0 ≤ a) (k : 0 ≤ b) : 0 ≤ ad a b := by rw [EJ a b ha hb]; unfold cl; repeat' split <;> omega
theorem YD {a b : Int} (ha : qJ a) (hb : qJ b) (h : a ≤ 0) (k : b ≤ 0) : ad a b ≤ 0 := by rw [EJ a b ha hb]; unfold cl; repeat' split <;> omega
theorem YE {a b : Int} (ha : qJ a) (hb : qJ b) (k : 0 ≤ b) : a ≤ ad a b := by
 have := ha.1
 have := ha.2
 rw [EJ a b ha hb]; unfold cl; repeat' split <;> omega
theorem P_ {a : Int} (ha : qJ a) : ad a 0 = a := by
 rw [EJ a 0 ha ⟨by omega, by omega⟩, Int.add_zero]; exact jX ha.1 ha.2
theorem wE {a : Int} (ha : qJ a) : ad 0 a = a := by
 rw [EJ 0 a ⟨by omega, by omega⟩ ha, Int.zero_add]; exact jX ha.1 ha.2
def s3 (x y z : Int) : Int := ad (ad (ad 0 x) y) z
theorem BJ (x y z : Int) : qJ (s3 x y z) := Vr _ _
theorem FU {x y z : Int} (hx : qJ x) (hy : qJ y) (hz : qJ z) (h : 0 ≤ x) (k : 0 ≤ y) (m : 0 ≤ z) : 0 ≤ s3 x y z := by
 unfold s3; rw [wE hx]; exact Qa (Vr _ _) hz (Qa hx hy h k) m
theorem Pe {x y z : Int} (hx : qJ x) (hy : qJ y) (hz : qJ z) (h : x ≤ 0) (k : y ≤ 0) (m : z ≤ 0) : s3 x y z ≤ 0 := by
 unfold s3; rw [wE hx]; exact YD (Vr _ _) hz (YD hx hy h k) m
theorem Yl {x y z : Int} (hx : qJ x) (hy : qJ y) (hz : qJ z) (k : 0 ≤ y) (m : 0 ≤ z) : x ≤ s3 x y z := by
 unfold s3; rw [wE hx]; exact Int.le_trans (YE hx hy k) (YE (Vr _ _) hz m)
theorem b0 : qJ 0 := ⟨by omega, by omega⟩
theorem Me (z : Int) (hz : qJ z) : s3 0 0 z = z := by
 unfold s3; rw [wE b0, wE b0, wE hz]
def g (l : List Int) (j : Nat) : Int := l.getD j 0
theorem ab6 (c2 : Nat) (l m : List Int) (i k : Nat) : (zT 3 c2 l m i k 3).1 = s3 (ml (g l (i * 3 + 0)) (g m (0 * c2 + k))) (ml (g l (i * 3 + 1)) (g m (1 * c2 + k))) (ml (g l (i * 3 + 2)) (g m (2 * c2 + k))) := by
 simp only [zT, s3, ad, ml, g]
theorem Pv (l m : List Int) (i k : Nat) (hi : i < 3) (hk : k < 3) : g (mulL 3 3 3 l m) (i * 3 + k) = s3 (ml (g l (i * 3)) (g m k)) (ml (g l (i * 3 + 1)) (g m (3 + k))) (ml (g l (i * 3 + 2)) (g m (6 + k))) := by
 have h : mulL 3 3 3 l m = fl (3 * 3) (fun j => (zT 3 3 l m (j / 3) (j % 3) 3).1) := yA 3
 have h2 : g (mulL 3 3 3 l m) (i * 3 + k) = (zT 3 3 l m ((i * 3 + k) / 3) ((i * 3 + k) % 3) 3).1 := by unfold g; rw [h, kT (by omega)]
 rw [h2, show (i * 3 + k) / 3 = i by omega, show (i * 3 + k) % 3 = k by omega, ab6]
 rw [show 0 * 3 + k = k by omega, show 1 * 3 + k = 3 + k by omega, show 2 * 3 + k = 6 + k by omega, Nat.add_zero]
theorem Xx (l m : List Int) (j : Nat) (hj : j < 9) : g (gV gB 3 3 l m) j = ad (g l j) (g m j) := by
 have h : gV gB 3 3 l m = fl (3 * 3) (fun j => (gB (l.getD (j / 3 * 3 + j % 3) 0) (m.getD (j / 3 * 3 + j % 3) 0)).1) := yA 3
 have h2 : g (gV gB 3 3 l m) j = (gB (l.getD (j / 3 * 3 + j % 3) 0) (m.getD (j / 3 * 3 + j % 3) 0)).1 := by unfold g; rw [h, kT (by omega)]
 rw [h2, show j / 3 * 3 + j % 3 = j by omega]
 rfl
theorem V9 (l m : List Int) : mulL 3 3 1 l m = [s3 (ml (g l 0) (g m 0)) (ml (g l 1) (g m 1)) (ml (g l 2) (g m 2)), s3 (ml (g l 3) (g m 0)) (ml (g l 4) (g m 1)) (ml (g l 5) (g m 2)), s3 (ml (g l 6) (g m 0)) (ml (g l 7) (g m 1)) (ml (g l 8) (g m 2))] := by
 have r3 : List.range 3 = [0, 1, 2] := rfl
 have r1 : List.range 1 = [0] := rfl
 unfold mulL upto
 simp only [r3, r1, List.flatMap_cons, List.flatMap_nil, List.map_cons, List.map_nil, List.append_nil, List.cons_append, List.nil_append, ab6]
structure SP (p : List Int) : Prop where
 len : p.length = 9
 b : ∀ j, qJ (g p j)
 s0 : 0 ≤ g p 0
 s1 : 0 ≤ g p 1
 s2 : g p 2 ≤ 0
 s3 : 0 ≤ g p 3
 s4 : 0 ≤ g p 4
 s5 : g p 5 ≤ 0
 s6 : g p 6 ≤ 0
 s7 : g p 7 ≤ 0
 s8 : 0 ≤ g p 8
theorem g_b {N : Nat} {Q : Nat → Int} (h : ∀ m, m < N → qJ (Q m)) (j : Nat) : qJ (g (fl N Q) j) := by
 unfold g
 rcases Nat.lt_or_ge j N with h1 | h1
 · rw [kT h1]; exact h j h1
 · rw [List.getD_eq_getElem?_getD, List.getElem?_eq_none (by rw [iI]; exact h1)]; exact b0
theorem Ie {a : Int} (h : 0 ≤ a) : 0 ≤ hv a := by unfold hv; repeat' split <;> omega
theorem Ic {a : Int} (h : a ≤ 0) : hv a ≤ 0 := by unfold hv; repeat' split <;> omega
theorem Zl (a : Int) : hv (a + a) = a := by unfold hv; repeat' split <;> omega
def z_ (dt : Int) : List Int := [16777216, dt, 0, 0, 16777216, -dt, 0, 0, 16777216]
theorem LV (dt : Int) (p : List Int) (S : SP p) (h0 : 0 < dt) (h1 : dt ≤ 17179869184) : SP (mulL 3 3 3 (mulL 3 3 3 (z_ dt) p) (yB 3 3 (z_ dt))) ∧ g p 0 ≤ g (mulL 3 3 3 (mulL 3 3 3 (z_ dt) p) (yB 3 3 (z_ dt))) 0 := by
 have d : qJ dt := ⟨by omega, by omega⟩
 have e : qJ (-dt) := ⟨by omega, by omega⟩
 have z := b0
 generalize hA : mulL 3 3 3 (z_ dt) p = A
 have a : ∀ i k, i < 3 → k < 3 → g A (i * 3 + k) = s3 (ml (g (z_ dt) (i * 3)) (g p k)) (ml (g (z_ dt) (i * 3 + 1)) (g p (3 + k))) (ml (g (z_ dt) (i * 3 + 2)) (g p (6 + k))) := fun i k hi hk => by rw [← hA]; exact Pv _ _ i k hi hk
 have b := S.b
 have a0 : g A 0 = s3 (g p 0) (ml dt (g p 3)) 0 := (a 0 0 (by decide) (by decide)).trans (by show s3 (ml 16777216 (g p 0)) (ml dt (g p 3)) (ml 0 (g p 6)) = _; rw [rO (b _), jS (b _)])
 have a1 : g A 1 = s3 (g p 1) (ml dt (g p 4)) 0 := (a 0 1 (by decide) (by decide)).trans (by show s3 (ml 16777216 (g p 1)) (ml dt (g p 4)) (ml 0 (g p 7)) = _; rw [rO (b _), jS (b _)])
 have a2 : g A 2 = s3 (g p 2) (ml dt (g p 5)) 0 := (a 0 2 (by decide) (by decide)).trans (by show s3 (ml 16777216 (g p 2)) (ml dt (g p 5)) (ml 0 (g p 8)) = _; rw [rO (b _), jS (b _)])
 have a3 : g A 3 = s3 0 (g p 3) (ml (-dt) (g p 6)) := (a 1 0 (by decide) (by decide)).trans (by show s3 (ml 0 (g p 0)) (ml 16777216 (g p 3)) (ml (-dt) (g p 6)) = _; rw [rO (b _), jS (b _)])
 have a4 : g A 4 = s3 0 (g p 4) (ml (-dt) (g p 7)) := (a 1 1 (by decide) (by decide)).trans (by show s3 (ml 0 (g p 1)) (ml 16777216 (g p 4)) (ml (-dt) (g p 7)) = _; rw [rO (b _), jS (b _)])
 have a5 : g A 5 = s3 0 (g p 5) (ml (-dt) (g p 8)) := (a 1 2 (by decide) (by decide)).trans (by show s3 (ml 0 (g p 2)) (ml 16777216 (g p 5)) (ml (-dt) (g p 8)) = _; rw [rO (b _), jS (b _)])
 have a6 : g A 6 = g p 6 := (a 2 0 (by decide) (by decide)).trans (by show s3 (ml 0 (g p 0)) (ml 0 (g p 3)) (ml 16777216 (g p 6)) = _; rw [rO (b _), jS (b _), jS (b _)]; exact Me _ (b _))
 have a7 : g A 7 = g p 7 := (a 2 1 (by decide) (by decide)).trans (by show s3 (ml 0 (g p 1)) (ml 0 (g p 4)) (ml 16777216 (g p 7)) = _; rw [rO (b _), jS (b _), jS (b _)]; exact Me _ (b _))
 have a8 : g A 8 = g p 8 := (a 2 2 (by decide) (by decide)).trans (by show s3 (ml 0 (g p 2)) (ml 0 (g p 5)) (ml 16777216 (g p 8)) = _; rw [rO (b _), jS (b _), jS (b _)]; exact Me _ (b _))
 clear a hA
 have q0 : g p 0 ≤ g A 0 := by rw [a0]; exact Yl (b _) (yP _ _) z (F_ (by omega) S.s3) (by omega)
 have q1 : 0 ≤ g A 1 := by rw [a1]; exact FU (b _) (yP _ _) z S.s1 (F_ (by omega) S.s4) (by omega)
 have q2 : g A 2 ≤ 0 := by rw [a2]; exact Pe (b _) (yP _ _) z S.s2 (Px (by omega) d.2 S.s5) (by omega)
 have q3 : 0 ≤ g A 3 := by rw [a3]; exact FU z (b _) (yP _ _) (by omega) S.s3 (Py (by omega) S.s6 e.1)
 have q4 : 0 ≤ g A 4 := by rw [a4]; exact FU z (b _) (yP _ _) (by omega) S.s4 (Py (by omega) S.s7 e.1)
 have q5 : g A 5 ≤ 0 := by rw [a5]; exact Pe z (b _) (yP _ _) (by omega) S.s5 (by rw [wR]; exact Px S.s8 (b _).2 (by omega))
 have q6 := S.s6
 have q7 := S.s7
 have q8 := S.s8
 rw [← a6] at q6
 rw [← a7] at q7
 rw [← a8] at q8
 have c0 : qJ (g A 0) := by rw [a0]; exact BJ _ _ _
 have c1 : qJ (g A 1) := by rw [a1]; exact BJ _ _ _
 have c2 : qJ (g A 2) := by rw [a2]; exact BJ _ _ _
 have c3 : qJ (g A 3) := by rw [a3]; exact BJ _ _ _
 have c4 : qJ (g A 4) := by rw [a4]; exact BJ _ _ _
 have c5 : qJ (g A 5) := by rw [a5]; exact BJ _ _ _
 have c6 : qJ (g A 6) := by rw [a6]; exact b _
 have c7 : qJ (g A 7) := by rw [a7]; exact b _
 have c8 : qJ (g A 8) := by rw [a8]; exact b _
 clear a0 a1 a2 a3 a4 a5 a6 a7 a8
 have hT : yB 3 3 (z_ dt) = [16777216, 0, 0, dt, 16777216, 0, 0, -dt, 16777216] := rfl
 rw [hT]
 generalize hB : mulL 3 3 3 A [16777216, 0, 0, dt, 16777216, 0, 0, -dt, 16777216] = B
 have t : ∀ i k, i < 3 → k < 3 → g B (i * 3 + k) = s3 (ml (g A (i * 3)) (g [16777216, 0, 0, dt, 16777216, 0, 0, -dt, 16777216] k)) (ml (g A (i * 3 + 1)) (g [16777216, 0, 0, dt, 16777216, 0, 0, -dt, 16777216] (3 + k))) (ml (g A (i * 3 + 2)) (g [16777216, 0, 0, dt, 16777216, 0, 0, -dt, 16777216] (6 + k))) := fun i k hi hk => by rw [← hB]; exact Pv _ _ i k hi hk
 have e0 : g B 0 = s3 (g A 0) (ml (g A 1) dt) 0 := (t 0 0 (by decide) (by decide)).trans (by show s3 (ml (g A 0) 16777216) (ml (g A 1) dt) (ml (g A 2) 0) = _; rw [oZ c0, gp c2])
 have e1 : g B 1 = s3 0 (g A 1) (ml (g A 2) (-dt)) := (t 0 1 (by decide) (by decide)).trans (by show s3 (ml (g A 0) 0) (ml (g A 1) 16777216) (ml (g A 2) (-dt)) = _; rw [oZ c1, gp c0])
 have e2 : g B 2 = g A 2 := (t 0 2 (by decide) (by decide)).trans (by show s3 (ml (g A 0) 0) (ml (g A 1) 0) (ml (g A 2) 16777216) = _; rw [oZ c2, gp c0, gp c1]; exact Me _ c2)
 have e3 : g B 3 = s3 (g A 3) (ml (g A 4) dt) 0 := (t 1 0 (by decide) (by decide)).trans (by show s3 (ml (g A 3) 16777216) (ml (g A 4) dt) (ml (g A 5) 0) = _; rw [oZ c3, gp c5])
 have e4 : g B 4 = s3 0 (g A 4) (ml (g A 5) (-dt)) := (t 1 1 (by decide) (by decide)).trans (by show s3 (ml (g A 3) 0) (ml (g A 4) 16777216) (ml (g A 5) (-dt)) = _; rw [oZ c4, gp c3])
 have e5 : g B 5 = g A 5 := (t 1 2 (by decide) (by decide)).trans (by show s3 (ml (g A 3) 0) (ml (g A 4) 0) (ml (g A 5) 16777216) = _; rw [oZ c5, gp c3, gp c4]; exact Me _ c5)
 have e6 : g B 6 = s3 (g A 6) (ml (g A 7) dt) 0 := (t 2 0 (by decide) (by decide)).trans (by show s3 (ml (g A 6) 16777216) (ml (g A 7) dt) (ml (g A 8) 0) = _; rw [oZ c6, gp c8])
 have e7 : g B 7 = s3 0 (g A 7) (ml (g A 8) (-dt)) := (t 2 1 (by decide) (by decide)).trans (by show s3 (ml (g A 6) 0) (ml (g A 7) 16777216) (ml (g A 8) (-dt)) = _; rw [oZ c7, gp c6])
 have e8 : g B 8 = g A 8 := (t 2 2 (by decide) (by decide)).trans (by show s3 (ml (g A 6) 0) (ml (g A 7) 0) (ml (g A 8) 16777216) = _; rw [oZ c8, gp c6, gp c7]; exact Me _ c8)
 have lB : B.length = 9 := by rw [← hB]; exact jF 3 3 3 _ _
 clear t hB
 have r0 : g A 0 ≤ g B 0 := by rw [e0]; exact Yl c0 (yP _ _) z (F_ q1 (by omega)) (by omega)
 refine ⟨⟨lB, fun j => ?_, ?_, ?_, ?_, ?_, ?_, ?_, ?_, ?_, ?_⟩, Int.le_trans q0 r0⟩
 · rcases Nat.lt_or_ge j 9 with h | h
   · obtain rfl | rfl | rfl | rfl | rfl | rfl | rfl | rfl | rfl : j = 0 ∨ j = 1 ∨ j = 2 ∨ j = 3 ∨ j = 4 ∨ j = 5 ∨ j = 6 ∨ j = 7 ∨ j = 8 := by omega
     · rw [e0]; exact BJ _ _ _
     · rw [e1]; exact BJ _ _ _
     · rw [e2]; exact c2
     · rw [e3]; exact BJ _ _ _
     · rw [e4]; exact BJ _ _ _
     · rw [e5]; exact c5
     · rw [e6]; exact BJ _ _ _
     · rw [e7]; exact BJ _ _ _
     · rw [e8]; exact c8
   · unfold g
     rw [List.getD_eq_getElem?_getD, List.getElem?_eq_none (by omega)]
     exact b0
 · have := S.s0; omega
 · rw [e1]; exact FU z c1 (yP _ _) (by omega) q1 (by rw [wR]; exact Py (by omega) q2 e.1)
 · rw [e2]; exact q2
 · rw [e3]; exact FU c3 (yP _ _) z q3 (F_ q4 (by omega)) (by omega)
 · rw [e4]; exact FU z c4 (yP _ _) (by omega) q4 (by rw [wR]; exact Py (by omega) q5 e.1)
 · rw [e5]; exact q5
 · rw [e6]; exact Pe c6 (yP _ _) z q6 (by rw [wR]; exact Px (by omega) d.2 q7) (by omega)
 · rw [e7]; exact Pe z c7 (yP _ _) (by omega) q7 (Px q8 c8.2 (by omega))
 · rw [e8]; exact q8
theorem Vx {p : List Int} (S : SP p) : Uj p := fun j => S.b j
theorem LY (qa qb : Int) (p : List Int) (S : SP p) (ha : qJ qa) (hb : qJ qb) (h0 : 0 ≤ qa) (h1 : 0 ≤ qb) : SP (gV gB 3 3 p (fJ [0, qa, qb])) ∧ g (gV gB 3 3 p (fJ [0, qa, qb])) 0 = g p 0 := by
 have hD : fJ [0, qa, qb] = [0, 0, 0, 0, qa, 0, 0, 0, qb] := rfl
 rw [hD]
 generalize hM : gV gB 3 3 p [0, 0, 0, 0, qa, 0, 0, 0, qb] = M
 have t : ∀ j, j < 9 → g M j = ad (g p j) (g [0, 0, 0, 0, qa, 0, 0, 0, qb] j) := fun j hj => by rw [← hM]; exact Xx _ _ j hj
 have b := S.b
 have k : ∀ j, j < 9 → g [0, 0, 0, 0, qa, 0, 0, 0, qb] j = 0 → g M j = g p j := fun j hj h => by rw [t j hj, h]; exact P_ (b j)
 have lM : M.length = 9 := by rw [← hM]; exact upto_length
 have m0 := k 0 (by decide) rfl
 have m1 := k 1 (by decide) rfl
 have m2 := k 2 (by decide) rfl
 have m3 := k 3 (by decide) rfl
 have m4 : g M 4 = ad (g p 4) qa := t 4 (by decide)
 have m5 := k 5 (by decide) rfl
 have m6 := k 6 (by decide) rfl
 have m7 := k 7 (by decide) rfl
 have m8 : g M 8 = ad (g p 8) qb := t 8 (by decide)
 refine ⟨⟨lM, fun j => ?_, by rw [m0]; exact S.s0, by rw [m1]; exact S.s1, by rw [m2]; exact S.s2, by rw [m3]; exact S.s3, by rw [m4]; exact Qa (b _) ha S.s4 h0, by rw [m5]; exact S.s5, by rw [m6]; exact S.s6, by rw [m7]; exact S.s7, by rw [m8]; exact Qa (b _) hb S.s8 h1⟩, m0⟩
 rcases Nat.lt_or_ge j 9 with h | h
 · rw [t j h]; exact Vr _ _
 · unfold g
   rw [List.getD_eq_getElem?_getD, List.getElem?_eq_none (by omega)]
   exact b0
theorem pI (M : List Int) (j : Nat) (hj : j < 9) : g (PN 3 M) j = gQ 3 M j := kT hj
theorem PS {n m : Nat} {l : List Int} (h : 0 ≤ eQ n l m) : 0 ≤ gQ n l m := by unfold gQ; split <;> omega
theorem PO {n m : Nat} {l : List Int} (h : eQ n l m ≤ 0) : gQ n l m ≤ 0 := by unfold gQ; split <;> omega
theorem abY {n m : Nat} {l : List Int} (h : 0 ≤ eQ n l m) : gQ n l m = eQ n l m := by unfold gQ; rw [if_neg (fun k => by have := k.2; omega)]
theorem Xw (M : List Int) (j k : Nat) (h : ac 3 j = k) : eQ 3 M j = hv (g M j + g M k) := by unfold eQ g; rw [h]
theorem JA (M : List Int) (S : SP M) : SP (qA 3 M) ∧ g (qA 3 M) 0 = g M 0 := by
 rw [UC 3 M S.len (Vx S)]
 have t0 := S.s0
 have t1 := S.s1
 have t2 := S.s2
 have t3 := S.s3
 have t4 := S.s4
 have t5 := S.s5
 have t6 := S.s6
 have t7 := S.s7
 have t8 := S.s8
 have at0 : g (PN 3 M) 0 = g M 0 := by
  have e := Xw M 0 0 rfl
  rw [Zl] at e
  rw [pI M 0 (by decide), abY (by rw [e]; exact t0), e]
 refine ⟨⟨iI, fun j => ?_, by rw [at0]; exact S.s0, ?_, ?_, ?_, ?_, ?_, ?_, ?_, ?_⟩, at0⟩
 · exact g_b (fun m _ => abX (Vx S)) j
 · rw [pI M 1 (by decide)]; exact PS (by rw [Xw M 1 3 rfl]; exact Ie (by omega))
 · rw [pI M 2 (by decide)]; exact PO (by rw [Xw M 2 6 rfl]; exact Ic (by omega))
 · rw [pI M 3 (by decide)]; exact PS (by rw [Xw M 3 1 rfl]; exact Ie (by omega))
 · rw [pI M 4 (by decide)]; exact PS (by rw [Xw M 4 4 rfl]; exact Ie (by omega))
 · rw [pI M 5 (by decide)]; exact PO (by rw [Xw M 5 7 rfl]; exact Ic (by omega))
 · rw [pI M 6 (by decide)]; exact PO (by rw [Xw M 6 2 rfl]; exact Ic (by omega))
 · rw [pI M 7 (by decide)]; exact PO (by rw [Xw M 7 5 rfl]; exact Ic (by omega))
 · rw [pI M 8 (by decide)]; exact PS (by rw [Xw M 8 8 rfl]; exact Ie (by omega))
end Go.Proofs.Ytnijhjbcjeohhaa.PR

namespace Go.Proofs.Ytnijhjbcjeohhaa.EE
open Go.RowKit Go.Proofs.Ytnijhjbcjeohhaa.KK Go.Proofs.af.aO Go.Proofs.af.aV Go.Proofs.af.aX
set_option linter.unusedVariables false
set_option linter.unusedSimpArgs false
structure SK (k : Nat) (n : En) : Prop where
 x0 : n.x0 = [0, 0, 0]
 x1 : n.x1 = [0, 0, 0]
 x2 : n.x2 = [0, 0, 0]
 p : PR.SP n.p0
 gd : Gd n
 steps : n.steps = k
 dD : n.dD = k
 off : n.f0 = 0 ∧ n.f1 = 0 ∧ n.f2 = 0 ∧ n.f3 = 0
 q : n.q0 = 16777216 ∧ n.q1 = 0 ∧ n.q2 = 0 ∧ n.q3 = 0
theorem Dz {c : Cf} (h : c.may = true) : (0 < c.dt ∧ c.dt ≤ 17179869184) ∧ (0 < c.acc ∧ c.acc ≤ 17179869184) ∧ (0 < c.bias ∧ c.bias ≤ 17179869184) := by
 have h2 : ∀ q ∈ c.l, nM q = false := by
  simp only [Cf.may, Bool.not_eq_true', List.any_eq_false] at h
  intro q hq
  simpa using h q hq
 have p : ∀ q, nM q = false → 0 < q ∧ q ≤ 17179869184 := fun q hq => by
  unfold nM at hq
  simp at hq
  omega
 exact ⟨p _ (h2 _ (by simp [Cf.l])), p _ (h2 _ (by simp [Cf.l])), p _ (h2 _ (by simp [Cf.l]))⟩
theorem We {d : Int} (h0 : 0 < d) (h1 : d ≤ 17179869184) : (lG 0 d).1 = -d := by
 show PQ.cl (PQ.cl 0 - PQ.cl d) = _
 have e0 : PQ.cl 0 = 0 := PQ.jX (by omega) (by omega)
 have e1 : PQ.cl d = d := PQ.jX (by omega) (by omega)
 rw [e0, e1, PQ.jX (by omega) (by omega)]
 omega
theorem Vq {c : Cf} (h : c.may = true) : ahF c = PR.z_ c.dt := by
 unfold ahF PR.z_
 rw [We (Dz h).1.1 (Dz h).1.2]
theorem zh {c : Cf} (h : c.may = true) (n : En) (j : Nat) (hx : n.x j = [0, 0, 0]) : SS c n j = [0, 0, 0] := by
 have d := (Dz h).1
 have b1 : PR.qJ 16777216 := ⟨by omega, by omega⟩
 have b2 : PR.qJ c.dt := ⟨by omega, by omega⟩
 have b3 : PR.qJ (-c.dt) := ⟨by omega, by omega⟩
 unfold SS
 rw [hx, Vq h, PR.V9]
 show [PR.s3 (PR.ml 16777216 0) (PR.ml c.dt 0) (PR.ml 0 0), PR.s3 (PR.ml 0 0) (PR.ml 16777216 0) (PR.ml (-c.dt) 0), PR.s3 (PR.ml 0 0) (PR.ml 0 0) (PR.ml 16777216 0)] = _
 rw [PR.gp b1, PR.gp b2, PR.gp b3, PR.gp PR.b0, PR.Me 0 PR.b0]
theorem EI {c : Cf} (h : c.may = true) (n : En) (j : Nat) (hx : n.x j = [0, 0, 0]) : XM c n (a3 0 0 0) j = 0 := by
 have d := (Dz h).1
 have hy : a3 0 0 0 j = 0 := by
  match j with
  | 0 => rfl
  | 1 => rfl
  | j + 2 => rfl
 unfold XM
 rw [zh h n j hx, hy]
 show PR.ad 0 (PR.ml 0 c.dt) = 0
 rw [PR.jS ⟨by omega, by omega⟩]
 exact PR.P_ PR.b0
theorem aae {c : Cf} (h : c.may = true) (n : En) (S : PR.SP (n.p 0)) : PR.SP (VN c n 0) ∧ PR.g (n.p 0) 0 ≤ PR.g (VN c n 0) 0 := by
 obtain ⟨d, a, b⟩ := Dz h
 have m := PR.LV c.dt (n.p 0) S d.1 d.2
 have t := PR.LY (PR.ml c.acc c.dt) (PR.ml c.bias c.dt) _ m.1 (PR.yP _ _) (PR.yP _ _) (PR.F_ (by omega) (by omega)) (PR.F_ (by omega) (by omega))
 have u := PR.JA _ t.1
 have e : VN c n 0 = PR.qA 3 (gV gB 3 3 (mulL 3 3 3 (mulL 3 3 3 (PR.z_ c.dt) (n.p 0)) (yB 3 3 (PR.z_ c.dt))) (fJ [0, PR.ml c.acc c.dt, PR.ml c.bias c.dt])) := by
  unfold VN ahQ PR.iD
  rw [Vq h]
  rfl
 rw [e]
 exact ⟨u.1, by rw [u.2, t.2]; exact m.2⟩
theorem SK.next {c : Cf} {k : Nat} {n : En} (h : c.may = true) (S : SK k n) (hk : k < 8) : SK (k + 1) ((En.ahead c n (a3 0 0 0)).cnt true) ∧ PR.g n.p0 0 ≤ PR.g ((En.ahead c n (a3 0 0 0)).cnt true).p0 0 := by
 have P := aae h n S.p
 refine ⟨⟨?_, ?_, ?_, P.1, S.gd.ahead.cnt true, ?_, ?_, S.off, S.q⟩, P.2⟩
 · show (SS c n 0).set 1 (XM c n (a3 0 0 0) 0) = _
   rw [zh h n 0 S.x0, EI h n 0 S.x0]; rfl
 · show (SS c n 1).set 1 (XM c n (a3 0 0 0) 1) = _
   rw [zh h n 1 S.x1, EI h n 1 S.x1]; rfl
 · show (SS c n 2).set 1 (XM c n (a3 0 0 0) 2) = _
   rw [zh h n 2 S.x2, EI h n 2 S.x2]; rfl
 · show min (n.steps + 1) 1099511627776 = _
   rw [S.steps]; push_cast; omega
 · show (if true = true then min (n.dD + 1) 1000 else 0) = _
   rw [if_pos rfl, S.dD]; push_cast; omega
theorem Hg (c : Cf) (n : En) (G : Gd n) (hb : 0 < c.je) (hn : 0 < c.nI) : Ac c n sm0 ((En.ahead c n (a3 0 0 0)).cnt true) :=
 yD c n sm0 n (En.ahead c n (a3 0 0 0)) (a3 0 0 0) G hb hn (.inl ⟨rfl, rfl, rfl⟩) ⟨fun _ => rfl, fun h => by cases h⟩ G.ahead
theorem Wp : sN = [1677721600, 0, 0, 0, 167772160, 0, 0, 0, 16777216] := by rfl
theorem Zg : PR.SP sN := by
 rw [Wp]
 refine ⟨rfl, fun j => ?_, by decide, by decide, by decide, by decide, by decide, by decide, by decide, by decide, by decide⟩
 unfold PR.g
 rcases Nat.lt_or_ge j 9 with h | h
 · obtain rfl | rfl | rfl | rfl | rfl | rfl | rfl | rfl | rfl : j = 0 ∨ j = 1 ∨ j = 2 ∨ j = 3 ∨ j = 4 ∨ j = 5 ∨ j = 6 ∨ j = 7 ∨ j = 8 := by omega
   all_goals exact ⟨by decide, by decide⟩
 · rw [List.getD_eq_getElem?_getD, List.getElem?_eq_none (by simpa using h)]
   exact PR.b0
theorem sk0 : SK 0 en0 := ⟨rfl, rfl, rfl, Zg, Jf, rfl, rfl, ⟨rfl, rfl, rfl, rfl⟩, ⟨rfl, rfl, rfl, rfl⟩⟩
end Go.Proofs.Ytnijhjbcjeohhaa.EE

namespace Go.Proofs.Ytnijhjbcjeohhaa.EE
open Go.RowKit Go.Proofs.Ytnijhjbcjeohhaa.KK Go.Proofs.af.aO Go.Proofs.af.aV Go.Proofs.af.aX
set_option linter.unusedVariables false
set_option linter.unusedSimpArgs false
theorem Kt {w : World} {A : Option Addr} {l : List Int} (h : Rd w A l) (hl : 0 < l.length) : ∃ b o, A = some ⟨b, o, none⟩ ∧ b < w.heap.size ∧ w.cell? ⟨b, o, none⟩ = some (I (l.getD 0 0)) := by
 obtain ⟨b, o, rfl, hb, hc⟩ := Rd.cells h hl
 refine ⟨b, o, rfl, hb, ?_⟩
 have := hc 0 (l.getD 0 0) (by
  cases l with
  | nil => simp at hl
  | cons a l => rfl)
 simpa using this
theorem _root_.Go.Proofs.Ytnijhjbcjeohhaa.KK.aW.cells {w0 w : World} {L : List (TypeId × Array Value)} (h : aW w0 L w) {b o : Nat} (hp : w0.heap.size + L.length ≤ b) (vs : List Value) : aW w0 L (w.setCells b o vs) :=
 ⟨h.rows.imp fun k t cs _ hk r => (OG.jL _ _ _ _ (by omega)).trans r, KK.d_ _ _ _ h.be (by omega)⟩
theorem Tt (c : Cf) (m : Int) (w : World) (h0 : 0 ≤ m) (h1 : m ≤ 255) (hm : c.may = false) :
 Calls Try.prog 3 #[.agg c.row, .int .u8 m] w fun x w' => x = .returned (.bool true) ∧ Below w.heap.size w w' := by
 have HM := Lib.hid hm
 clear hm
 have HH := Lib.hid (And.intro h0 h1)
 have L : Hid (aW w [(24, c.row)] (w.alloc (.cells c.row 24))) := Lib.hid ((aW.none w).push (by simp) _ _)
 clear h0 h1
 go_enter Try.func3, Try.ntmps3
 go_upto_region 1 with fail
 generalize (w.alloc (.cells c.row 24)) = w1 at L ⊢
 go_wp2_with fail
 refine (jE _).mono ?_
 rintro x w2 ⟨rfl, hb⟩
 have L2 := Lib.hid (L.out.below hb)
 clear hb L
 have hc : ∀ i, w2.cell? ⟨w.heap.size, i, none⟩ = c.row[i]? := L2.out.r0.cell
 go_wp2_with fail
 refine (iP c _).mono ?_
 rintro x w3 ⟨rfl, hb⟩
 have L3 := Lib.hid (L2.out.below hb)
 clear hb L2 hc
 rw [HM.out]
 go_wp2
 go_ret
 exact ⟨rfl, L3.out.be⟩
theorem Tq (c : Cf) (m : Int) (w : World) (h0 : 0 ≤ m) (h1 : m ≤ 255) (hm : c.may = true) :
 Calls Try.prog 3 #[.agg c.row, .int .u8 m] w fun x w' => x = .returned (.bool true) ∧ Below w.heap.size w w' := by
 have HM := Lib.hid hm
 clear hm
 have HH := Lib.hid (And.intro h0 h1)
 have L : Hid (aW w [(24, c.row)] (w.alloc (.cells c.row 24))) := Lib.hid ((aW.none w).push (by simp) _ _)
 clear h0 h1
 go_enter Try.func3, Try.ntmps3
 go_upto_region 1 with fail
 generalize (w.alloc (.cells c.row 24)) = w1 at L ⊢
 go_wp2_with fail
 refine (jE _).mono ?_
 rintro x w2 ⟨rfl, hb⟩
 have L2 := Lib.hid (L.out.below hb)
 clear hb L
 have hc : ∀ i, w2.cell? ⟨w.heap.size, i, none⟩ = c.row[i]? := L2.out.r0.cell
 go_wp2_with fail
 refine (iP c _).mono ?_
 rintro x w3 ⟨rfl, hb⟩
 have L3 := Lib.hid (L2.out.below hb)
 clear hb L2 hc
 rw [HM.out]
 have hc : ∀ i, w3.cell? ⟨w.heap.size, i, none⟩ = c.row[i]? := L3.out.r0.cell
 go_wp2_with fail
 refine (DI c _ HM.out).mono ?_
 rintro x w4 ⟨t, rfl, ht, hb⟩
 rw [Ui t (fun j hj => ⟨(ht j hj).1, (ht j hj).2.1⟩)]
 have HE := Lib.hid (Pz t (fun j hj => ⟨(ht j hj).1, (ht j hj).2.1⟩))
 have AX : Hid (∀ j, j < 3 → Rw w4 ((DK t).ax j)) := Lib.hid (fun j hj => by
  obtain rfl | rfl | rfl : j = 0 ∨ j = 1 ∨ j = 2 := by omega
  all_goals exact (ht _ (by omega)).2.2.rw)
 have L4 := Lib.hid (L3.out.below hb)
 clear hb L3 hc ht
 generalize DK t = e at HE AX ⊢
 have TN := Lib.hid (Pj w4 #[.int .i64 0, .int .i64 0, .int .i64 0, .int .i64 0, .int .i64 0, .int .i64 0, .slice none 0 0, .int .i64 0, .int .i64 0, .slice none 0 0, .int .i64 0, .int .i64 0, .slice none 0 0, .int .i64 0, .int .i64 0, .slice none 0 0, .int .i64 0, .int .i64 0, .slice none 0 0, .int .i64 0, .int .i64 0, .slice none 0 0, .int .i64 0, .int .i64 0, .int .i64 0, .int .i64 0, .int .i64 0, .int .i64 0, .bool false] e.R 37 rfl)
 have TH : Hid ((w4.alloc (.cells #[.int .i64 0, .int .i64 0, .int .i64 0, .int .i64 0, .int .i64 0, .int .i64 0, .slice none 0 0, .int .i64 0, .int .i64 0, .slice none 0 0, .int .i64 0, .int .i64 0, .slice none 0 0, .int .i64 0, .int .i64 0, .slice none 0 0, .int .i64 0, .int .i64 0, .slice none 0 0, .int .i64 0, .int .i64 0, .slice none 0 0, .int .i64 0, .int .i64 0, .int .i64 0, .int .i64 0, .int .i64 0, .int .i64 0, .bool false] 37)).there w4.heap.size 0 e.R.size) := Lib.hid (by have h := Row.there (Row.new w4 37 #[.int .i64 0, .int .i64 0, .int .i64 0, .int .i64 0, .int .i64 0, .int .i64 0, .slice none 0 0, .int .i64 0, .int .i64 0, .slice none 0 0, .int .i64 0, .int .i64 0, .slice none 0 0, .int .i64 0, .int .i64 0, .slice none 0 0, .int .i64 0, .int .i64 0, .slice none 0 0, .int .i64 0, .int .i64 0, .slice none 0 0, .int .i64 0, .int .i64 0, .int .i64 0, .int .i64 0, .int .i64 0, .int .i64 0, .bool false]); exact h)
 have i37 : Hid ((Try.prog.info? 37).map (·.size) = some e.R.size) := Lib.hid (by kernel_rfl)
 have one : Hid (e.R.all (·.oneCell') = true) := Lib.hid (by kernel_rfl)
 go_upto_region 5 with (with_reducible refine wpList_store_mid rfl 37 (.tmp 6) (.tmp 20) rfl w4.heap.size 0 e.R rfl rfl TH.out i37.out one.out ?_)
 have AX6 : Hid (∀ j, j < 3 → Rw ((w4.alloc (.cells #[.int .i64 0, .int .i64 0, .int .i64 0, .int .i64 0, .int .i64 0, .int .i64 0, .slice none 0 0, .int .i64 0, .int .i64 0, .slice none 0 0, .int .i64 0, .int .i64 0, .slice none 0 0, .int .i64 0, .int .i64 0, .slice none 0 0, .int .i64 0, .int .i64 0, .slice none 0 0, .int .i64 0, .int .i64 0, .slice none 0 0, .int .i64 0, .int .i64 0, .int .i64 0, .int .i64 0, .int .i64 0, .int .i64 0, .bool false] 37)).setCells w4.heap.size 0 e.R.toList) (e.ax j)) := Lib.hid (fun j hj => (AX.out j hj).below TN.out.2)
 clear TH one AX
 generalize (w4.alloc (.cells #[.int .i64 0, .int .i64 0, .int .i64 0, .int .i64 0, .int .i64 0, .int .i64 0, .slice none 0 0, .int .i64 0, .int .i64 0, .slice none 0 0, .int .i64 0, .int .i64 0, .slice none 0 0, .int .i64 0, .int .i64 0, .slice none 0 0, .int .i64 0, .int .i64 0, .slice none 0 0, .int .i64 0, .int .i64 0, .slice none 0 0, .int .i64 0, .int .i64 0, .int .i64 0, .int .i64 0, .int .i64 0, .int .i64 0, .bool false] 37)).setCells w4.heap.size 0 e.R.toList = w6 at TN AX6 ⊢
 have L6 := Lib.hid (L4.out.below TN.out.2)
 have R6 := Lib.hid TN.out.1
 have B6 : Hid (w4.heap.size < w6.heap.size ∧ w.heap.size + 1 ≤ w4.heap.size) := Lib.hid ⟨TN.out.1.lt, by have := L4.out.r0.lt; omega⟩
 clear TN L4 i37
 generalize w4.heap.size = b6 at R6 B6 ⊢
 try simp only [Act.put]
 have g0 := HH.out.1
 have g1 := HH.out.2
 go_wp2
 obtain ⟨K, hK, hK8⟩ : ∃ K : Nat, m % 8 = (K : Int) ∧ K < 8 := ⟨(m % 8).toNat, by omega, by omega⟩
 rw [hK]
 have HK := Lib.hid hK8
 clear hK hK8 g0 g1 HH
 go_loopw [9] (fun i wl => ∃ (k : Nat) (ek : Es), k ≤ K ∧ i = .int .i64 k ∧ Hid (SK k ek.nu) ∧ Hid (∀ j, j < 3 → Rw wl (ek.ax j)) ∧ Hid (aW w [(24, c.row)] wl) ∧ Hid (Row wl b6 37 ek.R) ∧ Hid (b6 < wl.heap.size)) (fun i _ => K - (intOf i).toNat)
 case atStart => exact ⟨0, e, by omega, rfl, Lib.hid (by rw [HE.out]; exact sk0), AX6, L6, R6, Lib.hid B6.out.1⟩
 case round =>
  clear L6 R6 AX6 HE
  obtain ⟨k, ek, hk, rfl, S, AX, L, R, Z⟩ := hrel
  obtain rfl | hlt : k = K ∨ k < K := by omega
  · have v1 : ek.steps = (k : Int) := S.out.steps
    have v2 : ek.dD = (k : Int) := S.out.dD
    have EZ : wr.cell? ⟨b6, 22, none⟩ = some (I k) := by rw [R.out.cell, ← v1]; rfl
    have c23 : wr.cell? ⟨b6, 23, none⟩ = some (I k) := by rw [R.out.cell, ← v2]; rfl
    have f0 : ek.f0 = 0 := S.out.off.1
    have f1 : ek.f1 = 0 := S.out.off.2.1
    have f2 : ek.f2 = 0 := S.out.off.2.2.1
    have f3 : ek.f3 = 0 := S.out.off.2.2.2
    have c24 : wr.cell? ⟨b6, 24, none⟩ = some (I 0) := by rw [R.out.cell, ← f0]; rfl
    have c25 : wr.cell? ⟨b6, 25, none⟩ = some (I 0) := by rw [R.out.cell, ← f1]; rfl
    have FC : wr.cell? ⟨b6, 26, none⟩ = some (I 0) := by rw [R.out.cell, ← f2]; rfl
    have Lm : wr.cell? ⟨b6, 27, none⟩ = some (I 0) := by rw [R.out.cell, ← f3]; rfl
    have q0 : ek.q0 = 16777216 := S.out.q.1
    have q1 : ek.q1 = 0 := S.out.q.2.1
    have q2 : ek.q2 = 0 := S.out.q.2.2.1
    have q3 : ek.q3 = 0 := S.out.q.2.2.2
    have d0 : wr.cell? ⟨b6, 0, none⟩ = some (I 16777216) := by rw [R.out.cell, ← q0]; rfl
    have d1 : wr.cell? ⟨b6, 1, none⟩ = some (I 0) := by rw [R.out.cell, ← q1]; rfl
    have d2 : wr.cell? ⟨b6, 2, none⟩ = some (I 0) := by rw [R.out.cell, ← q2]; rfl
    have d3 : wr.cell? ⟨b6, 3, none⟩ = some (I 0) := by rw [R.out.cell, ← q3]; rfl
    have EA := UL 0 0 0 0 0 0 0 0 wr
    have EB := PQ.ab2 16777216 0 0 0 16777216 0 0 0 wr
    clear v1 v2 f0 f1 f2 f3 q0 q1 q2 q3 hk
    go_wp2
    go_ret
    exact ⟨rfl, L.out.be⟩
  · have MP := H9 HM.out
    have ST := Hg c ek.nu S.out.gd MP.1 MP.2.1 ek wr rfl AX.out
    have NX := S.out.next HM.out (by have := HK.out; omega)
    generalize (En.ahead c ek.nu (a3 0 0 0)).cnt true = n' at ST NX
    have HST : Hid (Calls Try.prog 16 #[.agg c.row, .agg ek.R, .agg #[.bool true, .int .i64 0, .int .i64 0, .int .i64 0, .int .i64 0, .int .i64 0, .int .i64 0, .bool false, .int .i64 0, .bool false, .int .i64 0, .int .i64 0, .int .i64 0]] wr fun x w' => ∃ e' : Es, e'.nu = n' ∧ x = .returned (.tuple #[.agg e'.R, .agg #[.int .i64 0, .int .i64 0, .int .i64 0]]) ∧ (∀ j, j < 3 → Ro wr.heap.size w' (e'.ax j)) ∧ Below wr.heap.size wr w') := Lib.hid (by
     refine ST.mono ?_
     rintro x w' ⟨e', h1, rfl, h3⟩
     exact ⟨e', h1, by rw [NX.1.x0, NX.1.x1, NX.1.x2]; rfl, h3⟩)
    have HN := Lib.hid NX
    clear ST NX MP
    have hc : ∀ i, wr.cell? ⟨w.heap.size, i, none⟩ = c.row[i]? := L.out.r0.cell
    have RL := Lib.hid (Row.whole R.out)
    have i37 : Hid ((Try.prog.info? 37).map (·.size) = some ek.R.toList.length) := Lib.hid (by kernel_rfl)
    have HLT := Lib.hid hlt
    have hd : decide ((k : Int) < (K : Int)) = true := decide_eq_true (by omega)
    clear hlt hk
    go_wp2_with (with_reducible refine OG.dP rfl 37 (.tmp 6) rfl b6 0 rfl ek.R.toList _ RL.out Try.underlying37 rfl i37.out ?_)
    refine HST.out.mono ?_
    rintro x w5 ⟨e', hn, rfl, hr, hb⟩
    clear HST hc RL i37 hd
    have Z5 : Hid (b6 < w5.heap.size) := Lib.hid (Nat.lt_of_lt_of_le Z.out hb.size)
    have L5 := Lib.hid (L.out.below hb)
    have R5 := Lib.hid (R.out.below hb R.out.lt)
    have AX5 : Hid (∀ j, j < 3 → Rw w5 (ek.ax j)) := Lib.hid (fun j hj => (AX.out j hj).below hb)
    have AE5 : Hid (∀ j, j < 3 → Rw w5 (e'.ax j) ∧ VL (e'.ax j) b6) := Lib.hid (fun j hj => ⟨(hr j hj).rw, (hr j hj).YB Z.out⟩)
    have HNU := Lib.hid hn
    clear hn hr hb L R AX Z
    have TN := Lib.hid (BX w5 #[.int .i64 0, .int .i64 0, .int .i64 0, .int .i64 0, .int .i64 0, .int .i64 0, .slice none 0 0, .int .i64 0, .int .i64 0, .slice none 0 0, .int .i64 0, .int .i64 0, .slice none 0 0, .int .i64 0, .int .i64 0, .slice none 0 0, .int .i64 0, .int .i64 0, .slice none 0 0, .int .i64 0, .int .i64 0, .slice none 0 0, .int .i64 0, .int .i64 0, .int .i64 0, .int .i64 0, .int .i64 0, .int .i64 0, .bool false] #[.int .i64 0, .int .i64 0, .int .i64 0] e'.R #[.int .i64 0, .int .i64 0, .int .i64 0] 37 42 rfl rfl)
    have TH := Lib.hid (wM w5 #[.int .i64 0, .int .i64 0, .int .i64 0, .int .i64 0, .int .i64 0, .int .i64 0, .slice none 0 0, .int .i64 0, .int .i64 0, .slice none 0 0, .int .i64 0, .int .i64 0, .slice none 0 0, .int .i64 0, .int .i64 0, .slice none 0 0, .int .i64 0, .int .i64 0, .slice none 0 0, .int .i64 0, .int .i64 0, .slice none 0 0, .int .i64 0, .int .i64 0, .int .i64 0, .int .i64 0, .int .i64 0, .int .i64 0, .bool false] #[.int .i64 0, .int .i64 0, .int .i64 0] e'.R #[.int .i64 0, .int .i64 0, .int .i64 0] 37 42 rfl rfl)
    have i37 : Hid ((Try.prog.info? 37).map (·.size) = some e'.R.size) := Lib.hid (by kernel_rfl)
    have one : Hid (e'.R.all (·.oneCell') = true) := Lib.hid (by kernel_rfl)
    go_upto_region 12 with (first | with_reducible refine wpList_store_mid rfl 37 (.tmp 10) (.tmp 37) rfl w5.heap.size 0 e'.R rfl rfl TH.out.1 i37.out one.out ?_ | with_reducible refine wpList_store_mid rfl 42 (.tmp 11) (.tmp 38) rfl (w5.heap.size + 1) 0 #[.int .i64 0, .int .i64 0, .int .i64 0] rfl rfl TH.out.2 (by kernel_rfl) (by kernel_rfl) ?_)
    clear TH i37 one
    generalize (((w5.alloc (.cells #[.int .i64 0, .int .i64 0, .int .i64 0, .int .i64 0, .int .i64 0, .int .i64 0, .slice none 0 0, .int .i64 0, .int .i64 0, .slice none 0 0, .int .i64 0, .int .i64 0, .slice none 0 0, .int .i64 0, .int .i64 0, .slice none 0 0, .int .i64 0, .int .i64 0, .slice none 0 0, .int .i64 0, .int .i64 0, .slice none 0 0, .int .i64 0, .int .i64 0, .int .i64 0, .int .i64 0, .int .i64 0, .int .i64 0, .bool false] 37)).alloc (.cells #[.int .i64 0, .int .i64 0, .int .i64 0] 42)).setCells w5.heap.size 0 e'.R.toList).setCells (w5.heap.size + 1) 0 #[.int .i64 0, .int .i64 0, .int .i64 0].toList = W at TN ⊢
    have L6 := Lib.hid (L5.out.below TN.out.2.2)
    have R6 := Lib.hid (R5.out.below TN.out.2.2 R5.out.lt)
    have AX6 : Hid (∀ j, j < 3 → Rw W (ek.ax j)) := Lib.hid (fun j hj => (AX5.out j hj).below TN.out.2.2)
    have AE6 : Hid (∀ j, j < 3 → Rw W (e'.ax j) ∧ VL (e'.ax j) b6) := Lib.hid (fun j hj => ⟨(AE5.out j hj).1.below TN.out.2.2, (AE5.out j hj).2⟩)
    have R10 := Lib.hid TN.out.1
    have R11 := Lib.hid TN.out.2.1
    have Z6 : Hid (b6 < W.heap.size) := Lib.hid (Nat.lt_of_lt_of_le Z5.out TN.out.2.2.size)
    clear TN L5 R5 AX5 AE5 Z5
    generalize w5.heap.size = b10 at R10 R11 ⊢
    try simp only [Act.put]
    have y0 : W.cell? ⟨b10 + 1, 0, none⟩ = some (.int .i64 0) := R11.out.cell 0
    have y1 : W.cell? ⟨b10 + 1, 1, none⟩ = some (.int .i64 0) := R11.out.cell 1
    have y2 : W.cell? ⟨b10 + 1, 2, none⟩ = some (.int .i64 0) := R11.out.cell 2
    obtain ⟨bp, op, hB, _, hp⟩ := Kt (AE6.out 0 (by decide)).1.p (by rw [zK, HNU.out]; exact (HN.out.1.gd.lp 0 (by decide)).symm ▸ (by decide))
    obtain ⟨bo, oo, hO, _, ho⟩ := Kt (AX6.out 0 (by decide)).p (by rw [zK]; exact (S.out.gd.lp 0 (by decide)).symm ▸ (by decide))
    have c9 : W.cell? ⟨b10, 9, none⟩ = some (.slice (some ⟨bp, op, none⟩) 9 e'.t0.d) := by
     have h1 : e'.t0.p.length = 9 := by have := HN.out.1.gd.lp 0 (by decide); rw [← HNU.out] at this; exact this
     have h2 : e'.t0.B = some ⟨bp, op, none⟩ := hB
     rw [R10.out.cell]
     show some (Value.slice e'.t0.B e'.t0.p.length e'.t0.d) = _
     rw [h1, h2]
    have c9' : W.cell? ⟨b6, 9, none⟩ = some (.slice (some ⟨bo, oo, none⟩) 9 ek.t0.d) := by
     have h1 : ek.t0.p.length = 9 := S.out.gd.lp 0 (by decide)
     have h2 : ek.t0.B = some ⟨bo, oo, none⟩ := hO
     rw [R6.out.cell]
     show some (Value.slice ek.t0.B ek.t0.p.length ek.t0.d) = _
     rw [h1, h2]
    have ge : (ek.ax 0).p.getD 0 0 ≤ (e'.ax 0).p.getD 0 0 := by
     have := HN.out.2
     rw [← HNU.out] at this
     exact this
    have lo : -70368744177664 ≤ (ek.ax 0).p.getD 0 0 ∧ (ek.ax 0).p.getD 0 0 ≤ 70368744177663 := S.out.p.b 0
    generalize (ek.ax 0).p.getD 0 0 = p0 at ge lo ho
    generalize (e'.ax 0).p.getD 0 0 = p1 at ge hp
    have hw : IntKind.i64.wrap (p0 - 1024) = p0 - 1024 := IntWalk.i64_in _ (by omega)
    have hcmp : decide (p1 < p0 - 1024) = false := decide_eq_false (by omega)
    have EQ := fun w' => PQ.ab1 0 0 0 0 0 0 w'
    simp only [beq_self_eq_true, Bool.and_self, Bool.true_and, Bool.and_true] at EQ
    clear hB hO ge lo
    go_quiet (fail)
    have LQ := Lib.hid (L6.out.below (ah (Below.refl _ _) nq))
    have RQ := Lib.hid (R6.out.below (ah (Below.refl _ _) nq) R6.out.lt)
    have aan := Lib.hid (R10.out.below (ah (Below.refl _ _) nq) R10.out.lt)
    have AEQ : Hid (∀ j, j < 3 → Rw (W.drewN nq) (e'.ax j) ∧ VL (e'.ax j) b6) := Lib.hid (fun j hj => ⟨(AE6.out j hj).1.below (ah (Below.refl _ _) nq), (AE6.out j hj).2⟩)
    have ZQ : Hid (b6 < (W.drewN nq).heap.size) := Lib.hid Z6.out
    clear y0 y1 y2 hp ho c9 c9' hw hcmp EQ L6 R6 AX6 AE6 R10 R11 Z6
    generalize W.drewN nq = W at LQ RQ aan AEQ ZQ ⊢
    have RL := Lib.hid (Row.whole aan.out)
    have i37 : Hid ((Try.prog.info? 37).map (·.size) = some e'.R.toList.length) := Lib.hid (by kernel_rfl)
    have Fv : Hid ((Try.prog.info? 37).map (·.size) = some e'.R.size) := Lib.hid (by kernel_rfl)
    have one : Hid (e'.R.all (·.oneCell') = true) := Lib.hid (by kernel_rfl)
    have TH : Hid (W.there b6 0 e'.R.size) := Lib.hid (by have h := Row.there RQ.out; exact h)
    have hw : IntKind.i64.wrap ((k : Int) + 1) = (k : Int) + 1 := IntWalk.i64_in _ (by have := HLT.out; have := HK.out; omega)
    have LN := Lib.hid (LQ.out.cells (b := b6) (o := 0) (by have := B6.out.2; simp; omega) e'.R.toList)
    have RN := Lib.hid (Row.full RQ.out e'.R rfl)
    have AN : Hid (∀ j, j < 3 → Rw (W.setCells b6 0 e'.R.toList) (e'.ax j)) := Lib.hid (fun j hj => (AEQ.out j hj).1.cells (AEQ.out j hj).2 _)
    have ZN : Hid (b6 < (W.setCells b6 0 e'.R.toList).heap.size) := Lib.hid (Row.lt RN.out)
    have SN : Hid (SK (k + 1) e'.nu) := Lib.hid (by rw [HNU.out]; exact HN.out.1)
    clear S HN HNU LQ RQ aan AEQ ZQ
    go_wp2_with (first | with_reducible refine OG.dP rfl 37 (.tmp 10) rfl b10 0 rfl e'.R.toList _ RL.out Try.underlying37 rfl i37.out ?_ | with_reducible refine wpList_store_mid rfl 37 (.tmp 6) (.tmp 74) rfl b6 0 e'.R rfl rfl TH.out Fv.out one.out ?_)
    go_roundw
    case rel => exact ⟨k + 1, e', by have := HLT.out; omega, by go_num, SN, AN, LN, RN, ZN⟩
    case measure => have := HLT.out; simp [intOf]; omega
theorem Jz (c : Cf) (m : Int) (w : World) (h0 : 0 ≤ m) (h1 : m ≤ 255) :
 Calls Try.prog 3 #[.agg c.row, .int .u8 m] w fun x w' => x = .returned (.bool true) ∧ Below w.heap.size w w' := by
 cases hm : c.may
 · exact Tt c m w h0 h1 hm
 · exact Tq c m w h0 h1 hm
end Go.Proofs.Ytnijhjbcjeohhaa.EE

