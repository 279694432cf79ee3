import Derived.OrdersHeld
import Derived.Test.YtcfobekkchhbbaaGreatX5
import Derived.WalkKit
import Derived.Below
import Derived.Deep.MidRow
import Derived.Lib.Hide
import Derived.Test.YtcfobekkchhbbaaGreatX12
import Derived.Test.YtcfobekkchhbbaaGreatX10
import Derived.Test.YtcfobekkchhbbaaGreatX9
/- Joined and thinned by a program of this session's own (wip/pack2.py) out of its texts (wip/ of its repo); parts were laid by its own program (wip/print-patch.py over the kit's print) out of the translation; Lean checks all. -/
set_option maxRecDepth 100000
set_option maxHeartbeats 4000000
namespace Go.Proofs.YtcfobekkchhbbaaGreat.OG
open Go Go.RowKit Go.Proofs.YtcfobekkchhbbaaGreat.KK
section
variable {P : Program} {ops : Array Oper} {Q : Exit → Act → World → Prop}
def upd (l : Nat → Bool) (i : Nat) : Nat → Bool := fun k => if k = i then true else l k
def deps (o : Oper) (l : Nat → Bool) : Prop := ∀ e ∈ o.after.toList, Region.binds .any e = true → l e.on = true
def Closed (ops : Array Oper) (l : Nat → Bool) : Prop := ∀ j o, ops[j]? = some o → l j = true → deps o l
theorem Closed.off {l : Nat → Bool} (hc : Closed ops l) (j k : Nat) (h : ((ops[j]?).map fun o => o.after.toList.any (fun e => Region.binds .any e && decide (e.on = k))) = some true) (h0 : l k = false) : l j = false := by
 cases hj : l j with
 | false => rfl
 | true =>
   exfalso
   cases ho : ops[j]? with
   | none => rw [ho] at h; cases h
   | some o =>
     rw [ho] at h; simp only [Option.map_some, Option.some.injEq, List.any_eq_true, Bool.and_eq_true, decide_eq_true_eq] at h; obtain ⟨e, he, h2, rfl⟩ := h; have := hc j o ho hj e he h2; rw [h0] at this
     cases this
def Steps (P : Program) (ops : Array Oper) (Q : Exit → Act → World → Prop) (J : (Nat → Bool) → Act → World → Prop) : Nat → List Oper → Prop
 | _, [] => True
 | k, o :: r => (∀ l a w, J l a w → Closed ops l → l k = false → deps o l → (Region.wanted o (yielded ops a.tmps) = true ∧ o.wp P a w (fun a' w' => J (upd l k) a' w') Q) ∨ (Region.wanted o (yielded ops a.tmps) = false ∧ J (upd l k) (a.put o.dst undef) w)) ∧ Steps P ops Q J (k + 1) r
theorem deps.get {o : Oper} {l : Nat → Bool} (h : deps o l) (k : Nat) (hk : o.after.toList.any (fun e => Region.binds .any e && decide (e.on = k)) = true) : l k = true := by
 rw [List.any_eq_true] at hk; obtain ⟨e, he, h2⟩ := hk; simp only [Bool.and_eq_true, decide_eq_true_eq] at h2; obtain ⟨h3, rfl⟩ := h2; exact h e he h3
theorem Steps.nil {J : (Nat → Bool) → Act → World → Prop} {k : Nat} : Steps P ops Q J k [] := trivial
theorem Steps.cons {J : (Nat → Bool) → Act → World → Prop} {k : Nat} {o : Oper} {r : List Oper} (hg : o.guard = none)
 (h : ∀ l a w (K : Act → World → Prop), Hid (∀ a' w', J (upd l k) a' w' → K a' w') → J l a w → Closed ops l → l k = false → deps o l → o.wp P a w K Q) (hr : Steps P ops Q J (k + 1) r) : Steps P ops Q J k (o :: r) :=
 ⟨fun l a w hJ hc hl hd => .inl ⟨by simp [Region.wanted, hg], h l a w _ (Lib.hid fun _ _ h => h) hJ hc hl hd⟩, hr⟩
theorem Steps.get {J : (Nat → Bool) → Act → World → Prop} : ∀ {r : List Oper} {k : Nat}, Steps P ops Q J k r → ∀ i o, r[i]? = some o →
 ∀ l a w, J l a w → Closed ops l → l (k + i) = false → deps o l → (Region.wanted o (yielded ops a.tmps) = true ∧ o.wp P a w (fun a' w' => J (upd l (k + i)) a' w') Q) ∨ (Region.wanted o (yielded ops a.tmps) = false ∧ J (upd l (k + i)) (a.put o.dst undef) w)
 | [], _, _, i, o, h => by simp at h
 | x :: r, k, hs, 0, o, h => by
   simp at h; subst h; exact hs.1
 | x :: r, k, hs, i + 1, o, h => by
   have := hs.2.get i o (by simpa using h)
   rwa [show k + 1 + i = k + (i + 1) from by omega] at this
def back (ops : Array Oper) : Bool := (List.range ops.size).all fun i => ((ops[i]?).map fun o => o.after.toList.all fun e => !Region.binds .any e || decide (e.on < i)).getD true
theorem Qw {listed : Array Bool} (hb : back ops = true) (hsz : listed.size = ops.size) (hr : Region.ready .any ops listed = []) : ∀ n i, i < n → i < ops.size → listed.getD i false = true := by
 intro n
 induction n with
 | zero => intro i h; omega
 | succ n ih =>
   intro i hi ho
   cases hc : listed.getD i false with
   | true => rfl
   | false =>
     exfalso
     have hm : i ∈ Region.ready .any ops listed := by
      refine mem_ready.2 ⟨?_, ops[i], by simp [ho], fun e he hbi => ?_⟩
      · have hlt : i < listed.size := by omega
        simpa [hlt] using hc
      · unfold back at hb
        rw [List.all_eq_true] at hb; have h1 := hb i (by simpa using ho); rw [show ops[i]? = some ops[i] from by simp [ho]] at h1; simp only [Option.map_some, Option.getD_some, List.all_eq_true, Bool.or_eq_true, Bool.not_eq_true', decide_eq_true_eq] at h1; have h2 := (h1 e (by simpa using he)).resolve_left (by simp [hbi]); exact ih e.on (by omega) (by omega)
     rw [hr] at hm
     cases hm
theorem count_set : ∀ (l : List Bool) (i : Nat), l[i]? = some false → (l.set i true).count false + 1 = l.count false
 | [], i, h => by simp at h
 | b :: l, 0, h => by simp at h; subst h; simp
 | b :: l, i + 1, h => by
   have := count_set l i (by simpa using h)
   cases b <;> simp <;> omega
theorem XA (J : (Nat → Bool) → Act → World → Prop) (hb : back ops = true) (hs : Steps P ops Q J 0 ops.toList)
 (he : ∀ l a w, J l a w → (∀ i, i < ops.size → l i = true) → Q .normal a w) :
 ∀ (fuel : Nat) (listed : Array Bool) (a : Act) (w : World), listed.size = ops.size → listed.toList.count false ≤ fuel → Closed ops (fun k => listed.getD k false) → J (fun k => listed.getD k false) a w → wpAny P .any ops Q fuel listed a w := by
 intro fuel
 induction fuel with
 | zero =>
   intro listed a w hsz hc hcl hJ
   have hall : ∀ i, i < ops.size → listed.getD i false = true := by
    intro i hi
    cases hx : listed.getD i false with
    | true => rfl
    | false =>
      exfalso
      have hlt : i < listed.size := by omega
      have hm : false ∈ listed.toList := by
       have : listed[i] = false := by simpa [hlt] using hx
       rw [← this]; simp
      have := List.count_pos_iff.2 hm; omega
   refine ⟨?_, he _ _ _ hJ hall⟩
   cases hr : Region.ready .any ops listed with
   | nil => rfl
   | cons i t =>
     have hm : i ∈ Region.ready .any ops listed := by rw [hr]; simp
     obtain ⟨h0, o, ho, _⟩ := mem_ready.1 hm; have hlt := (Array.getElem?_eq_some_iff.1 ho).1; have := hall i hlt
     have hlt' : i < listed.size := by omega
     simp [hlt'] at h0 this
     rw [h0] at this; cases this
 | succ fuel ih =>
   intro listed a w hsz hc hcl hJ; refine ⟨fun hr => he _ _ _ hJ fun i hi => Qw hb hsz hr (i + 1) i (by omega) hi, fun i hi => ?_⟩
   obtain ⟨h0, o, ho, hd⟩ := mem_ready.1 hi; have hlt := (Array.getElem?_eq_some_iff.1 ho).1
   have hlt' : i < listed.size := by omega
   have h0' : listed.getD i false = false := by simpa [hlt'] using h0
   have hst := hs.get i o (by simpa using ho) (fun k => listed.getD k false) a w hJ hcl (by simpa using h0') (fun e he hbi => hd e (by simpa using he) hbi)
   have hup : upd (fun k => listed.getD k false) (0 + i) = fun k => (listed.setIfInBounds i true).getD k false := by
    funext k
    unfold upd
    simp only [Nat.zero_add]
    split
    · rename_i h; subst h; simp [hlt']
    · rename_i h; simp [Array.getD_eq_getD_getElem?, Array.getElem?_setIfInBounds_ne (Ne.symm h)]
   have hnext : ∀ a' w', J (upd (fun k => listed.getD k false) (0 + i)) a' w' → wpAny P .any ops Q fuel (listed.setIfInBounds i true) a' w' := by
    intro a' w' h; rw [hup] at h; refine ih _ _ _ (by simpa using hsz) ?_ ?_ h
    rotate_left
    · rw [← hup]
      intro j o' ho' hj e he hbi
      by_cases hji : j = 0 + i
      · have : o' = o := by
         rw [hji, Nat.zero_add, ho] at ho'
         injection ho' with ho'
         exact ho'.symm
        subst this
        unfold upd
        split
        · rfl
        · exact hd e (by simpa using he) hbi
      · have hj' : listed.getD j false = true := by
         unfold upd at hj
         rwa [if_neg hji] at hj
        unfold upd
        split
        · rfl
        · exact hcl j o' ho' hj' e he hbi
    have : listed.toList[i]? = some false := by
     have : listed[i] = false := by simpa [hlt'] using h0'
     simp [hlt', this]
    have := count_set _ _ this
    simp
    omega
   unfold wpOp
   simp only [ho]
   rcases hst with ⟨hw, h⟩ | ⟨hw, h⟩
   · simp only [hw, if_true]
     exact .inl (Oper.wp_mono hnext h)
   · simp only [hw, Bool.false_eq_true, if_false]
     exact hnext _ _ h
theorem Dk {id : Nat} {a : Act} {w : World} (hm : P.follows .mixedOrders = true) (J : (Nat → Bool) → Act → World → Prop) (hb : back ops = true)
 (h0 : J (fun _ => false) a w.drew) (hs : Steps P ops Q J 0 ops.toList) (he : ∀ l a w, J l a w → (∀ i, i < ops.size → l i = true) → Q .normal a w) : (Code.region id ops true).wp P Q a w := by
 refine wp_region_any hm ?_
 refine XA J hb hs he _ _ _ _ (by simp) ?_ ?_ ?_
 · rw [Array.toList_replicate, List.count_replicate]; simp
 · intro j o _ hj
   exfalso
   have : (Array.replicate ops.size false).getD j false = false := by simp [Array.getD_eq_getD_getElem?, Array.getElem?_replicate]; split <;> rfl
   simp only [this] at hj
   cases hj
 · rw [show (fun k => (Array.replicate ops.size false).getD k false) = fun _ => false from by funext k; simp [Array.getD_eq_getD_getElem?, Array.getElem?_replicate]; split <;> rfl]
   exact h0
end
theorem dY {P : Program} {ops : Array Oper} {rest : List Oper} {op : Oper} {a : Act} {w : World} {Q : Exit → Act → World → Prop} (hw : Region.wanted op (yielded ops a.tmps) = true) (ty : TypeId) (x : Operand) (ho : op.op = .load ty x)
 (b o : Nat) (hx : a.eval x = .pointer (some ⟨b, o, none⟩)) (cs : List Value) (d : TypeDesc) (hc : w.rangeAt b o cs) (hu : P.underlying ty = some d) (hd : d.isRow = true) (hi : (P.info? ty).map (·.size) = some cs.length)
 (h : wpList P ops Q rest (a.put op.dst (.agg cs.toArray)) w) : wpList P ops Q (op :: rest) a w :=
 wpList_step fun K hK => by rw [if_pos hw]; exact wp_load_mid ty x ho b o hx cs d hc hu hd hi (hK _ _ h)
theorem fZ {g : Nat} : ∀ (vs : List Value) (o : Nat) (w : World) (k : Nat), k ≠ g → (w.setCells g o vs).heap[k]? = w.heap[k]?
 | [], _, _, _, _ => rfl
 | v :: r, o, w, k, hk => by
   rw [World.setCells, fZ r (o + 1) _ k hk]; exact Below.heap_setCell w ⟨g, o, none⟩ v k hk
def xx (n : Nat) (w : World) (on : Bool) (b : Nat) (t : TypeId) (cs : Array Value) : Prop := on = true → n ≤ b ∧ Row w b t cs
section
variable {n b : Nat} {w w' : World} {on : Bool} {t : TypeId} {cs : Array Value}
theorem xx.off : xx n w false b t cs := fun h => by cases h
theorem xx.new (h : n ≤ w.heap.size) : xx n (w.alloc (.cells cs t)) true w.heap.size t cs := fun _ => ⟨h, Row.new w t cs⟩
theorem xx.alloc (h : xx n w on b t cs) (o : Obj) : xx n (w.alloc o) on b t cs := fun e => ⟨(h e).1, (h e).2.alloc o⟩
theorem xx.below (h : xx n w on b t cs) (hb : Below w.heap.size w w') : xx n w' on b t cs := fun e => ⟨(h e).1, (h e).2.below hb (h e).2.lt⟩
theorem xx.bound (h : xx n w on b t cs) : on = true → b < w.heap.size := fun e => (h e).2.lt
theorem xx.row (h : xx n w true b t cs) : Row w b t cs := (h rfl).2
theorem xx.le (h : xx n w true b t cs) : n ≤ b := (h rfl).1
theorem xx.ne (h : xx n w on b t cs) : on = true → b ≠ w.heap.size := fun e => by have := (h e).2.lt; omega
theorem xx.cells (h : xx n w on b t cs) {g o : Nat} (hp : on = true → b ≠ g) (vs : List Value) : xx n (w.setCells g o vs) on b t cs := fun e => ⟨(h e).1, (fZ vs o w b (hp e)).trans (h e).2⟩
end
end Go.Proofs.YtcfobekkchhbbaaGreat.OG

namespace Go.Proofs.YtcfobekkchhbbaaGreat.EE
open Go.RowKit Go.Proofs.YtcfobekkchhbbaaGreat.KK Go.Proofs.YtcfobekkchhbbaaGreat.OG Go.Proofs.af.aK Go.Proofs.af.aV Go.Proofs.af.aW
set_option linter.unusedVariables false
set_option linter.unusedSimpArgs false
def Apt (t : Tr) (b : Nat) : Prop := (∀ ad, t.A = some ad → ad.block ≠ b) ∧ (∀ ad, t.B = some ad → ad.block ≠ b)
theorem Ro.apt {n b : Nat} {w : World} {t : Tr} (h : Ro n w t) (hb : b < n) : Apt t b := ⟨fun ad e => by have := h.na ad e; omega, fun ad e => by have := h.nb ad e; omega⟩
theorem Rw.apt {w : World} {t : Tr} (h : Rw w t) (hx : 0 < t.x.length) (hp : 0 < t.p.length) {b : Nat} (hb : w.heap.size ≤ b) : Apt t b :=
 ⟨fun ad e => by have := PR.Rd.blk h.x ad e hx; omega, fun ad e => by have := PR.Rd.blk h.p ad e hp; omega⟩
theorem Rw.cells {w : World} {t : Tr} (h : Rw w t) {b o : Nat} (ha : Apt t b) (vs : List Value) : Rw (w.setCells b o vs) t :=
 ⟨Rd.gr h.x (oh vs o w) ha.1, h.xc, Rd.gr h.p (oh vs o w) ha.2, h.pd⟩
def Bq (on o7 o8 : Bool) (N : En) (e : Es) (b7 b8 : Nat) (w : World) : Prop := on = true → e.nu = N ∧ ∀ j, j < 3 → Rw w (e.ax j) ∧ (o7 = true → Apt (e.ax j) b7) ∧ (o8 = true → Apt (e.ax j) b8)
section
variable {on o7 o8 : Bool} {N : En} {e : Es} {b7 b8 : Nat} {w w' : World}
theorem Bq.off : Bq false o7 o8 N e b7 b8 w := fun h => by cases h
theorem Bq.below (h : Bq on o7 o8 N e b7 b8 w) (hb : Below w.heap.size w w') : Bq on o7 o8 N e b7 b8 w' := fun k => ⟨(h k).1, fun j hj => ⟨((h k).2 j hj).1.below hb, ((h k).2 j hj).2⟩⟩
theorem Bq.agp (G : Gd N) (h : Bq on o7 o8 N e b7 b8 w) (o : Obj) : Bq on true o8 N e w.heap.size b8 (w.alloc o) := fun k => ⟨(h k).1, fun j hj => by
 have hj' := (h k).2 j hj; refine ⟨hj'.1.below ((Below.refl _ _).alloc (Nat.le_refl _) o), fun _ => hj'.1.apt ?_ ?_ (Nat.le_refl _), hj'.2.2⟩
 · rw [FD, (h k).1, G.lx j hj]; decide
 · rw [Ig, (h k).1, G.lp j hj]; decide⟩
theorem Bq.agn (G : Gd N) (h : Bq on o7 o8 N e b7 b8 w) (o : Obj) : Bq on o7 true N e b7 w.heap.size (w.alloc o) := fun k => ⟨(h k).1, fun j hj => by
 have hj' := (h k).2 j hj; refine ⟨hj'.1.below ((Below.refl _ _).alloc (Nat.le_refl _) o), hj'.2.1, fun _ => hj'.1.apt ?_ ?_ (Nat.le_refl _)⟩
 · rw [FD, (h k).1, G.lx j hj]; decide
 · rw [Ig, (h k).1, G.lp j hj]; decide⟩
theorem Bq.aae (h : Bq on true o8 N e b7 b8 w) (o : Nat) (vs : List Value) : Bq on true o8 N e b7 b8 (w.setCells b7 o vs) := fun k => ⟨(h k).1, fun j hj => ⟨((h k).2 j hj).1.cells (((h k).2 j hj).2.1 rfl) vs, ((h k).2 j hj).2⟩⟩
theorem Bq.aad (h : Bq on o7 true N e b7 b8 w) (o : Nat) (vs : List Value) : Bq on o7 true N e b7 b8 (w.setCells b8 o vs) := fun k => ⟨(h k).1, fun j hj => ⟨((h k).2 j hj).1.cells (((h k).2 j hj).2.2 rfl) vs, ((h k).2 j hj).2⟩⟩
theorem Bq.mk (he : e.nu = N) (hr : ∀ j, j < 3 → Ro w.heap.size w' (e.ax j)) (h7 : o7 = true → b7 < w.heap.size) (h8 : o8 = true → b8 < w.heap.size) : Bq on o7 o8 N e b7 b8 w' :=
 fun _ => ⟨he, fun j hj => ⟨(hr j hj).rw, fun k => (hr j hj).apt (h7 k), fun k => (hr j hj).apt (h8 k)⟩⟩
end
theorem xx.full {n b : Nat} {w : World} {t : TypeId} {cs : Array Value} (h : xx n w true b t cs) (D : Array Value) (hD : D.size = cs.size) : xx n (w.setCells b 0 D.toList) true b t D := fun _ => ⟨h.le, Row.full h.row D hD⟩
end Go.Proofs.YtcfobekkchhbbaaGreat.EE

namespace Go.Proofs.YtcfobekkchhbbaaGreat.EE
open Go.RowKit Go.Proofs.YtcfobekkchhbbaaGreat.KK Go.Proofs.af.aK Go.Proofs.af.aV Go.Proofs.af.aW
set_option linter.unusedVariables false
set_option linter.unusedSimpArgs false
def Ik (t : Nat → Tr) : Es := ⟨16777216, 0, 0, 0, t 0, t 1, t 2, 0, 0, 0, 0, 0, 0, false⟩
theorem Zp (t : Nat → Tr) (h : ∀ j, j < 3 → (t j).x = [0, 0, 0] ∧ (t j).p = uD) : qZ t 3 = (Ik t).R := by
 have l9 : uD.length = 9 := PR.kS _
 simp [qZ, Ik, Es.R, Es.row, h 0 (by decide), h 1 (by decide), h 2 (by decide), l9]
theorem We (t : Nat → Tr) (h : ∀ j, j < 3 → (t j).x = [0, 0, 0] ∧ (t j).p = uD) : (Ik t).nu = en0 := by
 simp [Ik, Es.nu, en0, h 0 (by decide), h 1 (by decide), h 2 (by decide)]
theorem QT : PR.dP 3 1 [0, 0, 0] 3 3 uD := by decide +kernel
theorem NC (t : Nat → Tr) : (Ik t).right = true := by rfl
def zE : Array Value := #[I 0, I 0, I 0, I 0, I 0, I 0, .slice none 0 0, I 0, I 0, .slice none 0 0, I 0, I 0, .slice none 0 0, I 0, I 0, .slice none 0 0, I 0, I 0, .slice none 0 0, I 0, I 0, .slice none 0 0, I 0, I 0, I 0, I 0, I 0, I 0, .bool false]
theorem Jl : Gd (Sl.cnt true) := Oc.ahead.cnt true
theorem uQ (w : World) : Calls Tryz.prog 8 #[] w fun x w' => x = .returned (.bool true) ∧ Below w.heap.size w w' := by
 have HC : Hid (∀ w', Calls Tryz.prog 32 #[] w' fun x w'' => x = .returned (.agg Yy.row) ∧ Below w'.heap.size w' w'') := Lib.hid (fun w' => PQ.nK.calls _ _ _ _ _ _ w' rfl)
 go_enter Tryz.func8, Tryz.ntmps8
 go_wp2_with fail
 refine (HC.out _).mono ?_
 rintro x w1 ⟨rfl, hb⟩; have B1 := Lib.hid hb; clear hb
 go_wp2_with fail
 refine (Nz Yy _ (by decide +kernel)).mono ?_
 rintro x w2 ⟨t, rfl, ht, hb⟩; rw [Zp t (fun j hj => ⟨(ht j hj).1, (ht j hj).2.1⟩)]; have HE := Lib.hid (We t (fun j hj => ⟨(ht j hj).1, (ht j hj).2.1⟩)); have HT := Lib.hid ht; have B2 := Lib.hid hb; clear ht hb; have ER := Lib.hid (NC t)
 have AX : Hid (∀ j, j < 3 → Rw w2 ((Ik t).ax j)) := Lib.hid (fun j hj => by
  obtain rfl | rfl | rfl : j = 0 ∨ j = 1 ∨ j = 2 := by omega
  all_goals exact (HT.out _ (by omega)).2.2.rw)
 have XP : Hid (∀ j, j < 3 → ((Ik t).ax j).x = [0, 0, 0] ∧ ((Ik t).ax j).p = uD) := Lib.hid (fun j hj => by
  obtain rfl | rfl | rfl : j = 0 ∨ j = 1 ∨ j = 2 := by omega
  all_goals exact ⟨(HT.out _ (by omega)).1, (HT.out _ (by omega)).2.1⟩)
 clear HT; generalize Ik t = e at HE ER AX XP ⊢; have ST : Hid ((w2.alloc (.cells #[.int .i64 0, .int .i64 0, .int .i64 0, .int .i64 0, .int .i64 0, .int .i64 0, .slice none 0 0, .int .i64 0, .int .i64 0, .slice none 0 0, .int .i64 0, .int .i64 0, .slice none 0 0, .int .i64 0, .int .i64 0, .slice none 0 0, .int .i64 0, .int .i64 0, .slice none 0 0, .int .i64 0, .int .i64 0, .slice none 0 0, .int .i64 0, .int .i64 0, .int .i64 0, .int .i64 0, .int .i64 0, .int .i64 0, .bool false] 35)).there w2.heap.size 0 e.R.size) := Lib.hid (by have h := Row.there (Row.new w2 35 #[.int .i64 0, .int .i64 0, .int .i64 0, .int .i64 0, .int .i64 0, .int .i64 0, .slice none 0 0, .int .i64 0, .int .i64 0, .slice none 0 0, .int .i64 0, .int .i64 0, .slice none 0 0, .int .i64 0, .int .i64 0, .slice none 0 0, .int .i64 0, .int .i64 0, .slice none 0 0, .int .i64 0, .int .i64 0, .slice none 0 0, .int .i64 0, .int .i64 0, .int .i64 0, .int .i64 0, .int .i64 0, .int .i64 0, .bool false]); exact h); have i37 : Hid ((Tryz.prog.info? 35).map (·.size) = some e.R.size) := Lib.hid (by kernel_rfl); have one : Hid (e.R.all (·.oneCell') = true) := Lib.hid (by kernel_rfl)
 go_upto_region 2 with (with_reducible refine wpList_store_mid rfl 35 (.tmp 1) (.tmp 8) rfl w2.heap.size 0 e.R rfl rfl ST.out i37.out one.out ?_)
 have RE : Hid (Row ((w2.alloc (.cells #[.int .i64 0, .int .i64 0, .int .i64 0, .int .i64 0, .int .i64 0, .int .i64 0, .slice none 0 0, .int .i64 0, .int .i64 0, .slice none 0 0, .int .i64 0, .int .i64 0, .slice none 0 0, .int .i64 0, .int .i64 0, .slice none 0 0, .int .i64 0, .int .i64 0, .slice none 0 0, .int .i64 0, .int .i64 0, .slice none 0 0, .int .i64 0, .int .i64 0, .int .i64 0, .int .i64 0, .int .i64 0, .int .i64 0, .bool false] 35)).setCells w2.heap.size 0 e.R.toList) w2.heap.size 35 e.R) := Lib.hid (Row.full (Row.new w2 35 #[.int .i64 0, .int .i64 0, .int .i64 0, .int .i64 0, .int .i64 0, .int .i64 0, .slice none 0 0, .int .i64 0, .int .i64 0, .slice none 0 0, .int .i64 0, .int .i64 0, .slice none 0 0, .int .i64 0, .int .i64 0, .slice none 0 0, .int .i64 0, .int .i64 0, .slice none 0 0, .int .i64 0, .int .i64 0, .slice none 0 0, .int .i64 0, .int .i64 0, .int .i64 0, .int .i64 0, .int .i64 0, .int .i64 0, .bool false]) e.R rfl); have B3 : Hid (Below w2.heap.size w2 ((w2.alloc (.cells #[.int .i64 0, .int .i64 0, .int .i64 0, .int .i64 0, .int .i64 0, .int .i64 0, .slice none 0 0, .int .i64 0, .int .i64 0, .slice none 0 0, .int .i64 0, .int .i64 0, .slice none 0 0, .int .i64 0, .int .i64 0, .slice none 0 0, .int .i64 0, .int .i64 0, .slice none 0 0, .int .i64 0, .int .i64 0, .slice none 0 0, .int .i64 0, .int .i64 0, .int .i64 0, .int .i64 0, .int .i64 0, .int .i64 0, .bool false] 35)).setCells w2.heap.size 0 e.R.toList)) := Lib.hid (KK.dI _ _ _ ((Below.refl _ _).alloc (Nat.le_refl _) _) (Nat.le_refl _)); clear ST one; generalize (w2.alloc (.cells #[.int .i64 0, .int .i64 0, .int .i64 0, .int .i64 0, .int .i64 0, .int .i64 0, .slice none 0 0, .int .i64 0, .int .i64 0, .slice none 0 0, .int .i64 0, .int .i64 0, .slice none 0 0, .int .i64 0, .int .i64 0, .slice none 0 0, .int .i64 0, .int .i64 0, .slice none 0 0, .int .i64 0, .int .i64 0, .slice none 0 0, .int .i64 0, .int .i64 0, .int .i64 0, .int .i64 0, .int .i64 0, .int .i64 0, .bool false] 35)).setCells w2.heap.size 0 e.R.toList = w3 at RE B3 ⊢; have RL := Lib.hid (Row.whole RE.out); have Ub : Hid ((Tryz.prog.info? 35).map (·.size) = some e.R.toList.length) := Lib.hid (by kernel_rfl)
 go_wp2_with (with_reducible refine OG.dY rfl 35 (.tmp 1) rfl w2.heap.size 0 rfl e.R.toList _ RL.out Tryz.underlying35 rfl Ub.out ?_)
 have RR : Hid (Calls Tryz.prog 15 #[.agg e.R] w3 fun x w' => x = .returned (.bool true) ∧ Below w3.heap.size w3 w') := Lib.hid (by
  have hw : ∀ j, j < 3 → Rw w3 (e.ax j) := fun j hj => AX.out j hj |>.below B3.out
  have hh := Qu e w3 hw (fun j hj => by rw [(XP.out j hj).1, (XP.out j hj).2]; exact ⟨rfl, PR.kS _⟩) (fun j hj => by rw [(XP.out j hj).1, (XP.out j hj).2]; exact QT); rw [ER.out] at hh; exact hh)
 refine RR.out.mono ?_
 rintro x w4 ⟨rfl, hb⟩
 have H16 : Hid (∀ (e : Es) (w : World), e.nu = en0 → (∀ j, j < 3 → Rw w (e.ax j)) → Calls Tryz.prog 22 #[.agg Yy.row, .agg e.R, .agg sm0.R] w fun x w' => ∃ e' : Es, e'.nu = Sl.cnt true ∧ x = .returned (.tuple #[.agg e'.R, .agg #[I 0, I 0, I 0]]) ∧ (∀ j, j < 3 → Ro w.heap.size w' (e'.ax j)) ∧ Below w.heap.size w w') := Lib.hid (fun e w he hr => by
  refine (Md e w he hr).mono ?_
  rintro x w' ⟨e', h1, rfl, h3⟩; exact ⟨e', h1, by rw [show (Sl.cnt true).x0 = _ from PD.1, show (Sl.cnt true).x1 = _ from PD.2.1, show (Sl.cnt true).x2 = _ from PD.2.2.1]; rfl, h3⟩)
 have B4 := Lib.hid (B3.out.trans (hb.mono B3.out.size)); have RE4 := Lib.hid (RE.out.below hb RE.out.lt); clear hb RR RE RL B3
 go_upto_region 4 with fail
 refine OG.Dk (by kernel_rfl) (fun l a w => ∃ e1 : Es, ∃ b3 : Nat, ∃ b4 : Nat, a = { tmps := List.toArray (Value.bool false :: Value.pointer (some ⟨w2.heap.size, 0, none⟩) :: I 0 :: (bif l 7 then .pointer (some ⟨b3, 0, none⟩) else undef) :: (bif l 8 then .pointer (some ⟨b4, 0, none⟩) else undef) :: Value.tuple #[Value.agg e.R, I 0] :: Value.agg Yy.row :: Value.tuple #[Value.agg e.R, I 0] :: Value.agg e.R :: I 0 :: I 0 :: Value.bool false :: Value.bool false :: Value.agg e.R :: Value.bool true :: Value.bool false :: Value.bool false :: (bif l 4 then .tuple #[.agg e1.R, .agg #[I 0, I 0, I 0]] else undef) :: (bif l 0 then .agg Yy.row else undef) :: (bif l 1 then .agg e.R else undef) :: (bif l 2 then .agg sm0.R else undef) :: (bif l 3 then .tuple #[.agg e1.R, .agg #[I 0, I 0, I 0]] else undef) :: (bif l 5 then .agg e1.R else undef) :: (bif l 6 then .agg #[I 0, I 0, I 0] else undef) :: undef :: undef :: undef :: undef :: undef :: undef :: undef :: undef :: undef :: undef :: undef :: undef :: undef :: undef :: undef :: undef :: undef :: undef :: undef :: undef :: undef :: undef :: undef :: undef :: []), defers := [] } ∧ (Below w4.heap.size w4 w) ∧ (OG.xx w4.heap.size w (l 7) b3 35 (bif l 9 then e1.R else zE)) ∧ (OG.xx w4.heap.size w (l 8) b4 53 #[I 0, I 0, I 0]) ∧ (l 7 = true → l 8 = true → b3 ≠ b4) ∧ (Bq (l 3) (l 7) (l 8) (Sl.cnt true) e1 b3 b4 w)) (by kernel_rfl) ?s0 ?ss ?se
 case s0 => exact ⟨e, 0, 0, rfl, (Below.refl _ _).drew, OG.xx.off, OG.xx.off, (fun h => by cases h), Bq.off⟩
 case ss =>
  refine OG.Steps.cons rfl (fun l a w K hK hJ hcl h0 hd => ?_) (OG.Steps.cons rfl (fun l a w K hK hJ hcl h0 hd => ?_) (OG.Steps.cons rfl (fun l a w K hK hJ hcl h0 hd => ?_) (OG.Steps.cons rfl (fun l a w K hK hJ hcl h0 hd => ?_) (OG.Steps.cons rfl (fun l a w K hK hJ hcl h0 hd => ?_) (OG.Steps.cons rfl (fun l a w K hK hJ hcl h0 hd => ?_) (OG.Steps.cons rfl (fun l a w K hK hJ hcl h0 hd => ?_) (OG.Steps.cons rfl (fun l a w K hK hJ hcl h0 hd => ?_) (OG.Steps.cons rfl (fun l a w K hK hJ hcl h0 hd => ?_) (OG.Steps.cons rfl (fun l a w K hK hJ hcl h0 hd => ?_) (OG.Steps.cons rfl (fun l a w K hK hJ hcl h0 hd => ?_) OG.Steps.nil))))))))))
  · obtain ⟨e1, b3, b4, rfl, hP0, hP1, hP2, hP3, uJ⟩ := hJ
    have HJ := Lib.hid (And.intro hP0 (And.intro hP1 (And.intro hP2 (And.intro hP3 (uJ))))); clear hP0 hP1 hP2 hP3 uJ hd hcl h0
    go_simp
    refine (HC.out _).mono ?_
    rintro x w' ⟨rfl, hb⟩; exact hK.out _ _ ⟨e1, b3, b4, (rfl), (HJ.out.1.trans (hb.mono HJ.out.1.size)), (HJ.out.2.1.below hb), (HJ.out.2.2.1.below hb), (HJ.out.2.2.2.1), (HJ.out.2.2.2.2.below hb)⟩
  · obtain ⟨e1, b3, b4, rfl, hP0, hP1, hP2, hP3, uJ⟩ := hJ
    have HJ := Lib.hid (And.intro hP0 (And.intro hP1 (And.intro hP2 (And.intro hP3 (uJ))))); clear hP0 hP1 hP2 hP3 uJ hd hcl h0; refine wp_load_mid 35 (.tmp 1) rfl w2.heap.size 0 rfl e.R.toList _ (Row.whole (RE4.out.below HJ.out.1 RE4.out.lt)) Tryz.underlying35 rfl Ub.out ?_
    exact hK.out _ _ ⟨e1, b3, b4, (rfl), (HJ.out.1), (HJ.out.2.1), (HJ.out.2.2.1), (HJ.out.2.2.2.1), (HJ.out.2.2.2.2)⟩
  · obtain ⟨e1, b3, b4, rfl, hP0, hP1, hP2, hP3, uJ⟩ := hJ
    have HJ := Lib.hid (And.intro hP0 (And.intro hP1 (And.intro hP2 (And.intro hP3 (uJ))))); clear hP0 hP1 hP2 hP3 uJ hd hcl h0
    go_simp
    exact hK.out _ _ ⟨e1, b3, b4, (rfl), (HJ.out.1), (HJ.out.2.1), (HJ.out.2.2.1), (HJ.out.2.2.2.1), (HJ.out.2.2.2.2)⟩
  · obtain ⟨e1, b3, b4, rfl, hP0, hP1, hP2, hP3, uJ⟩ := hJ
    have d0 := hd.get 0 (by rfl); have d1 := hd.get 1 (by rfl); have d2 := hd.get 2 (by rfl); have f4 := hcl.off 4 3 (by rfl) h0; have f5 := hcl.off 5 4 (by rfl) f4; have f9 := hcl.off 9 3 (by rfl) h0; have HJ := Lib.hid (And.intro hP0 (And.intro hP1 (And.intro hP2 (And.intro hP3 (uJ))))); clear hP0 hP1 hP2 hP3 uJ hd hcl h0
    go_simp
    refine (H16.out _ w HE.out (fun j hj => ((AX.out j hj).below B4.out).below HJ.out.1)).mono ?_
    rintro x w' ⟨e', hn', rfl, hr', hb⟩; exact hK.out _ _ ⟨e', b3, b4, (by simp only [OG.upd, d0, d1, d2, f4, f5, f9]; rfl), (HJ.out.1.trans (hb.mono HJ.out.1.size)), (by rw [show (OG.upd l 3) 9 = false from f9]; have h1 := HJ.out.2.1; rw [f9] at h1; exact h1.below hb), (HJ.out.2.2.1.below hb), (HJ.out.2.2.2.1), (Bq.mk hn' hr' HJ.out.2.1.bound HJ.out.2.2.1.bound)⟩
  · obtain ⟨e1, b3, b4, rfl, hP0, hP1, hP2, hP3, uJ⟩ := hJ
    have d3 := hd.get 3 (by rfl); have HJ := Lib.hid (And.intro hP0 (And.intro hP1 (And.intro hP2 (And.intro hP3 (uJ))))); clear hP0 hP1 hP2 hP3 uJ hd hcl h0
    go_simp
    exact hK.out _ _ ⟨e1, b3, b4, (by simp only [OG.upd, d3]; rfl), (HJ.out.1), (HJ.out.2.1), (HJ.out.2.2.1), (HJ.out.2.2.2.1), (HJ.out.2.2.2.2)⟩
  · obtain ⟨e1, b3, b4, rfl, hP0, hP1, hP2, hP3, uJ⟩ := hJ
    have d4 := hd.get 4 (by rfl); have HJ := Lib.hid (And.intro hP0 (And.intro hP1 (And.intro hP2 (And.intro hP3 (uJ))))); clear hP0 hP1 hP2 hP3 uJ hd hcl h0
    go_simp
    exact hK.out _ _ ⟨e1, b3, b4, (by simp only [OG.upd, d4]; rfl), (HJ.out.1), (HJ.out.2.1), (HJ.out.2.2.1), (HJ.out.2.2.2.1), (HJ.out.2.2.2.2)⟩
  · obtain ⟨e1, b3, b4, rfl, hP0, hP1, hP2, hP3, uJ⟩ := hJ
    have d4 := hd.get 4 (by rfl); have HJ := Lib.hid (And.intro hP0 (And.intro hP1 (And.intro hP2 (And.intro hP3 (uJ))))); clear hP0 hP1 hP2 hP3 uJ hd hcl h0
    go_simp
    exact hK.out _ _ ⟨e1, b3, b4, (by simp only [OG.upd, d4]; rfl), (HJ.out.1), (HJ.out.2.1), (HJ.out.2.2.1), (HJ.out.2.2.2.1), (HJ.out.2.2.2.2)⟩
  · obtain ⟨e1, b3, b4, rfl, hP0, hP1, hP2, hP3, uJ⟩ := hJ
    have f9 := hcl.off 9 7 (by rfl) h0; have HJ := Lib.hid (And.intro hP0 (And.intro hP1 (And.intro hP2 (And.intro hP3 (uJ))))); clear hP0 hP1 hP2 hP3 uJ hd hcl h0
    go_simp
    exact hK.out _ _ ⟨e1, w.heap.size, b4, (rfl), (HJ.out.1.alloc HJ.out.1.size _), (by rw [show (OG.upd l 7) 9 = false from f9]; exact OG.xx.new HJ.out.1.size), (HJ.out.2.2.1.alloc _), (fun _ e8 => Ne.symm (HJ.out.2.2.1.ne e8)), (Bq.agp Jl HJ.out.2.2.2.2 _)⟩
  · obtain ⟨e1, b3, b4, rfl, hP0, hP1, hP2, hP3, uJ⟩ := hJ
    have HJ := Lib.hid (And.intro hP0 (And.intro hP1 (And.intro hP2 (And.intro hP3 (uJ))))); clear hP0 hP1 hP2 hP3 uJ hd hcl h0
    go_simp
    exact hK.out _ _ ⟨e1, b3, w.heap.size, (rfl), (HJ.out.1.alloc HJ.out.1.size _), (HJ.out.2.1.alloc _), (OG.xx.new HJ.out.1.size), (fun e7 _ => HJ.out.2.1.ne e7), (Bq.agn Jl HJ.out.2.2.2.2 _)⟩
  · obtain ⟨e1, b3, b4, rfl, hP0, hP1, hP2, hP3, uJ⟩ := hJ
    have d5 := hd.get 5 (by rfl); have d7 := hd.get 7 (by rfl); have HJ := Lib.hid (And.intro hP0 (And.intro hP1 (And.intro hP2 (And.intro hP3 (uJ))))); clear hP0 hP1 hP2 hP3 uJ hd hcl h0; have h1 := HJ.out.2.1; have h4 := HJ.out.2.2.2.2; rw [d7] at h1 h4; refine wp_store_mid 35 (.tmp 3) (.tmp 22) rfl b3 0 e1.R (by show cond (l 7) _ _ = _; rw [d7]; rfl) (by show cond (l 5) _ _ = _; rw [d5]; rfl) (by have := Row.there h1.row; cases h9 : l 9 <;> rw [h9] at this <;> exact this) (by kernel_rfl) (by kernel_rfl) ?_
    exact hK.out _ _ ⟨e1, b3, b4, (by simp only [OG.upd, d5, d7]; rfl), (KK.dI _ _ _ HJ.out.1 h1.le), (by show OG.xx _ _ (l 7) _ _ e1.R; rw [d7]; exact xx.full h1 e1.R (by cases l 9 <;> rfl)), (HJ.out.2.2.1.cells (fun k => Ne.symm (HJ.out.2.2.2.1 d7 k)) _), (HJ.out.2.2.2.1), (by show Bq (l 3) (l 7) (l 8) _ _ _ _ _; rw [d7]; exact h4.aae _ _)⟩
  · obtain ⟨e1, b3, b4, rfl, hP0, hP1, hP2, hP3, uJ⟩ := hJ
    have d6 := hd.get 6 (by rfl); have d8 := hd.get 8 (by rfl); have HJ := Lib.hid (And.intro hP0 (And.intro hP1 (And.intro hP2 (And.intro hP3 (uJ))))); clear hP0 hP1 hP2 hP3 uJ hd hcl h0; have h2 := HJ.out.2.2.1; have h4 := HJ.out.2.2.2.2; rw [d8] at h2 h4; refine wp_store_mid 53 (.tmp 4) (.tmp 23) rfl b4 0 #[I 0, I 0, I 0] (by show cond (l 8) _ _ = _; rw [d8]; rfl) (by show cond (l 6) _ _ = _; rw [d6]; rfl) (Row.there h2.row) (by kernel_rfl) (by kernel_rfl) ?_
    exact hK.out _ _ ⟨e1, b3, b4, (by simp only [OG.upd, d6, d8]; rfl), (KK.dI _ _ _ HJ.out.1 h2.le), (HJ.out.2.1.cells (fun k => HJ.out.2.2.2.1 k d8) _), (by show OG.xx _ _ (l 8) _ _ _; rw [d8]; exact xx.full h2 #[I 0, I 0, I 0] rfl), (HJ.out.2.2.2.1), (by show Bq (l 3) (l 7) (l 8) _ _ _ _ _; rw [d8]; exact h4.aad _ _)⟩
 case se =>
  intro l a w hJ he; obtain ⟨e1, b3, b4, rfl, hP0, hP1, hP2, hP3, uJ⟩ := hJ; rw [he 0 (by decide), he 1 (by decide), he 2 (by decide), he 3 (by decide), he 4 (by decide), he 5 (by decide), he 6 (by decide), he 7 (by decide), he 8 (by decide)]; rw [he 7 (by decide), he 9 (by decide)] at hP1; rw [he 8 (by decide)] at hP2; rw [he 3 (by decide), he 7 (by decide), he 8 (by decide)] at uJ; clear he; have B5 := Lib.hid (B4.out.trans (hP0.mono B4.out.size)); have R3 : Hid (Row w b3 35 e1.R) := Lib.hid hP1.row; have R4 := Lib.hid hP2.row; have GE := Lib.hid (uJ rfl); clear hP0 hP1 hP2 hP3 uJ
  have v1 : e1.steps = 1 := (congrArg En.steps GE.out.1 : _)
  have v2 : e1.dU = 1 := (congrArg En.dU GE.out.1 : _)
  have v3 : e1.sat = false := (congrArg En.sat GE.out.1 : _).trans PD.2.2.2
  have c1 : w.cell? ⟨b3, 22, none⟩ = some (I 1) := by rw [R3.out.cell, ← v1]; rfl
  have c2 : w.cell? ⟨b3, 23, none⟩ = some (I 1) := by rw [R3.out.cell, ← v2]; rfl
  have c3 : w.cell? ⟨b3, 28, none⟩ = some (.bool false) := by rw [R3.out.cell, ← v3]; rfl
  have c4 := R4.out.cell 0; have c5 := R4.out.cell 1; have c6 := R4.out.cell 2; clear v1 v2 v3; have RL := Lib.hid (Row.whole R3.out); have Wh : Hid ((Tryz.prog.info? 35).map (·.size) = some e1.R.toList.length) := Lib.hid (by kernel_rfl); have EQ := PQ.ahs 0 0 0 0 0 0 w
  go_wp2_with (with_reducible refine OG.dY rfl 35 (.tmp 3) rfl b3 0 rfl e1.R.toList _ RL.out Tryz.underlying35 rfl Wh.out ?_)
  refine (Au e1 _ (fun j hj => (GE.out.2 j hj).1) (fun j hj => by rw [FD, Ig, GE.out.1]; exact ⟨Jl.lx j hj, Jl.lp j hj⟩)).mono ?_
  rintro x w6 ⟨A, cc, rfl, _, hb⟩; have B6 := Lib.hid (B5.out.trans (hb.mono B5.out.size)); clear hb; go_wp2
  go_ret
  exact ⟨rfl, (B1.out.trans (B2.out.mono B1.out.size)).trans (B6.out.mono (B1.out.trans (B2.out.mono B1.out.size)).size)⟩
end Go.Proofs.YtcfobekkchhbbaaGreat.EE

namespace Go.Proofs.YtcfobekkchhbbaaGreat.EE
open Go.RowKit Go.Proofs.YtcfobekkchhbbaaGreat.KK Go.Proofs.af.aK Go.Proofs.af.aV Go.Proofs.af.aW
set_option linter.unusedVariables false
set_option linter.unusedSimpArgs false
structure Tg where
 r : Int
 c : Int
 A : Option Addr
 cx : Nat
 x : List Int
 r' : Int
 c' : Int
 B : Option Addr
 cp : Nat
 p : List Int
abbrev Tg.row (t : Tg) : Array Value := #[I t.r, I t.c, .slice t.A t.x.length t.cx, I t.r', I t.c', .slice t.B t.p.length t.cp]
structure Eg where
 q0 : Int
 q1 : Int
 q2 : Int
 q3 : Int
 t0 : Tg
 t1 : Tg
 t2 : Tg
 steps : Int
 dU : Int
 f0 : Int
 f1 : Int
 f2 : Int
 f3 : Int
 sat : Bool
abbrev Eg.row (e : Eg) : Array Value :=
 #[I e.q0, I e.q1, I e.q2, I e.q3,
   I e.t0.r, I e.t0.c, .slice e.t0.A e.t0.x.length e.t0.cx, I e.t0.r', I e.t0.c', .slice e.t0.B e.t0.p.length e.t0.cp,
   I e.t1.r, I e.t1.c, .slice e.t1.A e.t1.x.length e.t1.cx, I e.t1.r', I e.t1.c', .slice e.t1.B e.t1.p.length e.t1.cp,
   I e.t2.r, I e.t2.c, .slice e.t2.A e.t2.x.length e.t2.cx, I e.t2.r', I e.t2.c', .slice e.t2.B e.t2.p.length e.t2.cp,
   I e.steps, I e.dU, I e.f0, I e.f1, I e.f2, I e.f3, .bool e.sat]
def Eg.R (e : Eg) : Array Value := e.row
def Eg.t (e : Eg) : Nat → Tg
 | 0 => e.t0
 | 1 => e.t1
 | _ => e.t2
structure xR (w : World) (t : Tg) : Prop where
 x : Rd w t.A t.x
 xc : t.x.length ≤ t.cx
 p : Rd w t.B t.p
 pd : t.p.length ≤ t.cp
theorem xR.below {w w' : World} {t : Tg} (h : xR w t) (hb : Below w.heap.size w w') : xR w' t := ⟨h.x.below hb, h.xc, h.p.below hb, h.pd⟩
def Tg.ok (t : Tg) : Bool := decide (PR.dP t.r t.c t.x t.r' t.c' t.p) && decide (t.r = 3)
def Eg.FC (e : Eg) : Nat → Int
 | 0 => e.f0
 | 1 => e.f1
 | 2 => e.f2
 | _ => e.f3
def Eg.n0 (e : Eg) : Bool := ((decide (e.steps < 0) || decide (e.steps > 1099511627776)) || decide (e.dU < 0)) || decide (e.dU > 1000)
def Eg.o4 (e : Eg) : Bool := !fO e.f0 && (!fO e.f1 && (!fO e.f2 && !fO e.f3))
def Eg.t3 (e : Eg) : Bool := e.t0.ok && (e.t1.ok && e.t2.ok)
def Eg.ok (e : Eg) : Bool := !e.n0 && (e.o4 && (e.t3 && PQ.fC (PQ.at4 e.q0 e.q1 e.q2 e.q3) 4))
theorem jv (t : Tg) (w : World) (h : xR w t) : Calls Tryz.prog 35 #[.agg t.row] w fun e w' => e = .returned (.bool (decide (PR.dP t.r t.c t.x t.r' t.c' t.p))) ∧ Below w.heap.size w w' := by
 obtain ⟨k, hk⟩ := (PR.Ia t.r t.c t.x t.r' t.c' t.p).rounds; exact PQ.aJ.calls k t.r t.c t.A t.cx t.x t.r' t.c' t.B t.cp t.p _ w h.x h.xc h.p h.pd hk
theorem Zi (l : List Int) (i k : Nat) (hi : i < l.length) (hl : l.length ≤ 1000) : PQ.bM.l0 (k + 1) l i = if oC (l.getD i 0) = true then some false else PQ.bM.l0 k l ((i + 1 : Nat) : Int) := by
 have h1 : (i : Int) < (l.length : Int) := by omega
 have h2 : wrap64 ((i : Int) + 1) = ((i + 1 : Nat) : Int) := by unfold wrap64; omega
 rw [PQ.bM.l0, if_pos h1, if_pos (by omega), h2]
 have e : rd l (i : Int) = l.getD i 0 := by simp [rd]
 rw [e]
 unfold oC
 generalize l.getD i 0 = q
 by_cases a : q < 1
 · rw [if_pos a, if_pos (by simp; omega)]
 · rw [if_neg a]
   by_cases b : q > 17179869184
   · rw [if_pos b, if_pos (by simp; omega)]
   · rw [if_neg b, if_neg (by simp; omega)]
theorem abv (c : Cf) : PQ.bM.f 7 c.dt c.acc c.bias c.jC c.nV c.gate = some c.may := by
 unfold PQ.bM.f
 have s : ∀ (i k : Nat), i < 6 → PQ.bM.l0 (k + 1) [c.dt, c.acc, c.bias, c.jC, c.nV, c.gate] i = if oC ([c.dt, c.acc, c.bias, c.jC, c.nV, c.gate].getD i 0) = true then some false else PQ.bM.l0 k [c.dt, c.acc, c.bias, c.jC, c.nV, c.gate] ((i + 1 : Nat) : Int) := fun i k hi => Zi _ i k (by simpa using hi) (by simp)
 have e6 : PQ.bM.l0 (0 + 1) [c.dt, c.acc, c.bias, c.jC, c.nV, c.gate] ((6 : Nat) : Int) = some true := by rw [PQ.bM.l0, if_neg (by simp)]
 have h := s 0 6 (by omega); rw [s 1 5 (by omega), s 2 4 (by omega), s 3 3 (by omega), s 4 2 (by omega), s 5 1 (by omega), e6] at h; refine h.trans ?_
 simp only [Cf.may, Cf.l, List.any_cons, List.any_nil, List.getD_cons_zero, List.getD_cons_succ]; generalize oC c.dt = a, oC c.acc = b, oC c.bias = d, oC c.jC = e, oC c.nV = f, oC c.gate = g
 revert a b d e f g
 decide
theorem sS (c : Cf) (w : World) : Calls Tryz.prog 13 #[.agg c.row] w fun x w' => x = .returned (.bool c.may) ∧ Below w.heap.size w w' :=
 PQ.bM.calls 7 c.dt c.acc c.bias c.jC c.nV c.gate _ w (abv c)
theorem iC (q : Int) : fO q = (decide (q < 0) || decide (q > 1000)) := rfl
theorem sU (e : Eg) (w : World) (hr : ∀ j, j < 3 → xR w (e.t j)) : Calls Tryz.prog 11 #[.agg e.R] w fun x w' => x = .returned (.bool e.ok) ∧ Below w.heap.size w w' := by
 have HR := Lib.hid hr; have L : Hid (aY w [(35, e.R)] (w.alloc (.cells e.R 35))) := Lib.hid ((aY.none w).push (by simp) _ _); clear hr
 go_enter Tryz.func11, Tryz.ntmps11
 go_upto_region 1 with fail
 generalize (w.alloc (.cells e.R 35)) = w1 at L ⊢; have hc : ∀ i, w1.cell? ⟨w.heap.size, i, none⟩ = e.row[i]? := L.out.r0.cell
 cases n1 : decide (e.steps < 0)
 case true =>
  have N0 : Hid (e.n0 = true) := Lib.hid (by simp [Eg.n0, n1]); go_wp2
  go_ret
  exact ⟨by simp only [Eg.ok, N0.out]; rfl, L.out.be⟩
 cases n2 : decide (e.steps > 1099511627776)
 case true =>
  have N0 : Hid (e.n0 = true) := Lib.hid (by simp [Eg.n0, n2]); go_wp2
  go_ret
  exact ⟨by simp only [Eg.ok, N0.out]; rfl, L.out.be⟩
 cases n3 : decide (e.dU < 0)
 case true =>
  have N0 : Hid (e.n0 = true) := Lib.hid (by simp [Eg.n0, n3]); go_wp2
  go_ret
  exact ⟨by simp only [Eg.ok, N0.out]; rfl, L.out.be⟩
 cases n4 : decide (e.dU > 1000)
 case true =>
  have N0 : Hid (e.n0 = true) := Lib.hid (by simp [Eg.n0, n4]); go_wp2
  go_ret
  exact ⟨by simp only [Eg.ok, N0.out]; rfl, L.out.be⟩
 have N0 : Hid (e.n0 = false) := Lib.hid (by simp only [Eg.n0, n1, n2, n3, n4]; rfl); go_wp2
 clear n1 n2 n3 n4
 go_loop [3] (fun i => ∃ k : Nat, k ≤ 4 ∧ i = .int .i64 k ∧ Hid (∀ j, j < k → fO (e.FC j) = false)) (fun i => 4 - (intOf i).toNat)
 case atStart => exact ⟨0, by omega, rfl, Lib.hid (fun j hj => by omega)⟩
 case round =>
  obtain ⟨k, hk, rfl, F⟩ := hrel
  obtain rfl | h4 : k = 4 ∨ k < 4 := by omega
  · have O4 : Hid (e.o4 = true) := Lib.hid (by
     have h0 := F.out 0 (by decide); have h1 := F.out 1 (by decide); have h2 := F.out 2 (by decide); have h3 := F.out 3 (by decide); simp only [Eg.FC] at h0 h1 h2 h3
     simp [Eg.o4, h0, h1, h2, h3])
    clear F hc hk; go_wp2
    go_loopw [4, 5] (fun i x wl => ∃ k : Nat, k ≤ 3 ∧ i = .int .i64 k ∧ Hid (∀ j, j < k → (e.t j).ok = true) ∧ Hid (aY w [(35, e.R)] wl)) (fun i _ _ => 3 - (intOf i).toNat)
    case atStart => exact ⟨0, by omega, rfl, Lib.hid (fun j hj => by omega), L⟩
    case round =>
     clear L; obtain ⟨k, hk, rfl, F, L⟩ := hrel
     obtain rfl | h3 : k = 3 ∨ k < 3 := by omega
     · have T3 : Hid (e.t3 = true) := Lib.hid (by
        have h0 := F.out 0 (by decide); have h1 := F.out 1 (by decide); have h2 := F.out 2 (by decide); simp only [Eg.t] at h0 h1 h2
        simp [Eg.t3, h0, h1, h2])
       clear F hk; have hc : ∀ i, wr.cell? ⟨w.heap.size, i, none⟩ = e.row[i]? := L.out.r0.cell
       go_wp2_with fail
       refine (PQ.uV e.q0 e.q1 e.q2 e.q3 _).mono ?_
       rintro x w5 ⟨rfl, hb⟩; have L5 := Lib.hid (L.out.below hb); clear hb hc L; go_wp2
       go_ret
       exact ⟨by simp only [Eg.ok, N0.out, O4.out, T3.out]; rfl, L5.out.be⟩
     · have RA := Lib.hid (xR.below (HR.out k h3) L.out.be)
       have hc : ∀ i, wr.cell? ⟨w.heap.size, i, none⟩ = e.row[i]? := L.out.r0.cell
       obtain rfl | rfl | rfl : k = 0 ∨ k = 1 ∨ k = 2 := by omega
       · cases ht : decide (PR.dP (e.t 0).r (e.t 0).c (e.t 0).x (e.t 0).r' (e.t 0).c' (e.t 0).p)
         case false =>
          have T3 : Hid (e.t3 = false) := Lib.hid (by
           have : (e.t 0).ok = false := by simp only [Tg.ok, ht]; rfl
           simp only [Eg.t] at this
           simp [Eg.t3, this])
          go_wp2_with fail
          refine (jv (e.t 0) _ RA.out).mono ?_
          rintro x w5 ⟨rfl, hb⟩; have L5 := Lib.hid (L.out.below hb); rw [ht]; clear hb hc L ht; have hc : ∀ i, w5.cell? ⟨w.heap.size, i, none⟩ = e.row[i]? := L5.out.r0.cell; go_wp2
          go_ret
          exact ⟨by simp only [Eg.ok, N0.out, O4.out, T3.out]; rfl, L5.out.be⟩
         have HT := Lib.hid ht
         go_wp2_with fail
         refine (jv (e.t 0) _ RA.out).mono ?_
         rintro x w5 ⟨rfl, hb⟩; have L5 := Lib.hid (L.out.below hb); rw [ht]; clear hb hc L ht; have hc : ∀ i, w5.cell? ⟨w.heap.size, i, none⟩ = e.row[i]? := L5.out.r0.cell
         cases h5 : ((e.t 0).r == 3)
         · have h6 : ((e.t 0).r != 3) = true := by rw [bne, h5]; rfl
           have T3 : Hid (e.t3 = false) := Lib.hid (by
            have h7 : (e.t 0).r ≠ 3 := by simpa using h5
            have : (e.t 0).ok = false := by simp [Tg.ok, h7]
            simp only [Eg.t] at this
            simp [Eg.t3, this])
           simp only [Eg.t] at h5 h6; go_wp2
           go_ret
           exact ⟨by simp only [Eg.ok, N0.out, O4.out, T3.out]; rfl, L5.out.be⟩
         · have h6 : ((e.t 0).r != 3) = false := by rw [bne, h5]; rfl
           have TK : Hid ((e.t 0).ok = true) := Lib.hid (by
            have h7 : (e.t 0).r = 3 := by simpa using h5
            simp only [Tg.ok, HT.out, Bool.true_and]; exact decide_eq_true h7)
           simp only [Eg.t] at h5 h6
           have FN : Hid (∀ j, j < 0 + 1 → (e.t j).ok = true) := Lib.hid (fun j hj => by
            rcases Nat.lt_or_ge j 0 with h | h
            · exact F.out j h
            · obtain rfl : j = 0 := by omega
              exact TK.out)
           clear F HT TK; go_wp2
           go_roundw
           case rel => exact ⟨0 + 1, by omega, by go_num, FN, L5⟩
           case measure => simp [intOf]
       · cases ht : decide (PR.dP (e.t 1).r (e.t 1).c (e.t 1).x (e.t 1).r' (e.t 1).c' (e.t 1).p)
         case false =>
          have T3 : Hid (e.t3 = false) := Lib.hid (by
           have : (e.t 1).ok = false := by simp only [Tg.ok, ht]; rfl
           simp only [Eg.t] at this
           simp [Eg.t3, this])
          go_wp2_with fail
          refine (jv (e.t 1) _ RA.out).mono ?_
          rintro x w5 ⟨rfl, hb⟩; have L5 := Lib.hid (L.out.below hb); rw [ht]; clear hb hc L ht; have hc : ∀ i, w5.cell? ⟨w.heap.size, i, none⟩ = e.row[i]? := L5.out.r0.cell; go_wp2
          go_ret
          exact ⟨by simp only [Eg.ok, N0.out, O4.out, T3.out]; rfl, L5.out.be⟩
         have HT := Lib.hid ht
         go_wp2_with fail
         refine (jv (e.t 1) _ RA.out).mono ?_
         rintro x w5 ⟨rfl, hb⟩; have L5 := Lib.hid (L.out.below hb); rw [ht]; clear hb hc L ht; have hc : ∀ i, w5.cell? ⟨w.heap.size, i, none⟩ = e.row[i]? := L5.out.r0.cell
         cases h5 : ((e.t 1).r == 3)
         · have h6 : ((e.t 1).r != 3) = true := by rw [bne, h5]; rfl
           have T3 : Hid (e.t3 = false) := Lib.hid (by
            have h7 : (e.t 1).r ≠ 3 := by simpa using h5
            have : (e.t 1).ok = false := by simp [Tg.ok, h7]
            simp only [Eg.t] at this
            simp [Eg.t3, this])
           simp only [Eg.t] at h5 h6; go_wp2
           go_ret
           exact ⟨by simp only [Eg.ok, N0.out, O4.out, T3.out]; rfl, L5.out.be⟩
         · have h6 : ((e.t 1).r != 3) = false := by rw [bne, h5]; rfl
           have TK : Hid ((e.t 1).ok = true) := Lib.hid (by
            have h7 : (e.t 1).r = 3 := by simpa using h5
            simp only [Tg.ok, HT.out, Bool.true_and]; exact decide_eq_true h7)
           simp only [Eg.t] at h5 h6
           have FN : Hid (∀ j, j < 1 + 1 → (e.t j).ok = true) := Lib.hid (fun j hj => by
            rcases Nat.lt_or_ge j 1 with h | h
            · exact F.out j h
            · obtain rfl : j = 1 := by omega
              exact TK.out)
           clear F HT TK; go_wp2
           go_roundw
           case rel => exact ⟨1 + 1, by omega, by go_num, FN, L5⟩
           case measure => simp [intOf]
       · cases ht : decide (PR.dP (e.t 2).r (e.t 2).c (e.t 2).x (e.t 2).r' (e.t 2).c' (e.t 2).p)
         case false =>
          have T3 : Hid (e.t3 = false) := Lib.hid (by
           have : (e.t 2).ok = false := by simp only [Tg.ok, ht]; rfl
           simp only [Eg.t] at this
           simp [Eg.t3, this])
          go_wp2_with fail
          refine (jv (e.t 2) _ RA.out).mono ?_
          rintro x w5 ⟨rfl, hb⟩; have L5 := Lib.hid (L.out.below hb); rw [ht]; clear hb hc L ht; have hc : ∀ i, w5.cell? ⟨w.heap.size, i, none⟩ = e.row[i]? := L5.out.r0.cell; go_wp2
          go_ret
          exact ⟨by simp only [Eg.ok, N0.out, O4.out, T3.out]; rfl, L5.out.be⟩
         have HT := Lib.hid ht
         go_wp2_with fail
         refine (jv (e.t 2) _ RA.out).mono ?_
         rintro x w5 ⟨rfl, hb⟩; have L5 := Lib.hid (L.out.below hb); rw [ht]; clear hb hc L ht; have hc : ∀ i, w5.cell? ⟨w.heap.size, i, none⟩ = e.row[i]? := L5.out.r0.cell
         cases h5 : ((e.t 2).r == 3)
         · have h6 : ((e.t 2).r != 3) = true := by rw [bne, h5]; rfl
           have T3 : Hid (e.t3 = false) := Lib.hid (by
            have h7 : (e.t 2).r ≠ 3 := by simpa using h5
            have : (e.t 2).ok = false := by simp [Tg.ok, h7]
            simp only [Eg.t] at this
            simp [Eg.t3, this])
           simp only [Eg.t] at h5 h6; go_wp2
           go_ret
           exact ⟨by simp only [Eg.ok, N0.out, O4.out, T3.out]; rfl, L5.out.be⟩
         · have h6 : ((e.t 2).r != 3) = false := by rw [bne, h5]; rfl
           have TK : Hid ((e.t 2).ok = true) := Lib.hid (by
            have h7 : (e.t 2).r = 3 := by simpa using h5
            simp only [Tg.ok, HT.out, Bool.true_and]; exact decide_eq_true h7)
           simp only [Eg.t] at h5 h6
           have FN : Hid (∀ j, j < 2 + 1 → (e.t j).ok = true) := Lib.hid (fun j hj => by
            rcases Nat.lt_or_ge j 2 with h | h
            · exact F.out j h
            · obtain rfl : j = 2 := by omega
              exact TK.out)
           clear F HT TK; go_wp2
           go_roundw
           case rel => exact ⟨2 + 1, by omega, by go_num, FN, L5⟩
           case measure => simp [intOf]
  · have hc' : ∀ i, w1.cell? ⟨w.heap.size, i, none⟩ = e.row[i]? := hc
    obtain rfl | rfl | rfl | rfl : k = 0 ∨ k = 1 ∨ k = 2 ∨ k = 3 := by omega
    · cases h1 : decide (e.f0 < 0)
      case true =>
       have O4 : Hid (e.o4 = false) := Lib.hid (by simp [Eg.o4, iC, h1]); go_wp2
       go_ret
       exact ⟨by simp only [Eg.ok, N0.out, O4.out]; rfl, L.out.be⟩
      cases h2 : decide (e.f0 > 1000)
      case true =>
       have O4 : Hid (e.o4 = false) := Lib.hid (by simp [Eg.o4, iC, h2]); go_wp2
       go_ret
       exact ⟨by simp only [Eg.ok, N0.out, O4.out]; rfl, L.out.be⟩
      have FN : Hid (∀ j, j < 0 + 1 → fO (e.FC j) = false) := Lib.hid (fun j hj => by
       rcases Nat.lt_or_ge j 0 with h | h
       · exact F.out j h
       · obtain rfl : j = 0 := by omega
         simp only [Eg.FC, iC, h1, h2]; rfl)
      clear F; go_wp2
      go_round
      case rel => exact ⟨0 + 1, by omega, by go_num, FN⟩
      case measure => simp [intOf]
    · cases h1 : decide (e.f1 < 0)
      case true =>
       have O4 : Hid (e.o4 = false) := Lib.hid (by simp [Eg.o4, iC, h1]); go_wp2
       go_ret
       exact ⟨by simp only [Eg.ok, N0.out, O4.out]; rfl, L.out.be⟩
      cases h2 : decide (e.f1 > 1000)
      case true =>
       have O4 : Hid (e.o4 = false) := Lib.hid (by simp [Eg.o4, iC, h2]); go_wp2
       go_ret
       exact ⟨by simp only [Eg.ok, N0.out, O4.out]; rfl, L.out.be⟩
      have FN : Hid (∀ j, j < 1 + 1 → fO (e.FC j) = false) := Lib.hid (fun j hj => by
       rcases Nat.lt_or_ge j 1 with h | h
       · exact F.out j h
       · obtain rfl : j = 1 := by omega
         simp only [Eg.FC, iC, h1, h2]; rfl)
      clear F; go_wp2
      go_round
      case rel => exact ⟨1 + 1, by omega, by go_num, FN⟩
      case measure => simp [intOf]
    · cases h1 : decide (e.f2 < 0)
      case true =>
       have O4 : Hid (e.o4 = false) := Lib.hid (by simp [Eg.o4, iC, h1]); go_wp2
       go_ret
       exact ⟨by simp only [Eg.ok, N0.out, O4.out]; rfl, L.out.be⟩
      cases h2 : decide (e.f2 > 1000)
      case true =>
       have O4 : Hid (e.o4 = false) := Lib.hid (by simp [Eg.o4, iC, h2]); go_wp2
       go_ret
       exact ⟨by simp only [Eg.ok, N0.out, O4.out]; rfl, L.out.be⟩
      have FN : Hid (∀ j, j < 2 + 1 → fO (e.FC j) = false) := Lib.hid (fun j hj => by
       rcases Nat.lt_or_ge j 2 with h | h
       · exact F.out j h
       · obtain rfl : j = 2 := by omega
         simp only [Eg.FC, iC, h1, h2]; rfl)
      clear F; go_wp2
      go_round
      case rel => exact ⟨2 + 1, by omega, by go_num, FN⟩
      case measure => simp [intOf]
    · cases h1 : decide (e.f3 < 0)
      case true =>
       have O4 : Hid (e.o4 = false) := Lib.hid (by simp [Eg.o4, iC, h1]); go_wp2
       go_ret
       exact ⟨by simp only [Eg.ok, N0.out, O4.out]; rfl, L.out.be⟩
      cases h2 : decide (e.f3 > 1000)
      case true =>
       have O4 : Hid (e.o4 = false) := Lib.hid (by simp [Eg.o4, iC, h2]); go_wp2
       go_ret
       exact ⟨by simp only [Eg.ok, N0.out, O4.out]; rfl, L.out.be⟩
      have FN : Hid (∀ j, j < 3 + 1 → fO (e.FC j) = false) := Lib.hid (fun j hj => by
       rcases Nat.lt_or_ge j 3 with h | h
       · exact F.out j h
       · obtain rfl : j = 3 := by omega
         simp only [Eg.FC, iC, h1, h2]; rfl)
      clear F; go_wp2
      go_round
      case rel => exact ⟨3 + 1, by omega, by go_num, FN⟩
      case measure => simp [intOf]
end Go.Proofs.YtcfobekkchhbbaaGreat.EE

namespace Go.Proofs.YtcfobekkchhbbaaGreat.EE
open Go.RowKit Go.Proofs.YtcfobekkchhbbaaGreat.KK Go.Proofs.af.aK Go.Proofs.af.aV Go.Proofs.af.aW
set_option linter.unusedVariables false
set_option linter.unusedSimpArgs false
theorem VD (w : World) (z y D E : Array Value) (t u : TypeId) (hD : D.size = z.size) (hE : E.size = y.size) :
 Row ((((w.alloc (.cells z t)).alloc (.cells y u)).setCells w.heap.size 0 D.toList).setCells (w.heap.size + 1) 0 E.toList) w.heap.size t D ∧
 Row ((((w.alloc (.cells z t)).alloc (.cells y u)).setCells w.heap.size 0 D.toList).setCells (w.heap.size + 1) 0 E.toList) (w.heap.size + 1) u E ∧
 Below w.heap.size w ((((w.alloc (.cells z t)).alloc (.cells y u)).setCells w.heap.size 0 D.toList).setCells (w.heap.size + 1) 0 E.toList) := by
 have r1 := (Row.new w t z).alloc (.cells y u); have r2 := Row.new (w.alloc (.cells z t)) u y; rw [World.size_alloc] at r2; have s1 := Row.full r1 D hD; have s2 : Row (((w.alloc (.cells z t)).alloc (.cells y u)).setCells w.heap.size 0 D.toList) (w.heap.size + 1) u y := (OG.fZ _ _ _ _ (by omega)).trans r2; refine ⟨(OG.fZ _ _ _ _ (by omega)).trans s1, Row.full s2 E hE, ?_⟩
 exact KK.dI _ _ _ (KK.dI _ _ _ (((Below.refl _ _).alloc (Nat.le_refl _) _).alloc (by simp) _) (Nat.le_refl _)) (by omega)
theorem Qh (w : World) (z y D E : Array Value) (t u : TypeId) (hD : D.size = z.size) (hE : E.size = y.size) :
 ((w.alloc (.cells z t)).alloc (.cells y u)).there w.heap.size 0 D.size ∧ (((w.alloc (.cells z t)).alloc (.cells y u)).setCells w.heap.size 0 D.toList).there (w.heap.size + 1) 0 E.size := by
 have r1 := Row.there ((Row.new w t z).alloc (.cells y u)); have r2 := Row.new (w.alloc (.cells z t)) u y; rw [World.size_alloc] at r2; have r3 : Row (((w.alloc (.cells z t)).alloc (.cells y u)).setCells w.heap.size 0 D.toList) (w.heap.size + 1) u y := (OG.fZ _ _ _ _ (by omega)).trans r2; rw [hD, hE]; exact ⟨r1, Row.there r3⟩
theorem VZ {c : Cf} (h : c.may = true) : 0 < c.jC ∧ 0 < c.nV ∧ 0 < c.dt := by
 have h2 : ∀ q ∈ c.l, oC q = false := by
  simp only [Cf.may, Bool.not_eq_true', List.any_eq_false] at h; intro q hq
  simpa using h q hq
 have p : ∀ q, oC q = false → 0 < q := fun q hq => by
  unfold oC at hq
  simp at hq
  omega
 exact ⟨p _ (h2 _ (by simp [Cf.l])), p _ (h2 _ (by simp [Cf.l])), p _ (h2 _ (by simp [Cf.l]))⟩
theorem zD {r c r' c' : Int} {x p : List Int} (h : PR.dP r c x r' c' p) (h3 : r = 3) : c = 1 ∧ r' = 3 ∧ c' = 3 ∧ x.length = 3 ∧ p.length = 9 := by
 obtain ⟨h1, h2, rfl, rfl, rfl, _⟩ := h; subst h3; have l1 := (PR.iV h1).2.2.2.2.1; have l2 := (PR.iV h2).2.2.2.2.1; exact ⟨rfl, rfl, rfl, by simpa using l1, by simpa using l2⟩
theorem Eg.good {e : Eg} {w : World} (h : e.ok = true) (hr : ∀ j, j < 3 → xR w (e.t j)) : ∃ s : Es, s.R = e.R ∧ (∀ j, j < 3 → Rw w (s.ax j)) ∧ Gd s.nu ∧ (∀ j, j < 3 → PR.dP 3 1 (s.ax j).x 3 3 (s.ax j).p) ∧ PQ.fC (PQ.at4 s.q0 s.q1 s.q2 s.q3) 4 = true ∧ s.nu = ⟨e.q0, e.q1, e.q2, e.q3, e.t0.x, e.t0.p, e.t1.x, e.t1.p, e.t2.x, e.t2.p, e.steps, e.dU, e.f0, e.f1, e.f2, e.f3, e.sat⟩ := by
 obtain ⟨q0, q1, q2, q3, ⟨r0, c0, A0, d0, x0, r0', c0', B0, e0, p0⟩, ⟨r1, c1, A1, d1, x1, r1', c1', B1, e1, p1⟩, ⟨r2, c2, A2, d2, x2, r2', c2', B2, e2, p2⟩, steps, dU, f0, f1, f2, f3, sat⟩ := e; simp only [Eg.ok, Eg.t3, Tg.ok, Eg.o4, Eg.n0, Bool.and_eq_true, Bool.not_eq_true', Bool.or_eq_false_iff, decide_eq_true_eq, decide_eq_false_iff_not] at h; obtain ⟨hn, ⟨o0, o1, o2, o3⟩, ⟨⟨t0, k0⟩, ⟨t1, k1⟩, ⟨t2, k2⟩⟩, hq⟩ := h; obtain ⟨rfl, rfl, rfl, lx0, lp0⟩ := zD t0 k0; obtain ⟨rfl, rfl, rfl, lx1, lp1⟩ := zD t1 k1; obtain ⟨rfl, rfl, rfl, lx2, lp2⟩ := zD t2 k2; subst k0 k1 k2
 have bo : ∀ q, fO q = false → 0 ≤ q ∧ q ≤ 1000 := fun q hq => by
  unfold fO at hq
  simp at hq
  omega
 refine ⟨⟨q0, q1, q2, q3, ⟨A0, d0, x0, B0, e0, p0⟩, ⟨A1, d1, x1, B1, e1, p1⟩, ⟨A2, d2, x2, B2, e2, p2⟩, steps, dU, f0, f1, f2, f3, sat⟩, rfl, fun j hj => ?_, ⟨fun j hj => ?_, fun j hj => ?_, by show 0 ≤ steps; omega, by show steps ≤ 1099511627776; omega, by show 0 ≤ dU; omega, by show dU ≤ 1000; omega, fun k hk => ?_, fun k hk => ?_⟩, fun j hj => ?_, hq, rfl⟩
 · obtain rfl | rfl | rfl : j = 0 ∨ j = 1 ∨ j = 2 := by omega
   · exact ⟨(hr 0 (by decide)).x, (hr 0 (by decide)).xc, (hr 0 (by decide)).p, (hr 0 (by decide)).pd⟩
   · exact ⟨(hr 1 (by decide)).x, (hr 1 (by decide)).xc, (hr 1 (by decide)).p, (hr 1 (by decide)).pd⟩
   · exact ⟨(hr 2 (by decide)).x, (hr 2 (by decide)).xc, (hr 2 (by decide)).p, (hr 2 (by decide)).pd⟩
 · obtain rfl | rfl | rfl : j = 0 ∨ j = 1 ∨ j = 2 := by omega
   · exact lx0
   · exact lx1
   · exact lx2
 · obtain rfl | rfl | rfl : j = 0 ∨ j = 1 ∨ j = 2 := by omega
   · exact lp0
   · exact lp1
   · exact lp2
 · obtain rfl | rfl | rfl | rfl : k = 0 ∨ k = 1 ∨ k = 2 ∨ k = 3 := by omega
   · exact (bo _ o0).1
   · exact (bo _ o1).1
   · exact (bo _ o2).1
   · exact (bo _ o3).1
 · obtain rfl | rfl | rfl | rfl : k = 0 ∨ k = 1 ∨ k = 2 ∨ k = 3 := by omega
   · exact (bo _ o0).2
   · exact (bo _ o1).2
   · exact (bo _ o2).2
   · exact (bo _ o3).2
 · obtain rfl | rfl | rfl : j = 0 ∨ j = 1 ∨ j = 2 := by omega
   · exact t0
   · exact t1
   · exact t2
theorem Yj (xs : Array Value) (k : Nat) (x : Int) (h : xs[k]? = some (.int .i64 x)) (w : World) : (part 3 xs k).run Tryz.prog w = .ok (.int .i64 x) w := by
 simp [part, go_sem, h]
theorem qG (a e : Int) (xs ys : Array Value) (k : Nat) (hx : xs[k]? = some (.int .i64 a)) (hy : ys[k]? = some (.int .i64 e)) (ks : List Nat) (r : Bool) (w : World)
 (h : (Op.eqItems 9999 3 1 xs ys ks).run Tryz.prog w = .ok r w) : (Op.eqItems 9999 3 1 xs ys (k :: ks)).run Tryz.prog w = .ok ((a == e) && r) w := by
 have p1 := Yj xs (k * 1) a (by simpa using hx) w; have p2 := Yj ys (k * 1) e (by simpa using hy) w; have p3 := run_equalIn_int w (P := Tryz.prog) 9998 3 .i64 .i64 a e rfl; simp only [Op.eqItems, Sem.run_bind, p1, p2, p3, Result.andThen_ok]
 cases hr : (a == e)
 · simp
 · simpa using h
theorem UD (a b c d e f g h : Int) (w : World) :
 (Op.equalIn 10000 33 (.agg #[.int .i64 a, .int .i64 b, .int .i64 c, .int .i64 d]) (.agg #[.int .i64 e, .int .i64 f, .int .i64 g, .int .i64 h])).run Tryz.prog w = .ok ((a == e) && ((b == f) && ((c == g) && ((d == h) && true)))) w := by
 rw [run_equalIn_array (P := Tryz.prog) (w := w) 9999 (e := 3) (n := 4) (i := _) _ _ rfl rfl]; exact qG _ _ _ _ 0 rfl rfl _ _ w (qG _ _ _ _ 1 rfl rfl _ _ w (qG _ _ _ _ 2 rfl rfl _ _ w (qG _ _ _ _ 3 rfl rfl _ _ w (by simp [Op.eqItems]))))
end Go.Proofs.YtcfobekkchhbbaaGreat.EE

namespace Go.Proofs.YtcfobekkchhbbaaGreat.PR
open Go.RowKit Go.Proofs.YtcfobekkchhbbaaGreat.PQ Go.Proofs.af.aK Go.Proofs.af.aV Go.Proofs.af.aW Go.Proofs.YtcfobekkchhbbaaGreat.KK
set_option linter.unusedVariables false
set_option linter.unusedSimpArgs false
theorem Ff (r c r2 c2 r' c' r2' c2' : Int) (x l x' l' : List Int) (hx : x.length ≤ 1000000) (hl : l.length ≤ 1000000) :
 Ev (fun k => jg.f k r c x r2 c2 l r' c' x' r2' c2' l') (decide ((r = r' ∧ c = c' ∧ x = x') ∧ (r2 = r2' ∧ c2 = c2' ∧ l = l'))) := by
 unfold jg.f
 by_cases h1 : r = r' ∧ c = c' ∧ x = x'
 · have e1 := Hz r c r' c' x x' hx
   rw [decide_eq_true h1] at e1; refine Ev.bind e1 ?_
   simp only [if_true]; have e2 := Hz r2 c2 r2' c2' l l' hl; refine Ev.bind e2 ?_
   have e : decide ((r = r' ∧ c = c' ∧ x = x') ∧ (r2 = r2' ∧ c2 = c2' ∧ l = l')) = decide (r2 = r2' ∧ c2 = c2' ∧ l = l') := by simp [h1]
   rw [e]; exact Ev.now _
 · have e1 := Hz r c r' c' x x' hx
   rw [decide_eq_false h1] at e1; refine Ev.bind e1 ?_
   rw [decide_eq_false (fun h => h1 h.1)]; exact Ev.now _
end Go.Proofs.YtcfobekkchhbbaaGreat.PR
namespace Go.Proofs.YtcfobekkchhbbaaGreat.EE
open Go.RowKit Go.Proofs.YtcfobekkchhbbaaGreat.KK Go.Proofs.af.aK Go.Proofs.af.aV Go.Proofs.af.aW
set_option linter.unusedVariables false
set_option linter.unusedSimpArgs false
def Tg.same (a b : Tg) : Bool := decide ((a.r = b.r ∧ a.c = b.c ∧ a.x = b.x) ∧ (a.r' = b.r' ∧ a.c' = b.c' ∧ a.p = b.p))
theorem BH (a b : Tg) (w : World) (ha : xR w a) (hb : xR w b) (hx : a.x.length ≤ 1000000) (hl : a.p.length ≤ 1000000) : Calls Tryz.prog 38 #[.agg a.row, .agg b.row] w fun e w' => e = .returned (.bool (a.same b)) ∧ Below w.heap.size w w' := by
 obtain ⟨k, hk⟩ := (PR.Ff a.r a.c a.r' a.c' b.r b.c b.r' b.c' a.x a.p b.x b.p hx hl).rounds; exact PQ.jg.calls k a.r a.c a.A a.cx a.x a.r' a.c' a.B a.cp a.p b.r b.c b.A b.cx b.x b.r' b.c' b.B b.cp b.p _ w ha.x ha.xc ha.p ha.pd hb.x hb.xc hb.p hb.pd hk
def Eg.qs (a b : Eg) : Bool := (a.q0 == b.q0) && ((a.q1 == b.q1) && ((a.q2 == b.q2) && ((a.q3 == b.q3) && true)))
def Eg.os (a b : Eg) : Bool := (a.f0 == b.f0) && ((a.f1 == b.f1) && ((a.f2 == b.f2) && ((a.f3 == b.f3) && true)))
def Eg.ts (a b : Eg) : Bool := a.t0.same b.t0 && (a.t1.same b.t1 && a.t2.same b.t2)
def Eg.same (a b : Eg) : Bool := a.ts b && (a.qs b && ((a.steps == b.steps) && ((a.dU == b.dU) && (a.os b && (a.sat == b.sat)))))
theorem Fj (a b : Eg) (w : World) (ha : ∀ j, j < 3 → xR w (a.t j)) (hb : ∀ j, j < 3 → xR w (b.t j)) (hl : ∀ j, j < 3 → (a.t j).x.length ≤ 1000000 ∧ (a.t j).p.length ≤ 1000000) : Calls Tryz.prog 14 #[.agg a.R, .agg b.R] w fun x w' => x = .returned (.bool (a.same b)) ∧ Below w.heap.size w w' := by
 have T : Hid (∀ j, j < 3 → ∀ w', Below w.heap.size w w' → Calls Tryz.prog 38 #[.agg (a.t j).row, .agg (b.t j).row] w' fun e w'' => e = .returned (.bool ((a.t j).same (b.t j))) ∧ Below w'.heap.size w' w'') := Lib.hid (fun j hj w' h => BH _ _ w' ((ha j hj).below h) ((hb j hj).below h) (hl j hj).1 (hl j hj).2); have L : Hid (aY w [(35, a.R), (35, b.R)] ((w.alloc (.cells a.R 35)).alloc (.cells b.R 35))) := Lib.hid (((aY.none w).push (by simp) _ _).push (by simp) _ _); clear ha hb hl
 go_enter Tryz.func14, Tryz.ntmps14
 go_upto_region 1 with fail
 generalize (w.alloc (.cells a.R 35)).alloc (.cells b.R 35) = w1 at L ⊢; have hc : ∀ i, w1.cell? ⟨w.heap.size, i, none⟩ = a.row[i]? := L.out.r0.cell; have hd : ∀ i, w1.cell? ⟨w.heap.size + 1, i, none⟩ = b.row[i]? := L.out.r1.cell
 go_cut [5] (fun v5 wc => v5 = .bool (a.ts b) ∧ Hid (aY w [(35, a.R), (35, b.R)] wc))
 case first =>
  go_wp2_with fail
  refine (T.out 0 (by decide) _ L.out.be).mono ?_
  rintro x w2 ⟨rfl, hb⟩; have L2 := Lib.hid (L.out.below hb); clear hb hc hd L; have hc : ∀ i, w2.cell? ⟨w.heap.size, i, none⟩ = a.row[i]? := L2.out.r0.cell; have hd : ∀ i, w2.cell? ⟨w.heap.size + 1, i, none⟩ = b.row[i]? := L2.out.r1.cell; simp only [Eg.t]
  cases h0 : a.t0.same b.t0
  case false =>
   have E : Hid (a.ts b = false) := Lib.hid (by simp [Eg.ts, h0]); clear h0; go_wp2
   go_meet
   exact ⟨by rw [E.out], L2⟩
  go_wp2_with fail
  refine (T.out 1 (by decide) _ L2.out.be).mono ?_
  rintro x w3 ⟨rfl, hb⟩; have L3 := Lib.hid (L2.out.below hb); clear hb hc hd L2; have hc : ∀ i, w3.cell? ⟨w.heap.size, i, none⟩ = a.row[i]? := L3.out.r0.cell; have hd : ∀ i, w3.cell? ⟨w.heap.size + 1, i, none⟩ = b.row[i]? := L3.out.r1.cell; simp only [Eg.t]
  cases h1 : a.t1.same b.t1
  case false =>
   have E : Hid (a.ts b = false) := Lib.hid (by simp [Eg.ts, h1]); clear h0 h1; go_wp2
   go_meet
   exact ⟨by rw [E.out], L3⟩
  go_wp2_with fail
  refine (T.out 2 (by decide) _ L3.out.be).mono ?_
  rintro x w4 ⟨rfl, hb⟩; have L4 := Lib.hid (L3.out.below hb); have E : Hid (a.ts b = a.t2.same b.t2) := Lib.hid (by simp [Eg.ts, h0, h1]); clear hb hc hd L3 h0 h1; simp only [Eg.t]; go_wp2
  go_meet
  exact ⟨by rw [E.out], L4⟩
 case rest =>
  clear L hc hd; obtain ⟨rfl, L⟩ := hcut; have hc : ∀ i, wc.cell? ⟨w.heap.size, i, none⟩ = a.row[i]? := L.out.r0.cell; have hd : ∀ i, wc.cell? ⟨w.heap.size + 1, i, none⟩ = b.row[i]? := L.out.r1.cell; have E1 : (Op.equalIn 10000 26 (.agg #[.int .i64 a.q0, .int .i64 a.q1, .int .i64 a.q2, .int .i64 a.q3]) (.agg #[.int .i64 b.q0, .int .i64 b.q1, .int .i64 b.q2, .int .i64 b.q3])).run Tryz.prog wc = .ok (a.qs b) wc := PQ.ZY a.q0 a.q1 a.q2 a.q3 b.q0 b.q1 b.q2 b.q3 wc; have E2 : (Op.equalIn 10000 33 (.agg #[.int .i64 a.f0, .int .i64 a.f1, .int .i64 a.f2, .int .i64 a.f3]) (.agg #[.int .i64 b.f0, .int .i64 b.f1, .int .i64 b.f2, .int .i64 b.f3])).run Tryz.prog wc = .ok (a.os b) wc := UD a.f0 a.f1 a.f2 a.f3 b.f0 b.f1 b.f2 b.f3 wc
  cases h1 : a.ts b
  case false =>
   have F : Hid (a.same b = false) := Lib.hid (by simp only [Eg.same, h1]; simp); go_wp2
   go_ret
   exact ⟨by rw [F.out]; rfl, L.out.be⟩
  cases h2 : a.qs b
  case false =>
   have F : Hid (a.same b = false) := Lib.hid (by simp only [Eg.same, h1, h2]; simp); rw [h2] at E1; go_wp2
   go_ret
   exact ⟨by rw [F.out]; rfl, L.out.be⟩
  cases h3 : (a.steps == b.steps)
  case false =>
   have F : Hid (a.same b = false) := Lib.hid (by simp only [Eg.same, h1, h2, h3]; simp); rw [h2] at E1; go_wp2
   go_ret
   exact ⟨by rw [F.out]; rfl, L.out.be⟩
  cases h4 : (a.dU == b.dU)
  case false =>
   have F : Hid (a.same b = false) := Lib.hid (by simp only [Eg.same, h1, h2, h3, h4]; simp); rw [h2] at E1; go_wp2
   go_ret
   exact ⟨by rw [F.out]; rfl, L.out.be⟩
  cases h5 : a.os b
  case false =>
   have F : Hid (a.same b = false) := Lib.hid (by simp only [Eg.same, h1, h2, h3, h4, h5]; simp); rw [h2] at E1; rw [h5] at E2; go_wp2
   go_ret
   exact ⟨by rw [F.out]; rfl, L.out.be⟩
  have F : Hid (a.same b = (a.sat == b.sat)) := Lib.hid (by simp only [Eg.same, h1, h2, h3, h4, h5]; simp); rw [h2] at E1; rw [h5] at E2; go_wp2
  go_ret
  exact ⟨by rw [F.out]; rfl, L.out.be⟩
end Go.Proofs.YtcfobekkchhbbaaGreat.EE

namespace Go.Proofs.YtcfobekkchhbbaaGreat.EE
open Go.RowKit Go.Proofs.YtcfobekkchhbbaaGreat.KK Go.Proofs.af.aK Go.Proofs.af.aV Go.Proofs.af.aW
set_option linter.unusedVariables false
set_option linter.unusedSimpArgs false
theorem FB (a b : Tg) (w : World) (ha : xR w a) (hb : xR w b) (hx : a.x.length ≤ 1000000) (hl : a.p.length ≤ 1000000) : Calls Tryz.prog 43 #[.agg a.row, .agg b.row] w fun e w' => e = .returned (.bool (a.same b)) ∧ Below w.heap.size w w' := by
 obtain ⟨k1, hk1⟩ := (PR.qF a.r a.c b.r b.c a.x b.x hx).rounds; obtain ⟨k2, hk2⟩ := (PR.qF a.r' a.c' b.r' b.c' a.p b.p hl).rounds; have L : Hid (aY w [(31, a.row), (31, b.row)] ((w.alloc (.cells a.row 31)).alloc (.cells b.row 31))) := Lib.hid (((aY.none w).push (by simp) _ _).push (by simp) _ _)
 have M1 : Hid (∀ w', Below w.heap.size w w' → Calls Tryz.prog 81 #[.agg #[I a.r, I a.c, .slice a.A a.x.length a.cx], .agg #[I b.r, I b.c, .slice b.A b.x.length b.cx]] w' fun e w'' => e = .returned (.bool (decide (a.r = b.r ∧ a.c = b.c ∧ a.x = b.x))) ∧ Below w'.heap.size w' w'') :=
  Lib.hid (fun w' h => PQ.gB.calls k1 a.r a.c a.A a.cx a.x b.r b.c b.A b.cx b.x _ w' (ha.x.below h) ha.xc (hb.x.below h) hb.xc hk1)
 have M2 : Hid (∀ w', Below w.heap.size w w' → Calls Tryz.prog 81 #[.agg #[I a.r', I a.c', .slice a.B a.p.length a.cp], .agg #[I b.r', I b.c', .slice b.B b.p.length b.cp]] w' fun e w'' => e = .returned (.bool (decide (a.r' = b.r' ∧ a.c' = b.c' ∧ a.p = b.p))) ∧ Below w'.heap.size w' w'') :=
  Lib.hid (fun w' h => PQ.gB.calls k2 a.r' a.c' a.B a.cp a.p b.r' b.c' b.B b.cp b.p _ w' (ha.p.below h) ha.pd (hb.p.below h) hb.pd hk2)
 have S : Hid (a.same b = (decide (a.r = b.r ∧ a.c = b.c ∧ a.x = b.x) && decide (a.r' = b.r' ∧ a.c' = b.c' ∧ a.p = b.p))) := Lib.hid (by unfold Tg.same; rw [Bool.decide_and]); clear ha hb hx hl hk1 hk2
 go_enter Tryz.func43, Tryz.ntmps43
 go_upto_region 1 with fail
 generalize (w.alloc (.cells a.row 31)).alloc (.cells b.row 31) = w1 at L ⊢; have hc : ∀ i, w1.cell? ⟨w.heap.size, i, none⟩ = a.row[i]? := L.out.r0.cell; have hd : ∀ i, w1.cell? ⟨w.heap.size + 1, i, none⟩ = b.row[i]? := L.out.r1.cell
 go_wp2_with fail
 refine (M1.out _ L.out.be).mono ?_
 rintro x w2 ⟨rfl, hb⟩; have L2 := Lib.hid (L.out.below hb); clear hb hc hd L M1; generalize decide (a.r = b.r ∧ a.c = b.c ∧ a.x = b.x) = s1 at S ⊢; have hc : ∀ i, w2.cell? ⟨w.heap.size, i, none⟩ = a.row[i]? := L2.out.r0.cell; have hd : ∀ i, w2.cell? ⟨w.heap.size + 1, i, none⟩ = b.row[i]? := L2.out.r1.cell
 cases s1
 · go_wp2
   exact bodyPost_ret (results_tmp rfl _ _ _) rfl ⟨by rw [S.out]; rfl, L2.out.be⟩
 go_wp2_with fail
 refine (M2.out _ L2.out.be).mono ?_
 rintro x w3 ⟨rfl, hb⟩; have L3 := Lib.hid (L2.out.below hb); clear hb hc hd L2 M2; generalize decide (a.r' = b.r' ∧ a.c' = b.c' ∧ a.p = b.p) = s2 at S ⊢; go_wp2
 exact bodyPost_ret (results_tmp rfl _ _ _) rfl ⟨by rw [S.out]; rfl, L3.out.be⟩
theorem DI (a b : Eg) (k : Nat) (hk : k < 3) (h : (a.t k).same (b.t k) = false) : a.same b = false := by
 have e : a.ts b = false := by
  unfold Eg.ts
  obtain rfl | rfl | rfl : k = 0 ∨ k = 1 ∨ k = 2 := by omega
  · rw [show a.t0.same b.t0 = false from h]; rfl
  · rw [show a.t1.same b.t1 = false from h]; cases a.t0.same b.t0 <;> rfl
  · rw [show a.t2.same b.t2 = false from h]; cases a.t0.same b.t0 <;> cases a.t1.same b.t1 <;> rfl
 unfold Eg.same
 rw [e]; rfl
theorem FI (a b : Eg) (w : World) (ha : ∀ j, j < 3 → xR w (a.t j)) (hb : ∀ j, j < 3 → xR w (b.t j)) (hl : ∀ j, j < 3 → (a.t j).x.length ≤ 1000000 ∧ (a.t j).p.length ≤ 1000000) : Calls Tryz.prog 16 #[.agg a.R, .agg b.R] w fun x w' => x = .returned (.bool (a.same b)) ∧ Below w.heap.size w w' := by
 have T : Hid (∀ j, j < 3 → ∀ w', Below w.heap.size w w' → Calls Tryz.prog 43 #[.agg (a.t j).row, .agg (b.t j).row] w' fun e w'' => e = .returned (.bool ((a.t j).same (b.t j))) ∧ Below w'.heap.size w' w'') := Lib.hid (fun j hj w' h => FB _ _ w' ((ha j hj).below h) ((hb j hj).below h) (hl j hj).1 (hl j hj).2); have L : Hid (aY w [(35, a.R), (35, b.R)] ((w.alloc (.cells a.R 35)).alloc (.cells b.R 35))) := Lib.hid (((aY.none w).push (by simp) _ _).push (by simp) _ _); have KK : Hid (∀ w', aY w [(35, a.R), (35, b.R)] w' → (∀ o, w'.cell? ⟨w.heap.size, o, none⟩ = a.row[o]?) ∧ (∀ o, w'.cell? ⟨w.heap.size + 1, o, none⟩ = b.row[o]?)) := Lib.hid (fun w' h => ⟨h.r0.cell, h.r1.cell⟩); clear ha hb hl
 go_enter Tryz.func16, Tryz.ntmps16
 go_upto_region 1 with fail
 generalize (w.alloc (.cells a.R 35)).alloc (.cells b.R 35) = w1 at L ⊢
 go_wp2_with fail
 go_loopw [6] (fun i wl => ∃ k : Nat, k ≤ 3 ∧ i = .int .i64 k ∧ Hid (aY w [(35, a.R), (35, b.R)] wl) ∧ Hid (∀ j, j < k → (a.t j).same (b.t j) = true)) (fun i _ => 3 - (intOf i).toNat)
 case atStart => exact ⟨0, by omega, rfl, L, Lib.hid (fun j hj => by omega)⟩
 case round =>
  clear L; obtain ⟨k, hk, rfl, L, FT⟩ := hrel; have hc : ∀ i, wr.cell? ⟨w.heap.size, i, none⟩ = a.row[i]? := L.out.r0.cell; have hd : ∀ i, wr.cell? ⟨w.heap.size + 1, i, none⟩ = b.row[i]? := L.out.r1.cell
  obtain rfl | rfl | rfl | rfl : k = 3 ∨ k = 0 ∨ k = 1 ∨ k = 2 := by omega
  · have h1 : a.ts b = true := by unfold Eg.ts; rw [show a.t0.same b.t0 = true from FT.out 0 (by decide), show a.t1.same b.t1 = true from FT.out 1 (by decide), show a.t2.same b.t2 = true from FT.out 2 (by decide)]; rfl
    clear FT T; have E1 : (Op.equalIn 10000 26 (.agg #[.int .i64 a.q0, .int .i64 a.q1, .int .i64 a.q2, .int .i64 a.q3]) (.agg #[.int .i64 b.q0, .int .i64 b.q1, .int .i64 b.q2, .int .i64 b.q3])).run Tryz.prog wr = .ok (a.qs b) wr := PQ.ZY a.q0 a.q1 a.q2 a.q3 b.q0 b.q1 b.q2 b.q3 wr; have E2 : (Op.equalIn 10000 33 (.agg #[.int .i64 a.f0, .int .i64 a.f1, .int .i64 a.f2, .int .i64 a.f3]) (.agg #[.int .i64 b.f0, .int .i64 b.f1, .int .i64 b.f2, .int .i64 b.f3])).run Tryz.prog wr = .ok (a.os b) wr := UD a.f0 a.f1 a.f2 a.f3 b.f0 b.f1 b.f2 b.f3 wr
    cases h2 : a.qs b
    case false =>
     have F : Hid (a.same b = false) := Lib.hid (by simp only [Eg.same, h1, h2]; simp); rw [h2] at E1; go_wp2
     go_ret
     exact ⟨by rw [F.out]; rfl, L.out.be⟩
    cases h3 : (a.steps == b.steps)
    case false =>
     have F : Hid (a.same b = false) := Lib.hid (by simp only [Eg.same, h1, h2, h3]; simp); rw [h2] at E1; go_wp2
     go_ret
     exact ⟨by rw [F.out]; rfl, L.out.be⟩
    cases h4 : (a.dU == b.dU)
    case false =>
     have F : Hid (a.same b = false) := Lib.hid (by simp only [Eg.same, h1, h2, h3, h4]; simp); rw [h2] at E1; go_wp2
     go_ret
     exact ⟨by rw [F.out]; rfl, L.out.be⟩
    cases h5 : a.os b
    case false =>
     have F : Hid (a.same b = false) := Lib.hid (by simp only [Eg.same, h1, h2, h3, h4, h5]; simp); rw [h2] at E1; rw [h5] at E2; go_wp2
     go_ret
     exact ⟨by rw [F.out]; rfl, L.out.be⟩
    have F : Hid (a.same b = (a.sat == b.sat)) := Lib.hid (by simp only [Eg.same, h1, h2, h3, h4, h5]; simp); rw [h2] at E1; rw [h5] at E2; go_wp2
    go_ret
    exact ⟨by rw [F.out]; rfl, L.out.be⟩
  · clear hc hd
    go_wp2_with fail
    go_region_held3 (fun w' => (∀ o, w'.cell? ⟨w.heap.size, o, none⟩ = a.row[o]?) ∧ (∀ o, w'.cell? ⟨w.heap.size + 1, o, none⟩ = b.row[o]?))
     (first | with_reducible exact KK.out _ L5.out | with_reducible exact KK.out _ L.out.drew | with_reducible exact KK.out _ L.out)
     (first | (go_at_call 43
               refine (T.out 0 (by decide) _ L.out.drew.be).mono ?_
               rintro x w5 ⟨rfl, hb⟩; have L5 := Lib.hid (L.out.drew.below hb)
               clear hb))
    cases h1 : (a.t 0).same (b.t 0)
    case false =>
     have F : Hid (a.same b = false) := Lib.hid (DI a b 0 (by decide) h1); clear h1; go_wp2
     exact bodyPost_ret (results_tmp rfl _ _ _) rfl ⟨by rw [F.out]; rfl, L5.out.be⟩
    have P6 : Hid (∀ j, j < 0 + 1 → (a.t j).same (b.t j) = true) := Lib.hid (fun j hj => by
     obtain rfl | h : j = 0 ∨ j < 0 := by omega
     · exact h1
     · exact FT.out j h)
    clear h1 FT; go_wp2
    go_roundw
    case rel => exact ⟨0 + 1, by omega, by go_num, L5, P6⟩
    case measure => simp [intOf]
  · clear hc hd
    go_wp2_with fail
    go_region_held3 (fun w' => (∀ o, w'.cell? ⟨w.heap.size, o, none⟩ = a.row[o]?) ∧ (∀ o, w'.cell? ⟨w.heap.size + 1, o, none⟩ = b.row[o]?))
     (first | with_reducible exact KK.out _ L5.out | with_reducible exact KK.out _ L.out.drew | with_reducible exact KK.out _ L.out)
     (first | (go_at_call 43
               refine (T.out 1 (by decide) _ L.out.drew.be).mono ?_
               rintro x w5 ⟨rfl, hb⟩; have L5 := Lib.hid (L.out.drew.below hb)
               clear hb))
    cases h1 : (a.t 1).same (b.t 1)
    case false =>
     have F : Hid (a.same b = false) := Lib.hid (DI a b 1 (by decide) h1); clear h1; go_wp2
     exact bodyPost_ret (results_tmp rfl _ _ _) rfl ⟨by rw [F.out]; rfl, L5.out.be⟩
    have P6 : Hid (∀ j, j < 1 + 1 → (a.t j).same (b.t j) = true) := Lib.hid (fun j hj => by
     obtain rfl | h : j = 1 ∨ j < 1 := by omega
     · exact h1
     · exact FT.out j h)
    clear h1 FT; go_wp2
    go_roundw
    case rel => exact ⟨1 + 1, by omega, by go_num, L5, P6⟩
    case measure => simp [intOf]
  · clear hc hd
    go_wp2_with fail
    go_region_held3 (fun w' => (∀ o, w'.cell? ⟨w.heap.size, o, none⟩ = a.row[o]?) ∧ (∀ o, w'.cell? ⟨w.heap.size + 1, o, none⟩ = b.row[o]?))
     (first | with_reducible exact KK.out _ L5.out | with_reducible exact KK.out _ L.out.drew | with_reducible exact KK.out _ L.out)
     (first | (go_at_call 43
               refine (T.out 2 (by decide) _ L.out.drew.be).mono ?_
               rintro x w5 ⟨rfl, hb⟩; have L5 := Lib.hid (L.out.drew.below hb)
               clear hb))
    cases h1 : (a.t 2).same (b.t 2)
    case false =>
     have F : Hid (a.same b = false) := Lib.hid (DI a b 2 (by decide) h1); clear h1; go_wp2
     exact bodyPost_ret (results_tmp rfl _ _ _) rfl ⟨by rw [F.out]; rfl, L5.out.be⟩
    have P6 : Hid (∀ j, j < 2 + 1 → (a.t j).same (b.t j) = true) := Lib.hid (fun j hj => by
     obtain rfl | h : j = 2 ∨ j < 2 := by omega
     · exact h1
     · exact FT.out j h)
    clear h1 FT; go_wp2
    go_roundw
    case rel => exact ⟨2 + 1, by omega, by go_num, L5, P6⟩
    case measure => simp [intOf]
end Go.Proofs.YtcfobekkchhbbaaGreat.EE

namespace Go.Proofs.YtcfobekkchhbbaaGreat.EE
open Go.RowKit Go.Proofs.YtcfobekkchhbbaaGreat.KK Go.Proofs.af.aK Go.Proofs.af.aV Go.Proofs.af.aW
set_option linter.unusedVariables false
set_option linter.unusedSimpArgs false
def Es.fV (s : Es) : Eg := ⟨s.q0, s.q1, s.q2, s.q3, ⟨3, 1, s.t0.A, s.t0.c, s.t0.x, 3, 3, s.t0.B, s.t0.d, s.t0.p⟩, ⟨3, 1, s.t1.A, s.t1.c, s.t1.x, 3, 3, s.t1.B, s.t1.d, s.t1.p⟩, ⟨3, 1, s.t2.A, s.t2.c, s.t2.x, 3, 3, s.t2.B, s.t2.d, s.t2.p⟩, s.steps, s.dU, s.f0, s.f1, s.f2, s.f3, s.sat⟩
theorem C_ {s : Es} {w : World} (h : ∀ j, j < 3 → Rw w (s.ax j)) : ∀ j, j < 3 → xR w (s.fV.t j) := fun j hj => by
 obtain rfl | rfl | rfl : j = 0 ∨ j = 1 ∨ j = 2 := by omega
 · exact ⟨(h 0 hj).x, (h 0 hj).xc, (h 0 hj).p, (h 0 hj).pd⟩
 · exact ⟨(h 1 hj).x, (h 1 hj).xc, (h 1 hj).p, (h 1 hj).pd⟩
 · exact ⟨(h 2 hj).x, (h 2 hj).xc, (h 2 hj).p, (h 2 hj).pd⟩
end Go.Proofs.YtcfobekkchhbbaaGreat.EE

namespace Go.Proofs.YtcfobekkchhbbaaGreat.OG
open Go Go.RowKit Go.Proofs.YtcfobekkchhbbaaGreat.KK
section
variable {P : Program} {ops : Array Oper} {Q : Exit → Act → World → Prop}
theorem Steps.opt {J : (Nat → Bool) → Act → World → Prop} {k : Nat} {o : Oper} {r : List Oper} {gi dst : Nat} {gb : Bool} (b : Bool) (hg : o.guard = some (gi, gb)) (hd : (ops[gi]?).bind (·.dst) = some dst)
 (hv : ∀ l a w, J l a w → deps o l → a.tmps[dst]? = some (.bool (b == gb)))
 (h : ∀ l a w (K : Act → World → Prop), Hid (∀ a' w', J (upd l k) a' w' → K a' w') → J l a w → Closed ops l → l k = false → deps o l → (b = true → o.wp P a w K Q) ∧ (b = false → K (a.put o.dst undef) w)) (hr : Steps P ops Q J (k + 1) r) : Steps P ops Q J k (o :: r) :=
 ⟨fun l a w hJ hc hl hdp => by
   have h1 := hv l a w hJ hdp; have h2 := h l a w _ (Lib.hid fun _ _ h => h) hJ hc hl hdp
   cases b
   · exact .inr ⟨by cases gb <;> simp [Region.wanted, hg, yielded, hd, h1], h2.2 rfl⟩
   · exact .inl ⟨by cases gb <;> simp [Region.wanted, hg, yielded, hd, h1], h2.1 rfl⟩, hr⟩
end
end Go.Proofs.YtcfobekkchhbbaaGreat.OG

namespace Go.Proofs.YtcfobekkchhbbaaGreat.PR
open Go.RowKit Go.Proofs.YtcfobekkchhbbaaGreat.PQ Go.Proofs.af.aK Go.Proofs.af.aV Go.Proofs.af.aW Go.Proofs.YtcfobekkchhbbaaGreat.KK
set_option linter.unusedVariables false
set_option linter.unusedSimpArgs false
theorem Dv (r c : Int) (A : Option Addr) (cp : Nat) (x : List Int) (r' c' : Int) (B : Option Addr) (cp' : Nat) (l : List Int) (w0 : World) (hA : Rd w0 A x) (hB : Rd w0 B l) (kB : l.length ≤ cp') :
 Calls Tryz.prog 39 #[.agg #[I r, I c, .slice A x.length cp, I r', I c', .slice B l.length cp']] w0 fun e w' => e = .returned (.bool (decide (dP r c x r' c' l))) ∧ Below w0.heap.size w0 w' := by
 have NB := Lib.hid (KK.Row.new w0 31 #[I r, I c, .slice A x.length cp, I r', I c', .slice B l.length cp']); have B0 := Lib.hid ((Below.refl w0.heap.size w0).alloc (Nat.le_refl _) (.cells #[I r, I c, .slice A x.length cp, I r', I c', .slice B l.length cp'] 31)); have HA := Lib.hid hA; have HB := Lib.hid hB; have KB := Lib.hid kB; clear hA hB kB
 obtain ⟨g1, hg1⟩ : ∃ b, ig r c x = b := ⟨_, rfl⟩
 obtain ⟨g2, hg2⟩ : ∃ b, (g1 && ig r' c' l) = b := ⟨_, rfl⟩
 obtain ⟨g3, hg3⟩ : ∃ b, (g2 && (c == 1)) = b := ⟨_, rfl⟩
 obtain ⟨g4, hg4⟩ : ∃ b, (g3 && (r' == r)) = b := ⟨_, rfl⟩
 obtain ⟨g5, hg5⟩ : ∃ b, (g4 && (c' == r)) = b := ⟨_, rfl⟩
 obtain ⟨L, hLL⟩ : ∃ L, yB r.toNat r.toNat l = L := ⟨_, rfl⟩
 obtain ⟨g6, ZE⟩ : ∃ b, (g5 && decide (l = L)) = b := ⟨_, rfl⟩
 go_enter Tryz.func39, Tryz.ntmps39
 go_upto_region 1 with fail
 generalize w0.alloc (.cells #[I r, I c, .slice A x.length cp, I r', I c', .slice B l.length cp'] 31) = w1 at NB B0 ⊢; have hx : ∀ i, w1.cell? ⟨w0.heap.size, i, none⟩ = #[I r, I c, .slice A x.length cp, I r', I c', .slice B l.length cp'][i]? := NB.out.cell
 have acO : Hid (∀ w', Below w1.heap.size w1 w' → Calls Tryz.prog 80 #[.agg #[I r, I c, .slice A x.length cp]] w' fun e w'' => e = .returned (.bool g1) ∧ Below w'.heap.size w' w'') := Lib.hid (fun w' h => by
  have hh := jG r c A cp x w' (HA.out.below (B0.out.trans (h.mono B0.out.size))); rw [hg1] at hh; exact hh)
 have acN : Hid (g1 = true → ∀ w', Below w1.heap.size w1 w' → Calls Tryz.prog 80 #[.agg #[I r', I c', .slice B l.length cp']] w' fun e w'' => e = .returned (.bool g2) ∧ Below w'.heap.size w' w'') := Lib.hid (fun hg w' h => by
  have hh := jG r' c' B cp' l w' (HB.out.below (B0.out.trans (h.mono B0.out.size))); rw [show ig r' c' l = g2 by rw [← hg2, hg, Bool.true_and]] at hh; exact hh)
 have E3 : Hid (g2 = true → (c != 1) = !g3) := Lib.hid (fun hg => by rw [← hg3, hg, Bool.true_and]; rfl); have E4 : Hid (g3 = true → (r' != r) = !g4) := Lib.hid (fun hg => by rw [← hg4, hg, Bool.true_and]; rfl); have E5 : Hid (g4 = true → (c' != r) = !g5) := Lib.hid (fun hg => by rw [← hg5, hg, Bool.true_and]; rfl); have F2 : Hid (g1 = false → g2 = false) := Lib.hid (fun hg => by rw [← hg2, hg]; rfl); have F3 : Hid (g2 = false → g3 = false) := Lib.hid (fun hg => by rw [← hg3, hg]; rfl); have F4 : Hid (g3 = false → g4 = false) := Lib.hid (fun hg => by rw [← hg4, hg]; rfl); have F5 : Hid (g4 = false → g5 = false) := Lib.hid (fun hg => by rw [← hg5, hg]; rfl); have F6 : Hid (g5 = false → g6 = false) := Lib.hid (fun hg => by rw [← ZE, hg]; rfl)
 have G5 : Hid (g5 = true → g1 = true ∧ g2 = true ∧ ig r c x = true ∧ ig r' c' l = true ∧ c = 1 ∧ r' = r ∧ c' = r) := Lib.hid (fun hg => by
  have a5 := hg5; rw [hg, Bool.and_eq_true, beq_iff_eq] at a5; have a4 := hg4; rw [a5.1, Bool.and_eq_true, beq_iff_eq] at a4; have a3 := hg3; rw [a4.1, Bool.and_eq_true, beq_iff_eq] at a3; have a2 := hg2; rw [a3.1, Bool.and_eq_true] at a2; exact ⟨a2.1, a3.1, hg1.trans a2.1, a2.2, a3.2, a4.2, a5.2⟩)
 have SH : Hid (g5 = true → ∃ n : Nat, r = n ∧ c = 1 ∧ r' = n ∧ c' = n ∧ 1 ≤ n ∧ n ≤ 8 ∧ l.length = n * n) := Lib.hid (fun hg => by
  obtain ⟨_, _, p1, p2, rfl, rfl, rfl⟩ := G5.out hg; obtain ⟨a1, a2, _, _, _, _⟩ := iV p1; obtain ⟨_, _, _, _, b5, _⟩ := iV p2; exact ⟨c'.toNat, by omega, rfl, by omega, by omega, by omega, by omega, b5⟩)
 have T77 : Hid (g5 = true → ∀ w', Below w1.heap.size w1 w' → Calls Tryz.prog 82 #[.agg #[I r', I c', .slice B l.length cp']] w' fun e w'' => ∃ Q dq, e = .returned (.agg #[I r', I c', .slice Q l.length dq]) ∧ (Rd w'' Q L ∧ l.length ≤ dq) ∧ Below w'.heap.size w' w'') := Lib.hid (fun hg w' h => by
  obtain ⟨n, hr, hc, hr', hc', h1, h8, hl⟩ := SH.out hg; have hh := l7 n n B cp' l w' h8 h8 hl (HB.out.below (B0.out.trans (h.mono B0.out.size))); rw [hr', hc']; refine hh.mono ?_
  rintro e w'' ⟨v, rfl, ho, hb⟩
  have hL : yB n n l = L := by rw [← hLL, hr]; rfl
  have hlen : (yB n n l).length = l.length := by rw [pO, hl]
  obtain ⟨Q, dq, rfl, _, _⟩ := Own.reads ho; have hr := Own.rd ho; rw [hlen] at hr ⊢; rw [hL] at hr; exact ⟨Q, dq, rfl, hr, hb⟩)
 have T76 : Hid (g5 = true → ∀ w' Q dq, Below w1.heap.size w1 w' → Rd w' Q L → l.length ≤ dq → Calls Tryz.prog 81 #[.agg #[I r', I c', .slice B l.length cp'], .agg #[I r', I c', .slice Q l.length dq]] w' fun e w'' => e = .returned (.bool g6) ∧ Below w'.heap.size w' w'') := Lib.hid (fun hg w' Q dq h hq hd => by
  obtain ⟨n, hr, hc, hr', hc', h1, h8, hl⟩ := SH.out hg; have n64 := sq8 h8
  have hlen : L.length = l.length := by rw [← hLL, pO, hr, hl]; rfl
  have e1 := qF r' c' r' c' l L (by omega)
  have e2 : decide (r' = r' ∧ c' = c' ∧ l = L) = g6 := by
   rw [← ZE, hg, Bool.true_and]
   by_cases h : l = L <;> simp [h]
  rw [e2] at e1; obtain ⟨k, hk⟩ := e1.rounds; have hh := gB.calls k r' c' B cp' l r' c' Q dq L _ w' (HB.out.below (B0.out.trans (h.mono B0.out.size))) KB.out hq (by omega) hk; rw [hlen] at hh; exact hh)
 have G6 : Hid (g6 = true ↔ (g5 = true ∧ l = L)) := Lib.hid (by rw [← ZE, Bool.and_eq_true, decide_eq_true_eq])
 have G7 : Hid (g6 = true → ∃ n : Nat, r = n ∧ c = 1 ∧ r' = n ∧ c' = n ∧ n ≤ 8 ∧ l.length = n * n ∧ (dP r c x r' c' l ↔ Yx n l 0)) := Lib.hid (fun hg => by
  have h5 := (G6.out.1 hg).1; obtain ⟨n, hr, hc, hr', hc', h1, h8, hl⟩ := SH.out h5; obtain ⟨_, _, p1, p2, _⟩ := G5.out h5; refine ⟨n, hr, hc, hr', hc', h8, hl, ?_⟩
  have et : l = yB n n l := by
   have := (G6.out.1 hg).2; rw [← hLL, hr] at this; exact this
  have hte := BU n l hl; subst hr hc hr' hc'; exact ⟨fun h => (hte.2 h.2.2.2.2.2).2, fun h => ⟨p1, p2, rfl, rfl, rfl, hte.1 ⟨et, h⟩⟩⟩)
 have GF : Hid (g6 = false → ¬ dP r c x r' c' l) := Lib.hid (fun hg h => by
  obtain ⟨p1, p2, e1, e2, e3, he⟩ := h
  have h5 : g5 = true := by
   rw [← hg5, ← hg4, ← hg3, ← hg2, ← hg1, p1, p2, e1, e2, e3]
   simp
  have hb := (iV p2).2.2.2.2.1
  have hl : l.length = r.toNat * r.toNat := by rw [hb, e2, e3]
  have := G6.out.2 ⟨h5, by rw [← hLL]; exact ((BU r.toNat l hl).2 he).1⟩; rw [hg] at this
  cases this)
 clear hg1 hg2 hg3 hg4 hg5 ZE hLL
 go_upto_region 2 with fail
 refine OG.Dk (by kernel_rfl) (fun l0 a w => ∃ Q : Option Addr, ∃ dq : Nat, a = { tmps := List.toArray (Value.agg #[I r, I c, Value.slice A x.length cp, I r', I c', Value.slice B l.length cp'] :: Value.pointer (some ⟨w0.heap.size, 0, none⟩) :: Value.bool false :: I r :: undef :: Value.pointer (some ⟨w0.heap.size, 0, none⟩) :: Value.pointer (some ⟨w0.heap.size, 0, none⟩) :: I r :: (bif l0 0 then Value.pointer (some ⟨w0.heap.size, 0, none⟩) else undef) :: (bif l0 1 then .agg #[I r, I c, .slice A x.length cp] else undef) :: (bif l0 2 then .bool g1 else undef) :: (bif l0 3 then .bool (!g1) else undef) :: (bif l0 4 then .bool (!g1) else undef) :: (bif l0 5 then (bif g1 then Value.pointer (some ⟨w0.heap.size, 3, none⟩) else undef) else undef) :: (bif l0 6 then (bif g1 then .agg #[I r', I c', .slice B l.length cp'] else undef) else undef) :: (bif l0 7 then (bif g1 then .bool g2 else undef) else undef) :: (bif l0 8 then (bif g1 then .bool (!g2) else undef) else undef) :: (bif l0 9 then .bool (!g2) else undef) :: (bif l0 10 then .bool (!g2) else undef) :: (bif l0 11 then (bif g2 then Value.pointer (some ⟨w0.heap.size, 0, none⟩) else undef) else undef) :: (bif l0 12 then (bif g2 then Value.pointer (some ⟨w0.heap.size, 1, none⟩) else undef) else undef) :: (bif l0 13 then (bif g2 then I c else undef) else undef) :: (bif l0 14 then (bif g2 then .bool (!g3) else undef) else undef) :: (bif l0 15 then .bool (!g3) else undef) :: (bif l0 16 then .bool (!g3) else undef) :: (bif l0 17 then (bif g3 then Value.pointer (some ⟨w0.heap.size, 3, none⟩) else undef) else undef) :: (bif l0 18 then (bif g3 then Value.pointer (some ⟨w0.heap.size, 3, none⟩) else undef) else undef) :: (bif l0 19 then (bif g3 then I r' else undef) else undef) :: (bif l0 20 then (bif g3 then I r else undef) else undef) :: (bif l0 21 then (bif g3 then .bool (!g4) else undef) else undef) :: (bif l0 22 then .bool (!g4) else undef) :: (bif l0 23 then .bool (!g4) else undef) :: (bif l0 24 then (bif g4 then Value.pointer (some ⟨w0.heap.size, 3, none⟩) else undef) else undef) :: (bif l0 25 then (bif g4 then Value.pointer (some ⟨w0.heap.size, 4, none⟩) else undef) else undef) :: (bif l0 26 then (bif g4 then I c' else undef) else undef) :: (bif l0 27 then (bif g4 then I r else undef) else undef) :: (bif l0 28 then (bif g4 then .bool (!g5) else undef) else undef) :: (bif l0 29 then .bool (!g5) else undef) :: (bif l0 30 then .bool (!g5) else undef) :: (bif l0 31 then (bif g5 then Value.pointer (some ⟨w0.heap.size, 3, none⟩) else undef) else undef) :: (bif l0 32 then (bif g5 then .agg #[I r', I c', .slice B l.length cp'] else undef) else undef) :: (bif l0 33 then (bif g5 then Value.pointer (some ⟨w0.heap.size, 3, none⟩) else undef) else undef) :: (bif l0 34 then (bif g5 then .agg #[I r', I c', .slice B l.length cp'] else undef) else undef) :: (bif l0 35 then (bif g5 then .agg #[I r', I c', .slice Q l.length dq] else undef) else undef) :: (bif l0 36 then (bif g5 then .bool g6 else undef) else undef) :: (bif l0 37 then (bif g5 then .bool (!g6) else undef) else undef) :: (bif l0 38 then .bool (!g6) else undef) :: undef :: undef :: undef :: undef :: undef :: undef :: undef :: undef :: undef :: undef :: undef :: undef :: undef :: undef :: undef :: undef :: []), defers := [] } ∧ (Below w1.heap.size w1 w) ∧ (l0 35 = true → g5 = true → Rd w Q L ∧ l.length ≤ dq)) (by kernel_rfl) ?s0 ?ss ?se
 case s0 => exact ⟨none, 0, rfl, (Below.refl _ _).drew, (fun h => by cases h)⟩
 case ss =>
  refine OG.Steps.cons rfl (fun l0 a w K hK hJ hcl h0 hd => ?_) (OG.Steps.cons rfl (fun l0 a w K hK hJ hcl h0 hd => ?_) (OG.Steps.cons rfl (fun l0 a w K hK hJ hcl h0 hd => ?_) (OG.Steps.cons rfl (fun l0 a w K hK hJ hcl h0 hd => ?_) (OG.Steps.cons rfl (fun l0 a w K hK hJ hcl h0 hd => ?_) (OG.Steps.opt (gi := 4) (dst := 12) g1 rfl rfl (fun l0 a w hJ hd => by obtain ⟨Q, dq, rfl, hP0, hP1⟩ := hJ; have dg := hd.get 4 (by rfl); show (some (bif l0 4 then .bool (!g1) else undef) : Option Value) = some _; rw [dg]; cases g1 <;> rfl) (fun l0 a w K hK hJ hcl h0 hd => ⟨fun hg => ?_, fun hg => ?_⟩) (OG.Steps.opt (gi := 4) (dst := 12) g1 rfl rfl (fun l0 a w hJ hd => by obtain ⟨Q, dq, rfl, hP0, hP1⟩ := hJ; have dg := hd.get 4 (by rfl); show (some (bif l0 4 then .bool (!g1) else undef) : Option Value) = some _; rw [dg]; cases g1 <;> rfl) (fun l0 a w K hK hJ hcl h0 hd => ⟨fun hg => ?_, fun hg => ?_⟩) (OG.Steps.opt (gi := 4) (dst := 12) g1 rfl rfl (fun l0 a w hJ hd => by obtain ⟨Q, dq, rfl, hP0, hP1⟩ := hJ; have dg := hd.get 4 (by rfl); show (some (bif l0 4 then .bool (!g1) else undef) : Option Value) = some _; rw [dg]; cases g1 <;> rfl) (fun l0 a w K hK hJ hcl h0 hd => ⟨fun hg => ?_, fun hg => ?_⟩) (OG.Steps.opt (gi := 4) (dst := 12) g1 rfl rfl (fun l0 a w hJ hd => by obtain ⟨Q, dq, rfl, hP0, hP1⟩ := hJ; have dg := hd.get 4 (by rfl); show (some (bif l0 4 then .bool (!g1) else undef) : Option Value) = some _; rw [dg]; cases g1 <;> rfl) (fun l0 a w K hK hJ hcl h0 hd => ⟨fun hg => ?_, fun hg => ?_⟩) (OG.Steps.cons rfl (fun l0 a w K hK hJ hcl h0 hd => ?_) (OG.Steps.cons rfl (fun l0 a w K hK hJ hcl h0 hd => ?_) (OG.Steps.opt (gi := 10) (dst := 18) g2 rfl rfl (fun l0 a w hJ hd => by obtain ⟨Q, dq, rfl, hP0, hP1⟩ := hJ; have dg := hd.get 10 (by rfl); show (some (bif l0 10 then .bool (!g2) else undef) : Option Value) = some _; rw [dg]; cases g2 <;> rfl) (fun l0 a w K hK hJ hcl h0 hd => ⟨fun hg => ?_, fun hg => ?_⟩) (OG.Steps.opt (gi := 10) (dst := 18) g2 rfl rfl (fun l0 a w hJ hd => by obtain ⟨Q, dq, rfl, hP0, hP1⟩ := hJ; have dg := hd.get 10 (by rfl); show (some (bif l0 10 then .bool (!g2) else undef) : Option Value) = some _; rw [dg]; cases g2 <;> rfl) (fun l0 a w K hK hJ hcl h0 hd => ⟨fun hg => ?_, fun hg => ?_⟩) (OG.Steps.opt (gi := 10) (dst := 18) g2 rfl rfl (fun l0 a w hJ hd => by obtain ⟨Q, dq, rfl, hP0, hP1⟩ := hJ; have dg := hd.get 10 (by rfl); show (some (bif l0 10 then .bool (!g2) else undef) : Option Value) = some _; rw [dg]; cases g2 <;> rfl) (fun l0 a w K hK hJ hcl h0 hd => ⟨fun hg => ?_, fun hg => ?_⟩) (OG.Steps.opt (gi := 10) (dst := 18) g2 rfl rfl (fun l0 a w hJ hd => by obtain ⟨Q, dq, rfl, hP0, hP1⟩ := hJ; have dg := hd.get 10 (by rfl); show (some (bif l0 10 then .bool (!g2) else undef) : Option Value) = some _; rw [dg]; cases g2 <;> rfl) (fun l0 a w K hK hJ hcl h0 hd => ⟨fun hg => ?_, fun hg => ?_⟩) (OG.Steps.cons rfl (fun l0 a w K hK hJ hcl h0 hd => ?_) (OG.Steps.cons rfl (fun l0 a w K hK hJ hcl h0 hd => ?_) (OG.Steps.opt (gi := 16) (dst := 24) g3 rfl rfl (fun l0 a w hJ hd => by obtain ⟨Q, dq, rfl, hP0, hP1⟩ := hJ; have dg := hd.get 16 (by rfl); show (some (bif l0 16 then .bool (!g3) else undef) : Option Value) = some _; rw [dg]; cases g3 <;> rfl) (fun l0 a w K hK hJ hcl h0 hd => ⟨fun hg => ?_, fun hg => ?_⟩) (OG.Steps.opt (gi := 16) (dst := 24) g3 rfl rfl (fun l0 a w hJ hd => by obtain ⟨Q, dq, rfl, hP0, hP1⟩ := hJ; have dg := hd.get 16 (by rfl); show (some (bif l0 16 then .bool (!g3) else undef) : Option Value) = some _; rw [dg]; cases g3 <;> rfl) (fun l0 a w K hK hJ hcl h0 hd => ⟨fun hg => ?_, fun hg => ?_⟩) (OG.Steps.opt (gi := 16) (dst := 24) g3 rfl rfl (fun l0 a w hJ hd => by obtain ⟨Q, dq, rfl, hP0, hP1⟩ := hJ; have dg := hd.get 16 (by rfl); show (some (bif l0 16 then .bool (!g3) else undef) : Option Value) = some _; rw [dg]; cases g3 <;> rfl) (fun l0 a w K hK hJ hcl h0 hd => ⟨fun hg => ?_, fun hg => ?_⟩) (OG.Steps.opt (gi := 16) (dst := 24) g3 rfl rfl (fun l0 a w hJ hd => by obtain ⟨Q, dq, rfl, hP0, hP1⟩ := hJ; have dg := hd.get 16 (by rfl); show (some (bif l0 16 then .bool (!g3) else undef) : Option Value) = some _; rw [dg]; cases g3 <;> rfl) (fun l0 a w K hK hJ hcl h0 hd => ⟨fun hg => ?_, fun hg => ?_⟩) (OG.Steps.opt (gi := 16) (dst := 24) g3 rfl rfl (fun l0 a w hJ hd => by obtain ⟨Q, dq, rfl, hP0, hP1⟩ := hJ; have dg := hd.get 16 (by rfl); show (some (bif l0 16 then .bool (!g3) else undef) : Option Value) = some _; rw [dg]; cases g3 <;> rfl) (fun l0 a w K hK hJ hcl h0 hd => ⟨fun hg => ?_, fun hg => ?_⟩) (OG.Steps.cons rfl (fun l0 a w K hK hJ hcl h0 hd => ?_) (OG.Steps.cons rfl (fun l0 a w K hK hJ hcl h0 hd => ?_) (OG.Steps.opt (gi := 23) (dst := 31) g4 rfl rfl (fun l0 a w hJ hd => by obtain ⟨Q, dq, rfl, hP0, hP1⟩ := hJ; have dg := hd.get 23 (by rfl); show (some (bif l0 23 then .bool (!g4) else undef) : Option Value) = some _; rw [dg]; cases g4 <;> rfl) (fun l0 a w K hK hJ hcl h0 hd => ⟨fun hg => ?_, fun hg => ?_⟩) (OG.Steps.opt (gi := 23) (dst := 31) g4 rfl rfl (fun l0 a w hJ hd => by obtain ⟨Q, dq, rfl, hP0, hP1⟩ := hJ; have dg := hd.get 23 (by rfl); show (some (bif l0 23 then .bool (!g4) else undef) : Option Value) = some _; rw [dg]; cases g4 <;> rfl) (fun l0 a w K hK hJ hcl h0 hd => ⟨fun hg => ?_, fun hg => ?_⟩) (OG.Steps.opt (gi := 23) (dst := 31) g4 rfl rfl (fun l0 a w hJ hd => by obtain ⟨Q, dq, rfl, hP0, hP1⟩ := hJ; have dg := hd.get 23 (by rfl); show (some (bif l0 23 then .bool (!g4) else undef) : Option Value) = some _; rw [dg]; cases g4 <;> rfl) (fun l0 a w K hK hJ hcl h0 hd => ⟨fun hg => ?_, fun hg => ?_⟩) (OG.Steps.opt (gi := 23) (dst := 31) g4 rfl rfl (fun l0 a w hJ hd => by obtain ⟨Q, dq, rfl, hP0, hP1⟩ := hJ; have dg := hd.get 23 (by rfl); show (some (bif l0 23 then .bool (!g4) else undef) : Option Value) = some _; rw [dg]; cases g4 <;> rfl) (fun l0 a w K hK hJ hcl h0 hd => ⟨fun hg => ?_, fun hg => ?_⟩) (OG.Steps.opt (gi := 23) (dst := 31) g4 rfl rfl (fun l0 a w hJ hd => by obtain ⟨Q, dq, rfl, hP0, hP1⟩ := hJ; have dg := hd.get 23 (by rfl); show (some (bif l0 23 then .bool (!g4) else undef) : Option Value) = some _; rw [dg]; cases g4 <;> rfl) (fun l0 a w K hK hJ hcl h0 hd => ⟨fun hg => ?_, fun hg => ?_⟩) (OG.Steps.cons rfl (fun l0 a w K hK hJ hcl h0 hd => ?_) (OG.Steps.cons rfl (fun l0 a w K hK hJ hcl h0 hd => ?_) (OG.Steps.opt (gi := 30) (dst := 38) g5 rfl rfl (fun l0 a w hJ hd => by obtain ⟨Q, dq, rfl, hP0, hP1⟩ := hJ; have dg := hd.get 30 (by rfl); show (some (bif l0 30 then .bool (!g5) else undef) : Option Value) = some _; rw [dg]; cases g5 <;> rfl) (fun l0 a w K hK hJ hcl h0 hd => ⟨fun hg => ?_, fun hg => ?_⟩) (OG.Steps.opt (gi := 30) (dst := 38) g5 rfl rfl (fun l0 a w hJ hd => by obtain ⟨Q, dq, rfl, hP0, hP1⟩ := hJ; have dg := hd.get 30 (by rfl); show (some (bif l0 30 then .bool (!g5) else undef) : Option Value) = some _; rw [dg]; cases g5 <;> rfl) (fun l0 a w K hK hJ hcl h0 hd => ⟨fun hg => ?_, fun hg => ?_⟩) (OG.Steps.opt (gi := 30) (dst := 38) g5 rfl rfl (fun l0 a w hJ hd => by obtain ⟨Q, dq, rfl, hP0, hP1⟩ := hJ; have dg := hd.get 30 (by rfl); show (some (bif l0 30 then .bool (!g5) else undef) : Option Value) = some _; rw [dg]; cases g5 <;> rfl) (fun l0 a w K hK hJ hcl h0 hd => ⟨fun hg => ?_, fun hg => ?_⟩) (OG.Steps.opt (gi := 30) (dst := 38) g5 rfl rfl (fun l0 a w hJ hd => by obtain ⟨Q, dq, rfl, hP0, hP1⟩ := hJ; have dg := hd.get 30 (by rfl); show (some (bif l0 30 then .bool (!g5) else undef) : Option Value) = some _; rw [dg]; cases g5 <;> rfl) (fun l0 a w K hK hJ hcl h0 hd => ⟨fun hg => ?_, fun hg => ?_⟩) (OG.Steps.opt (gi := 30) (dst := 38) g5 rfl rfl (fun l0 a w hJ hd => by obtain ⟨Q, dq, rfl, hP0, hP1⟩ := hJ; have dg := hd.get 30 (by rfl); show (some (bif l0 30 then .bool (!g5) else undef) : Option Value) = some _; rw [dg]; cases g5 <;> rfl) (fun l0 a w K hK hJ hcl h0 hd => ⟨fun hg => ?_, fun hg => ?_⟩) (OG.Steps.opt (gi := 30) (dst := 38) g5 rfl rfl (fun l0 a w hJ hd => by obtain ⟨Q, dq, rfl, hP0, hP1⟩ := hJ; have dg := hd.get 30 (by rfl); show (some (bif l0 30 then .bool (!g5) else undef) : Option Value) = some _; rw [dg]; cases g5 <;> rfl) (fun l0 a w K hK hJ hcl h0 hd => ⟨fun hg => ?_, fun hg => ?_⟩) (OG.Steps.opt (gi := 30) (dst := 38) g5 rfl rfl (fun l0 a w hJ hd => by obtain ⟨Q, dq, rfl, hP0, hP1⟩ := hJ; have dg := hd.get 30 (by rfl); show (some (bif l0 30 then .bool (!g5) else undef) : Option Value) = some _; rw [dg]; cases g5 <;> rfl) (fun l0 a w K hK hJ hcl h0 hd => ⟨fun hg => ?_, fun hg => ?_⟩) (OG.Steps.cons rfl (fun l0 a w K hK hJ hcl h0 hd => ?_) OG.Steps.nil))))))))))))))))))))))))))))))))))))))
  · obtain ⟨Q, dq, rfl, hP0, hP1⟩ := hJ
    have HJ := Lib.hid (And.intro hP0 (hP1)); clear hP0 hP1 hd hcl h0
    go_simp
    exact hK.out _ _ ⟨Q, dq, (rfl), (HJ.out.1), (HJ.out.2)⟩
  · obtain ⟨Q, dq, rfl, hP0, hP1⟩ := hJ
    have d0 := hd.get 0 (by rfl); have HJ := Lib.hid (And.intro hP0 (hP1)); clear hP0 hP1 hd hcl h0; have hx := (NB.out.below HJ.out.1 NB.out.lt).cell
    go_simp
    exact hK.out _ _ ⟨Q, dq, (by simp only [OG.upd, d0]; rfl), (HJ.out.1), (HJ.out.2)⟩
  · obtain ⟨Q, dq, rfl, hP0, hP1⟩ := hJ
    have d1 := hd.get 1 (by rfl); have HJ := Lib.hid (And.intro hP0 (hP1)); clear hP0 hP1 hd hcl h0
    go_simp
    refine (acO.out _ HJ.out.1).mono ?_
    rintro e w' ⟨rfl, hb⟩; exact hK.out _ _ ⟨Q, dq, (by simp only [OG.upd, d1]; rfl), (HJ.out.1.trans (hb.mono HJ.out.1.size)), (fun h hg => ⟨(HJ.out.2 h hg).1.below hb, (HJ.out.2 h hg).2⟩)⟩
  · obtain ⟨Q, dq, rfl, hP0, hP1⟩ := hJ
    have d2 := hd.get 2 (by rfl); have HJ := Lib.hid (And.intro hP0 (hP1)); clear hP0 hP1 hd hcl h0
    go_simp
    exact hK.out _ _ ⟨Q, dq, (by simp only [OG.upd, d2]; rfl), (HJ.out.1), (HJ.out.2)⟩
  · obtain ⟨Q, dq, rfl, hP0, hP1⟩ := hJ
    have d3 := hd.get 3 (by rfl); have HJ := Lib.hid (And.intro hP0 (hP1)); clear hP0 hP1 hd hcl h0
    go_simp
    exact hK.out _ _ ⟨Q, dq, (by simp only [OG.upd, d3]; rfl), (HJ.out.1), (HJ.out.2)⟩
  · obtain ⟨Q, dq, rfl, hP0, hP1⟩ := hJ
    have HJ := Lib.hid (And.intro hP0 (hP1)); clear hP0 hP1 hd hcl h0
    go_simp
    exact hK.out _ _ ⟨Q, dq, (by simp only [OG.upd, hg]; rfl), (HJ.out.1), (HJ.out.2)⟩
  · obtain ⟨Q, dq, rfl, hP0, hP1⟩ := hJ
    have HJ := Lib.hid (And.intro hP0 (hP1)); clear hP0 hP1 hd hcl h0; exact hK.out _ _ ⟨Q, dq, (by simp only [OG.upd, hg, cond_false, Bool.cond_self]; rfl), (HJ.out.1), (HJ.out.2)⟩
  · obtain ⟨Q, dq, rfl, hP0, hP1⟩ := hJ
    have d5 := hd.get 5 (by rfl); have HJ := Lib.hid (And.intro hP0 (hP1)); clear hP0 hP1 hd hcl h0; have hx := (NB.out.below HJ.out.1 NB.out.lt).cell
    go_simp
    exact hK.out _ _ ⟨Q, dq, (by simp only [OG.upd, d5, hg]; rfl), (HJ.out.1), (HJ.out.2)⟩
  · obtain ⟨Q, dq, rfl, hP0, hP1⟩ := hJ
    have d5 := hd.get 5 (by rfl); have HJ := Lib.hid (And.intro hP0 (hP1)); clear hP0 hP1 hd hcl h0; exact hK.out _ _ ⟨Q, dq, (by simp only [OG.upd, d5, hg, cond_false, Bool.cond_self]; rfl), (HJ.out.1), (HJ.out.2)⟩
  · obtain ⟨Q, dq, rfl, hP0, hP1⟩ := hJ
    have d6 := hd.get 6 (by rfl); have HJ := Lib.hid (And.intro hP0 (hP1)); clear hP0 hP1 hd hcl h0
    go_simp
    refine (acN.out hg _ HJ.out.1).mono ?_
    rintro e w' ⟨rfl, hb⟩; exact hK.out _ _ ⟨Q, dq, (by simp only [OG.upd, d6, hg]; rfl), (HJ.out.1.trans (hb.mono HJ.out.1.size)), (fun h hg => ⟨(HJ.out.2 h hg).1.below hb, (HJ.out.2 h hg).2⟩)⟩
  · obtain ⟨Q, dq, rfl, hP0, hP1⟩ := hJ
    have d6 := hd.get 6 (by rfl); have HJ := Lib.hid (And.intro hP0 (hP1)); clear hP0 hP1 hd hcl h0; exact hK.out _ _ ⟨Q, dq, (by simp only [OG.upd, d6, hg, cond_false, Bool.cond_self]; rfl), (HJ.out.1), (HJ.out.2)⟩
  · obtain ⟨Q, dq, rfl, hP0, hP1⟩ := hJ
    have d7 := hd.get 7 (by rfl); have HJ := Lib.hid (And.intro hP0 (hP1)); clear hP0 hP1 hd hcl h0
    go_simp
    exact hK.out _ _ ⟨Q, dq, (by simp only [OG.upd, d7, hg]; rfl), (HJ.out.1), (HJ.out.2)⟩
  · obtain ⟨Q, dq, rfl, hP0, hP1⟩ := hJ
    have d7 := hd.get 7 (by rfl); have HJ := Lib.hid (And.intro hP0 (hP1)); clear hP0 hP1 hd hcl h0; exact hK.out _ _ ⟨Q, dq, (by simp only [OG.upd, d7, hg, cond_false, Bool.cond_self]; rfl), (HJ.out.1), (HJ.out.2)⟩
  · obtain ⟨Q, dq, rfl, hP0, hP1⟩ := hJ
    have d4 := hd.get 4 (by rfl); have d8 := hd.get 8 (by rfl); have HJ := Lib.hid (And.intro hP0 (hP1)); clear hP0 hP1 hd hcl h0
    rcases Bool.eq_false_or_eq_true g1 with hg | hg
    · go_simp
      exact hK.out _ _ ⟨Q, dq, (by simp only [OG.upd, d4, d8, hg, cond_false, cond_true, Bool.cond_self]; rfl), (HJ.out.1), (HJ.out.2)⟩
    · have h2 := F2.out hg
      go_simp
      exact hK.out _ _ ⟨Q, dq, (by simp only [OG.upd, d4, d8, hg, h2, cond_false, cond_true, Bool.cond_self]; rfl), (HJ.out.1), (HJ.out.2)⟩
  · obtain ⟨Q, dq, rfl, hP0, hP1⟩ := hJ
    have d9 := hd.get 9 (by rfl); have HJ := Lib.hid (And.intro hP0 (hP1)); clear hP0 hP1 hd hcl h0
    go_simp
    exact hK.out _ _ ⟨Q, dq, (by simp only [OG.upd, d9]; rfl), (HJ.out.1), (HJ.out.2)⟩
  · obtain ⟨Q, dq, rfl, hP0, hP1⟩ := hJ
    have HJ := Lib.hid (And.intro hP0 (hP1)); clear hP0 hP1 hd hcl h0
    go_simp
    exact hK.out _ _ ⟨Q, dq, (by simp only [OG.upd, hg]; rfl), (HJ.out.1), (HJ.out.2)⟩
  · obtain ⟨Q, dq, rfl, hP0, hP1⟩ := hJ
    have HJ := Lib.hid (And.intro hP0 (hP1)); clear hP0 hP1 hd hcl h0; exact hK.out _ _ ⟨Q, dq, (by simp only [OG.upd, hg, cond_false, Bool.cond_self]; rfl), (HJ.out.1), (HJ.out.2)⟩
  · obtain ⟨Q, dq, rfl, hP0, hP1⟩ := hJ
    have d11 := hd.get 11 (by rfl); have HJ := Lib.hid (And.intro hP0 (hP1)); clear hP0 hP1 hd hcl h0
    go_simp
    exact hK.out _ _ ⟨Q, dq, (by simp only [OG.upd, d11, hg]; rfl), (HJ.out.1), (HJ.out.2)⟩
  · obtain ⟨Q, dq, rfl, hP0, hP1⟩ := hJ
    have d11 := hd.get 11 (by rfl); have HJ := Lib.hid (And.intro hP0 (hP1)); clear hP0 hP1 hd hcl h0; exact hK.out _ _ ⟨Q, dq, (by simp only [OG.upd, d11, hg, cond_false, Bool.cond_self]; rfl), (HJ.out.1), (HJ.out.2)⟩
  · obtain ⟨Q, dq, rfl, hP0, hP1⟩ := hJ
    have d12 := hd.get 12 (by rfl); have HJ := Lib.hid (And.intro hP0 (hP1)); clear hP0 hP1 hd hcl h0; have hx := (NB.out.below HJ.out.1 NB.out.lt).cell
    go_simp
    exact hK.out _ _ ⟨Q, dq, (by simp only [OG.upd, d12, hg]; rfl), (HJ.out.1), (HJ.out.2)⟩
  · obtain ⟨Q, dq, rfl, hP0, hP1⟩ := hJ
    have d12 := hd.get 12 (by rfl); have HJ := Lib.hid (And.intro hP0 (hP1)); clear hP0 hP1 hd hcl h0; exact hK.out _ _ ⟨Q, dq, (by simp only [OG.upd, d12, hg, cond_false, Bool.cond_self]; rfl), (HJ.out.1), (HJ.out.2)⟩
  · obtain ⟨Q, dq, rfl, hP0, hP1⟩ := hJ
    have d13 := hd.get 13 (by rfl); have HJ := Lib.hid (And.intro hP0 (hP1)); clear hP0 hP1 hd hcl h0; have e3 := E3.out hg
    go_simp
    exact hK.out _ _ ⟨Q, dq, (by simp only [OG.upd, d13, hg, e3]; rfl), (HJ.out.1), (HJ.out.2)⟩
  · obtain ⟨Q, dq, rfl, hP0, hP1⟩ := hJ
    have d13 := hd.get 13 (by rfl); have HJ := Lib.hid (And.intro hP0 (hP1)); clear hP0 hP1 hd hcl h0; exact hK.out _ _ ⟨Q, dq, (by simp only [OG.upd, d13, hg, cond_false, Bool.cond_self]; rfl), (HJ.out.1), (HJ.out.2)⟩
  · obtain ⟨Q, dq, rfl, hP0, hP1⟩ := hJ
    have d10 := hd.get 10 (by rfl); have d14 := hd.get 14 (by rfl); have HJ := Lib.hid (And.intro hP0 (hP1)); clear hP0 hP1 hd hcl h0
    rcases Bool.eq_false_or_eq_true g2 with hg | hg
    · go_simp
      exact hK.out _ _ ⟨Q, dq, (by simp only [OG.upd, d10, d14, hg, cond_false, cond_true, Bool.cond_self]; rfl), (HJ.out.1), (HJ.out.2)⟩
    · have h2 := F3.out hg
      go_simp
      exact hK.out _ _ ⟨Q, dq, (by simp only [OG.upd, d10, d14, hg, h2, cond_false, cond_true, Bool.cond_self]; rfl), (HJ.out.1), (HJ.out.2)⟩
  · obtain ⟨Q, dq, rfl, hP0, hP1⟩ := hJ
    have d15 := hd.get 15 (by rfl); have HJ := Lib.hid (And.intro hP0 (hP1)); clear hP0 hP1 hd hcl h0
    go_simp
    exact hK.out _ _ ⟨Q, dq, (by simp only [OG.upd, d15]; rfl), (HJ.out.1), (HJ.out.2)⟩
  · obtain ⟨Q, dq, rfl, hP0, hP1⟩ := hJ
    have HJ := Lib.hid (And.intro hP0 (hP1)); clear hP0 hP1 hd hcl h0
    go_simp
    exact hK.out _ _ ⟨Q, dq, (by simp only [OG.upd, hg]; rfl), (HJ.out.1), (HJ.out.2)⟩
  · obtain ⟨Q, dq, rfl, hP0, hP1⟩ := hJ
    have HJ := Lib.hid (And.intro hP0 (hP1)); clear hP0 hP1 hd hcl h0; exact hK.out _ _ ⟨Q, dq, (by simp only [OG.upd, hg, cond_false, Bool.cond_self]; rfl), (HJ.out.1), (HJ.out.2)⟩
  · obtain ⟨Q, dq, rfl, hP0, hP1⟩ := hJ
    have d17 := hd.get 17 (by rfl); have HJ := Lib.hid (And.intro hP0 (hP1)); clear hP0 hP1 hd hcl h0
    go_simp
    exact hK.out _ _ ⟨Q, dq, (by simp only [OG.upd, d17, hg]; rfl), (HJ.out.1), (HJ.out.2)⟩
  · obtain ⟨Q, dq, rfl, hP0, hP1⟩ := hJ
    have d17 := hd.get 17 (by rfl); have HJ := Lib.hid (And.intro hP0 (hP1)); clear hP0 hP1 hd hcl h0; exact hK.out _ _ ⟨Q, dq, (by simp only [OG.upd, d17, hg, cond_false, Bool.cond_self]; rfl), (HJ.out.1), (HJ.out.2)⟩
  · obtain ⟨Q, dq, rfl, hP0, hP1⟩ := hJ
    have d18 := hd.get 18 (by rfl); have HJ := Lib.hid (And.intro hP0 (hP1)); clear hP0 hP1 hd hcl h0; have hx := (NB.out.below HJ.out.1 NB.out.lt).cell
    go_simp
    exact hK.out _ _ ⟨Q, dq, (by simp only [OG.upd, d18, hg]; rfl), (HJ.out.1), (HJ.out.2)⟩
  · obtain ⟨Q, dq, rfl, hP0, hP1⟩ := hJ
    have d18 := hd.get 18 (by rfl); have HJ := Lib.hid (And.intro hP0 (hP1)); clear hP0 hP1 hd hcl h0; exact hK.out _ _ ⟨Q, dq, (by simp only [OG.upd, d18, hg, cond_false, Bool.cond_self]; rfl), (HJ.out.1), (HJ.out.2)⟩
  · obtain ⟨Q, dq, rfl, hP0, hP1⟩ := hJ
    have HJ := Lib.hid (And.intro hP0 (hP1)); clear hP0 hP1 hd hcl h0
    go_simp
    exact hK.out _ _ ⟨Q, dq, (by simp only [OG.upd, hg]; rfl), (HJ.out.1), (HJ.out.2)⟩
  · obtain ⟨Q, dq, rfl, hP0, hP1⟩ := hJ
    have HJ := Lib.hid (And.intro hP0 (hP1)); clear hP0 hP1 hd hcl h0; exact hK.out _ _ ⟨Q, dq, (by simp only [OG.upd, hg, cond_false, Bool.cond_self]; rfl), (HJ.out.1), (HJ.out.2)⟩
  · obtain ⟨Q, dq, rfl, hP0, hP1⟩ := hJ
    have d19 := hd.get 19 (by rfl); have d20 := hd.get 20 (by rfl); have HJ := Lib.hid (And.intro hP0 (hP1)); clear hP0 hP1 hd hcl h0; have e4 := E4.out hg
    go_simp
    exact hK.out _ _ ⟨Q, dq, (by simp only [OG.upd, d19, d20, hg, e4]; rfl), (HJ.out.1), (HJ.out.2)⟩
  · obtain ⟨Q, dq, rfl, hP0, hP1⟩ := hJ
    have d19 := hd.get 19 (by rfl); have d20 := hd.get 20 (by rfl); have HJ := Lib.hid (And.intro hP0 (hP1)); clear hP0 hP1 hd hcl h0; exact hK.out _ _ ⟨Q, dq, (by simp only [OG.upd, d19, d20, hg, cond_false, Bool.cond_self]; rfl), (HJ.out.1), (HJ.out.2)⟩
  · obtain ⟨Q, dq, rfl, hP0, hP1⟩ := hJ
    have d16 := hd.get 16 (by rfl); have d21 := hd.get 21 (by rfl); have HJ := Lib.hid (And.intro hP0 (hP1)); clear hP0 hP1 hd hcl h0
    rcases Bool.eq_false_or_eq_true g3 with hg | hg
    · go_simp
      exact hK.out _ _ ⟨Q, dq, (by simp only [OG.upd, d16, d21, hg, cond_false, cond_true, Bool.cond_self]; rfl), (HJ.out.1), (HJ.out.2)⟩
    · have h2 := F4.out hg
      go_simp
      exact hK.out _ _ ⟨Q, dq, (by simp only [OG.upd, d16, d21, hg, h2, cond_false, cond_true, Bool.cond_self]; rfl), (HJ.out.1), (HJ.out.2)⟩
  · obtain ⟨Q, dq, rfl, hP0, hP1⟩ := hJ
    have d22 := hd.get 22 (by rfl); have HJ := Lib.hid (And.intro hP0 (hP1)); clear hP0 hP1 hd hcl h0
    go_simp
    exact hK.out _ _ ⟨Q, dq, (by simp only [OG.upd, d22]; rfl), (HJ.out.1), (HJ.out.2)⟩
  · obtain ⟨Q, dq, rfl, hP0, hP1⟩ := hJ
    have HJ := Lib.hid (And.intro hP0 (hP1)); clear hP0 hP1 hd hcl h0
    go_simp
    exact hK.out _ _ ⟨Q, dq, (by simp only [OG.upd, hg]; rfl), (HJ.out.1), (HJ.out.2)⟩
  · obtain ⟨Q, dq, rfl, hP0, hP1⟩ := hJ
    have HJ := Lib.hid (And.intro hP0 (hP1)); clear hP0 hP1 hd hcl h0; exact hK.out _ _ ⟨Q, dq, (by simp only [OG.upd, hg, cond_false, Bool.cond_self]; rfl), (HJ.out.1), (HJ.out.2)⟩
  · obtain ⟨Q, dq, rfl, hP0, hP1⟩ := hJ
    have d24 := hd.get 24 (by rfl); have HJ := Lib.hid (And.intro hP0 (hP1)); clear hP0 hP1 hd hcl h0
    go_simp
    exact hK.out _ _ ⟨Q, dq, (by simp only [OG.upd, d24, hg]; rfl), (HJ.out.1), (HJ.out.2)⟩
  · obtain ⟨Q, dq, rfl, hP0, hP1⟩ := hJ
    have d24 := hd.get 24 (by rfl); have HJ := Lib.hid (And.intro hP0 (hP1)); clear hP0 hP1 hd hcl h0; exact hK.out _ _ ⟨Q, dq, (by simp only [OG.upd, d24, hg, cond_false, Bool.cond_self]; rfl), (HJ.out.1), (HJ.out.2)⟩
  · obtain ⟨Q, dq, rfl, hP0, hP1⟩ := hJ
    have d25 := hd.get 25 (by rfl); have HJ := Lib.hid (And.intro hP0 (hP1)); clear hP0 hP1 hd hcl h0; have hx := (NB.out.below HJ.out.1 NB.out.lt).cell
    go_simp
    exact hK.out _ _ ⟨Q, dq, (by simp only [OG.upd, d25, hg]; rfl), (HJ.out.1), (HJ.out.2)⟩
  · obtain ⟨Q, dq, rfl, hP0, hP1⟩ := hJ
    have d25 := hd.get 25 (by rfl); have HJ := Lib.hid (And.intro hP0 (hP1)); clear hP0 hP1 hd hcl h0; exact hK.out _ _ ⟨Q, dq, (by simp only [OG.upd, d25, hg, cond_false, Bool.cond_self]; rfl), (HJ.out.1), (HJ.out.2)⟩
  · obtain ⟨Q, dq, rfl, hP0, hP1⟩ := hJ
    have HJ := Lib.hid (And.intro hP0 (hP1)); clear hP0 hP1 hd hcl h0
    go_simp
    exact hK.out _ _ ⟨Q, dq, (by simp only [OG.upd, hg]; rfl), (HJ.out.1), (HJ.out.2)⟩
  · obtain ⟨Q, dq, rfl, hP0, hP1⟩ := hJ
    have HJ := Lib.hid (And.intro hP0 (hP1)); clear hP0 hP1 hd hcl h0; exact hK.out _ _ ⟨Q, dq, (by simp only [OG.upd, hg, cond_false, Bool.cond_self]; rfl), (HJ.out.1), (HJ.out.2)⟩
  · obtain ⟨Q, dq, rfl, hP0, hP1⟩ := hJ
    have d26 := hd.get 26 (by rfl); have d27 := hd.get 27 (by rfl); have HJ := Lib.hid (And.intro hP0 (hP1)); clear hP0 hP1 hd hcl h0; have e5 := E5.out hg
    go_simp
    exact hK.out _ _ ⟨Q, dq, (by simp only [OG.upd, d26, d27, hg, e5]; rfl), (HJ.out.1), (HJ.out.2)⟩
  · obtain ⟨Q, dq, rfl, hP0, hP1⟩ := hJ
    have d26 := hd.get 26 (by rfl); have d27 := hd.get 27 (by rfl); have HJ := Lib.hid (And.intro hP0 (hP1)); clear hP0 hP1 hd hcl h0; exact hK.out _ _ ⟨Q, dq, (by simp only [OG.upd, d26, d27, hg, cond_false, Bool.cond_self]; rfl), (HJ.out.1), (HJ.out.2)⟩
  · obtain ⟨Q, dq, rfl, hP0, hP1⟩ := hJ
    have d23 := hd.get 23 (by rfl); have d28 := hd.get 28 (by rfl); have HJ := Lib.hid (And.intro hP0 (hP1)); clear hP0 hP1 hd hcl h0
    rcases Bool.eq_false_or_eq_true g4 with hg | hg
    · go_simp
      exact hK.out _ _ ⟨Q, dq, (by simp only [OG.upd, d23, d28, hg, cond_false, cond_true, Bool.cond_self]; rfl), (HJ.out.1), (HJ.out.2)⟩
    · have h2 := F5.out hg
      go_simp
      exact hK.out _ _ ⟨Q, dq, (by simp only [OG.upd, d23, d28, hg, h2, cond_false, cond_true, Bool.cond_self]; rfl), (HJ.out.1), (HJ.out.2)⟩
  · obtain ⟨Q, dq, rfl, hP0, hP1⟩ := hJ
    have d29 := hd.get 29 (by rfl); have HJ := Lib.hid (And.intro hP0 (hP1)); clear hP0 hP1 hd hcl h0
    go_simp
    exact hK.out _ _ ⟨Q, dq, (by simp only [OG.upd, d29]; rfl), (HJ.out.1), (HJ.out.2)⟩
  · obtain ⟨Q, dq, rfl, hP0, hP1⟩ := hJ
    have HJ := Lib.hid (And.intro hP0 (hP1)); clear hP0 hP1 hd hcl h0
    go_simp
    exact hK.out _ _ ⟨Q, dq, (by simp only [OG.upd, hg]; rfl), (HJ.out.1), (HJ.out.2)⟩
  · obtain ⟨Q, dq, rfl, hP0, hP1⟩ := hJ
    have HJ := Lib.hid (And.intro hP0 (hP1)); clear hP0 hP1 hd hcl h0; exact hK.out _ _ ⟨Q, dq, (by simp only [OG.upd, hg, cond_false, Bool.cond_self]; rfl), (HJ.out.1), (HJ.out.2)⟩
  · obtain ⟨Q, dq, rfl, hP0, hP1⟩ := hJ
    have d31 := hd.get 31 (by rfl); have HJ := Lib.hid (And.intro hP0 (hP1)); clear hP0 hP1 hd hcl h0; have hx := (NB.out.below HJ.out.1 NB.out.lt).cell
    go_simp
    exact hK.out _ _ ⟨Q, dq, (by simp only [OG.upd, d31, hg]; rfl), (HJ.out.1), (HJ.out.2)⟩
  · obtain ⟨Q, dq, rfl, hP0, hP1⟩ := hJ
    have d31 := hd.get 31 (by rfl); have HJ := Lib.hid (And.intro hP0 (hP1)); clear hP0 hP1 hd hcl h0; exact hK.out _ _ ⟨Q, dq, (by simp only [OG.upd, d31, hg, cond_false, Bool.cond_self]; rfl), (HJ.out.1), (HJ.out.2)⟩
  · obtain ⟨Q, dq, rfl, hP0, hP1⟩ := hJ
    have HJ := Lib.hid (And.intro hP0 (hP1)); clear hP0 hP1 hd hcl h0
    go_simp
    exact hK.out _ _ ⟨Q, dq, (by simp only [OG.upd, hg]; rfl), (HJ.out.1), (HJ.out.2)⟩
  · obtain ⟨Q, dq, rfl, hP0, hP1⟩ := hJ
    have HJ := Lib.hid (And.intro hP0 (hP1)); clear hP0 hP1 hd hcl h0; exact hK.out _ _ ⟨Q, dq, (by simp only [OG.upd, hg, cond_false, Bool.cond_self]; rfl), (HJ.out.1), (HJ.out.2)⟩
  · obtain ⟨Q, dq, rfl, hP0, hP1⟩ := hJ
    have d33 := hd.get 33 (by rfl); have HJ := Lib.hid (And.intro hP0 (hP1)); clear hP0 hP1 hd hcl h0; have hx := (NB.out.below HJ.out.1 NB.out.lt).cell
    go_simp
    exact hK.out _ _ ⟨Q, dq, (by simp only [OG.upd, d33, hg]; rfl), (HJ.out.1), (HJ.out.2)⟩
  · obtain ⟨Q, dq, rfl, hP0, hP1⟩ := hJ
    have d33 := hd.get 33 (by rfl); have HJ := Lib.hid (And.intro hP0 (hP1)); clear hP0 hP1 hd hcl h0; exact hK.out _ _ ⟨Q, dq, (by simp only [OG.upd, d33, hg, cond_false, Bool.cond_self]; rfl), (HJ.out.1), (HJ.out.2)⟩
  · obtain ⟨Q, dq, rfl, hP0, hP1⟩ := hJ
    have d34 := hd.get 34 (by rfl); have f36 := hcl.off 36 35 (by rfl) h0; have HJ := Lib.hid (And.intro hP0 (hP1)); clear hP0 hP1 hd hcl h0
    go_simp
    refine (T77.out hg _ HJ.out.1).mono ?_
    rintro e w' ⟨Q', dq', rfl, hq, hb⟩; exact hK.out _ _ ⟨Q', dq', (by simp only [OG.upd, d34, f36, hg]; rfl), (HJ.out.1.trans (hb.mono HJ.out.1.size)), (fun _ _ => hq)⟩
  · obtain ⟨Q, dq, rfl, hP0, hP1⟩ := hJ
    have d34 := hd.get 34 (by rfl); have f36 := hcl.off 36 35 (by rfl) h0; have HJ := Lib.hid (And.intro hP0 (hP1)); clear hP0 hP1 hd hcl h0; exact hK.out _ _ ⟨Q, dq, (by simp only [OG.upd, d34, f36, hg, cond_false, Bool.cond_self]; rfl), (HJ.out.1), (fun _ h => by rw [hg] at h; cases h)⟩
  · obtain ⟨Q, dq, rfl, hP0, hP1⟩ := hJ
    have d32 := hd.get 32 (by rfl); have d35 := hd.get 35 (by rfl); have HJ := Lib.hid (And.intro hP0 (hP1)); clear hP0 hP1 hd hcl h0; have hq := HJ.out.2 d35 hg
    go_simp
    refine (T76.out hg _ Q dq HJ.out.1 hq.1 hq.2).mono ?_
    rintro e w' ⟨rfl, hb⟩; exact hK.out _ _ ⟨Q, dq, (by simp only [OG.upd, d32, d35, hg]; rfl), (HJ.out.1.trans (hb.mono HJ.out.1.size)), (fun h hg => ⟨(HJ.out.2 h hg).1.below hb, (HJ.out.2 h hg).2⟩)⟩
  · obtain ⟨Q, dq, rfl, hP0, hP1⟩ := hJ
    have d32 := hd.get 32 (by rfl); have d35 := hd.get 35 (by rfl); have HJ := Lib.hid (And.intro hP0 (hP1)); clear hP0 hP1 hd hcl h0; exact hK.out _ _ ⟨Q, dq, (by simp only [OG.upd, d32, d35, hg, cond_false, Bool.cond_self]; rfl), (HJ.out.1), (HJ.out.2)⟩
  · obtain ⟨Q, dq, rfl, hP0, hP1⟩ := hJ
    have d36 := hd.get 36 (by rfl); have HJ := Lib.hid (And.intro hP0 (hP1)); clear hP0 hP1 hd hcl h0
    go_simp
    exact hK.out _ _ ⟨Q, dq, (by simp only [OG.upd, d36, hg]; rfl), (HJ.out.1), (HJ.out.2)⟩
  · obtain ⟨Q, dq, rfl, hP0, hP1⟩ := hJ
    have d36 := hd.get 36 (by rfl); have HJ := Lib.hid (And.intro hP0 (hP1)); clear hP0 hP1 hd hcl h0; exact hK.out _ _ ⟨Q, dq, (by simp only [OG.upd, d36, hg, cond_false, Bool.cond_self]; rfl), (HJ.out.1), (HJ.out.2)⟩
  · obtain ⟨Q, dq, rfl, hP0, hP1⟩ := hJ
    have d30 := hd.get 30 (by rfl); have d37 := hd.get 37 (by rfl); have HJ := Lib.hid (And.intro hP0 (hP1)); clear hP0 hP1 hd hcl h0
    rcases Bool.eq_false_or_eq_true g5 with hg | hg
    · go_simp
      exact hK.out _ _ ⟨Q, dq, (by simp only [OG.upd, d30, d37, hg, cond_false, cond_true, Bool.cond_self]; rfl), (HJ.out.1), (HJ.out.2)⟩
    · have h2 := F6.out hg
      go_simp
      exact hK.out _ _ ⟨Q, dq, (by simp only [OG.upd, d30, d37, hg, h2, cond_false, cond_true, Bool.cond_self]; rfl), (HJ.out.1), (HJ.out.2)⟩
 case se =>
  intro l0 a w hJ he; obtain ⟨Q, dq, rfl, hP0, hP1⟩ := hJ; rw [he 0 (by decide), he 1 (by decide), he 2 (by decide), he 3 (by decide), he 4 (by decide), he 5 (by decide), he 6 (by decide), he 7 (by decide), he 8 (by decide), he 9 (by decide), he 10 (by decide), he 11 (by decide), he 12 (by decide), he 13 (by decide), he 14 (by decide), he 15 (by decide), he 16 (by decide), he 17 (by decide), he 18 (by decide), he 19 (by decide), he 20 (by decide), he 21 (by decide), he 22 (by decide), he 23 (by decide), he 24 (by decide), he 25 (by decide), he 26 (by decide), he 27 (by decide), he 28 (by decide), he 29 (by decide), he 30 (by decide), he 31 (by decide), he 32 (by decide), he 33 (by decide), he 34 (by decide), he 35 (by decide), he 36 (by decide), he 37 (by decide), he 38 (by decide)]; have BE := Lib.hid (B0.out.trans (hP0.mono B0.out.size)); have RX := Lib.hid (NB.out.below hP0 NB.out.lt); have RB := Lib.hid (HB.out.below (B0.out.trans (hP0.mono B0.out.size))); clear hP0 hP1 he NB B0 hx acO acN T77 T76 E3 E4 E5 F2 F3 F4 F5 F6 G5 SH G6 HB HA KB; simp only [cond_true]
  cases g6
  case false =>
   have HN := Lib.hid (GF.out rfl); go_wp2
   go_ret
   rw [decide_eq_false HN.out]; exact ⟨rfl, BE.out⟩
  case true =>
  obtain ⟨n, e1, e2, e3, e4, h8, hl, htr⟩ := G7.out rfl; have LN : Hid (l.length = n * n ∧ n ≤ 8) := Lib.hid ⟨hl, h8⟩; have TP := Lib.hid htr; clear hl h8 htr GF G7; subst e1 e2 e3 e4; simp only [Bool.not_true]; have x0 := RX.out.cell
  go_wp2_with fail
  go_loop [48] (fun u => ∃ k : Nat, (k ≤ n ∧ ∀ i, i < k → 0 ≤ l.getD (i * n + i) 0) ∧ u = .int .i64 k) (fun u => n - (intOf u).toNat)
  case atStart => exact ⟨0, ⟨Nat.zero_le _, fun i hi => by omega⟩, rfl⟩
  case round =>
   obtain ⟨k, ⟨hk, hd⟩, rfl⟩ := hrel; have HD := Lib.hid hd; clear hd
   by_cases hlt : k < n
   · have hln := LN.out
     have n64 := sq8 hln.2; have hlk := jK hlt hlt; obtain ⟨b, off, hBe, _, hcells⟩ := RB.out.cells (by omega); subst hBe; have c1 := hcells (k * n + k) _ (iw (by omega))
     obtain ⟨q, hq⟩ : ∃ q, l.getD (k * n + k) 0 = q := ⟨_, rfl⟩
     rw [hq] at c1; have HQ := Lib.hid hq
     obtain ⟨p, hp⟩ : ∃ p : Nat, k * n = p := ⟨_, rfl⟩
     have hp2 : (k : Int) * (n : Int) = (p : Int) := by rw [← hp]; push_cast; rfl
     rw [hp] at c1 hlk
     have hw1 : IntKind.i64.wrap ((k : Int) * (n : Int)) = (p : Int) := by rw [hp2]; simp [IntKind.wrap, IntKind.bits, IntKind.signed]; omega
     have hw2 : IntKind.i64.wrap ((p : Int) + (k : Int)) = ((p + k : Nat) : Int) := by simp [IntKind.wrap, IntKind.bits, IntKind.signed]; omega
     obtain ⟨j, hj⟩ : ∃ j : Nat, p + k = j := ⟨_, rfl⟩
     rw [hj] at c1 hlk hw2
     have hj0 : (0 : Int) ≤ (j : Int) := by omega
     have hj1 : (j : Int) < l.length := by omega
     have hk8 : k + 1 ≤ 8 := by omega
     have HK : Hid (k + 1 ≤ n ∧ n ≤ 8) := Lib.hid ⟨by omega, by omega⟩
     by_cases hq0 : q < 0
     · have e1 : decide (q < 0) = true := decide_eq_true hq0
       have HN : Hid (¬ dP n 1 x n n l) := Lib.hid (fun h => by
        have h2 := TP.out.1 h k hlt (Nat.zero_le _); have h3 := HQ.out
        omega)
       clear hq hp hp2 hj hln n64 hlk hcells LN hq0; go_wp2
       go_ret
       rw [decide_eq_false HN.out]; exact ⟨rfl, BE.out⟩
     · have e1 : decide (q < 0) = false := decide_eq_false hq0
       have HD2 : Hid (∀ i, i < k + 1 → 0 ≤ l.getD (i * n + i) 0) := Lib.hid (fun i hi => by
        obtain rfl | h : i = k ∨ i < k := by omega
        · have := HQ.out
          omega
        · exact HD.out i h)
       clear hq hp hp2 hj hln n64 hlk hcells LN hq0 HD; go_wp2
       go_round
       case rel => exact ⟨k + 1, ⟨HK.out.1, HD2.out⟩, by go_num⟩
       case measure => simp [intOf]; omega
   · have ht : dP n 1 x n n l := TP.out.2 (fun i hi _ => HD.out i (by omega))
     have HT := Lib.hid ht; clear ht; go_wp2
     go_ret
     rw [decide_eq_true HT.out]; exact ⟨rfl, BE.out⟩
end Go.Proofs.YtcfobekkchhbbaaGreat.PR

namespace Go.Proofs.YtcfobekkchhbbaaGreat.EE
open Go.RowKit Go.Proofs.YtcfobekkchhbbaaGreat.KK Go.Proofs.af.aK Go.Proofs.af.aV Go.Proofs.af.aW
set_option linter.unusedVariables false
set_option linter.unusedSimpArgs false
def Eg.xy (e : Eg) : Array Value := #[I e.t0.r, I e.t0.c, .slice e.t0.A e.t0.x.length e.t0.cx, I e.t0.r', I e.t0.c', .slice e.t0.B e.t0.p.length e.t0.cp,
    I e.t1.r, I e.t1.c, .slice e.t1.A e.t1.x.length e.t1.cx, I e.t1.r', I e.t1.c', .slice e.t1.B e.t1.p.length e.t1.cp,
    I e.t2.r, I e.t2.c, .slice e.t2.A e.t2.x.length e.t2.cx, I e.t2.r', I e.t2.c', .slice e.t2.B e.t2.p.length e.t2.cp]
def Eg.rest (e : Eg) : Bool := PQ.fC (PQ.at4 e.q0 e.q1 e.q2 e.q3) 4 && decide (0 ≤ e.steps) && decide (e.steps ≤ 1099511627776) && !fO e.dU && !([e.f0, e.f1, e.f2, e.f3].any fO)
theorem Eg.VT (e : Eg) (h0 : e.t0.ok = true) (h1 : e.t1.ok = true) (h2 : e.t2.ok = true) : e.ok = e.rest := by
 unfold Eg.ok Eg.rest Eg.t3 Eg.n0 Eg.o4
 rw [h0, h1, h2]
 have a1 : decide (e.steps < 0) = !decide (0 ≤ e.steps) := by by_cases h : 0 ≤ e.steps <;> simp [h] <;> omega
 have a2 : decide (e.steps > 1099511627776) = !decide (e.steps ≤ 1099511627776) := by by_cases h : e.steps ≤ 1099511627776 <;> simp [h] <;> omega
 have a3 : fO e.dU = (decide (e.dU < 0) || decide (e.dU > 1000)) := rfl; rw [a1, a2, a3]; simp only [List.any_cons, List.any_nil]; generalize fO e.f0 = a, fO e.f1 = b, fO e.f2 = c, fO e.f3 = d, decide (0 ≤ e.steps) = s, decide (e.steps ≤ 1099511627776) = t, decide (e.dU < 0) = u, decide (e.dU > 1000) = v, PQ.fC (PQ.at4 e.q0 e.q1 e.q2 e.q3) 4 = r
 revert a b c d s t u v r
 decide
theorem Eg.zK (e : Eg) (k : Nat) (hk : k < 3) (h : (e.t k).ok = false) : e.ok = false := by
 have : e.t3 = false := by
  obtain rfl | rfl | rfl : k = 0 ∨ k = 1 ∨ k = 2 := by omega
  · show (e.t0.ok && _) = false
    rw [show e.t0.ok = false from h]; rfl
  · show (e.t0.ok && (e.t1.ok && _)) = false
    rw [show e.t1.ok = false from h]
    simp
  · show (e.t0.ok && (e.t1.ok && e.t2.ok)) = false
    rw [show e.t2.ok = false from h]
    simp
 unfold Eg.ok
 rw [this]
 simp
theorem Eu (e : Eg) (w : World) (hr : ∀ j, j < 3 → xR w (e.t j)) :
 Calls Tryz.prog 15 #[.agg e.R] w fun x w' => x = .returned (.bool e.ok) ∧ Below w.heap.size w w' := by
 have HK : Hid (∀ j, j < 3 → ∀ w', Below w.heap.size w w' → Calls Tryz.prog 39 #[.agg (e.t j).row] w' fun x w'' => x = .returned (.bool (decide (PR.dP (e.t j).r (e.t j).c (e.t j).x (e.t j).r' (e.t j).c' (e.t j).p))) ∧ Below w'.heap.size w' w'') := Lib.hid (fun j hj w' hb =>
  PR.Dv (e.t j).r (e.t j).c (e.t j).A (e.t j).cx (e.t j).x (e.t j).r' (e.t j).c' (e.t j).B (e.t j).cp (e.t j).p w' ((hr j hj).x.below hb) ((hr j hj).p.below hb) (hr j hj).pd)
 have L : Hid (aY w [(35, e.R)] (w.alloc (.cells e.R 35))) := Lib.hid ((aY.none w).push (by simp) _ _); clear hr
 go_enter Tryz.func15, Tryz.ntmps15
 go_upto_region 1 with fail
 generalize (w.alloc (.cells e.R 35)) = w1 at L ⊢; have RA := Lib.hid (Row.range L.out.r0 4 e.xy.toList (by kernel_rfl)); have i34 := Lib.hid (show (Tryz.prog.info? 32).map (·.size) = some e.xy.toList.length by kernel_rfl)
 go_wp2_with (with_reducible refine wpList_load_mid rfl 32 (.tmp 6) rfl w.heap.size 4 rfl e.xy.toList _ RA.out Tryz.underlying32 rfl i34.out ?_)
 clear RA i34; have IX : Hid ((∀ w', (Instr.index 32 (.agg e.xy) (.int .i64 0)).run Tryz.prog w' = .ok (.agg e.t0.row) w') ∧ (∀ w', (Instr.index 32 (.agg e.xy) (.int .i64 1)).run Tryz.prog w' = .ok (.agg e.t1.row) w') ∧ (∀ w', (Instr.index 32 (.agg e.xy) (.int .i64 2)).run Tryz.prog w' = .ok (.agg e.t2.row) w')) := Lib.hid ⟨fun w' => by kernel_rfl, fun w' => by kernel_rfl, fun w' => by kernel_rfl⟩
 go_loopw [8] (fun i wl => ∃ k : Nat, k ≤ 3 ∧ i = .int .i64 k ∧ Hid (aY w [(35, e.R)] wl) ∧ Hid (∀ j, j < k → (e.t j).ok = true)) (fun i _ => 3 - (intOf i).toNat)
 case atStart => exact ⟨0, by omega, rfl, L, Lib.hid (fun j hj => by omega)⟩
 case round =>
  clear L; obtain ⟨k, hk, rfl, L, FT⟩ := hrel
  obtain rfl | rfl | rfl | rfl : k = 3 ∨ k = 0 ∨ k = 1 ∨ k = 2 := by omega
  · have RS := Lib.hid (e.VT (FT.out 0 (by decide)) (FT.out 1 (by decide)) (FT.out 2 (by decide)))
    clear FT; have hc : ∀ i, wr.cell? ⟨w.heap.size, i, none⟩ = e.row[i]? := L.out.r0.cell
    go_wp2_with fail
    refine (PQ.jG e.q0 e.q1 e.q2 e.q3 _).mono ?_
    rintro x w5 ⟨rfl, hb⟩; have L5 := Lib.hid (L.out.below hb); clear hb hc L HK IX; have hc : ∀ i, w5.cell? ⟨w.heap.size, i, none⟩ = e.row[i]? := L5.out.r0.cell
    cases h1 : PQ.fC (PQ.at4 e.q0 e.q1 e.q2 e.q3) 4
    · go_wp2
      go_ret
      exact ⟨by rw [RS.out]; simp [Eg.rest, h1], L5.out.be⟩
    cases h2 : decide (e.steps ≥ 0)
    · go_wp2
      go_ret
      exact ⟨by rw [RS.out]; simp only [Eg.rest, h1, show decide (0 ≤ e.steps) = false from h2]; rfl, L5.out.be⟩
    cases h3 : decide (e.steps ≤ 1099511627776)
    · go_wp2
      go_ret
      exact ⟨by rw [RS.out]; simp only [Eg.rest, h1, h3, show decide (0 ≤ e.steps) = true from h2]; rfl, L5.out.be⟩
    go_wp2_with fail
    refine (yg e.dU _).mono ?_
    rintro x w6 ⟨rfl, hb⟩; have L6 := Lib.hid (L5.out.below hb); clear hb hc L5; have hc : ∀ i, w6.cell? ⟨w.heap.size, i, none⟩ = e.row[i]? := L6.out.r0.cell
    cases h4 : fO e.dU
    case true =>
     go_wp2
     go_ret
     exact ⟨by rw [RS.out]; simp only [Eg.rest, h1, h3, h4, show decide (0 ≤ e.steps) = true from h2]; rfl, L6.out.be⟩
    go_wp2_with fail
    refine (xP (some ⟨w.heap.size, 24, none⟩) 4 [e.f0, e.f1, e.f2, e.f3] w6 (Rd.part L6.out.r0 (by simp) (fun j x hx => ?_)) (by simp)).mono ?_
    · match j, hx with
      | 0, hx => injection hx with hx; subst hx; rfl
      | 1, hx => injection hx with hx; subst hx; rfl
      | 2, hx => injection hx with hx; subst hx; rfl
      | 3, hx => injection hx with hx; subst hx; rfl
      | j + 4, hx => simp at hx
    rintro x w7 ⟨rfl, hb⟩; have L7 := Lib.hid (L6.out.below hb); clear hb hc L6; go_wp2
    go_ret
    have hE : (!fO e.f0 && (!fO e.f1 && (!fO e.f2 && !fO e.f3))) = !([e.f0, e.f1, e.f2, e.f3].any fO) := by
     simp only [List.any_cons, List.any_nil]; generalize fO e.f0 = a, fO e.f1 = b, fO e.f2 = c, fO e.f3 = d
     revert a b c d
     decide
    have hR : e.rest = (!fO e.f0 && (!fO e.f1 && (!fO e.f2 && !fO e.f3))) := by
     rw [hE]; simp only [Eg.rest, h1, h3, h4, show decide (0 ≤ e.steps) = true from h2]; rfl
    exact ⟨by rw [RS.out, hR]; rfl, L7.out.be⟩
  · have ix := IX.out.1
    have z0 := L.out.r0.lt
    go_wp2_with fail
    refine (HK.out 0 (by decide) _ (L.out.alloc _).be).mono ?_
    rintro x w5 ⟨rfl, hb⟩; have L5 := Lib.hid ((L.out.alloc _).below hb); have R5 := Lib.hid (Row.below (Row.new wr 31 e.t0.row) hb (Row.new wr 31 e.t0.row).lt); clear hb L; have c5 : w5.cell? ⟨wr.heap.size, 0, none⟩ = some (I e.t0.r) := R5.out.cell 0; have OK : Hid ((e.t 0).ok = (decide (PR.dP (e.t 0).r (e.t 0).c (e.t 0).x (e.t 0).r' (e.t 0).c' (e.t 0).p) && decide (e.t0.r = 3))) := Lib.hid rfl; generalize decide (PR.dP (e.t 0).r (e.t 0).c (e.t 0).x (e.t 0).r' (e.t 0).c' (e.t 0).p) = tp at OK ⊢
    cases tp
    case false =>
     have NO : Hid (e.ok = false) := Lib.hid (e.zK 0 (by decide) (by rw [OK.out]; rfl)); go_wp2
     exact bodyPost_ret (results_tmp rfl _ _ _) rfl ⟨by rw [NO.out]; rfl, L5.out.be⟩
    by_cases h3 : e.t0.r = 3
    case neg =>
     have NO : Hid (e.ok = false) := Lib.hid (e.zK 0 (by decide) (by rw [OK.out, decide_eq_false h3]; rfl))
     have d3 : (e.t0.r != 3) = true := by rw [bne_iff_ne]; exact h3
     clear h3; go_wp2
     exact bodyPost_ret (results_tmp rfl _ _ _) rfl ⟨by rw [NO.out]; rfl, L5.out.be⟩
    have P6 : Hid (∀ j, j < 0 + 1 → (e.t j).ok = true) := Lib.hid (fun j hj => by
     obtain rfl | h : j = 0 ∨ j < 0 := by omega
     · rw [OK.out, h3]; rfl
     · exact FT.out j h)
    have d3 : (e.t0.r != 3) = false := by rw [h3]; rfl
    clear h3 OK FT; go_wp2
    go_roundw
    case rel => exact ⟨0 + 1, by omega, by go_num, L5, P6⟩
    case measure => simp [intOf]
  · have ix := IX.out.2.1
    have z0 := L.out.r0.lt
    go_wp2_with fail
    refine (HK.out 1 (by decide) _ (L.out.alloc _).be).mono ?_
    rintro x w5 ⟨rfl, hb⟩; have L5 := Lib.hid ((L.out.alloc _).below hb); have R5 := Lib.hid (Row.below (Row.new wr 31 e.t1.row) hb (Row.new wr 31 e.t1.row).lt); clear hb L; have c5 : w5.cell? ⟨wr.heap.size, 0, none⟩ = some (I e.t1.r) := R5.out.cell 0; have OK : Hid ((e.t 1).ok = (decide (PR.dP (e.t 1).r (e.t 1).c (e.t 1).x (e.t 1).r' (e.t 1).c' (e.t 1).p) && decide (e.t1.r = 3))) := Lib.hid rfl; generalize decide (PR.dP (e.t 1).r (e.t 1).c (e.t 1).x (e.t 1).r' (e.t 1).c' (e.t 1).p) = tp at OK ⊢
    cases tp
    case false =>
     have NO : Hid (e.ok = false) := Lib.hid (e.zK 1 (by decide) (by rw [OK.out]; rfl)); go_wp2
     exact bodyPost_ret (results_tmp rfl _ _ _) rfl ⟨by rw [NO.out]; rfl, L5.out.be⟩
    by_cases h3 : e.t1.r = 3
    case neg =>
     have NO : Hid (e.ok = false) := Lib.hid (e.zK 1 (by decide) (by rw [OK.out, decide_eq_false h3]; rfl))
     have d3 : (e.t1.r != 3) = true := by rw [bne_iff_ne]; exact h3
     clear h3; go_wp2
     exact bodyPost_ret (results_tmp rfl _ _ _) rfl ⟨by rw [NO.out]; rfl, L5.out.be⟩
    have P6 : Hid (∀ j, j < 1 + 1 → (e.t j).ok = true) := Lib.hid (fun j hj => by
     obtain rfl | h : j = 1 ∨ j < 1 := by omega
     · rw [OK.out, h3]; rfl
     · exact FT.out j h)
    have d3 : (e.t1.r != 3) = false := by rw [h3]; rfl
    clear h3 OK FT; go_wp2
    go_roundw
    case rel => exact ⟨1 + 1, by omega, by go_num, L5, P6⟩
    case measure => simp [intOf]
  · have ix := IX.out.2.2
    have z0 := L.out.r0.lt
    go_wp2_with fail
    refine (HK.out 2 (by decide) _ (L.out.alloc _).be).mono ?_
    rintro x w5 ⟨rfl, hb⟩; have L5 := Lib.hid ((L.out.alloc _).below hb); have R5 := Lib.hid (Row.below (Row.new wr 31 e.t2.row) hb (Row.new wr 31 e.t2.row).lt); clear hb L; have c5 : w5.cell? ⟨wr.heap.size, 0, none⟩ = some (I e.t2.r) := R5.out.cell 0; have OK : Hid ((e.t 2).ok = (decide (PR.dP (e.t 2).r (e.t 2).c (e.t 2).x (e.t 2).r' (e.t 2).c' (e.t 2).p) && decide (e.t2.r = 3))) := Lib.hid rfl; generalize decide (PR.dP (e.t 2).r (e.t 2).c (e.t 2).x (e.t 2).r' (e.t 2).c' (e.t 2).p) = tp at OK ⊢
    cases tp
    case false =>
     have NO : Hid (e.ok = false) := Lib.hid (e.zK 2 (by decide) (by rw [OK.out]; rfl)); go_wp2
     exact bodyPost_ret (results_tmp rfl _ _ _) rfl ⟨by rw [NO.out]; rfl, L5.out.be⟩
    by_cases h3 : e.t2.r = 3
    case neg =>
     have NO : Hid (e.ok = false) := Lib.hid (e.zK 2 (by decide) (by rw [OK.out, decide_eq_false h3]; rfl))
     have d3 : (e.t2.r != 3) = true := by rw [bne_iff_ne]; exact h3
     clear h3; go_wp2
     exact bodyPost_ret (results_tmp rfl _ _ _) rfl ⟨by rw [NO.out]; rfl, L5.out.be⟩
    have P6 : Hid (∀ j, j < 2 + 1 → (e.t j).ok = true) := Lib.hid (fun j hj => by
     obtain rfl | h : j = 2 ∨ j < 2 := by omega
     · rw [OK.out, h3]; rfl
     · exact FT.out j h)
    have d3 : (e.t2.r != 3) = false := by rw [h3]; rfl
    clear h3 OK FT; go_wp2
    go_roundw
    case rel => exact ⟨2 + 1, by omega, by go_num, L5, P6⟩
    case measure => simp [intOf]
end Go.Proofs.YtcfobekkchhbbaaGreat.EE

namespace Go.Proofs.YtcfobekkchhbbaaGreat.EE
open Go.RowKit Go.Proofs.YtcfobekkchhbbaaGreat.KK Go.Proofs.af.aK Go.Proofs.af.aV Go.Proofs.af.aW
set_option linter.unusedVariables false
set_option linter.unusedSimpArgs false
theorem Ze {w : World} {B : Nat} {t : TypeId} {C : Array Value} (R : Row w B t C) (o : Nat) (vs : List Value) (D : Array Value) (h : xY C.toList o vs = D.toList) : Row (w.setCells B o vs) B t D := by
 obtain ⟨arr, h1, h2⟩ := KK.Row.setCells vs o w C R; rw [h] at h2; have : arr = D := Array.toList_inj.mp h2
 rwa [this] at h1
structure Sq (l : List Int) (A : Option Addr) (c : Nat) (w0 W : World) (k : Nat) (cs : Array Value) : Prop where
 at_ : Row W (w0.heap.size + 2) 3 #[I (k : Int)]
 sl : Row W w0.heap.size 46 #[.slice A l.length c]
 e : Row W (w0.heap.size + 3) 35 cs
 z : Row W (w0.heap.size + 1) 35 zE
 be : Below w0.heap.size w0 W
def Far (b : Nat) (W W' : World) : Prop := W'.heap.size ≥ W.heap.size ∧ ∀ g, g ≠ b → g < W.heap.size → W'.heap[g]? = W.heap[g]?
theorem Far.row {b : Nat} {W W' : World} (h : Far b W W') {g : Nat} {t : TypeId} {cs : Array Value} (hg : g ≠ b) (R : Row W g t cs) : Row W' g t cs := (h.2 g hg R.lt).trans R
theorem Nr {l : List Int} {A : Option Addr} {c : Nat} {w0 W : World} {k : Nat} {cs : Array Value} (S : Sq l A c w0 W k cs) (hl : Rd w0 A l) {v : Int} (hv : l[k]? = some v) (h38 : l.length ≤ 100) :
 Calls Tryz.prog 44 #[.pointer (some ⟨w0.heap.size + 2, 0, none⟩), .pointer (some ⟨w0.heap.size, 0, none⟩)] W fun x W' => x = .returned (I v) ∧ Sq l A c w0 W' (k + 1) cs ∧ Far (w0.heap.size + 2) W W' := by
 have hk := (List.getElem?_eq_some_iff.1 hv).1; obtain ⟨b, off, rfl, hb, hcells⟩ := (hl.below S.be).cells (by omega); have hc := hcells k v hv; have c0 := S.at_.cell 0; have f0 := S.at_.free 0; have c1 := S.sl.cell 0; have HS := Lib.hid S
 have hne : b ≠ w0.heap.size + 2 := by
  have h1 := PR.Rd.blk hl _ rfl (by omega); have h2 : b < w0.heap.size := h1; omega
 have hw : IntKind.i64.wrap ((k : Int) + 1) = ((k + 1 : Nat) : Int) := by rw [IntWalk.i64_in _ (by omega)]; omega
 have hs : IntKind.i64.wrap ((k : Int) + 1 - 1) = (k : Int) := by rw [IntWalk.i64_in _ (by omega)]; omega
 have hs2 : IntKind.i64.wrap (k : Int) = (k : Int) := IntWalk.i64_in _ (by omega)
 have g0 : (0 : Int) ≤ (k : Int) := by omega
 have g1 : (k : Int) < (l.length : Int) := by omega
 clear hcells S hb
 go_enter Tryz.func44, Tryz.ntmps44
 go_wp2
 refine bodyPost_ret (results_tmp rfl _ _ _) rfl ⟨rfl, ⟨Row.put HS.out.at_ 0 _ _ rfl, Row.far HS.out.sl (show w0.heap.size ≠ w0.heap.size + 2 by omega) _, Row.far HS.out.e (show w0.heap.size + 3 ≠ w0.heap.size + 2 by omega) _, Row.far HS.out.z (show w0.heap.size + 1 ≠ w0.heap.size + 2 by omega) _, HS.out.be.setCell (p := ⟨w0.heap.size + 2, 0, none⟩) (show w0.heap.size ≤ w0.heap.size + 2 by omega) _⟩, ?_⟩
 exact ⟨(bZ (fE W (some (w0.heap.size + 2))) 0 _).size, fun g hg _ => Below.heap_setCell W ⟨w0.heap.size + 2, 0, none⟩ _ g hg⟩
section
variable {l : List Int} {A : Option Addr} {c : Nat} {w0 W W' : World} {k : Nat} {cs : Array Value}
theorem Sq.alloc (S : Sq l A c w0 W k cs) (o : Obj) : Sq l A c w0 (W.alloc o) k cs := ⟨S.at_.alloc o, S.sl.alloc o, S.e.alloc o, S.z.alloc o, S.be.alloc S.be.size o⟩
theorem Sq.set (S : Sq l A c w0 W k cs) (i : Nat) (u : Value) : Sq l A c w0 (W.setCell ⟨w0.heap.size + 3, i, none⟩ u) k (cs.setIfInBounds i u) :=
 ⟨Row.far S.at_ (show w0.heap.size + 2 ≠ w0.heap.size + 3 by omega) _, Row.far S.sl (show w0.heap.size ≠ w0.heap.size + 3 by omega) _, Row.set S.e i u, Row.far S.z (show w0.heap.size + 1 ≠ w0.heap.size + 3 by omega) _, S.be.setCell (p := ⟨w0.heap.size + 3, i, none⟩) (show w0.heap.size ≤ w0.heap.size + 3 by omega) _⟩
theorem Sq.cells (S : Sq l A c w0 W k cs) (o : Nat) (vs : List Value) (D : Array Value) (h : xY cs.toList o vs = D.toList) : Sq l A c w0 (W.setCells (w0.heap.size + 3) o vs) k D :=
 ⟨(OG.fZ vs o W _ (by omega)).trans S.at_, (OG.fZ vs o W _ (by omega)).trans S.sl, Ze S.e o vs D h, (OG.fZ vs o W _ (by omega)).trans S.z, KK.dI _ _ _ S.be (by omega)⟩
end
end Go.Proofs.YtcfobekkchhbbaaGreat.EE

