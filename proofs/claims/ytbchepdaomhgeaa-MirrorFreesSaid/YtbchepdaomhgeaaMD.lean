import Derived.Test.YtbchepdaomhgeaaMC
/- Layer 14: scenes; what may be put out. -/
namespace Go.Proofs.Ytbchepdaomhgeaa.MM
open Go.RowKit
set_option linter.unusedVariables false
set_option linter.unusedSimpArgs false
/-- blocks that lie side by side, from b on -/
def Rows (w : World) : Nat → List (TypeId × Array Value) → Prop
  | _, [] => True
  | b, x :: l => Row w b x.1 x.2 ∧ Rows w (b + 1) l
section
variable {w w' w0 : World} {b : Nat} {L : List (TypeId × Array Value)}
theorem Rows.imp (h : ∀ k t cs, b ≤ k → k < b + L.length → Row w k t cs → Row w' k t cs) (H : Rows w b L) : Rows w' b L := by
  induction L generalizing b with
  | nil => trivial
  | cons x l ih =>
    refine ⟨h b _ _ (Nat.le_refl _) (by simp) H.1, ih (fun k t cs h1 h2 => h k t cs (by omega) (by simp; omega)) H.2⟩
theorem Rows.le (H : Rows w b L) (hb : b ≤ w.heap.size) : b + L.length ≤ w.heap.size := by
  induction L generalizing b with
  | nil => simpa using hb
  | cons x l ih => have := ih H.2 H.1.lt; simp; omega
theorem Rows.alloc (h : Rows w b L) (o : Obj) : Rows (w.alloc o) b L := h.imp fun _ _ _ _ _ r => r.alloc o
theorem Rows.drew (h : Rows w b L) : Rows w.drew b L := h.imp fun _ _ _ _ _ r => r.drew
theorem Rows.below (h : Rows w b L) (hb : Below w.heap.size w w') : Rows w' b L := h.imp fun _ _ _ _ _ r => r.below hb r.lt
theorem Rows.set_imp (j : Nat) (t : TypeId) (cs : Array Value) (hr : Row w' (b + j) t cs) (h : ∀ k t cs, k ≠ b + j → Row w k t cs → Row w' k t cs) (H : Rows w b L) : Rows w' b (L.set j (t, cs)) := by
  induction L generalizing b j with
  | nil => trivial
  | cons x l ih =>
    cases j with
    | zero => exact ⟨hr, H.2.imp fun k t cs h1 h2 => h k t cs (by omega)⟩
    | succ j => exact ⟨h _ _ _ (by omega) H.1, ih j (by rwa [Nat.add_assoc, Nat.add_comm 1]) (fun k t cs h1 => h k t cs (by omega)) H.2⟩
theorem Rows.push (H : Rows w b L) (h : w.heap.size = b + L.length) (t : TypeId) (cs : Array Value) : Rows (w.alloc (.cells cs t)) b (L ++ [(t, cs)]) := by
  have := (H.alloc (.cells cs t))
  have e := Row.new w t cs
  rw [h] at e
  clear H h
  induction L generalizing b with
  | nil => exact ⟨e, trivial⟩
  | cons x l ih => exact ⟨this.1, ih this.2 (by simp only [List.length_cons] at e; rwa [Nat.add_assoc, Nat.add_comm 1])⟩
end
/-- blocks of a call's own, and nothing else was touched -/
structure Scene (w0 : World) (L : List (TypeId × Array Value)) (w : World) : Prop where
  rows : Rows w w0.heap.size L
  be : Below w0.heap.size w0 w
section
variable {w w' w0 : World} {L : List (TypeId × Array Value)}
theorem Scene.none (w : World) : Scene w [] w := ⟨trivial, Below.refl _ w⟩
theorem Scene.push (h : Scene w0 L w) (e : w.heap.size = w0.heap.size + L.length) (t : TypeId) (cs : Array Value) : Scene w0 (L ++ [(t, cs)]) (w.alloc (.cells cs t)) :=
  ⟨h.rows.push e t cs, h.be.alloc h.be.size _⟩
theorem Scene.alloc (h : Scene w0 L w) (o : Obj) : Scene w0 L (w.alloc o) := ⟨h.rows.alloc o, h.be.alloc h.be.size o⟩
theorem Scene.drew (h : Scene w0 L w) : Scene w0 L w.drew := ⟨h.rows.drew, h.be.drew⟩
theorem Scene.below (h : Scene w0 L w) (hb : Below w.heap.size w w') : Scene w0 L w' := ⟨h.rows.below hb, h.be.trans (hb.mono h.be.size)⟩
theorem Scene.grown (j : Nat) (t : TypeId) (cs : Array Value) (h : Scene w0 L w) (hg : w.grownBy w' (some (w0.heap.size + j))) (hr : Row w' (w0.heap.size + j) t cs) : Scene w0 (L.set j (t, cs)) w' :=
  ⟨h.rows.set_imp j t cs hr fun k t cs hk r => r.grown hg (by simpa using hk),
    ⟨hg.os.trans h.be.os, hg.tape.trans h.be.tape, hg.output.trans h.be.output, Nat.le_trans h.be.size hg.size, fun k hk => (hg.block k (Nat.lt_of_lt_of_le hk h.be.size) (by simp; omega)).trans (h.be.block k hk)⟩⟩
theorem Scene.put (j : Nat) (h : Scene w0 L w) (t : TypeId) (cs : Array Value) (hr : Row w (w0.heap.size + j) t cs) (i : Nat) (u : Value) : Scene w0 (L.set j (t, cs.setIfInBounds i u)) (w.setCell ⟨w0.heap.size + j, i, .none⟩ u) :=
  ⟨h.rows.set_imp j t _ (hr.set i u) fun k t cs hk r => r.far (by simpa using hk) u, h.be.setCell (by simp) u⟩
variable {x0 x1 x2 x3 x4 x5 : TypeId × Array Value}
theorem Scene.r0 (h : Scene w0 (x0 :: L) w) : Row w w0.heap.size x0.1 x0.2 := h.rows.1
theorem Scene.r1 (h : Scene w0 (x0 :: x1 :: L) w) : Row w (w0.heap.size + 1) x1.1 x1.2 := h.rows.2.1
theorem Scene.r2 (h : Scene w0 (x0 :: x1 :: x2 :: L) w) : Row w (w0.heap.size + 1 + 1) x2.1 x2.2 := h.rows.2.2.1
theorem Scene.r3 (h : Scene w0 (x0 :: x1 :: x2 :: x3 :: L) w) : Row w (w0.heap.size + 1 + 1 + 1) x3.1 x3.2 := h.rows.2.2.2.1
theorem Scene.r4 (h : Scene w0 (x0 :: x1 :: x2 :: x3 :: x4 :: L) w) : Row w (w0.heap.size + 1 + 1 + 1 + 1) x4.1 x4.2 := h.rows.2.2.2.2.1
theorem Scene.r5 (h : Scene w0 (x0 :: x1 :: x2 :: x3 :: x4 :: x5 :: L) w) : Row w (w0.heap.size + 1 + 1 + 1 + 1 + 1) x5.1 x5.2 := h.rows.2.2.2.2.2.1
end

theorem Sl.below {w w' : World} {v : Value} {l : List Ot} (h : Sl w v l) (hb : Below w.heap.size w w') : Sl w' v l := by
  obtain ⟨A, c, rfl, hc, hA, hw⟩ := h
  exact ⟨A, c, rfl, hc, hA, (hw.below hb).more hb.size⟩
theorem firstOver_lt {n : Int} : ∀ {l : List Ot} {m : Nat}, firstOver n l = some m → m < l.length := by
  intro l
  induction l with
  | nil => intro m h; cases h
  | cons x l ih =>
    intro m h
    unfold firstOver at h
    split at h
    · injection h with h; subst h; simp
    · cases hf : firstOver n l with
      | none => rw [hf] at h; cases h
      | some j =>
        rw [hf] at h
        injection h with h
        have := ih hf
        subst h
        simp
        omega
theorem Wts.take {w : World} {B : Nat} {A : Option Addr} {l : List Ot} (h : Wts w B A l) (m : Nat) : Wts w B A (l.take m) := fun hl => by
  obtain ⟨b, off, e, hb, hc⟩ := h (fun e => hl (by rw [e]; simp))
  refine ⟨b, off, e, hb, fun i o ho => hc i o ?_⟩
  rw [List.getElem?_take] at ho
  split at ho
  · exact ho
  · cases ho
theorem Wts.drop {w : World} {B : Nat} {A : Option Addr} {l : List Ot} (h : Wts w B A l) (m c : Nat) (hc : l.length ≤ c) : Wts w B (if c = m then A else A.map (fun x => x.add (m * 4))) (l.drop m) := fun hl => by
  have hm : m < l.length := by
    rcases Nat.lt_or_ge m l.length with h | h
    · exact h
    · exact absurd (List.drop_eq_nil_of_le h) hl
  obtain ⟨b, off, e, hb, hx⟩ := h (fun e => hl (by rw [e]; simp))
  subst e
  rw [if_neg (by omega)]
  have ea : ∀ n, (⟨b, off, none⟩ : Addr).add n = ⟨b, off + n, none⟩ := fun n => by unfold Addr.add; split <;> simp_all
  refine ⟨b, off + m * 4, by simp [ea], hb, fun i o ho => ?_⟩
  have := hx (m + i) o (by rw [← ho, List.getElem?_drop])
  rwa [show off + (m + i) * 4 = off + m * 4 + i * 4 by omega] at this
theorem Sl.keep {w w' : World} {v : Value} {l : List Ot} (h : Sl w v l) (hk : ∀ p : Addr, v.ownBlock = some p.block → w'.cell? p = w.cell? p) (hb : w.heap.size ≤ w'.heap.size) : Sl w' v l := by
  obtain ⟨A, c, rfl, hc, hA, hw⟩ := h
  refine ⟨A, c, rfl, hc, hA, fun hl => ?_⟩
  obtain ⟨b, off, rfl, hlt, hx⟩ := hw hl
  exact ⟨b, off, rfl, by omega, fun i o ho => by
    have k : ∀ n, w'.cell? ⟨b, n, none⟩ = w.cell? ⟨b, n, none⟩ := fun n => hk ⟨b, n, none⟩ rfl
    rw [k, k, k, k]; exact hx i o ho⟩
theorem Sl.setCell {w : World} {v : Value} {l : List Ot} (h : Sl w v l) {p : Addr} (hp : ∀ g, v.ownBlock = some g → g ≠ p.block) (u : Value) : Sl (w.setCell p u) v l :=
  h.keep (fun q hq => World.cell?_setCell_other w p q u (fun e => hp _ hq (by rw [e]))) (by simp)
theorem Sl.fill7 {w : World} {v : Value} {l : List Ot} {C : Nat} (h : Sl w v l) (hp : ∀ g, v.ownBlock = some g → g ≠ C) (a b c d e f g : Value) : Sl (MM.fill7 w C a b c d e f g) v l :=
  ((((((h.setCell (p := ⟨C, 0, none⟩) hp a).setCell (p := ⟨C, 1, none⟩) hp b).setCell (p := ⟨C, 2, none⟩) hp c).setCell (p := ⟨C, 3, none⟩) hp d).setCell (p := ⟨C, 4, none⟩) hp e).setCell (p := ⟨C, 5, none⟩) hp f).setCell (p := ⟨C, 6, none⟩) hp g
theorem free_end {w w3 : World} {d : Dk} {A : Option Addr} {c m : Nat} {l : List Ot} {s0 v : Value} {l2 : List Ot}
    (N : Scene w [(26, d.row s0), (26, #[I 0, I 0, I 0, I 0, I 0, I 0, .slice none 0 0])] w3) (hw : Wts w w.heap.size A l) (hc : l.length ≤ c) (hA : A = none → c = 0) (hm : m ≤ l.length)
    (hv : Sl w3 v l2) (hg : ∀ g, v.ownBlock = some g → w.heap.size + 2 ≤ g) (s' : Value) (hs' : s' = .slice (if c = m then A else A.map (fun x => x.add (m * 4))) (l.length - m) (c - m)) (wf : World)
    (hwf : wf = fill7 (w3.setCell ⟨w.heap.size, 6, none⟩ s') (w.heap.size + 1) (I d.gen) (I d.k) (I d.acked) (I d.peer) (I d.stage) (I d.seq) s') :
    Row wf (w.heap.size + 1) 26 (d.row s') ∧ Sl wf s' (l.drop m) ∧ Sl wf v l2 ∧ Below w.heap.size w wf := by
  subst hwf
  have hb := Below.fill7 (C := w.heap.size + 1) (N.be.setCell (p := ⟨w.heap.size, 6, none⟩) (Nat.le_refl _) s') (by omega) (I d.gen) (I d.k) (I d.acked) (I d.peer) (I d.stage) (I d.seq) s'
  refine ⟨(N.r1.far (p := ⟨w.heap.size, 6, none⟩) (by simp) s').fill7 _ _ _ _ _ _ _, ?_, ?_, hb⟩
  · subst hs'
    refine ⟨_, _, by rw [List.length_drop], by rw [List.length_drop]; omega, fun e => ?_, ((hw.drop m c hc).below hb).more hb.size⟩
    split at e
    · have := hA e; omega
    · cases A with
      | none => have := hA rfl; omega
      | some a => cases e
  · exact (hv.setCell (p := ⟨w.heap.size, 6, none⟩) (fun g h => by have := hg g h; simp; omega) _).fill7 (fun g h => by have := hg g h; omega) _ _ _ _ _ _ _
def cutAt (n : Int) (l : List Ot) : Nat := (firstOver n l).getD l.length
set_option maxRecDepth 100000 in
set_option maxHeartbeats 4000000 in
theorem free_calls (d : Dk) (s : Value) (l : List Ot) (w : World) (hs : Sl w s l) (hlen : l.length ≤ 64) :
    Calls Try.prog 13 #[d.val s] w fun e w' => ∃ s' v, e = .returned (.tuple #[d.val s', v]) ∧ Sl w' s' (l.drop (cutAt d.bound l)) ∧ Sl w' v (l.take (cutAt d.bound l)) ∧ Below w.heap.size w w' := by
  obtain ⟨A, c, rfl, hc, hA, hw⟩ := hs
  have HW := Lib.hid hw
  have HL := Lib.hid hlen
  have HC := Lib.hid hc
  have HA := Lib.hid hA
  clear hw hlen hc hA
  have hmf : ∀ (fn : Fn) (first cap : Array Value) (w : World), (Instr.makeFunc fn first cap).run Try.prog w = .ok (.func fn first cap) w := fun _ _ _ _ => rfl
  go_enter Try.func13, Try.ntmps13
  go_wp2_with fail
  refine (bound_calls d _ _).mono ?_
  rintro e w1 ⟨rfl, hb⟩
  have M : Hid (Scene w [(26, d.row (.slice A l.length c)), (26, #[I 0, I 0, I 0, I 0, I 0, I 0, .slice none 0 0])] w1) := Lib.hid ((((Scene.none w).push (by simp) _ _).push (by simp) _ _).below hb)
  clear hb
  have c0 := M.out.r0.cell
  have l0 := M.out.r0.lt
  have l1 := M.out.r1.lt
  go_wp2_with fail
  have N : Hid (Scene w [(26, d.row (.slice A l.length c)), (26, #[I 0, I 0, I 0, I 0, I 0, I 0, .slice none 0 0])] (w1.alloc (.cells #[I d.bound] 2))) := Lib.hid (M.out.alloc _)
  have R := Lib.hid (Row.new w1 2 #[I d.bound])
  have hx := R.out.cell 0
  clear M c0 l0 l1
  refine (index_calls A c l _ d.bound _ ((HW.out.below N.out.be).more N.out.be.size) HL.out hx).mono ?_
  rintro e w2 ⟨rfl, hb⟩
  have M := Lib.hid (N.out.below hb)
  clear hb R N hx
  have c0 := M.out.r0.cell
  have l0 := M.out.r0.lt
  have l1 := M.out.r1.lt
  rcases hf : firstOver d.bound l with _ | m
  · have e0 : idx (none : Option Nat) = -1 := rfl
    have hcut : cutAt d.bound l = l.length := by unfold cutAt; rw [hf]; rfl
    have HCUT := Lib.hid hcut
    clear hcut hf
    have hmc : l.length ≤ c := HC.out
    have ht : (l.take l.length).length = l.length := by rw [List.length_take]; omega
    have hcl := clone_calls A c (l.take l.length) w2 (((HW.out.below M.out.be).more M.out.be.size).take l.length) (by have := HL.out; omega) (fun e => by have := HA.out e; have := HC.out; omega)
    rw [ht] at hcl
    have HCL := Lib.hid hcl
    have HT := Lib.hid ht
    clear hcl ht
    go_wp2_with fail
    refine HCL.out.mono ?_
    rintro e w3 ⟨v, rfl, hv, hg, hb⟩
    have HV := Lib.hid hv
    have HG := Lib.hid hg
    have N := Lib.hid (M.out.below hb)
    clear HCL hv hg hb M c0
    have c0 := N.out.r0.cell
    have f0 := N.out.r0.free
    have c1 := N.out.r1.cell
    have f1 := N.out.r1.free
    have hnn := N.out.r0.lt
    have HN2 := Lib.hid (show w.heap.size + 2 ≤ w2.heap.size by omega)
    go_wp2
    · have hcm : c = l.length := by assumption
      have E := free_end N.out HW.out HC.out HA.out (m := l.length) (by omega) HV.out (fun g h => by have := HG.out g h; have := HN2.out; omega) (.slice A (l.length - l.length) 0) (by rw [if_pos hcm, hcm, Nat.sub_self]) _ rfl
      rw [Nat.sub_self] at E
      exact bodyPost_ret (results_cell_tmp rfl rfl E.1) rfl ⟨_, _, rfl, by rw [HCUT.out]; exact E.2⟩
    · have hcm : ¬ c = l.length := by assumption
      have E := free_end N.out HW.out HC.out HA.out (m := l.length) (by omega) HV.out (fun g h => by have := HG.out g h; have := HN2.out; omega) (.slice (A.map (fun x => x.add (l.length * 4))) (l.length - l.length) (c - l.length)) (by rw [if_neg hcm]) _ rfl
      rw [Nat.sub_self] at E
      exact bodyPost_ret (results_cell_tmp rfl rfl E.1) rfl ⟨_, _, rfl, by rw [HCUT.out]; exact E.2⟩
  · have e0 : idx (some m) = m := rfl
    have hcut : cutAt d.bound l = m := by unfold cutAt; rw [hf]; rfl
    have hml : m < l.length := firstOver_lt hf
    have HCUT := Lib.hid hcut
    clear hcut hf
    have hmc : m ≤ c := by have := HC.out; omega
    have ht : (l.take m).length = m := by rw [List.length_take]; omega
    have hcl := clone_calls A c (l.take m) w2 (((HW.out.below M.out.be).more M.out.be.size).take m) (by have := HL.out; omega) (fun e => by have := HA.out e; have := HC.out; omega)
    rw [ht] at hcl
    have HCL := Lib.hid hcl
    have HT := Lib.hid ht
    clear hcl ht
    go_wp2_with fail
    refine HCL.out.mono ?_
    rintro e w3 ⟨v, rfl, hv, hg, hb⟩
    have HV := Lib.hid hv
    have HG := Lib.hid hg
    have N := Lib.hid (M.out.below hb)
    clear HCL hv hg hb M c0
    have c0 := N.out.r0.cell
    have f0 := N.out.r0.free
    have c1 := N.out.r1.cell
    have f1 := N.out.r1.free
    have hnn := N.out.r0.lt
    have HN2 := Lib.hid (show w.heap.size + 2 ≤ w2.heap.size by omega)
    go_wp2
    · have hcm : c = m := by assumption
      have E := free_end N.out HW.out HC.out HA.out (m := m) (by omega) HV.out (fun g h => by have := HG.out g h; have := HN2.out; omega) (.slice A (l.length - m) 0) (by rw [if_pos hcm, hcm, Nat.sub_self]) _ rfl
      skip
      exact bodyPost_ret (results_cell_tmp rfl rfl E.1) rfl ⟨_, _, rfl, by rw [HCUT.out]; exact E.2⟩
    · have hcm : ¬ c = m := by assumption
      have E := free_end N.out HW.out HC.out HA.out (m := m) (by omega) HV.out (fun g h => by have := HG.out g h; have := HN2.out; omega) (.slice (A.map (fun x => x.add (m * 4))) (l.length - m) (c - m)) (by rw [if_neg hcm]) _ rfl
      skip
      exact bodyPost_ret (results_cell_tmp rfl rfl E.1) rfl ⟨_, _, rfl, by rw [HCUT.out]; exact E.2⟩
end Go.Proofs.Ytbchepdaomhgeaa.MM
