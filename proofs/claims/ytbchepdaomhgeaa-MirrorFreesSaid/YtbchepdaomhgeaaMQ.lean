import Derived.Test.YtbchepdaomhgeaaMN
/- Layer 14: what may be put out, with whose block; what the law of MirrorFrees keeps. -/
namespace Go.Proofs.Ytbchepdaomhgeaa.MM
open Go.RowKit
set_option linter.unusedVariables false
set_option linter.unusedSimpArgs false
theorem own_same {A : Option Addr} {n n' c c' g : Nat} (h : (Value.slice A n' c').ownBlock = some g) : (Value.slice A n c).ownBlock = some g := by
  cases A <;> simp_all [Value.ownBlock]
theorem own_map {A : Option Addr} {m n n' c c' g : Nat} (h : (Value.slice (A.map (fun x => x.add (m * 4))) n' c').ownBlock = some g) : (Value.slice A n c).ownBlock = some g := by
  cases A with
  | none => simp [Value.ownBlock] at h
  | some a =>
    have e : (a.add (m * 4)).block = a.block := by unfold Addr.add; split <;> rfl
    simpa [Value.ownBlock, e] using h
set_option maxRecDepth 100000 in
set_option maxHeartbeats 4000000 in
theorem free_calls' (d : Dk) (s : Value) (l : List Ot) (w : World) (hs : Sl w s l) (hlen : l.length ≤ 64) :
    Calls Try.prog 13 #[d.val s] w fun e w' => ∃ s' v, e = .returned (.tuple #[d.val s', v]) ∧ Sl w' s' (l.drop (cutAt d.bound l)) ∧ Sl w' v (l.take (cutAt d.bound l)) ∧ (∀ g, s'.ownBlock = some g → s.ownBlock = some g) ∧ (∀ g, v.ownBlock = some g → w.heap.size ≤ g) ∧ Below w.heap.size w w' := by
  obtain ⟨A, c, rfl, hc, hA, hw⟩ := hs
  have HW := Lib.hid hw
  have HL := Lib.hid hlen
  have HC := Lib.hid hc
  have HA := Lib.hid hA
  clear hw hlen hc hA
  have hmf : ∀ (fn : Fn) (first cap : Array Value) (w : World), (Instr.makeFunc fn first cap).run Try.prog w = .ok (.func fn first cap) w := fun _ _ _ _ => rfl
  go_enter Try.func13, Try.ntmps13
  go_wp2_with fail
  refine (bound_calls d _ _).mono ?_
  rintro e w1 ⟨rfl, hb⟩
  have M : Hid (Scene w [(26, d.row (.slice A l.length c)), (26, #[I 0, I 0, I 0, I 0, I 0, I 0, .slice none 0 0])] w1) := Lib.hid ((((Scene.none w).push (by simp) _ _).push (by simp) _ _).below hb)
  clear hb
  have c0 := M.out.r0.cell
  have l0 := M.out.r0.lt
  have l1 := M.out.r1.lt
  go_wp2_with fail
  have N : Hid (Scene w [(26, d.row (.slice A l.length c)), (26, #[I 0, I 0, I 0, I 0, I 0, I 0, .slice none 0 0])] (w1.alloc (.cells #[I d.bound] 2))) := Lib.hid (M.out.alloc _)
  have R := Lib.hid (Row.new w1 2 #[I d.bound])
  have hx := R.out.cell 0
  clear M c0 l0 l1
  refine (index_calls A c l _ d.bound _ ((HW.out.below N.out.be).more N.out.be.size) HL.out hx).mono ?_
  rintro e w2 ⟨rfl, hb⟩
  have M := Lib.hid (N.out.below hb)
  clear hb R N hx
  have c0 := M.out.r0.cell
  have l0 := M.out.r0.lt
  have l1 := M.out.r1.lt
  rcases hf : firstOver d.bound l with _ | m
  · have e0 : idx (none : Option Nat) = -1 := rfl
    have hcut : cutAt d.bound l = l.length := by unfold cutAt; rw [hf]; rfl
    have HCUT := Lib.hid hcut
    clear hcut hf
    have hmc : l.length ≤ c := HC.out
    have ht : (l.take l.length).length = l.length := by rw [List.length_take]; omega
    have hcl := clone_calls A c (l.take l.length) w2 (((HW.out.below M.out.be).more M.out.be.size).take l.length) (by have := HL.out; omega) (fun e => by have := HA.out e; have := HC.out; omega)
    rw [ht] at hcl
    have HCL := Lib.hid hcl
    have HT := Lib.hid ht
    clear hcl ht
    go_wp2_with fail
    refine HCL.out.mono ?_
    rintro e w3 ⟨v, rfl, hv, hg, hb⟩
    have HV := Lib.hid hv
    have HG := Lib.hid hg
    have N := Lib.hid (M.out.below hb)
    clear HCL hv hg hb M c0
    have c0 := N.out.r0.cell
    have f0 := N.out.r0.free
    have c1 := N.out.r1.cell
    have f1 := N.out.r1.free
    have hnn := N.out.r0.lt
    have HN2 := Lib.hid (show w.heap.size + 2 ≤ w2.heap.size by omega)
    go_wp2
    · have hcm : c = l.length := by assumption
      have E := free_end N.out HW.out HC.out HA.out (m := l.length) (by omega) HV.out (fun g h => by have := HG.out g h; have := HN2.out; omega) (.slice A (l.length - l.length) 0) (by rw [if_pos hcm, hcm, Nat.sub_self]) _ rfl
      rw [Nat.sub_self] at E
      exact bodyPost_ret (results_cell_tmp rfl rfl E.1) rfl ⟨_, _, rfl, by rw [HCUT.out]; exact ⟨E.2.1, E.2.2.1, fun g h => by first | exact own_same h | exact own_map h, fun g h => by have := HG.out g h; have := HN2.out; omega, E.2.2.2⟩⟩
    · have hcm : ¬ c = l.length := by assumption
      have E := free_end N.out HW.out HC.out HA.out (m := l.length) (by omega) HV.out (fun g h => by have := HG.out g h; have := HN2.out; omega) (.slice (A.map (fun x => x.add (l.length * 4))) (l.length - l.length) (c - l.length)) (by rw [if_neg hcm]) _ rfl
      rw [Nat.sub_self] at E
      exact bodyPost_ret (results_cell_tmp rfl rfl E.1) rfl ⟨_, _, rfl, by rw [HCUT.out]; exact ⟨E.2.1, E.2.2.1, fun g h => by first | exact own_same h | exact own_map h, fun g h => by have := HG.out g h; have := HN2.out; omega, E.2.2.2⟩⟩
  · have e0 : idx (some m) = m := rfl
    have hcut : cutAt d.bound l = m := by unfold cutAt; rw [hf]; rfl
    have hml : m < l.length := firstOver_lt hf
    have HCUT := Lib.hid hcut
    clear hcut hf
    have hmc : m ≤ c := by have := HC.out; omega
    have ht : (l.take m).length = m := by rw [List.length_take]; omega
    have hcl := clone_calls A c (l.take m) w2 (((HW.out.below M.out.be).more M.out.be.size).take m) (by have := HL.out; omega) (fun e => by have := HA.out e; have := HC.out; omega)
    rw [ht] at hcl
    have HCL := Lib.hid hcl
    have HT := Lib.hid ht
    clear hcl ht
    go_wp2_with fail
    refine HCL.out.mono ?_
    rintro e w3 ⟨v, rfl, hv, hg, hb⟩
    have HV := Lib.hid hv
    have HG := Lib.hid hg
    have N := Lib.hid (M.out.below hb)
    clear HCL hv hg hb M c0
    have c0 := N.out.r0.cell
    have f0 := N.out.r0.free
    have c1 := N.out.r1.cell
    have f1 := N.out.r1.free
    have hnn := N.out.r0.lt
    have HN2 := Lib.hid (show w.heap.size + 2 ≤ w2.heap.size by omega)
    go_wp2
    · have hcm : c = m := by assumption
      have E := free_end N.out HW.out HC.out HA.out (m := m) (by omega) HV.out (fun g h => by have := HG.out g h; have := HN2.out; omega) (.slice A (l.length - m) 0) (by rw [if_pos hcm, hcm, Nat.sub_self]) _ rfl
      skip
      exact bodyPost_ret (results_cell_tmp rfl rfl E.1) rfl ⟨_, _, rfl, by rw [HCUT.out]; exact ⟨E.2.1, E.2.2.1, fun g h => by first | exact own_same h | exact own_map h, fun g h => by have := HG.out g h; have := HN2.out; omega, E.2.2.2⟩⟩
    · have hcm : ¬ c = m := by assumption
      have E := free_end N.out HW.out HC.out HA.out (m := m) (by omega) HV.out (fun g h => by have := HG.out g h; have := HN2.out; omega) (.slice (A.map (fun x => x.add (m * 4))) (l.length - m) (c - m)) (by rw [if_neg hcm]) _ rfl
      skip
      exact bodyPost_ret (results_cell_tmp rfl rfl E.1) rfl ⟨_, _, rfl, by rw [HCUT.out]; exact ⟨E.2.1, E.2.2.1, fun g h => by first | exact own_same h | exact own_map h, fun g h => by have := HG.out g h; have := HN2.out; omega, E.2.2.2⟩⟩
theorem riseB_weaken {k last last' : Int} {l : List Ot} (h : riseB k last l = true) (hl : last' ≤ last) : riseB k last' l = true := by
  cases l with
  | nil => rfl
  | cons x l =>
    simp only [riseB, Bool.and_eq_true, Bool.not_eq_true', Bool.or_eq_false_iff, decide_eq_false_iff_not] at h ⊢
    exact ⟨⟨by omega, h.1.2⟩, h.2⟩
theorem riseB_add {k : Int} (y z u : Int) : ∀ {l : List Ot} {last : Int}, riseB k last l = true → last ≤ k → riseB (k + 1) last (l ++ [⟨k + 1, y, z, u⟩]) = true := by
  intro l
  induction l with
  | nil => intro last _ hl; simp [riseB]; omega
  | cons x l ih =>
    intro last h hl
    simp only [riseB, Bool.and_eq_true, Bool.not_eq_true', Bool.or_eq_false_iff, decide_eq_false_iff_not, List.cons_append] at h ⊢
    exact ⟨⟨h.1.1, by omega⟩, ih h.2 (by omega)⟩
theorem lastK_le {k : Int} {l : List Ot} {last : Int} (h : riseB k last l = true) (hl : last ≤ k) {i : Nat} (hi : i ≤ l.length) : last ≤ lastK last l i ∧ lastK last l i ≤ k := by
  cases i with
  | zero => exact ⟨Int.le_refl _, hl⟩
  | succ i =>
    have ho : l[i]? = some (l[i]'(by omega)) := List.getElem?_eq_getElem _
    rw [lastK_succ ho]
    have h1 := rise_pos h ho
    refine ⟨by omega, ?_⟩
    rcases Int.lt_or_le k (l[i]'(by omega)).k with hx | hx
    · have := rise_bad (k := k) (last := last) ho (.inr hx)
      rw [h] at this; cases this
    · exact hx
/-- what the law of MirrorFrees keeps, step after step -/
structure FI (d : Dk) (l : List Ot) (last told : Int) : Prop where
  right : d.right l = true
  rise : riseB d.k last l = true
  lo : 0 ≤ last
  hi : last ≤ d.k
  vec : ∀ (j : Nat) (o : Ot), l[j]? = some o → o.a = o.k ∧ o.b = 0 ∧ o.c = 0
  told : d.stage ≠ 0 → d.acked ≤ told
theorem FI.init : FI ⟨1, 0, 0, -1, 0, 0⟩ [] 0 0 := ⟨by decide, rfl, by decide, by decide, fun j o h => by simp at h, fun h => absurd rfl h⟩
section
variable {d : Dk} {l : List Ot} {last told : Int}
theorem FI.add (h : FI d l last told) (hk : d.k < 4611686018427387904) (hl : l.length < 64) : FI { d with k := d.k + 1 } (l ++ [⟨d.k + 1, d.k + 1, 0, 0⟩]) last told := by
  obtain ⟨h0, h1, h2, h3, h4, h5, h6, h7, h8, h9⟩ := right_iff.1 h.right
  have hkk := inB_iff.1 h1
  have hr := riseB_add (d.k + 1) 0 0 h.rise h.hi
  refine ⟨right_iff.2 ⟨h0, inB_iff.2 (by dsimp only; omega), h2, h3, by dsimp only; omega, h5, h6, h7, by simp; omega, riseB_weaken hr h.lo⟩, hr, h.lo, by have := h.hi; dsimp only; omega, fun j o ho => ?_, h.told⟩
  rw [List.getElem?_append] at ho
  split at ho
  · exact h.vec j o ho
  · rename_i hj
    cases hjj : j - l.length with
    | zero => rw [hjj] at ho; simp at ho; subst ho; exact ⟨rfl, rfl, rfl⟩
    | succ n => rw [hjj] at ho; simp at ho
theorem FI.drop (h : FI d l last told) : FI d.drop l last told := by
  have hn := (nums_drop h.right).right
  obtain ⟨gen, k, acked, peer, stage, seq⟩ := d
  unfold Dk.drop at *
  split
  · rename_i hs
    rw [if_pos hs] at hn
    exact ⟨hn, h.rise, h.lo, h.hi, h.vec, fun x => absurd rfl x⟩
  · rename_i hs
    rw [if_neg hs] at hn
    split
    · rename_i hs2
      rw [if_pos hs2] at hn
      exact ⟨hn, h.rise, h.lo, h.hi, h.vec, fun _ => h.told (by rw [hs2.1]; decide)⟩
    · exact h
theorem FI.told_ (h : FI d l last told) (a b : Int) : FI (d.told a b) l last told := by
  have hn := (nums_told a b h.right).right
  unfold Dk.told at *
  split
  · rename_i hs
    rw [if_pos hs] at hn
    exact ⟨hn, h.rise, h.lo, h.hi, h.vec, fun x => absurd rfl x⟩
  · exact h
theorem FI.want (h : FI d l last told) (a : Int) : FI (d.wanted a) l last (if d.wants a = true then 0 else told) := by
  have hn := (nums_want a h.right).right
  unfold Dk.wanted at *
  split
  · rename_i hs
    have e : d.wants a = false := by
      unfold Dk.wants
      rcases hs with hs | hs | hs
      · simp [hs]
      · simp [hs]
      · simp [hs.1]
    rw [e]
    exact h
  · rename_i hs
    rw [if_neg hs] at hn
    split
    · rename_i h2
      have e : d.wants a = false := by unfold Dk.wants; simp [h2]
      rw [e]
      exact h.drop
    · rename_i h2
      rw [if_neg h2] at hn
      have hi : inB a = true := by cases hx : inB a <;> simp_all
      have h3 : ¬ d.stage = 3 := fun x => hs (.inr (.inl x))
      have e : d.wants a = true := by unfold Dk.wants; simp [hi, h2, h3]
      rw [e]
      exact ⟨hn, h.rise, h.lo, h.hi, h.vec, fun _ => by simp⟩
/-- whether the law takes b for told -/
def tells (d n : Dk) (a b told : Int) : Bool := ((d.stage == 1) || (d.stage == 2)) && decide (b > told) && decide (b ≤ n.k) && (a == n.peer)
theorem FI.ack (h : FI d l last told) (a b : Int) : FI (d.ack a b) l last (if tells d (d.ack a b) a b told = true then b else told) := by
  have hn := (nums_ack a b h.right).right
  have up : ∀ n, told ≤ (if tells d n a b told = true then b else told) := by
    intro n
    split
    · rename_i ht
      simp only [tells, Bool.and_eq_true, decide_eq_true_eq] at ht
      omega
    · exact Int.le_refl _
  have hu := up (d.ack a b)
  obtain ⟨gen, k, acked, peer, stage, seq⟩ := d
  by_cases hc : apartB stage = true ∨ ¬ a = peer ∨ b < acked ∨ b > k
  · have e : Dk.ack ⟨gen, k, acked, peer, stage, seq⟩ a b = ⟨gen, k, acked, peer, stage, seq⟩ := by unfold Dk.ack; rw [if_pos hc]
    rw [e] at hu ⊢
    exact ⟨h.right, h.rise, h.lo, h.hi, h.vec, fun x => Int.le_trans (h.told x) hu⟩
  · have hap : apartB stage = false := by cases hx : apartB stage <;> simp_all
    have hpe : a = peer := by
      by_cases hx : a = peer
      · exact hx
      · exact absurd (.inr (.inl hx)) hc
    have hb1 : ¬ b < acked := fun x => hc (.inr (.inr (.inl x)))
    have hb2 : ¬ b > k := fun x => hc (.inr (.inr (.inr x)))
    have hst := (right_iff.1 h.right).2.2.2.2.2
    have hst0 := apart_ne.1 hap
    have h12 : ((stage == 1) || (stage == 2)) = true := by
      have : stage = 1 ∨ stage = 2 := by have := hst.1; have := hst.2.1; dsimp only at *; omega
      rcases this with rfl | rfl <;> simp
    have key : ∀ n : Dk, n.k = k → n.peer = peer → b ≤ (if tells ⟨gen, k, acked, peer, stage, seq⟩ n a b told = true then b else told) := by
      intro n hk hp
      by_cases hbt : b > told
      · have e : tells ⟨gen, k, acked, peer, stage, seq⟩ n a b told = true := by
          unfold tells
          rw [hk, hp, hpe]
          simp only [h12, Bool.and_eq_true, decide_eq_true_eq, beq_self_eq_true]
          exact ⟨⟨⟨trivial, hbt⟩, by omega⟩, trivial⟩
        rw [e]
        simp
      · split
        · omega
        · omega
    by_cases hs : stage = 1 ∧ b = k
    · by_cases hq : seq ≥ 4611686018427387904
      · have e : Dk.ack ⟨gen, k, acked, peer, stage, seq⟩ a b = ⟨gen, k, acked, peer, stage, seq⟩ := by unfold Dk.ack; rw [if_neg hc, if_pos hs, if_pos hq]
        rw [e] at hu ⊢
        exact ⟨h.right, h.rise, h.lo, h.hi, h.vec, fun x => Int.le_trans (h.told x) hu⟩
      · have e : Dk.ack ⟨gen, k, acked, peer, stage, seq⟩ a b = ⟨gen, k, b, peer, 2, seq + 1⟩ := by unfold Dk.ack; rw [if_neg hc, if_pos hs, if_neg hq]
        rw [e] at hn ⊢
        exact ⟨hn, h.rise, h.lo, h.hi, h.vec, fun _ => key _ rfl rfl⟩
    · have e : Dk.ack ⟨gen, k, acked, peer, stage, seq⟩ a b = ⟨gen, k, b, peer, stage, seq⟩ := by unfold Dk.ack; rw [if_neg hc, if_neg hs]
      rw [e] at hn ⊢
      exact ⟨hn, h.rise, h.lo, h.hi, h.vec, fun _ => key _ rfl rfl⟩
theorem FI.free (h : FI d l last told) : FI d (l.drop (cutAt d.bound l)) (lastK last l (cutAt d.bound l)) told := by
  obtain ⟨h0, h1, h2, h3, h4, h5, h6, h7, h8, h9⟩ := right_iff.1 h.right
  have hc := cut_le_length d.bound l
  have hr := h.rise
  rw [riseB_split d.k l last _ hc, Bool.and_eq_true] at hr
  have hl := lastK_le h.rise h.hi hc
  have hlo := h.lo
  refine ⟨right_iff.2 ⟨h0, h1, h2, h3, h4, h5, h6, h7, by simp; omega, riseB_weaken hr.2 (by omega)⟩, hr.2, by omega, by omega, fun j o ho => ?_, h.told⟩
  rw [List.getElem?_drop] at ho
  exact h.vec _ o ho
/-- each one that is freed is above the last one, at most the bound, and, where the other one has to have told of it, told -/
theorem FI.freed (h : FI d l last told) {j : Nat} {o : Ot} (ho : (l.take (cutAt d.bound l))[j]? = some o) :
    lastK last l j < o.k ∧ o.k ≤ d.bound ∧ o = ⟨o.k, o.k, 0, 0⟩ ∧ ((d.stage = 2 ∨ d.stage = 3) → o.k ≤ told) := by
  obtain ⟨hb, hol⟩ := cut_le ho
  have hj : j < l.length := by
    rcases Nat.lt_or_ge j l.length with hl | hl
    · exact hl
    · rw [List.getElem?_eq_none hl] at hol; cases hol
  have hv := h.vec j o hol
  refine ⟨?_, hb, ?_, fun hs => ?_⟩
  · rcases Int.lt_or_le (lastK last l j) o.k with hx | hx
    · exact hx
    · have := rise_bad (k := d.k) (last := last) hol (.inl hx)
      rw [h.rise] at this; cases this
  · obtain ⟨k, a, b, c⟩ := o
    obtain ⟨h1, h2, h3⟩ := hv
    dsimp only at h1 h2 h3 ⊢
    rw [h1, h2, h3]
  · have hbd : d.bound = d.acked := by unfold Dk.bound; rw [if_neg (by omega)]
    have := h.told (by omega)
    omega
end
end Go.Proofs.Ytbchepdaomhgeaa.MM
