import Derived.Test.YtbchepdaomhgeaaMZb
import Derived.Test.YtbchepdaomhgeaaMJ
import Derived.Test.YtbchepdaomhgeaaMN
/- Layer 14: the desk's words and the document's, for right desks. -/
namespace Go.Proofs.Ytbchepdaomhgeaa.MM
open Go.RowKit
set_option linter.unusedVariables false
set_option linter.unusedSimpArgs false
theorem outs1_cut {n k last : Int} {l : List Ot} (hr : riseB k last l = true) : outs1 n l = l.take (cutAt n l) := by
  have h1 : (l.take (cutAt n l)).filter (fun o => decide (o.k ≤ n)) = l.take (cutAt n l) := List.filter_eq_self.2 fun o ho => by
    obtain ⟨j, hj⟩ := List.getElem?_of_mem ho
    exact decide_eq_true (cut_le hj).1
  have h2 : (l.drop (cutAt n l)).filter (fun o => decide (o.k ≤ n)) = [] := List.filter_eq_nil_iff.2 fun o ho => by
    obtain ⟨j, hj⟩ := List.getElem?_of_mem ho
    have := cut_gt hr hj
    simp; omega
  unfold outs1
  conv => lhs; rw [← List.take_append_drop (cutAt n l) l]
  rw [List.filter_append, h1, h2, List.append_nil]
theorem outs2_cut {n k last : Int} {l : List Ot} (hr : riseB k last l = true) : outs2 n l = l.drop (cutAt n l) := by
  have h1 : (l.take (cutAt n l)).filter (fun o => !decide (o.k ≤ n)) = [] := List.filter_eq_nil_iff.2 fun o ho => by
    obtain ⟨j, hj⟩ := List.getElem?_of_mem ho
    have := (cut_le hj).1
    simp; omega
  have h2 : (l.drop (cutAt n l)).filter (fun o => !decide (o.k ≤ n)) = l.drop (cutAt n l) := List.filter_eq_self.2 fun o ho => by
    obtain ⟨j, hj⟩ := List.getElem?_of_mem ho
    have := cut_gt hr hj
    simp; omega
  unfold outs2
  conv => lhs; rw [← List.take_append_drop (cutAt n l) l]
  rw [List.filter_append, h1, h2, List.nil_append]
section
variable {d : Dk} {l : List Ot}
theorem refBound_eq (h : d.right l = true) : d.refBound = d.bound := by
  obtain ⟨_, _, _, _, _, h5, h6, _⟩ := right_iff.1 h
  unfold Dk.refBound Dk.bound
  split <;> split <;> first | rfl | omega
theorem say_eq (h : d.right l = true) : d.refSay = d.say := by
  obtain ⟨_, _, _, _, _, h5, h6, _⟩ := right_iff.1 h
  unfold Dk.refSay Dk.say Dk.says
  split
  · rw [if_neg (by simp; omega)]
  · rw [if_pos (by simp; omega)]
theorem told_eq (h : d.right l = true) (a b : Int) : d.refTold a b = d.told a b := by
  obtain ⟨_, _, _, _, _, h5, h6, h7, _⟩ := right_iff.1 h
  unfold Dk.refTold Dk.told
  split
  · rename_i hs
    have ha : apartB d.stage = true := apart_iff.2 (.inr hs.1)
    rw [if_pos ha] at h7
    obtain ⟨gen, k, acked, peer, stage, seq⟩ := d
    have : peer = -1 := by simpa using h7
    subst this
    rfl
  · rfl
/-- of what is added, and whether it is -/
theorem adds (h : d.right l = true) (ya yb yc : Int) : ∃ (da : Dk) (la : List Ot) (na : Int), la.length ≤ 1000000 ∧
    (∀ s w, Sl w s l → Calls Try.prog 12 #[d.val s, .agg #[I ya, I yb, I yc]] w fun e w' => ∃ s', e = .returned (.tuple #[da.val s', I na]) ∧ Sl w' s' la ∧ Below w.heap.size w w') ∧
    (∀ s w, Sl w s l → Calls Try.prog 25 #[d.val s, .agg #[I ya, I yb, I yc]] w fun e w' => ∃ s', e = .returned (.tuple #[da.val s', I na]) ∧ Sl w' s' la ∧ Below w.heap.size w w') := by
  obtain ⟨_, h1, _, _, _, _, _, _, h8, _⟩ := right_iff.1 h
  have h1 := inB_iff.1 h1
  have hl : l.length ≤ 64 := by omega
  by_cases hf : l.length = 64 ∨ d.k = 4611686018427387904
  · refine ⟨d, l, 7, by omega, fun s w hs => ?_, fun s w hs => ?_⟩
    · obtain ⟨A, c, rfl, hc, hA, hw⟩ := id hs
      refine (addFull_calls d A l.length c ya yb yc w hl (by omega)).mono ?_
      rintro e w' ⟨rfl, hb⟩
      exact ⟨_, rfl, hs.below hb, hb⟩
    · obtain ⟨A, c, rfl, hc, hA, hw⟩ := id hs
      refine (refAddFull_calls d A l.length c ya yb yc w hf).mono ?_
      rintro e w' ⟨rfl, hb⟩
      exact ⟨_, rfl, hs.below hb, hb⟩
  · refine ⟨{ d with k := d.k + 1 }, l ++ [⟨d.k + 1, ya, yb, yc⟩], 0, by simp; omega, fun s w hs => ?_, fun s w hs => ?_⟩
    · refine (add_calls d s l ya yb yc w hs (by omega) (by omega) h1.1).mono ?_
      rintro e w' ⟨s', rfl, h, _, hb⟩
      exact ⟨_, rfl, h, hb⟩
    · refine (refAdd_calls d s l ya yb yc w hs (by omega) (by omega) h1.1).mono ?_
      rintro e w' ⟨s', rfl, h, hb⟩
      exact ⟨_, rfl, h, hb⟩
theorem Sl.shape {w : World} {s : Value} (h : Sl w s l) : ∃ A n c, s = .slice A n c := by
  obtain ⟨A, c, rfl, _⟩ := h
  exact ⟨_, _, _, rfl⟩
theorem wants_ (h : d.right l = true) (a : Int) : ∃ (da : Dk) (ba : Bool),
    (∀ s w, Sl w s l → Calls Try.prog 21 #[d.val s, I a] w fun e w' => e = .returned (.tuple #[da.val s, .bool ba]) ∧ Below w.heap.size w w') ∧
    (∀ s w, Sl w s l → Calls Try.prog 26 #[d.val s, I a] w fun e w' => e = .returned (.tuple #[da.val s, .bool ba]) ∧ Below w.heap.size w w') := by
  obtain ⟨_, _, _, h3, _⟩ := right_iff.1 h
  have h3 := (inB_iff.1 h3).1
  exact ⟨d.wanted a, d.wants a, fun s w hs => Want_calls d s a w h3 hs.shape, fun s w hs => refWant_calls d s a w h3 hs.shape⟩
theorem frees (h : d.right l = true) : ∃ (l1 l2 : List Ot), l1.length ≤ 1000000 ∧ l2.length ≤ 1000000 ∧
    (∀ s w, Sl w s l → Calls Try.prog 13 #[d.val s] w fun e w' => ∃ s' v, e = .returned (.tuple #[d.val s', v]) ∧ Sl w' s' l2 ∧ Sl w' v l1 ∧ Below w.heap.size w w') ∧
    (∀ s w, Sl w s l → Calls Try.prog 27 #[d.val s] w fun e w' => ∃ s' v, e = .returned (.tuple #[d.val s', v]) ∧ Sl w' s' l2 ∧ Sl w' v l1 ∧ Below w.heap.size w w') := by
  obtain ⟨_, _, _, _, _, _, _, _, h8, h9⟩ := right_iff.1 h
  have hl : l.length ≤ 64 := by omega
  refine ⟨l.take (cutAt d.bound l), l.drop (cutAt d.bound l), by rw [List.length_take]; omega, by rw [List.length_drop]; omega, fun s w hs => free_calls d s l w hs hl, fun s w hs => ?_⟩
  have := refFree_calls d s l w hs hl
  rw [refBound_eq h, outs1_cut h9, outs2_cut h9] at this
  exact this
theorem says_ (h : d.right l = true) : ∃ (x y : Int) (z : Bool),
    (∀ s w, Calls Try.prog 16 #[d.val s] w fun e w' => e = .returned (.tuple #[I x, I y, .bool z]) ∧ Below w.heap.size w w') ∧
    (∀ s w, Calls Try.prog 28 #[d.val s] w fun e w' => e = .returned (.tuple #[I x, I y, .bool z]) ∧ Below w.heap.size w w') := by
  have e : ∃ (x y : Int) (z : Bool), d.say = .tuple #[I x, I y, .bool z] := by
    unfold Dk.say
    split
    · exact ⟨_, _, _, rfl⟩
    · exact ⟨_, _, _, rfl⟩
  obtain ⟨x, y, z, e⟩ := e
  refine ⟨x, y, z, fun s w => ?_, fun s w => ?_⟩
  · have := say_calls d s w
    rwa [e] at this
  · have := refSay_calls d s w
    rwa [say_eq h, e] at this
theorem acks_ (h : d.right l = true) (a b : Int) : ∃ (da : Dk),
    (∀ s w, Sl w s l → Calls Try.prog 17 #[d.val s, I a, I b] w fun e w' => e = .returned (da.val s) ∧ Below w.heap.size w w') ∧
    (∀ s w, Sl w s l → Calls Try.prog 30 #[d.val s, I a, I b] w fun e w' => e = .returned (da.val s) ∧ Below w.heap.size w w') := by
  obtain ⟨_, _, _, h3, _, h5, h6, _⟩ := right_iff.1 h
  have h3 := inB_iff.1 h3
  exact ⟨d.ack a b, fun s w hs => Ack_calls d s a b w h3.1 hs.shape, fun s w hs => refAck_calls d s a b w ⟨h5, h6⟩ h3 hs.shape⟩
theorem drops_ (h : d.right l = true) : ∃ (da : Dk),
    (∀ s w, Sl w s l → Calls Try.prog 19 #[d.val s] w fun e w' => e = .returned (da.val s) ∧ Below w.heap.size w w') ∧
    (∀ s w, Sl w s l → Calls Try.prog 31 #[d.val s] w fun e w' => e = .returned (da.val s) ∧ Below w.heap.size w w') := by
  obtain ⟨_, _, _, h3, _, h5, h6, _⟩ := right_iff.1 h
  have h3 := inB_iff.1 h3
  exact ⟨d.drop, fun s w hs => Drop_calls d s w h3.1 hs.shape, fun s w hs => refDrop_calls d s w h3.1 hs.shape⟩
theorem tolds_ (h : d.right l = true) (a b : Int) : ∃ (da : Dk),
    (∀ s w, Sl w s l → Calls Try.prog 20 #[d.val s, I a, I b] w fun e w' => e = .returned (da.val s) ∧ Below w.heap.size w w') ∧
    (∀ s w, Sl w s l → Calls Try.prog 32 #[d.val s, I a, I b] w fun e w' => e = .returned (da.val s) ∧ Below w.heap.size w w') :=
  ⟨d.told a b, fun s w hs => Told_calls d s a b w hs.shape, fun s w hs => told_eq h a b ▸ refTold_calls d s a b w hs.shape⟩
theorem bounds_ (h : d.right l = true) : ∃ (x : Int),
    (∀ s w, Calls Try.prog 15 #[d.val s] w fun e w' => e = .returned (I x) ∧ Below w.heap.size w w') ∧
    (∀ s w, Calls Try.prog 33 #[d.val s] w fun e w' => e = .returned (I x) ∧ Below w.heap.size w w') :=
  ⟨d.bound, fun s w => bound_calls d s w, fun s w => refBound_eq h ▸ refBound_calls d s w⟩
end
end Go.Proofs.Ytbchepdaomhgeaa.MM
