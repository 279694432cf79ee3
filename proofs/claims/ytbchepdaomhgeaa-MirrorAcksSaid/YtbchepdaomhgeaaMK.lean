import Derived.Test.YtbchepdaomhgeaaMT
import Derived.Test.YtbchepdaomhgeaaMN
/- MirrorAcks: the walk. -/
namespace Go.Proofs.Ytbchepdaomhgeaa.MM
open Go.RowKit
set_option linter.unusedVariables false
set_option linter.unusedSimpArgs false
structure Acks (d n : Dk) : Prop where
  lo : n.acked ≥ d.acked
  hi : n.acked ≤ n.k
  k : n.k = d.k
  peer : n.peer = d.peer
  stage : n.stage = d.stage ∨ (n.stage = 2 ∧ n.acked = n.k ∧ n.seq = d.seq + 1)
theorem acks_pure {d : Dk} {l : List Ot} (a b : Int) (h : d.right l = true) : Acks d (d.ack a b) := by
  obtain ⟨gen, k, acked, peer, stage, seq⟩ := d
  obtain ⟨h0, h1, h2, h3, h4, h5, h6, h7, h8, h9⟩ := right_iff.1 h
  dsimp only at *
  unfold Dk.ack
  dsimp only
  split
  · exact ⟨by dsimp only; omega, h4, rfl, rfl, .inl rfl⟩
  · rename_i hc
    have hc4 : ¬ b < acked ∧ ¬ b > k := ⟨fun x => hc (.inr (.inr (.inl x))), fun x => hc (.inr (.inr (.inr x)))⟩
    split
    · rename_i hs
      split
      · exact ⟨by dsimp only; omega, h4, rfl, rfl, .inl rfl⟩
      · exact ⟨by dsimp only; omega, by dsimp only; omega, rfl, rfl, .inr ⟨rfl, by dsimp only; omega, rfl⟩⟩
    · exact ⟨by dsimp only; omega, by dsimp only; omega, rfl, rfl, .inl rfl⟩
set_option maxRecDepth 100000 in
set_option maxHeartbeats 8000000 in
theorem acks_walk (d : Dk) (s : Value) (l : List Ot) (a b : Int) (w : World) (hs : Sl w s l) :
    Calls Try.prog 5 #[d.val s, I a, I b] w fun e w' => e = .returned (.bool true) ∧ Below w.heap.size w w' := by
  obtain ⟨A, c, rfl, _, _, _⟩ := id hs
  have HS := Lib.hid hs
  clear hs
  go_enter Try.func5, Try.ntmps5
  go_wp2_with fail
  refine (shown_calls _).mono ?_
  rintro e w1 ⟨rfl, hb⟩
  have M : Hid (Scene w [(26, d.row (.slice A l.length c))] w1) := Lib.hid (((Scene.none w).push (by simp) _ _).below hb)
  clear hb
  have c0 := M.out.r0.cell
  have l0 := M.out.r0.lt
  by_cases hn : (l.length : Int) > 100
  · have hd : decide ((l.length : Int) > 100) = true := decide_eq_true hn
    clear hn
    go_wp2
    go_ret
    exact ⟨rfl, M.out.be⟩
  have hd : decide ((l.length : Int) > 100) = false := decide_eq_false hn
  clear hn
  go_wp2_with fail
  refine (refRight_calls d (.slice A l.length c) l _ (HS.out.below M.out.be)).mono ?_
  rintro e w2 ⟨rfl, hb⟩
  have M2 := Lib.hid (M.out.below hb)
  clear hb M c0 l0
  have c0 := M2.out.r0.cell
  have l0 := M2.out.r0.lt
  cases hr : d.right l
  · go_wp2
    go_ret
    exact ⟨rfl, M2.out.be⟩
  have HR := Lib.hid hr
  have AP := Lib.hid (acks_pure a b hr)
  have HL : Hid (l.length ≤ 1000000) := Lib.hid (by have := (right_iff.1 hr).2.2.2.2.2.2.2.2.1; omega)
  clear hr
  go_wp2_with fail
  refine (Ack_calls d _ a b _ (inB_iff.1 (right_iff.1 HR.out).2.2.2.1).1 ⟨_, _, _, rfl⟩).mono ?_
  rintro e w3 ⟨rfl, hb⟩
  have M3 := Lib.hid (M2.out.below hb)
  clear hb M2 c0 l0
  have l3 : w.heap.size < w3.heap.size := M3.out.r0.lt
  have c0 := M3.out.r0.cell
  by_cases ha : a = d.peer
  case neg =>
    have EN := Lib.hid (show d.ack a b = d by simp [Dk.ack, ha])
    have ea : (a != d.peer) = true := by simp [ha]
    clear ha
    rw [EN.out]
    have N0 := Lib.hid (M3.out.alloc (.cells (d.row (.slice A l.length c)) 26))
    have SS := Lib.hid (HS.out.below N0.out.be)
    clear M3
    go_wp2_with fail
    refine (refSame_calls d d (.slice A l.length c) (.slice A l.length c) l l _ SS.out SS.out HL.out HL.out).mono ?_
    rw [sameB_refl]
    rintro e w4 ⟨rfl, hb⟩
    have QF := Lib.hid (N0.out.be.trans (hb.mono N0.out.be.size))
    clear hb
    go_wp2
    go_ret
    exact ⟨rfl, QF.out⟩
  subst ha
  have ea : (d.peer != d.peer) = false := by simp
  by_cases s1 : d.stage = 1
  · have e1 : (d.stage != 1) = false := by simp [s1]
    clear s1
    generalize d.ack d.peer b = n at *
    have N0 := Lib.hid (M3.out.alloc (.cells (n.row (.slice A l.length c)) 26))
    clear M3
    have p1 := AP.out.lo
    have p2 := AP.out.hi
    have hq := inB_iff.1 (right_iff.1 HR.out).2.2.2.1
    have d1 : decide (n.acked ≥ d.acked) = true := decide_eq_true p1
    have d2 : decide (n.acked ≤ n.k) = true := decide_eq_true p2
    have d3 : (n.k == d.k) = true := by simp [AP.out.k]
    have d4 : (n.peer == d.peer) = true := by simp [AP.out.peer]
    have hw64 : IntKind.i64.wrap (d.seq + 1) = d.seq + 1 := by simp [IntKind.wrap, IntKind.bits, IntKind.signed]; omega
    clear p1 p2 hq
    cases d5 : (n.stage == d.stage)
    · have hst : n.stage = 2 ∧ n.acked = n.k ∧ n.seq = d.seq + 1 := by
        rcases AP.out.stage with h | h
        · rw [h] at d5; simp at d5
        · exact h
      have d6 : (n.stage == 2) = true := by simp [hst.1]
      have d7 : (n.acked == n.k) = true := by simp [hst.2.1]
      have d8 : (n.seq == d.seq + 1) = true := by simp [hst.2.2]
      clear hst
      go_wp2
      go_ret
      exact ⟨rfl, N0.out.be⟩
    · go_wp2
      go_ret
      exact ⟨rfl, N0.out.be⟩
  · have e1 : (d.stage != 1) = true := by simp [s1]
    by_cases s2 : d.stage = 2
    · have e2 : (d.stage != 2) = false := by simp [s2]
      clear s1 s2
      generalize d.ack d.peer b = n at *
      have N0 := Lib.hid (M3.out.alloc (.cells (n.row (.slice A l.length c)) 26))
      clear M3
      have p1 := AP.out.lo
      have p2 := AP.out.hi
      have hq := inB_iff.1 (right_iff.1 HR.out).2.2.2.1
      have d1 : decide (n.acked ≥ d.acked) = true := decide_eq_true p1
      have d2 : decide (n.acked ≤ n.k) = true := decide_eq_true p2
      have d3 : (n.k == d.k) = true := by simp [AP.out.k]
      have d4 : (n.peer == d.peer) = true := by simp [AP.out.peer]
      have hw64 : IntKind.i64.wrap (d.seq + 1) = d.seq + 1 := by simp [IntKind.wrap, IntKind.bits, IntKind.signed]; omega
      clear p1 p2 hq
      cases d5 : (n.stage == d.stage)
      · have hst : n.stage = 2 ∧ n.acked = n.k ∧ n.seq = d.seq + 1 := by
          rcases AP.out.stage with h | h
          · rw [h] at d5; simp at d5
          · exact h
        have d6 : (n.stage == 2) = true := by simp [hst.1]
        have d7 : (n.acked == n.k) = true := by simp [hst.2.1]
        have d8 : (n.seq == d.seq + 1) = true := by simp [hst.2.2]
        clear hst
        go_wp2
        go_ret
        exact ⟨rfl, N0.out.be⟩
      · go_wp2
        go_ret
        exact ⟨rfl, N0.out.be⟩
    · have e2 : (d.stage != 2) = true := by simp [s2]
      have hst := (right_iff.1 HR.out).2.2.2.2.2
      have hap : apartB d.stage = true := apart_iff.2 (by omega)
      have EN := Lib.hid (show d.ack d.peer b = d by simp [Dk.ack, hap])
      clear s1 s2 hst hap
      rw [EN.out]
      have N0 := Lib.hid (M3.out.alloc (.cells (d.row (.slice A l.length c)) 26))
      have SS := Lib.hid (HS.out.below N0.out.be)
      clear M3
      go_wp2_with fail
      refine (refSame_calls d d (.slice A l.length c) (.slice A l.length c) l l _ SS.out SS.out HL.out HL.out).mono ?_
      rw [sameB_refl]
      rintro e w4 ⟨rfl, hb⟩
      have QF := Lib.hid (N0.out.be.trans (hb.mono N0.out.be.size))
      clear hb
      go_wp2
      go_ret
      exact ⟨rfl, QF.out⟩
end Go.Proofs.Ytbchepdaomhgeaa.MM
