import Derived.Test.YtbchepdaomhgeaaMP
import Derived.Test.YtbchepdaomhgeaaMR
/- Layer 14: the document's desk. -/
namespace Go.Proofs.Ytbchepdaomhgeaa.MM
open Go.RowKit
set_option linter.unusedVariables false
set_option linter.unusedSimpArgs false
section
variable (A : Option Addr) (n c : Nat)
theorem two26 (d1 d2 : Dk) (w : World) : Scene w [(26, d1.row (.slice A n c)), (26, d2.row (.slice A n c))] ((w.alloc (.cells (d1.row (.slice A n c)) 26)).alloc (.cells (d2.row (.slice A n c)) 26)) := ((Scene.none w).push (by simp) _ _).push (by simp) _ _
theorem twoZ (d1 : Dk) (w : World) : Scene w [(26, d1.row (.slice A n c)), (26, z7)] ((w.alloc (.cells (d1.row (.slice A n c)) 26)).alloc (.cells z7 26)) := ((Scene.none w).push (by simp) _ _).push (by simp) _ _
end
theorem with_calls (d : Dk) (s : Value) (st pe sq ac : Int) (w : World) (hs : ∃ A n c, s = .slice A n c) :
    Calls Try.prog 45 #[d.val s, I st, I pe, I sq, I ac] w fun e w' => e = .returned (Dk.val ⟨d.gen, d.k, ac, pe, st, sq⟩ s) ∧ Below w.heap.size w w' := by
  obtain ⟨A, n, c, rfl⟩ := hs
  have N := Lib.hid (two26 A n c d ⟨d.gen, d.k, ac, pe, st, sq⟩ w)
  go_enter Try.func45, Try.ntmps45
  go_wp2
  exact bodyPost_ret (results_cell rfl rfl N.out.r1) rfl ⟨rfl, N.out.be⟩
set_option maxRecDepth 100000 in
theorem refDrop_calls (d : Dk) (s : Value) (w : World) (hq0 : 0 ≤ d.seq) (hs : ∃ A n c, s = .slice A n c) :
    Calls Try.prog 31 #[d.val s] w fun e w' => e = .returned (d.drop.val s) ∧ Below w.heap.size w w' := by
  obtain ⟨A, n, c, rfl⟩ := hs
  obtain ⟨gen, k, acked, peer, stage, seq⟩ := d
  dsimp only at hq0
  have N := Lib.hid (twoZ A n c ⟨gen, k, acked, peer, stage, seq⟩ w)
  have E := Lib.hid (two26 A n c ⟨gen, k, acked, peer, stage, seq⟩ ⟨gen, k, acked, peer, stage, seq⟩ w)
  by_cases h1 : stage = 1
  · subst h1
    have ed : Dk.drop ⟨gen, k, acked, peer, 1, seq⟩ = ⟨gen, k, acked, -1, 0, seq⟩ := by simp [Dk.drop]
    rw [ed]
    clear hq0 ed
    go_enter Try.func31, Try.ntmps31
    go_wp2_with fail
    refine (with_calls ⟨gen, k, acked, peer, 1, seq⟩ _ 0 (-1) seq acked _ ⟨_, _, _, rfl⟩).mono ?_
    rintro e w1 ⟨rfl, hb⟩
    have M := Lib.hid (N.out.below hb)
    clear hb N E
    have c1 := M.out.r1.cell
    have f1 := M.out.r1.free
    go_wp2
    exact bodyPost_ret (results_cell rfl rfl (M.out.r1.fill7 _ _ _ _ _ _ _)) rfl ⟨rfl, Below.fill7 M.out.be (by omega) _ _ _ _ _ _ _⟩
  · have e1 : (stage == 1) = false := by simp [h1]
    by_cases h2 : stage = 2
    · subst h2
      by_cases hq : seq < 4611686018427387904
      · have dq : decide (seq < 4611686018427387904) = true := decide_eq_true hq
        have hw64 : IntKind.i64.wrap (seq + 1) = seq + 1 := by simp [IntKind.wrap, IntKind.bits, IntKind.signed]; omega
        have ed : Dk.drop ⟨gen, k, acked, peer, 2, seq⟩ = ⟨gen, k, acked, -1, 3, seq + 1⟩ := by simp [Dk.drop, Dk.changed, hq]
        rw [ed]
        clear hq0 ed h1 hq
        go_enter Try.func31, Try.ntmps31
        go_wp2_with fail
        refine (with_calls ⟨gen, k, acked, peer, 2, seq⟩ _ 3 (-1) (seq + 1) acked _ ⟨_, _, _, rfl⟩).mono ?_
        rintro e w1 ⟨rfl, hb⟩
        have M := Lib.hid (N.out.below hb)
        clear hb N E
        have c1 := M.out.r1.cell
        have f1 := M.out.r1.free
        go_wp2
        exact bodyPost_ret (results_cell rfl rfl (M.out.r1.fill7 _ _ _ _ _ _ _)) rfl ⟨rfl, Below.fill7 M.out.be (by omega) _ _ _ _ _ _ _⟩
      · have dq : decide (seq < 4611686018427387904) = false := decide_eq_false hq
        have ed : Dk.drop ⟨gen, k, acked, peer, 2, seq⟩ = ⟨gen, k, acked, peer, 2, seq⟩ := by simp [Dk.drop, hq]
        rw [ed]
        clear hq0 ed h1 hq
        go_enter Try.func31, Try.ntmps31
        go_wp2
        exact bodyPost_ret (results_cell rfl rfl E.out.r1) rfl ⟨rfl, E.out.be⟩
    · have e2 : (stage == 2) = false := by simp [h2]
      have ed : Dk.drop ⟨gen, k, acked, peer, stage, seq⟩ = ⟨gen, k, acked, peer, stage, seq⟩ := by simp [Dk.drop, h1, h2]
      rw [ed]
      clear hq0 ed h1 h2
      go_enter Try.func31, Try.ntmps31
      go_wp2
      exact bodyPost_ret (results_cell rfl rfl E.out.r1) rfl ⟨rfl, E.out.be⟩
def Dk.refTold (d : Dk) (a b : Int) : Dk := if d.stage = 3 ∧ a = d.seq ∧ b = -1 then ⟨d.gen, d.k, d.acked, -1, 0, d.seq⟩ else d
set_option maxRecDepth 100000 in
theorem refTold_calls (d : Dk) (s : Value) (a b : Int) (w : World) (hs : ∃ A n c, s = .slice A n c) :
    Calls Try.prog 32 #[d.val s, I a, I b] w fun e w' => e = .returned ((d.refTold a b).val s) ∧ Below w.heap.size w w' := by
  obtain ⟨A, n, c, rfl⟩ := hs
  obtain ⟨gen, k, acked, peer, stage, seq⟩ := d
  have N := Lib.hid (twoZ A n c ⟨gen, k, acked, peer, stage, seq⟩ w)
  have E := Lib.hid (two26 A n c ⟨gen, k, acked, peer, stage, seq⟩ ⟨gen, k, acked, peer, stage, seq⟩ w)
  by_cases h : stage = 3 ∧ a = seq ∧ b = -1
  · obtain ⟨rfl, rfl, rfl⟩ := h
    have ed : Dk.refTold ⟨gen, k, acked, peer, 3, a⟩ a (-1) = ⟨gen, k, acked, -1, 0, a⟩ := by simp [Dk.refTold]
    rw [ed]
    clear ed
    go_enter Try.func32, Try.ntmps32
    go_wp2_with fail
    refine (with_calls ⟨gen, k, acked, peer, 3, a⟩ _ 0 (-1) a acked _ ⟨_, _, _, rfl⟩).mono ?_
    rintro e w1 ⟨rfl, hb⟩
    have M := Lib.hid (N.out.below hb)
    clear hb N E
    have c1 := M.out.r1.cell
    have f1 := M.out.r1.free
    go_wp2
    exact bodyPost_ret (results_cell rfl rfl (M.out.r1.fill7 _ _ _ _ _ _ _)) rfl ⟨rfl, Below.fill7 M.out.be (by omega) _ _ _ _ _ _ _⟩
  · have ed : Dk.refTold ⟨gen, k, acked, peer, stage, seq⟩ a b = ⟨gen, k, acked, peer, stage, seq⟩ := by unfold Dk.refTold; rw [if_neg h]
    rw [ed]
    clear ed
    by_cases h3 : stage = 3
    · subst h3
      by_cases ha : a = seq
      · have e1 : (a == seq) = true := by simp [ha]
        have e2 : (b == -1) = false := by
          simp only [beq_eq_false_iff_ne]
          exact fun hb => h ⟨rfl, ha, hb⟩
        clear h ha
        go_enter Try.func32, Try.ntmps32
        go_wp2
        exact bodyPost_ret (results_cell rfl rfl E.out.r1) rfl ⟨rfl, E.out.be⟩
      · have e1 : (a == seq) = false := by simp [ha]
        clear h ha
        go_enter Try.func32, Try.ntmps32
        go_wp2
        exact bodyPost_ret (results_cell rfl rfl E.out.r1) rfl ⟨rfl, E.out.be⟩
    · have e1 : (stage == 3) = false := by simp [h3]
      clear h h3
      go_enter Try.func32, Try.ntmps32
      go_wp2
      exact bodyPost_ret (results_cell rfl rfl E.out.r1) rfl ⟨rfl, E.out.be⟩
def Dk.refSay (d : Dk) : Value := if d.stage < 2 then .tuple #[I 0, I (-1), .bool false] else .tuple #[I d.seq, I d.peer, .bool true]
set_option maxRecDepth 100000 in
theorem refSay_calls (d : Dk) (s : Value) (w : World) : Calls Try.prog 28 #[d.val s] w fun e w' => e = .returned d.refSay ∧ Below w.heap.size w w' := by
  obtain ⟨gen, k, acked, peer, stage, seq⟩ := d
  have N : Hid (Scene w [(26, Dk.row ⟨gen, k, acked, peer, stage, seq⟩ s)] (w.alloc (.cells (Dk.row ⟨gen, k, acked, peer, stage, seq⟩ s) 26))) := Lib.hid ((Scene.none w).push (by simp) _ _)
  have D : Hid (Scene w [(26, Dk.row ⟨gen, k, acked, peer, stage, seq⟩ s)] (w.alloc (.cells (Dk.row ⟨gen, k, acked, peer, stage, seq⟩ s) 26)).drew) := Lib.hid N.out.drew
  by_cases h2 : stage < 2
  · have e2 : decide (stage < 2) = true := decide_eq_true h2
    have ed : Dk.refSay ⟨gen, k, acked, peer, stage, seq⟩ = .tuple #[I 0, I (-1), .bool false] := by simp [Dk.refSay, h2]
    rw [ed]
    clear h2 ed
    go_enter Try.func28, Try.ntmps28
    go_wp2
    exact bodyPost_ret (results_tmp3 rfl _ _ _) rfl ⟨rfl, N.out.be⟩
  · have e2 : decide (stage < 2) = false := decide_eq_false h2
    have ed : Dk.refSay ⟨gen, k, acked, peer, stage, seq⟩ = .tuple #[I seq, I peer, .bool true] := by unfold Dk.refSay; rw [if_neg h2]
    rw [ed]
    clear h2 ed
    have c := D.out.r0.cell
    go_enter Try.func28, Try.ntmps28
    go_wp2
    go_region_held3 (fun w' => ∀ o, w'.cell? ⟨w.heap.size, o, none⟩ = (Dk.row ⟨gen, k, acked, peer, stage, seq⟩ s)[o]?) (first | with_reducible exact c | go_keep) (fail)
    all_goals go_wp2
    all_goals exact bodyPost_ret (results_tmp3 rfl _ _ _) rfl ⟨rfl, D.out.be⟩
end Go.Proofs.Ytbchepdaomhgeaa.MM
