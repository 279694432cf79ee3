import Derived.Test.YtbchepdaomhgeaaMW
/- Layer 14: the document's desk, more. -/
namespace Go.Proofs.Ytbchepdaomhgeaa.MM
open Go.RowKit
set_option linter.unusedVariables false
set_option linter.unusedSimpArgs false
set_option maxRecDepth 100000 in
theorem refNew_calls (g k : Int) (w : World) : Calls Try.prog 23 #[I g, I k] w fun e w' => e = .returned (Dk.val ⟨known g, known k, known k, -1, 0, 0⟩ (.slice none 0 0)) ∧ Below w.heap.size w w' := by
  have T : ∀ (a b c : Int), Hid (Scene w [(26, Dk.row ⟨a, b, c, -1, 0, 0⟩ (.slice none 0 0)), (26, Dk.row ⟨a, b, c, -1, 0, 0⟩ (.slice none 0 0))] ((w.alloc (.cells (Dk.row ⟨a, b, c, -1, 0, 0⟩ (.slice none 0 0)) 26)).alloc (.cells (Dk.row ⟨a, b, c, -1, 0, 0⟩ (.slice none 0 0)) 26))) := fun a b c => Lib.hid (((Scene.none w).push (by simp) _ _).push (by simp) _ _)
  cases hg : inB g
  · have eg : known g = 0 := by simp [known, hg]
    cases hk : inB k
    · have ek : known k = 0 := by simp [known, hk]
      have E := T 0 0 0
      rw [eg, ek]
      go_enter Try.func23, Try.ntmps23
      go_wp2_with fail
      refine (refIn_same _ _).mono ?_
      rw [hg]
      rintro e _ ⟨rfl, rfl⟩
      go_wp2_with fail
      refine (refIn_same _ _).mono ?_
      rw [hk]
      rintro e _ ⟨rfl, rfl⟩
      go_wp2
      exact bodyPost_ret (results_cell rfl rfl E.out.r0) rfl ⟨rfl, E.out.be⟩
    · have ek : known k = k := by simp [known, hk]
      have E := T 0 k k
      rw [eg, ek]
      go_enter Try.func23, Try.ntmps23
      go_wp2_with fail
      refine (refIn_same _ _).mono ?_
      rw [hg]
      rintro e _ ⟨rfl, rfl⟩
      go_wp2_with fail
      refine (refIn_same _ _).mono ?_
      rw [hk]
      rintro e _ ⟨rfl, rfl⟩
      go_wp2
      exact bodyPost_ret (results_cell rfl rfl E.out.r0) rfl ⟨rfl, E.out.be⟩
  · have eg : known g = g := by simp [known, hg]
    cases hk : inB k
    · have ek : known k = 0 := by simp [known, hk]
      have E := T g 0 0
      rw [eg, ek]
      go_enter Try.func23, Try.ntmps23
      go_wp2_with fail
      refine (refIn_same _ _).mono ?_
      rw [hg]
      rintro e _ ⟨rfl, rfl⟩
      go_wp2_with fail
      refine (refIn_same _ _).mono ?_
      rw [hk]
      rintro e _ ⟨rfl, rfl⟩
      go_wp2
      exact bodyPost_ret (results_cell rfl rfl E.out.r0) rfl ⟨rfl, E.out.be⟩
    · have ek : known k = k := by simp [known, hk]
      have E := T g k k
      rw [eg, ek]
      go_enter Try.func23, Try.ntmps23
      go_wp2_with fail
      refine (refIn_same _ _).mono ?_
      rw [hg]
      rintro e _ ⟨rfl, rfl⟩
      go_wp2_with fail
      refine (refIn_same _ _).mono ?_
      rw [hk]
      rintro e _ ⟨rfl, rfl⟩
      go_wp2
      exact bodyPost_ret (results_cell rfl rfl E.out.r0) rfl ⟨rfl, E.out.be⟩
set_option maxRecDepth 100000 in
theorem refWant_calls (d : Dk) (s : Value) (a : Int) (w : World) (hq0 : 0 ≤ d.seq) (hs : ∃ A n c, s = .slice A n c) :
    Calls Try.prog 26 #[d.val s, I a] w fun e w' => e = .returned (.tuple #[(d.wanted a).val s, .bool (d.wants a)]) ∧ Below w.heap.size w w' := by
  obtain ⟨A, n, c, rfl⟩ := hs
  have HQ := Lib.hid hq0
  clear hq0
  obtain ⟨gen, k, acked, peer, stage, seq⟩ := d
  have N := Lib.hid (twoZ A n c ⟨gen, k, acked, peer, stage, seq⟩ w)
  have D := Lib.hid (two26 A n c ⟨gen, k, acked, peer, stage, seq⟩ ⟨gen, k, acked, peer, stage, seq⟩ w)
  go_enter Try.func26, Try.ntmps26
  go_wp2_with fail
  refine (refIn_same _ _).mono ?_
  rintro e _ ⟨rfl, rfl⟩
  cases hi : inB a
  · have ew : Dk.wanted ⟨gen, k, acked, peer, stage, seq⟩ a = ⟨gen, k, acked, peer, stage, seq⟩ := by simp [Dk.wanted, hi]
    have eb : Dk.wants ⟨gen, k, acked, peer, stage, seq⟩ a = false := by simp [Dk.wants, hi]
    go_wp2
    rw [ew, eb]
    exact bodyPost_ret (results_cell_tmp' rfl rfl rfl D.out.r1) rfl ⟨rfl, D.out.be⟩
  · by_cases h3 : stage = 3
    · subst h3
      have ew : Dk.wanted ⟨gen, k, acked, peer, 3, seq⟩ a = ⟨gen, k, acked, peer, 3, seq⟩ := by simp [Dk.wanted]
      have eb : Dk.wants ⟨gen, k, acked, peer, 3, seq⟩ a = false := by simp [Dk.wants]
      go_wp2
      rw [ew, eb]
      exact bodyPost_ret (results_cell_tmp' rfl rfl rfl D.out.r1) rfl ⟨rfl, D.out.be⟩
    · have e3 : (stage == 3) = false := by simp [h3]
      have H3 := Lib.hid h3
      clear h3
      by_cases h2 : stage = 2
      · subst h2
        by_cases ha : a = peer
        · have ew : Dk.wanted ⟨gen, k, acked, peer, 2, seq⟩ a = ⟨gen, k, acked, peer, 2, seq⟩ := by simp [Dk.wanted, ha]
          have eb : Dk.wants ⟨gen, k, acked, peer, 2, seq⟩ a = false := by simp [Dk.wants]
          have ea : (a == peer) = true := by simp [ha]
          clear ha
          go_wp2
          rw [ew, eb]
          exact bodyPost_ret (results_cell_tmp' rfl rfl rfl D.out.r1) rfl ⟨rfl, D.out.be⟩
        · have ew : Dk.wanted ⟨gen, k, acked, peer, 2, seq⟩ a = Dk.drop ⟨gen, k, acked, peer, 2, seq⟩ := by simp [Dk.wanted, ha, hi]
          have eb : Dk.wants ⟨gen, k, acked, peer, 2, seq⟩ a = false := by simp [Dk.wants]
          have ea : (a == peer) = false := by simp [ha]
          have EW := Lib.hid ew
          clear ha ew
          go_wp2_with fail
          refine (refDrop_calls ⟨gen, k, acked, peer, 2, seq⟩ _ _ HQ.out ⟨_, _, _, rfl⟩).mono ?_
          rintro e w1 ⟨rfl, hl⟩
          have M := Lib.hid (N.out.below hl)
          clear hl N D
          have c1 := M.out.r1.cell
          have f1 := M.out.r1.free
          go_wp2
          rw [EW.out, eb]
          exact bodyPost_ret (results_cell_tmp' rfl rfl rfl (M.out.r1.fill7 _ _ _ _ _ _ _)) rfl ⟨rfl, Below.fill7 M.out.be (by omega) _ _ _ _ _ _ _⟩
      · have e2 : (stage == 2) = false := by simp [h2]
        have ew : Dk.wanted ⟨gen, k, acked, peer, stage, seq⟩ a = ⟨gen, k, 0, a, 1, seq⟩ := by simp [Dk.wanted, hi, H3.out, h2]
        have eb : Dk.wants ⟨gen, k, acked, peer, stage, seq⟩ a = true := by simp [Dk.wants, hi, H3.out, h2]
        have EW := Lib.hid ew
        clear h2 ew
        go_wp2_with fail
        refine (with_calls ⟨gen, k, acked, peer, stage, seq⟩ _ 1 a seq 0 _ ⟨_, _, _, rfl⟩).mono ?_
        rintro e w1 ⟨rfl, hl⟩
        have M := Lib.hid (N.out.below hl)
        clear hl N D
        have c1 := M.out.r1.cell
        have f1 := M.out.r1.free
        go_wp2
        rw [EW.out, eb]
        exact bodyPost_ret (results_cell_tmp' rfl rfl rfl (M.out.r1.fill7 _ _ _ _ _ _ _)) rfl ⟨rfl, Below.fill7 M.out.be (by omega) _ _ _ _ _ _ _⟩
end Go.Proofs.Ytbchepdaomhgeaa.MM
