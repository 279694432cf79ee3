import Derived.Test.YtbchepdaomhgeaaMRb
import Derived.Test.YtbchepdaomhgeaaMRc
import Derived.Test.YtbchepdaomhgeaaMRd
/- Layer 14: which desks are right, by the document; what the selector is told. -/
namespace Go.Proofs.Ytbchepdaomhgeaa.MM
open Go.RowKit
set_option linter.unusedVariables false
set_option linter.unusedSimpArgs false
theorem refRight_calls (d : Dk) (s : Value) (l : List Ot) (w : World) (hs : Sl w s l) :
    Calls Try.prog 14 #[d.val s] w fun e w' => e = .returned (.bool (d.right l)) ∧ Below w.heap.size w w' := by
  obtain ⟨gen, k, acked, peer, stage, seq⟩ := d
  cases hb : (inB gen && inB k && inB acked && inB seq && decide (acked ≤ k) && decide (stage ≥ 0) && decide (stage ≤ 3) && decide ((l.length : Int) ≤ 64))
  · have h := refRight_bad gen k acked peer stage seq s l w hs hb
    have e : Dk.right ⟨gen, k, acked, peer, stage, seq⟩ l = false := by
      unfold Dk.right
      dsimp only
      cases h0 : inB gen <;> cases h1 : inB k <;> cases h2 : inB acked <;> cases h3 : inB seq <;> cases h4 : decide (acked ≤ k) <;> cases h5 : decide (stage ≥ 0) <;> cases h6 : decide (stage ≤ 3) <;> cases h7 : decide ((l.length : Int) ≤ 64) <;> simp_all
    rw [e]
    exact h
  · simp only [Bool.and_eq_true] at hb
    obtain ⟨⟨⟨⟨⟨⟨⟨h0, h1⟩, h2⟩, h3⟩, g0⟩, g1⟩, g2⟩, g3⟩ := hb
    by_cases s0 : stage = 0
    · subst s0
      exact refRight_0 gen k acked peer seq s l w hs h0 h1 h2 h3 g0 g3
    · by_cases s3 : stage = 3
      · subst s3
        exact refRight_3 gen k acked peer seq s l w hs h0 h1 h2 h3 g0 g3
      · exact refRight_else gen k acked peer stage seq s l w hs h0 h1 h2 h3 g0 g3 g1 g2 s0 s3
def Dk.says (d : Dk) : Bool := decide (d.stage = 2) || decide (d.stage = 3)
def Dk.say (d : Dk) : Value := if d.says = true then .tuple #[I d.seq, I d.peer, .bool true] else .tuple #[I 0, I (-1), .bool false]
set_option maxRecDepth 100000 in
theorem say_calls (d : Dk) (s : Value) (w : World) : Calls Try.prog 16 #[d.val s] w fun e w' => e = .returned d.say ∧ Below w.heap.size w w' := by
  obtain ⟨gen, k, acked, peer, stage, seq⟩ := d
  have N : Hid (Scene w [(26, Dk.row ⟨gen, k, acked, peer, stage, seq⟩ s)] (w.alloc (.cells (Dk.row ⟨gen, k, acked, peer, stage, seq⟩ s) 26))) := Lib.hid ((Scene.none w).push (by simp) _ _)
  have D : Hid (Scene w [(26, Dk.row ⟨gen, k, acked, peer, stage, seq⟩ s)] (w.alloc (.cells (Dk.row ⟨gen, k, acked, peer, stage, seq⟩ s) 26)).drew) := Lib.hid N.out.drew
  by_cases h2 : stage = 2
  · subst h2
    have c := D.out.r0.cell
    go_enter Try.func16, Try.ntmps16
    go_wp2
    go_region_held3 (fun w' => ∀ o, w'.cell? ⟨w.heap.size, o, none⟩ = (Dk.row ⟨gen, k, acked, peer, 2, seq⟩ s)[o]?) (first | with_reducible exact c | go_keep) (fail)
    all_goals go_wp2
    all_goals exact bodyPost_ret (results_tmp3 rfl _ _ _) rfl ⟨rfl, D.out.be⟩
  · have e2 : (stage == 2) = false := by simp [h2]
    have H2 := Lib.hid h2
    clear h2
    by_cases h3 : stage = 3
    · subst h3
      have c := D.out.r0.cell
      go_enter Try.func16, Try.ntmps16
      go_wp2
      go_region_held3 (fun w' => ∀ o, w'.cell? ⟨w.heap.size, o, none⟩ = (Dk.row ⟨gen, k, acked, peer, 3, seq⟩ s)[o]?) (first | with_reducible exact c | go_keep) (fail)
      all_goals go_wp2
      all_goals exact bodyPost_ret (results_tmp3 rfl _ _ _) rfl ⟨rfl, D.out.be⟩
    · have e3 : (stage == 3) = false := by simp [h3]
      have H3 := Lib.hid h3
      clear h3
      go_enter Try.func16, Try.ntmps16
      go_wp2
      exact bodyPost_ret (results_tmp3 rfl _ _ _) rfl ⟨by simp [Dk.say, Dk.says, H2.out, H3.out], N.out.be⟩
end Go.Proofs.Ytbchepdaomhgeaa.MM
