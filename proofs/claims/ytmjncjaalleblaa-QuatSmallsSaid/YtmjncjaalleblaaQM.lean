import Derived.Test.YtmjncjaalleblaaQ7
/- Layer 4: a small turn. -/
namespace Go.Proofs.Ytmjncjaalleblaa.PQ
open Go.RowKit Go.Proofs.YtmjncjaalleblaaW.PrintWords Go.Proofs.YtmjncjaalleblaaW.PrintLast Go.Proofs.YtmjncjaalleblaaW.PrintMore
set_option linter.unusedVariables false
set_option linter.unusedSimpArgs false
/-- the first k of three numbers, behind One -/
def tailK (x : Nat → Int) : Nat → Array Value
  | 0 => #[.int .i64 16777216, .int .i64 0, .int .i64 0, .int .i64 0]
  | k + 1 => (tailK x k).setIfInBounds (k + 1) (.int .i64 (x k))
theorem Row.flag {w : World} {F : Nat} {b : Bool} (h : Row w F 46 #[.bool b]) : w.cell? ⟨F, 0, none⟩ = some (.bool b) := h.cell 0
set_option maxRecDepth 100000 in
set_option maxHeartbeats 8000000 in
theorem small_walk (v x : Nat → Int) (o : Nat → Bool) (b h u0 u1 u2 u3 : Int) (f : Bool) (hH : ∀ w, Calls Try.prog 36 #[.int .i64 b, .int .i64 1] w fun e w' => e = .returned (.int .i64 h) ∧ Below w.heap.size w w')
    (hM : ∀ k, k < 3 → ∀ w, Calls Try.prog 25 #[.int .i64 (v k), .int .i64 h] w (Both w (x k) (o k))) (hU : UnitTo 16777216 (x 0) (x 1) (x 2) u0 u1 u2 u3 f) (w : World) :
    Calls Try.prog 21 #[.agg #[.int .i64 (v 0), .int .i64 (v 1), .int .i64 (v 2)], .int .i64 b] w fun e w' =>
      e = .returned (.tuple #[.agg #[.int .i64 u0, .int .i64 u1, .int .i64 u2, .int .i64 u3], .bool (f || orU false o 3)]) ∧ Below w.heap.size w w' := by
  have HH := Lib.hid hH
  have HM := Lib.hid hM
  have HU := Lib.hid hU
  clear hH hM hU
  go_enter Try.func21, Try.ntmps21
  go_wp2_with fail
  refine (HH.out _).mono ?_
  rintro e w1 ⟨rfl, hb⟩
  have M : Hid (Scene w [(26, #[.int .i64 (v 0), .int .i64 (v 1), .int .i64 (v 2)]), (24, q4 0 0 0 0), (46, #[.bool false])] w1) := Lib.hid (((((Scene.none w).push (by simp) _ _).push (by simp) _ _).push (by simp) _ _).below hb)
  clear hb
  have ca := M.out.r0.cell
  have la := M.out.r0.lt
  go_wp2_with fail
  go_loopw [17] (fun i wr => ∃ k : Nat, k ≤ 3 ∧ i = .int .i64 k ∧ Hid (Scene w [(26, #[.int .i64 (v 0), .int .i64 (v 1), .int .i64 (v 2)]), (24, q4 0 0 0 0), (46, #[.bool (orU false o k)])] wr) ∧ Hid (Row wr w1.heap.size 24 (tailK x k))) (fun i _ => 3 - (intOf i).toNat)
  case atStart => exact ⟨0, by omega, rfl, Lib.hid (M.out.alloc _), Lib.hid (Row.new w1 24 _)⟩
  case round =>
    clear ca
    have lM := M.out.r2.lt
    clear M
    obtain ⟨k, hk, rfl, N, Q⟩ := hrel
    obtain rfl | rfl | rfl | rfl : k = 0 ∨ k = 1 ∨ k = 2 ∨ k = 3 := by omega
    · have ix : ∀ w', (Instr.index 26 (.agg #[.int .i64 (v 0), .int .i64 (v 1), .int .i64 (v 2)]) (.int .i64 0)).run Try.prog w' = .ok (.int .i64 (v 0)) w' := fun w' => by kernel_rfl
      go_wp2_with fail
      refine (HM.out 0 (by omega) _).mono ?_
      rintro e wa ⟨rfl, hb⟩
      have NA := Lib.hid (N.out.below hb)
      have QA := Lib.hid (Q.out.below hb Q.out.lt)
      clear hb N Q ix
      go_wp2_with fail
      refine (one_calls _ _ _ _ _ NA.out.r2).mono ?_
      rintro e wb ⟨rfl, hg, hf⟩
      have NB := Lib.hid (NA.out.grown 2 _ _ hg hf)
      have QB := Lib.hid (QA.out.grown hg (by simp; omega))
      clear hg hf NA QA
      have co := QB.out.cell 1
      have fo := QB.out.free 1
      go_wp2
      go_roundw
      case rel => exact ⟨0 + 1, by omega, by go_num, Lib.hid ⟨NB.out.rows.imp fun k t cs h1 h2 r => r.far (p := ⟨w1.heap.size, 1, none⟩) (by simp at h2 ⊢; omega) _, NB.out.be.setCell (p := ⟨w1.heap.size, 1, none⟩) (by simp; omega) _⟩, Lib.hid (QB.out.set 1 _)⟩
      case measure => simp [intOf]
    · have ix : ∀ w', (Instr.index 26 (.agg #[.int .i64 (v 0), .int .i64 (v 1), .int .i64 (v 2)]) (.int .i64 1)).run Try.prog w' = .ok (.int .i64 (v 1)) w' := fun w' => by kernel_rfl
      go_wp2_with fail
      refine (HM.out 1 (by omega) _).mono ?_
      rintro e wa ⟨rfl, hb⟩
      have NA := Lib.hid (N.out.below hb)
      have QA := Lib.hid (Q.out.below hb Q.out.lt)
      clear hb N Q ix
      go_wp2_with fail
      refine (one_calls _ _ _ _ _ NA.out.r2).mono ?_
      rintro e wb ⟨rfl, hg, hf⟩
      have NB := Lib.hid (NA.out.grown 2 _ _ hg hf)
      have QB := Lib.hid (QA.out.grown hg (by simp; omega))
      clear hg hf NA QA
      have co := QB.out.cell 2
      have fo := QB.out.free 2
      go_wp2
      go_roundw
      case rel => exact ⟨1 + 1, by omega, by go_num, Lib.hid ⟨NB.out.rows.imp fun k t cs h1 h2 r => r.far (p := ⟨w1.heap.size, 2, none⟩) (by simp at h2 ⊢; omega) _, NB.out.be.setCell (p := ⟨w1.heap.size, 2, none⟩) (by simp; omega) _⟩, Lib.hid (QB.out.set 2 _)⟩
      case measure => simp [intOf]
    · have ix : ∀ w', (Instr.index 26 (.agg #[.int .i64 (v 0), .int .i64 (v 1), .int .i64 (v 2)]) (.int .i64 2)).run Try.prog w' = .ok (.int .i64 (v 2)) w' := fun w' => by kernel_rfl
      go_wp2_with fail
      refine (HM.out 2 (by omega) _).mono ?_
      rintro e wa ⟨rfl, hb⟩
      have NA := Lib.hid (N.out.below hb)
      have QA := Lib.hid (Q.out.below hb Q.out.lt)
      clear hb N Q ix
      go_wp2_with fail
      refine (one_calls _ _ _ _ _ NA.out.r2).mono ?_
      rintro e wb ⟨rfl, hg, hf⟩
      have NB := Lib.hid (NA.out.grown 2 _ _ hg hf)
      have QB := Lib.hid (QA.out.grown hg (by simp; omega))
      clear hg hf NA QA
      have co := QB.out.cell 3
      have fo := QB.out.free 3
      go_wp2
      go_roundw
      case rel => exact ⟨2 + 1, by omega, by go_num, Lib.hid ⟨NB.out.rows.imp fun k t cs h1 h2 r => r.far (p := ⟨w1.heap.size, 3, none⟩) (by simp at h2 ⊢; omega) _, NB.out.be.setCell (p := ⟨w1.heap.size, 3, none⟩) (by simp; omega) _⟩, Lib.hid (QB.out.set 3 _)⟩
      case measure => simp [intOf]
    · have Q5 : Hid (Row wr w1.heap.size 24 (q4 16777216 (x 0) (x 1) (x 2))) := Lib.hid Q.out
      have cq := Q5.out.cell
      go_wp2_with fail
      refine (HU.out _).mono ?_
      rintro e w5 ⟨rfl, hb⟩
      have N5 := Lib.hid (N.out.below hb)
      clear hb cq Q Q5 N
      go_wp2_with fail
      have l5 := N5.out.r2.lt
      have cb := (N5.out.alloc (.cells (q4 u0 u1 u2 u3) 24)).r1.cell
      have fb := (N5.out.alloc (.cells (q4 u0 u1 u2 u3) 24)).r1.free
      have N6 := Lib.hid (N5.out.alloc (.cells (q4 u0 u1 u2 u3) 24))
      have U6 := Lib.hid (Row.new w5 24 (q4 u0 u1 u2 u3))
      have N7 := Lib.hid N6.out.drew
      have U7 := Lib.hid U6.out.drew
      have nx : w.heap.size + 1 ≠ w5.heap.size := by omega
      have ny : w.heap.size + 1 ≠ w.heap.size + 1 + 1 := by omega
      clear N5 HH HM HU
      generalize hgg : orU false o 3 = g at *
      have HG := Lib.hid hgg
      clear hgg
      cases f
      · go_region_held3 (fun w' => (∀ o, w'.cell? ⟨w5.heap.size, o, none⟩ = (q4 u0 u1 u2 u3)[o]?) ∧ w'.cell? ⟨w.heap.size + 1 + 1, 0, none⟩ = some (.bool g)) (first | with_reducible exact ⟨U7.out.cell, N7.out.r2.flag⟩ | with_reducible exact ⟨(U7.out.far4 (by omega)).cell, (N7.out.r2.far4 (by omega)).flag⟩ | with_reducible exact ⟨(U6.out.far4 (by omega)).drew.cell, (N6.out.r2.far4 (by omega)).drew.flag⟩ | go_keep) (fail)
        all_goals go_wp2
        all_goals
          have R := (N6.out.r1.fill4 (.int .i64 u0) (.int .i64 u1) (.int .i64 u2) (.int .i64 u3)).drew
          have HB := (Below.fill4 (B := w.heap.size + 1) N6.out.be (by omega) (.int .i64 u0) (.int .i64 u1) (.int .i64 u2) (.int .i64 u3)).drew
          clear N6 N7 U6 U7 cb fb nx ny l5
          revert R HB
          first
          | generalize World.drew _ = wf
          | generalize World.setCell (World.setCell (World.setCell (World.setCell _ _ _) _ _) _ _) _ _ = wf
          intro R HB
          have r0 := R.cell 0
          have r1 := R.cell 1
          have r2 := R.cell 2
          have r3 := R.cell 3
          simp at r0 r1 r2 r3
          refine bodyPost_ret (v := .tuple #[.agg #[.int .i64 u0, .int .i64 u1, .int .i64 u2, .int .i64 u3], .bool g]) ?_ rfl ⟨by rw [HG.out], HB⟩
          simp [results, Try.f21, Try.results21, go_sem, r0, r1, r2, r3]
      · have u0c := U7.out.cell
        have n2c := N7.out.r2.flag
        go_region
        all_goals go_wp2
        all_goals
          have R := (N6.out.r1.fill4 (.int .i64 u0) (.int .i64 u1) (.int .i64 u2) (.int .i64 u3)).drew
          have HB := (Below.fill4 (B := w.heap.size + 1) N6.out.be (by omega) (.int .i64 u0) (.int .i64 u1) (.int .i64 u2) (.int .i64 u3)).drew
          clear N6 N7 U6 U7 cb fb nx ny l5
          revert R HB
          first
          | generalize World.drew _ = wf
          | generalize World.setCell (World.setCell (World.setCell (World.setCell _ _ _) _ _) _ _) _ _ = wf
          intro R HB
          have r0 := R.cell 0
          have r1 := R.cell 1
          have r2 := R.cell 2
          have r3 := R.cell 3
          simp at r0 r1 r2 r3
          refine bodyPost_ret (v := .tuple #[.agg #[.int .i64 u0, .int .i64 u1, .int .i64 u2, .int .i64 u3], .bool true]) ?_ rfl ⟨rfl, HB⟩
          simp [results, Try.f21, Try.results21, go_sem, r0, r1, r2, r3]
end Go.Proofs.Ytmjncjaalleblaa.PQ
