import Derived.Test.YtmjncjaalleblaaQX
/- Layer 4: the norm 1. -/
namespace Go.Proofs.Ytmjncjaalleblaa.PQ
open Go.RowKit Go.Proofs.YtmjncjaalleblaaW.PrintWords Go.Proofs.YtmjncjaalleblaaW.PrintLast Go.Proofs.YtmjncjaalleblaaW.PrintMore
set_option linter.unusedVariables false
set_option linter.unusedSimpArgs false
/-- the first k of four numbers anew -/
def mixU (p u : Nat → Int) : Nat → Array Value
  | 0 => #[.int .i64 (p 0), .int .i64 (p 1), .int .i64 (p 2), .int .i64 (p 3)]
  | k + 1 => (mixU p u k).setIfInBounds k (.int .i64 (u k))
def orU (f : Bool) (o : Nat → Bool) : Nat → Bool
  | 0 => f
  | k + 1 => orU f o k || o k
set_option maxRecDepth 100000 in
set_option maxHeartbeats 8000000 in
theorem unit_walk (p u : Nat → Int) (o : Nat → Bool) (n R : Int) (no so : Bool) (hN : NormTo (p 0) (p 1) (p 2) (p 3) n no) (hS : ∀ w, Calls Try.prog 31 #[.int .i64 n] w (Both w R so)) (hR : R ≠ 0)
    (hD : ∀ k, k < 4 → ∀ w, Calls Try.prog 32 #[.int .i64 (p k), .int .i64 R] w (Both w (u k) (o k))) (w : World) :
    Calls Try.prog 17 #[.agg #[.int .i64 (p 0), .int .i64 (p 1), .int .i64 (p 2), .int .i64 (p 3)]] w fun e w' =>
      e = .returned (.tuple #[.agg #[.int .i64 (u 0), .int .i64 (u 1), .int .i64 (u 2), .int .i64 (u 3)], .bool (orU ((false || no) || so) o 4)]) ∧ Below w.heap.size w w' := by
  have HN := Lib.hid hN
  have HS := Lib.hid hS
  have HD := Lib.hid hD
  have hR' : (R == 0) = false := by simpa using hR
  clear hN hS hD hR
  go_enter Try.func17, Try.ntmps17
  go_wp2_with fail
  refine (HN.out _).mono ?_
  rintro e w1 ⟨rfl, hb⟩
  have M : Hid (Scene w [(24, #[.int .i64 (p 0), .int .i64 (p 1), .int .i64 (p 2), .int .i64 (p 3)]), (24, q4 0 0 0 0), (46, #[.bool false])] w1) := Lib.hid (((((Scene.none w).push (by simp) _ _).push (by simp) _ _).push (by simp) _ _).below hb)
  clear hb
  go_wp2_with fail
  refine (one_calls _ _ _ _ _ M.out.r2).mono ?_
  rintro e w2 ⟨rfl, hg, hf⟩
  have M2 : Hid (Scene w [(24, #[.int .i64 (p 0), .int .i64 (p 1), .int .i64 (p 2), .int .i64 (p 3)]), (24, q4 0 0 0 0), (46, #[.bool (false || no)])] w2) := Lib.hid (M.out.grown 2 _ _ hg hf)
  clear hg hf M
  go_wp2_with fail
  refine (HS.out _).mono ?_
  rintro e w3 ⟨rfl, hb⟩
  have M3 := Lib.hid (M2.out.below hb)
  clear hb M2
  go_wp2_with fail
  refine (one_calls _ _ _ _ _ M3.out.r2).mono ?_
  rintro e w4 ⟨rfl, hg, hf⟩
  have M4 : Hid (Scene w [(24, #[.int .i64 (p 0), .int .i64 (p 1), .int .i64 (p 2), .int .i64 (p 3)]), (24, q4 0 0 0 0), (46, #[.bool ((false || no) || so)])] w4) := Lib.hid (M3.out.grown 2 _ _ hg hf)
  clear hg hf M3
  have ca := M4.out.r0.cell
  go_wp2_with fail
  clear ca
  go_loopw [22] (fun i wr => ∃ k : Nat, k ≤ 4 ∧ i = .int .i64 k ∧ Hid (Scene w [(24, mixU p u k), (24, q4 0 0 0 0), (46, #[.bool (orU ((false || no) || so) o k)])] wr)) (fun i _ => 4 - (intOf i).toNat)
  case atStart => exact ⟨0, by omega, rfl, M4⟩
  case round =>
    clear M4
    obtain ⟨k, hk, rfl, M⟩ := hrel
    obtain rfl | rfl | rfl | rfl | rfl : k = 0 ∨ k = 1 ∨ k = 2 ∨ k = 3 ∨ k = 4 := by omega
    · have ix : ∀ w', (Instr.index 24 (.agg #[.int .i64 (p 0), .int .i64 (p 1), .int .i64 (p 2), .int .i64 (p 3)]) (.int .i64 0)).run Try.prog w' = .ok (.int .i64 (p 0)) w' := fun w' => by kernel_rfl
      go_wp2_with fail
      refine (HD.out 0 (by omega) _).mono ?_
      rintro e wa ⟨rfl, hb⟩
      have MA := Lib.hid (M.out.below hb)
      clear hb M ix
      go_wp2_with fail
      refine (one_calls _ _ _ _ _ MA.out.r2).mono ?_
      rintro e wb ⟨rfl, hg, hf⟩
      have MB : Hid (Scene w [(24, mixU p u 0), (24, q4 0 0 0 0), (46, #[.bool (orU ((false || no) || so) o 0 || o 0)])] wb) := Lib.hid (MA.out.grown 2 _ _ hg hf)
      clear hg hf MA
      have co := MB.out.r0.cell 0
      have fo := MB.out.r0.free 0
      go_wp2
      go_roundw
      case rel => exact ⟨0 + 1, by omega, by go_num, Lib.hid (MB.out.put 0 24 _ MB.out.r0 0 (.int .i64 (u 0)))⟩
      case measure => simp [intOf]
    · have ix : ∀ w', (Instr.index 24 (.agg #[.int .i64 (p 0), .int .i64 (p 1), .int .i64 (p 2), .int .i64 (p 3)]) (.int .i64 1)).run Try.prog w' = .ok (.int .i64 (p 1)) w' := fun w' => by kernel_rfl
      go_wp2_with fail
      refine (HD.out 1 (by omega) _).mono ?_
      rintro e wa ⟨rfl, hb⟩
      have MA := Lib.hid (M.out.below hb)
      clear hb M ix
      go_wp2_with fail
      refine (one_calls _ _ _ _ _ MA.out.r2).mono ?_
      rintro e wb ⟨rfl, hg, hf⟩
      have MB : Hid (Scene w [(24, mixU p u 1), (24, q4 0 0 0 0), (46, #[.bool (orU ((false || no) || so) o 1 || o 1)])] wb) := Lib.hid (MA.out.grown 2 _ _ hg hf)
      clear hg hf MA
      have co := MB.out.r0.cell 1
      have fo := MB.out.r0.free 1
      go_wp2
      go_roundw
      case rel => exact ⟨1 + 1, by omega, by go_num, Lib.hid (MB.out.put 0 24 _ MB.out.r0 1 (.int .i64 (u 1)))⟩
      case measure => simp [intOf]
    · have ix : ∀ w', (Instr.index 24 (.agg #[.int .i64 (p 0), .int .i64 (p 1), .int .i64 (p 2), .int .i64 (p 3)]) (.int .i64 2)).run Try.prog w' = .ok (.int .i64 (p 2)) w' := fun w' => by kernel_rfl
      go_wp2_with fail
      refine (HD.out 2 (by omega) _).mono ?_
      rintro e wa ⟨rfl, hb⟩
      have MA := Lib.hid (M.out.below hb)
      clear hb M ix
      go_wp2_with fail
      refine (one_calls _ _ _ _ _ MA.out.r2).mono ?_
      rintro e wb ⟨rfl, hg, hf⟩
      have MB : Hid (Scene w [(24, mixU p u 2), (24, q4 0 0 0 0), (46, #[.bool (orU ((false || no) || so) o 2 || o 2)])] wb) := Lib.hid (MA.out.grown 2 _ _ hg hf)
      clear hg hf MA
      have co := MB.out.r0.cell 2
      have fo := MB.out.r0.free 2
      go_wp2
      go_roundw
      case rel => exact ⟨2 + 1, by omega, by go_num, Lib.hid (MB.out.put 0 24 _ MB.out.r0 2 (.int .i64 (u 2)))⟩
      case measure => simp [intOf]
    · have ix : ∀ w', (Instr.index 24 (.agg #[.int .i64 (p 0), .int .i64 (p 1), .int .i64 (p 2), .int .i64 (p 3)]) (.int .i64 3)).run Try.prog w' = .ok (.int .i64 (p 3)) w' := fun w' => by kernel_rfl
      go_wp2_with fail
      refine (HD.out 3 (by omega) _).mono ?_
      rintro e wa ⟨rfl, hb⟩
      have MA := Lib.hid (M.out.below hb)
      clear hb M ix
      go_wp2_with fail
      refine (one_calls _ _ _ _ _ MA.out.r2).mono ?_
      rintro e wb ⟨rfl, hg, hf⟩
      have MB : Hid (Scene w [(24, mixU p u 3), (24, q4 0 0 0 0), (46, #[.bool (orU ((false || no) || so) o 3 || o 3)])] wb) := Lib.hid (MA.out.grown 2 _ _ hg hf)
      clear hg hf MA
      have co := MB.out.r0.cell 3
      have fo := MB.out.r0.free 3
      go_wp2
      go_roundw
      case rel => exact ⟨3 + 1, by omega, by go_num, Lib.hid (MB.out.put 0 24 _ MB.out.r0 3 (.int .i64 (u 3)))⟩
      case measure => simp [intOf]
    · have M5 : Hid (Scene w [(24, q4 (u 0) (u 1) (u 2) (u 3)), (24, q4 0 0 0 0), (46, #[.bool (orU ((false || no) || so) o 4)])] wr) := Lib.hid M.out
      clear M HN HS HD
      revert M5
      generalize hff : orU ((false || no) || so) o 4 = ff
      intro M5
      have ca := M5.out.r0.cell
      have cf := M5.out.r2.cell 0
      have cb := M5.out.r1.cell
      have fb := M5.out.r1.free
      have nx : w.heap.size + 1 ≠ w.heap.size := by omega
      have ny : w.heap.size + 1 ≠ w.heap.size + 1 + 1 := by omega
      have MD := Lib.hid M5.out.drew
      go_wp2
      go_region_held3 (fun w' => (∀ o, w'.cell? ⟨w.heap.size, o, none⟩ = (q4 (u 0) (u 1) (u 2) (u 3))[o]?) ∧ w'.cell? ⟨w.heap.size + 1 + 1, 0, none⟩ = some (.bool ff))
        (first | with_reducible exact ⟨MD.out.r0.cell, MD.out.r2.cell 0⟩ | with_reducible exact ⟨(MD.out.r0.far4 (by omega)).cell, (MD.out.r2.far4 (by omega)).cell 0⟩ | go_keep) (fail)
      all_goals go_wp2
      all_goals
        have R := (M5.out.r1.fill4 (.int .i64 (u 0)) (.int .i64 (u 1)) (.int .i64 (u 2)) (.int .i64 (u 3))).drew
        have HB := (Below.fill4 (B := w.heap.size + 1) M5.out.be (by omega) (.int .i64 (u 0)) (.int .i64 (u 1)) (.int .i64 (u 2)) (.int .i64 (u 3))).drew
        clear M5 MD ca cf cb fb nx ny
        revert R HB
        generalize World.drew _ = wf
        intro R HB
        refine bodyPost_ret (v := .tuple #[.agg #[.int .i64 (u 0), .int .i64 (u 1), .int .i64 (u 2), .int .i64 (u 3)], .bool ff]) ?_ rfl ⟨by rw [hff], HB⟩
        have r0 := R.cell 0
        have r1 := R.cell 1
        have r2 := R.cell 2
        have r3 := R.cell 3
        simp at r0 r1 r2 r3
        simp [results, Try.f17, Try.results17, go_sem, r0, r1, r2, r3]
set_option maxRecDepth 100000 in
set_option maxHeartbeats 8000000 in
/-- a root of 0 -/
theorem unit_zero (p : Nat → Int) (n : Int) (no so : Bool) (hN : NormTo (p 0) (p 1) (p 2) (p 3) n no) (hS : ∀ w, Calls Try.prog 31 #[.int .i64 n] w (Both w 0 so)) (w : World) :
    Calls Try.prog 17 #[.agg #[.int .i64 (p 0), .int .i64 (p 1), .int .i64 (p 2), .int .i64 (p 3)]] w fun e w' =>
      e = .returned (.tuple #[.agg #[.int .i64 16777216, .int .i64 0, .int .i64 0, .int .i64 0], .bool true]) ∧ Below w.heap.size w w' := by
  have HN := Lib.hid hN
  have HS := Lib.hid hS
  clear hN hS
  go_enter Try.func17, Try.ntmps17
  go_wp2_with fail
  refine (HN.out _).mono ?_
  rintro e w1 ⟨rfl, hb⟩
  have M : Hid (Scene w [(24, #[.int .i64 (p 0), .int .i64 (p 1), .int .i64 (p 2), .int .i64 (p 3)]), (24, q4 0 0 0 0), (46, #[.bool false])] w1) := Lib.hid (((((Scene.none w).push (by simp) _ _).push (by simp) _ _).push (by simp) _ _).below hb)
  clear hb
  go_wp2_with fail
  refine (one_calls _ _ _ _ _ M.out.r2).mono ?_
  rintro e w2 ⟨rfl, hg, hf⟩
  have M2 : Hid (Scene w [(24, #[.int .i64 (p 0), .int .i64 (p 1), .int .i64 (p 2), .int .i64 (p 3)]), (24, q4 0 0 0 0), (46, #[.bool (false || no)])] w2) := Lib.hid (M.out.grown 2 _ _ hg hf)
  clear hg hf M
  go_wp2_with fail
  refine (HS.out _).mono ?_
  rintro e w3 ⟨rfl, hb⟩
  have M3 := Lib.hid (M2.out.below hb)
  clear hb M2
  go_wp2_with fail
  refine (one_calls _ _ _ _ _ M3.out.r2).mono ?_
  rintro e w4 ⟨rfl, hg, hf⟩
  have M4 : Hid (Scene w [(24, #[.int .i64 (p 0), .int .i64 (p 1), .int .i64 (p 2), .int .i64 (p 3)]), (24, q4 0 0 0 0), (46, #[.bool ((false || no) || so)])] w4) := Lib.hid (M3.out.grown 2 _ _ hg hf)
  clear hg hf M3
  have cb := M4.out.r1.cell
  have fb := M4.out.r1.free
  go_wp2
  have R := M4.out.r1.fill4 (.int .i64 16777216) (.int .i64 0) (.int .i64 0) (.int .i64 0)
  have HB := Below.fill4 (B := w.heap.size + 1) M4.out.be (by omega) (.int .i64 16777216) (.int .i64 0) (.int .i64 0) (.int .i64 0)
  clear M4 cb fb
  revert R HB
  generalize World.setCell (World.setCell (World.setCell (World.setCell w4 _ _) _ _) _ _) _ _ = wf
  intro R HB
  refine bodyPost_ret (v := .tuple #[.agg #[.int .i64 16777216, .int .i64 0, .int .i64 0, .int .i64 0], .bool true]) ?_ rfl ⟨rfl, HB⟩
  have r0 := R.cell 0
  have r1 := R.cell 1
  have r2 := R.cell 2
  have r3 := R.cell 3
  simp at r0 r1 r2 r3
  simp [results, Try.f17, Try.results17, go_sem, r0, r1, r2, r3]
end Go.Proofs.Ytmjncjaalleblaa.PQ
