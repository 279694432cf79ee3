import Derived.Test.YtmjncjaalleblaaQR
/- QuatUnits: the walk. -/
namespace Go.Proofs.Ytmjncjaalleblaa.PQ
open Go.RowKit Go.Proofs.YtmjncjaalleblaaW.PrintWords Go.Proofs.YtmjncjaalleblaaW.PrintLast Go.Proofs.YtmjncjaalleblaaW.PrintMore
set_option linter.unusedVariables false
set_option linter.unusedSimpArgs false
abbrev Bd (x : Int) : Prop := -8589934592 ≤ x ∧ x ≤ 8589934592
abbrev Bg (x : Int) : Prop := 4194304 ≤ x ∨ x ≤ -4194304
/-- what is known of the first k numbers, s: whether one of them is great -/
def Seen (p : Nat → Int) (k : Nat) (s : Bool) : Prop := (∀ j, j < k → Bd (p j)) ∧ (s = true → ∃ j, j < k ∧ Bg (p j))
theorem Seen.keep {p : Nat → Int} {k : Nat} {s : Bool} (h : Seen p k s) (hx : Bd (p k)) : Seen p (k + 1) s :=
  ⟨fun j hj => by
    rcases Nat.lt_or_ge j k with hl | hl
    · exact h.1 j hl
    · obtain rfl : j = k := by omega
      exact hx, fun e => by obtain ⟨j, hj, hb⟩ := h.2 e; exact ⟨j, by omega, hb⟩⟩
theorem Seen.great {p : Nat → Int} {k : Nat} {s : Bool} (h : Seen p k s) (hx : Bd (p k)) (hb : Bg (p k)) : Seen p (k + 1) true :=
  ⟨(h.keep hx).1, fun _ => ⟨k, by omega, hb⟩⟩
set_option maxRecDepth 100000 in
set_option maxHeartbeats 8000000 in
theorem units_walk (p : Nat → Int) (w : World) :
    Calls Try.prog 7 #[.agg #[.int .i64 (p 0), .int .i64 (p 1), .int .i64 (p 2), .int .i64 (p 3)]] w fun e w' => e = .returned (.bool true) ∧ Below w.heap.size w w' := by
  obtain ⟨u0, u1, u2, u3, f, hU, hr, hm⟩ := unit_pure (p 0) (p 1) (p 2) (p 3)
  have HU := Lib.hid hU
  have HM := Lib.hid hm
  have hc := right_in hr
  have HR : Hid (∀ w, Calls Try.prog 10 #[.agg #[.int .i64 u0, .int .i64 u1, .int .i64 u2, .int .i64 u3]] w fun e w' => e = .returned (.bool true) ∧ Below w.heap.size w w') := Lib.hid (fun w => by have h := refRight_calls u0 u1 u2 u3 w; rwa [hr] at h)
  have HN := Lib.hid (norm_to u0 u1 u2 u3)
  clear hU hm hc hr
  generalize normO (at4 u0 u1 u2 u3) = no at *
  generalize normV (at4 u0 u1 u2 u3) = n at *
  go_enter Try.func7, Try.ntmps7
  go_wp2_with fail
  refine (shown_calls _).mono ?_
  rintro e w1 ⟨rfl, hb⟩
  have M : Hid (Scene w [(24, q4 (p 0) (p 1) (p 2) (p 3))] w1) := Lib.hid (((Scene.none w).push (by simp) _ _).below hb)
  clear hb
  have ca := M.out.r0.cell
  go_wp2_with fail
  refine (HU.out _).mono ?_
  rintro e w2 ⟨rfl, hb⟩
  have M2 := Lib.hid (M.out.below hb)
  clear hb M ca
  go_wp2_with fail
  refine (HR.out _).mono ?_
  rintro e w3 ⟨rfl, hb⟩
  have M3 := Lib.hid ((M2.out.alloc (.cells (q4 u0 u1 u2 u3) 24)).below hb)
  have U3 := Lib.hid (Row.kept hb)
  clear hb M2
  go_wp2_with fail
  go_loopw [6, 7] (fun s i wr => ∃ (k : Nat) (b : Bool), k ≤ 4 ∧ i = .int .i64 k ∧ s = .bool b ∧ Hid (Seen p k b) ∧ Hid (Scene w [(24, q4 (p 0) (p 1) (p 2) (p 3))] wr) ∧ Hid (Row wr w2.heap.size 24 (q4 u0 u1 u2 u3))) (fun _ i _ => 4 - (intOf i).toNat)
  case atStart => exact ⟨0, false, by omega, rfl, rfl, Lib.hid ⟨fun j hj => by omega, fun h => by cases h⟩, M3, U3⟩
  case round =>
    clear M3 U3
    obtain ⟨k, b, hk, rfl, rfl, S, M, U⟩ := hrel
    have ca := M.out.r0.cell
    obtain rfl | rfl | rfl | rfl | rfl : k = 0 ∨ k = 1 ∨ k = 2 ∨ k = 3 ∨ k = 4 := by omega
    · by_cases h1 : 8589934592 < p 0
      · have d1 : decide (8589934592 < p 0) = true := decide_eq_true h1
        go_wp2
        go_ret
        exact ⟨rfl, M.out.be⟩
      · have d1 : decide (8589934592 < p 0) = false := decide_eq_false h1
        by_cases h2 : p 0 < -8589934592
        · have d2 : decide (p 0 < -8589934592) = true := decide_eq_true h2
          go_wp2
          go_ret
          exact ⟨rfl, M.out.be⟩
        · have d2 : decide (p 0 < -8589934592) = false := decide_eq_false h2
          have B := Lib.hid (show Bd (p 0) by omega)
          cases b
          · by_cases h3 : 4194304 ≤ p 0
            · have d3 : decide (4194304 ≤ p 0) = true := decide_eq_true h3
              have G := Lib.hid (show Bg (p 0) from Or.inl h3)
              go_wp2
              go_roundw
              case rel => exact ⟨0 + 1, _, by omega, by go_num, rfl, Lib.hid (S.out.great B.out G.out), M, U⟩
              case measure => simp [intOf]
            · have d3 : decide (4194304 ≤ p 0) = false := decide_eq_false h3
              by_cases h4 : p 0 ≤ -4194304
              · have d4 : decide (p 0 ≤ -4194304) = true := decide_eq_true h4
                have G := Lib.hid (show Bg (p 0) from Or.inr h4)
                go_wp2
                go_roundw
                case rel => exact ⟨0 + 1, _, by omega, by go_num, rfl, Lib.hid (S.out.great B.out G.out), M, U⟩
                case measure => simp [intOf]
              · have d4 : decide (p 0 ≤ -4194304) = false := decide_eq_false h4
                go_wp2
                go_roundw
                case rel => exact ⟨0 + 1, _, by omega, by go_num, rfl, Lib.hid (S.out.keep B.out), M, U⟩
                case measure => simp [intOf]
          · go_wp2
            go_roundw
            case rel => exact ⟨0 + 1, _, by omega, by go_num, rfl, Lib.hid (S.out.keep B.out), M, U⟩
            case measure => simp [intOf]
    · by_cases h1 : 8589934592 < p 1
      · have d1 : decide (8589934592 < p 1) = true := decide_eq_true h1
        go_wp2
        go_ret
        exact ⟨rfl, M.out.be⟩
      · have d1 : decide (8589934592 < p 1) = false := decide_eq_false h1
        by_cases h2 : p 1 < -8589934592
        · have d2 : decide (p 1 < -8589934592) = true := decide_eq_true h2
          go_wp2
          go_ret
          exact ⟨rfl, M.out.be⟩
        · have d2 : decide (p 1 < -8589934592) = false := decide_eq_false h2
          have B := Lib.hid (show Bd (p 1) by omega)
          cases b
          · by_cases h3 : 4194304 ≤ p 1
            · have d3 : decide (4194304 ≤ p 1) = true := decide_eq_true h3
              have G := Lib.hid (show Bg (p 1) from Or.inl h3)
              go_wp2
              go_roundw
              case rel => exact ⟨1 + 1, _, by omega, by go_num, rfl, Lib.hid (S.out.great B.out G.out), M, U⟩
              case measure => simp [intOf]
            · have d3 : decide (4194304 ≤ p 1) = false := decide_eq_false h3
              by_cases h4 : p 1 ≤ -4194304
              · have d4 : decide (p 1 ≤ -4194304) = true := decide_eq_true h4
                have G := Lib.hid (show Bg (p 1) from Or.inr h4)
                go_wp2
                go_roundw
                case rel => exact ⟨1 + 1, _, by omega, by go_num, rfl, Lib.hid (S.out.great B.out G.out), M, U⟩
                case measure => simp [intOf]
              · have d4 : decide (p 1 ≤ -4194304) = false := decide_eq_false h4
                go_wp2
                go_roundw
                case rel => exact ⟨1 + 1, _, by omega, by go_num, rfl, Lib.hid (S.out.keep B.out), M, U⟩
                case measure => simp [intOf]
          · go_wp2
            go_roundw
            case rel => exact ⟨1 + 1, _, by omega, by go_num, rfl, Lib.hid (S.out.keep B.out), M, U⟩
            case measure => simp [intOf]
    · by_cases h1 : 8589934592 < p 2
      · have d1 : decide (8589934592 < p 2) = true := decide_eq_true h1
        go_wp2
        go_ret
        exact ⟨rfl, M.out.be⟩
      · have d1 : decide (8589934592 < p 2) = false := decide_eq_false h1
        by_cases h2 : p 2 < -8589934592
        · have d2 : decide (p 2 < -8589934592) = true := decide_eq_true h2
          go_wp2
          go_ret
          exact ⟨rfl, M.out.be⟩
        · have d2 : decide (p 2 < -8589934592) = false := decide_eq_false h2
          have B := Lib.hid (show Bd (p 2) by omega)
          cases b
          · by_cases h3 : 4194304 ≤ p 2
            · have d3 : decide (4194304 ≤ p 2) = true := decide_eq_true h3
              have G := Lib.hid (show Bg (p 2) from Or.inl h3)
              go_wp2
              go_roundw
              case rel => exact ⟨2 + 1, _, by omega, by go_num, rfl, Lib.hid (S.out.great B.out G.out), M, U⟩
              case measure => simp [intOf]
            · have d3 : decide (4194304 ≤ p 2) = false := decide_eq_false h3
              by_cases h4 : p 2 ≤ -4194304
              · have d4 : decide (p 2 ≤ -4194304) = true := decide_eq_true h4
                have G := Lib.hid (show Bg (p 2) from Or.inr h4)
                go_wp2
                go_roundw
                case rel => exact ⟨2 + 1, _, by omega, by go_num, rfl, Lib.hid (S.out.great B.out G.out), M, U⟩
                case measure => simp [intOf]
              · have d4 : decide (p 2 ≤ -4194304) = false := decide_eq_false h4
                go_wp2
                go_roundw
                case rel => exact ⟨2 + 1, _, by omega, by go_num, rfl, Lib.hid (S.out.keep B.out), M, U⟩
                case measure => simp [intOf]
          · go_wp2
            go_roundw
            case rel => exact ⟨2 + 1, _, by omega, by go_num, rfl, Lib.hid (S.out.keep B.out), M, U⟩
            case measure => simp [intOf]
    · by_cases h1 : 8589934592 < p 3
      · have d1 : decide (8589934592 < p 3) = true := decide_eq_true h1
        go_wp2
        go_ret
        exact ⟨rfl, M.out.be⟩
      · have d1 : decide (8589934592 < p 3) = false := decide_eq_false h1
        by_cases h2 : p 3 < -8589934592
        · have d2 : decide (p 3 < -8589934592) = true := decide_eq_true h2
          go_wp2
          go_ret
          exact ⟨rfl, M.out.be⟩
        · have d2 : decide (p 3 < -8589934592) = false := decide_eq_false h2
          have B := Lib.hid (show Bd (p 3) by omega)
          cases b
          · by_cases h3 : 4194304 ≤ p 3
            · have d3 : decide (4194304 ≤ p 3) = true := decide_eq_true h3
              have G := Lib.hid (show Bg (p 3) from Or.inl h3)
              go_wp2
              go_roundw
              case rel => exact ⟨3 + 1, _, by omega, by go_num, rfl, Lib.hid (S.out.great B.out G.out), M, U⟩
              case measure => simp [intOf]
            · have d3 : decide (4194304 ≤ p 3) = false := decide_eq_false h3
              by_cases h4 : p 3 ≤ -4194304
              · have d4 : decide (p 3 ≤ -4194304) = true := decide_eq_true h4
                have G := Lib.hid (show Bg (p 3) from Or.inr h4)
                go_wp2
                go_roundw
                case rel => exact ⟨3 + 1, _, by omega, by go_num, rfl, Lib.hid (S.out.great B.out G.out), M, U⟩
                case measure => simp [intOf]
              · have d4 : decide (p 3 ≤ -4194304) = false := decide_eq_false h4
                go_wp2
                go_roundw
                case rel => exact ⟨3 + 1, _, by omega, by go_num, rfl, Lib.hid (S.out.keep B.out), M, U⟩
                case measure => simp [intOf]
          · go_wp2
            go_roundw
            case rel => exact ⟨3 + 1, _, by omega, by go_num, rfl, Lib.hid (S.out.keep B.out), M, U⟩
            case measure => simp [intOf]
    · have cu := U.out.cell
      go_wp2_with fail
      refine (HN.out _).mono ?_
      rintro e w4 ⟨rfl, hb⟩
      have M4 := Lib.hid (M.out.below hb)
      clear hb
      cases b
      · go_wp2
        go_ret
        exact ⟨rfl, M4.out.be⟩
      · have hm := HM.out (S.out.1 0 (by omega)) (S.out.1 1 (by omega)) (S.out.1 2 (by omega)) (S.out.1 3 (by omega)) (by
          obtain ⟨j, hj, hb⟩ := S.out.2 rfl
          obtain rfl | rfl | rfl | rfl : j = 0 ∨ j = 1 ∨ j = 2 ∨ j = 3 := by omega
          · exact Or.inl hb
          · exact Or.inr (Or.inl hb)
          · exact Or.inr (Or.inr (Or.inl hb))
          · exact Or.inr (Or.inr (Or.inr hb)))
        have d1 : decide (16776960 ≤ n) = true := decide_eq_true hm.2.1
        have d2 : decide (n ≤ 16777472) = true := decide_eq_true hm.2.2
        clear hm
        go_wp2
        go_ret
        exact ⟨rfl, M4.out.be⟩
end Go.Proofs.Ytmjncjaalleblaa.PQ
