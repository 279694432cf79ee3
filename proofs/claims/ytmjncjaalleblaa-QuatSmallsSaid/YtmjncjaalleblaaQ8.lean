import Derived.Test.YtmjncjaalleblaaQP
/- QuatSmalls: the walk. -/
namespace Go.Proofs.Ytmjncjaalleblaa.PQ
open Go.RowKit Go.Proofs.YtmjncjaalleblaaW.PrintWords Go.Proofs.YtmjncjaalleblaaW.PrintLast Go.Proofs.YtmjncjaalleblaaW.PrintMore
set_option linter.unusedVariables false
set_option linter.unusedSimpArgs false
abbrev Lm (x : Int) : Prop := -268435456 ≤ x ∧ x ≤ 268435456
theorem cell3 {v : Nat → Int} {k : Nat} (h : k < 3) : (#[.int .i64 (v 0), .int .i64 (v 1), .int .i64 (v 2)] : Array Value)[k]? = some (.int .i64 (v k)) := by
  obtain rfl | rfl | rfl : k = 0 ∨ k = 1 ∨ k = 2 := by omega
  all_goals rfl
set_option maxRecDepth 100000 in
set_option maxHeartbeats 8000000 in
theorem smalls_walk (v : Nat → Int) (b : Int) (w : World) :
    Calls Try.prog 8 #[.agg #[.int .i64 (v 0), .int .i64 (v 1), .int .i64 (v 2)], .int .i64 b] w fun e w' => e = .returned (.bool true) ∧ Below w.heap.size w w' := by
  obtain ⟨a0, a1, a2, a3, F0, hS0, hz0, _⟩ := small_any v 0
  obtain ⟨u0, u1, u2, u3, F, hS, _, hb⟩ := small_any v b
  have HS0 := Lib.hid hS0
  have HS := Lib.hid hS
  have HL := Lib.hid hb
  have HZ : Hid (rightN (at4 0 (v 0) (v 1) (v 2)) 4 = true → a0 = 16777216 ∧ a1 = 0 ∧ a2 = 0 ∧ a3 = 0 ∧ F0 = false) := Lib.hid (fun h => by
    obtain ⟨_, i0, i1, i2⟩ := right_in h
    exact hz0 rfl i0 i1 i2)
  have HR := Lib.hid (refRight_calls 0 (v 0) (v 1) (v 2))
  have HN := Lib.hid (norm_to u0 u1 u2 u3)
  clear hS0 hS hz0 hb
  generalize rightN (at4 0 (v 0) (v 1) (v 2)) 4 = r at *
  generalize normO (at4 u0 u1 u2 u3) = no at *
  generalize normV (at4 u0 u1 u2 u3) = n at *
  go_enter Try.func8, Try.ntmps8
  go_wp2_with fail
  refine (shown_calls _).mono ?_
  rintro e w1 ⟨rfl, hb⟩
  have M : Hid (Scene w [(26, #[.int .i64 (v 0), .int .i64 (v 1), .int .i64 (v 2)])] w1) := Lib.hid (((Scene.none w).push (by simp) _ _).below hb)
  clear hb
  have ca := M.out.r0.cell
  go_wp2_with fail
  refine (HS0.out _).mono ?_
  rintro e w2 ⟨rfl, hb⟩
  have M2 := Lib.hid (M.out.below hb)
  clear hb M ca
  have ca := M2.out.r0.cell
  have la := M2.out.r0.lt
  have q := eq24 a0 a1 a2 a3 16777216 0 0 0
  generalize hq : ((a0 == 16777216) && ((a1 == 0) && ((a2 == 0) && ((a3 == 0) && true)))) = eqb at *
  have N0 : Hid (Scene w [(26, #[.int .i64 (v 0), .int .i64 (v 1), .int .i64 (v 2)])] (w2.alloc (.cells (q4 a0 a1 a2 a3) 24))) := Lib.hid (M2.out.alloc _)
  cases r
  · clear hq
    cases eqb
    · go_wp2_with fail
      refine (HR.out _).mono ?_
      rintro e x1 ⟨rfl, hb⟩
      have N1 := Lib.hid (N0.out.below hb)
      clear hb ca la
      have ca := N1.out.r0.cell
      have la := N1.out.r0.lt
      cases F0
      · go_wp2_with fail
        go_loopw [8] (fun s wr => ∃ k : Nat, k ≤ 3 ∧ s = .int .i64 k ∧ Hid (∀ j, j < k → Lm (v j) ∧ Lm b) ∧ Hid (Scene w [(26, #[.int .i64 (v 0), .int .i64 (v 1), .int .i64 (v 2)])] wr)) (fun s _ => 3 - (intOf s).toNat)
        case atStart => exact ⟨0, by omega, rfl, Lib.hid (fun j hj => by omega), N1⟩
        case round =>
          clear ca la
          obtain ⟨k, hk, rfl, S, M⟩ := hrel
          have ca := M.out.r0.cell
          have la := M.out.r0.lt
          by_cases hk3 : k = 3
          · subst hk3
            have hF := HL.out (S.out 0 (by omega)).1 (S.out 1 (by omega)).1 (S.out 2 (by omega)).1 (S.out 0 (by omega)).2
            obtain ⟨rfl, hn0, hn1⟩ := hF
            have d0 : decide (n ≥ 16776960) = true := decide_eq_true hn0
            have d1 : decide (n ≤ 16777472) = true := decide_eq_true hn1
            clear hn0 hn1
            go_wp2_with fail
            refine (HS.out _).mono ?_
            rintro e y1 ⟨rfl, hb⟩
            have P := Lib.hid ((M.out.below hb).alloc (.cells (q4 u0 u1 u2 u3) 24))
            clear hb M ca la
            go_wp2_with fail
            refine (HN.out _).mono ?_
            rintro e y2 ⟨rfl, hb⟩
            have P2 := Lib.hid (P.out.below hb)
            clear hb P
            go_wp2
            go_ret
            exact ⟨rfl, P2.out.be⟩
          · have hlt : (k : Int) < 3 := by omega
            have hk0 : (0 : Int) ≤ k := by omega
            have ck : wr.cell? ⟨w.heap.size, k, none⟩ = some (.int .i64 (v k)) := (ca k).trans (cell3 (by omega))
            have hw64 : IntKind.i64.wrap ((k : Int) + 1) = (k : Int) + 1 := by simp [IntKind.wrap, IntKind.bits, IntKind.signed]; omega
            have LK := Lib.hid hk3
            have HK := Lib.hid hk
            clear hk3 hk ca
            by_cases h1 : v k > 268435456
            · have d1 : decide (v k > 268435456) = true := decide_eq_true h1
              clear h1
              go_wp2
              go_ret
              exact ⟨rfl, M.out.be⟩
            have d1 : decide (v k > 268435456) = false := decide_eq_false h1
            by_cases h2 : v k < -268435456
            · have d2 : decide (v k < -268435456) = true := decide_eq_true h2
              clear h2 h1
              go_wp2
              go_ret
              exact ⟨rfl, M.out.be⟩
            have d2 : decide (v k < -268435456) = false := decide_eq_false h2
            by_cases h3 : b > 268435456
            · have d3 : decide (b > 268435456) = true := decide_eq_true h3
              clear h2 h1 h3
              go_wp2
              go_ret
              exact ⟨rfl, M.out.be⟩
            have d3 : decide (b > 268435456) = false := decide_eq_false h3
            by_cases h4 : b < -268435456
            · have d4 : decide (b < -268435456) = true := decide_eq_true h4
              clear h2 h1 h3 h4
              go_wp2
              go_ret
              exact ⟨rfl, M.out.be⟩
            have d4 : decide (b < -268435456) = false := decide_eq_false h4
            have G := Lib.hid (show Lm (v k) ∧ Lm b by omega)
            clear h1 h2 h3 h4
            go_wp2
            go_roundw
            case rel => exact ⟨k + 1, by have := LK.out; have := HK.out; omega, by go_num, Lib.hid (fun j hj => by
              rcases Nat.lt_or_ge j k with h | h
              · exact S.out j h
              · obtain rfl : j = k := by omega
                exact G.out), M⟩
            case measure =>
              have := LK.out
              have := HK.out
              simp [intOf]
              omega
      · go_wp2_with fail
        refine (HR.out _).mono ?_
        rintro e x2 ⟨rfl, hb⟩
        have N2 := Lib.hid (N1.out.below hb)
        clear hb ca la
        have ca := N2.out.r0.cell
        have la := N2.out.r0.lt
        go_wp2_with fail
        go_loopw [8] (fun s wr => ∃ k : Nat, k ≤ 3 ∧ s = .int .i64 k ∧ Hid (∀ j, j < k → Lm (v j) ∧ Lm b) ∧ Hid (Scene w [(26, #[.int .i64 (v 0), .int .i64 (v 1), .int .i64 (v 2)])] wr)) (fun s _ => 3 - (intOf s).toNat)
        case atStart => exact ⟨0, by omega, rfl, Lib.hid (fun j hj => by omega), N2⟩
        case round =>
          clear ca la
          obtain ⟨k, hk, rfl, S, M⟩ := hrel
          have ca := M.out.r0.cell
          have la := M.out.r0.lt
          by_cases hk3 : k = 3
          · subst hk3
            have hF := HL.out (S.out 0 (by omega)).1 (S.out 1 (by omega)).1 (S.out 2 (by omega)).1 (S.out 0 (by omega)).2
            obtain ⟨rfl, hn0, hn1⟩ := hF
            have d0 : decide (n ≥ 16776960) = true := decide_eq_true hn0
            have d1 : decide (n ≤ 16777472) = true := decide_eq_true hn1
            clear hn0 hn1
            go_wp2_with fail
            refine (HS.out _).mono ?_
            rintro e y1 ⟨rfl, hb⟩
            have P := Lib.hid ((M.out.below hb).alloc (.cells (q4 u0 u1 u2 u3) 24))
            clear hb M ca la
            go_wp2_with fail
            refine (HN.out _).mono ?_
            rintro e y2 ⟨rfl, hb⟩
            have P2 := Lib.hid (P.out.below hb)
            clear hb P
            go_wp2
            go_ret
            exact ⟨rfl, P2.out.be⟩
          · have hlt : (k : Int) < 3 := by omega
            have hk0 : (0 : Int) ≤ k := by omega
            have ck : wr.cell? ⟨w.heap.size, k, none⟩ = some (.int .i64 (v k)) := (ca k).trans (cell3 (by omega))
            have hw64 : IntKind.i64.wrap ((k : Int) + 1) = (k : Int) + 1 := by simp [IntKind.wrap, IntKind.bits, IntKind.signed]; omega
            have LK := Lib.hid hk3
            have HK := Lib.hid hk
            clear hk3 hk ca
            by_cases h1 : v k > 268435456
            · have d1 : decide (v k > 268435456) = true := decide_eq_true h1
              clear h1
              go_wp2
              go_ret
              exact ⟨rfl, M.out.be⟩
            have d1 : decide (v k > 268435456) = false := decide_eq_false h1
            by_cases h2 : v k < -268435456
            · have d2 : decide (v k < -268435456) = true := decide_eq_true h2
              clear h2 h1
              go_wp2
              go_ret
              exact ⟨rfl, M.out.be⟩
            have d2 : decide (v k < -268435456) = false := decide_eq_false h2
            by_cases h3 : b > 268435456
            · have d3 : decide (b > 268435456) = true := decide_eq_true h3
              clear h2 h1 h3
              go_wp2
              go_ret
              exact ⟨rfl, M.out.be⟩
            have d3 : decide (b > 268435456) = false := decide_eq_false h3
            by_cases h4 : b < -268435456
            · have d4 : decide (b < -268435456) = true := decide_eq_true h4
              clear h2 h1 h3 h4
              go_wp2
              go_ret
              exact ⟨rfl, M.out.be⟩
            have d4 : decide (b < -268435456) = false := decide_eq_false h4
            have G := Lib.hid (show Lm (v k) ∧ Lm b by omega)
            clear h1 h2 h3 h4
            go_wp2
            go_roundw
            case rel => exact ⟨k + 1, by have := LK.out; have := HK.out; omega, by go_num, Lib.hid (fun j hj => by
              rcases Nat.lt_or_ge j k with h | h
              · exact S.out j h
              · obtain rfl : j = k := by omega
                exact G.out), M⟩
            case measure =>
              have := LK.out
              have := HK.out
              simp [intOf]
              omega
    · cases F0
      · go_wp2_with fail
        go_loopw [8] (fun s wr => ∃ k : Nat, k ≤ 3 ∧ s = .int .i64 k ∧ Hid (∀ j, j < k → Lm (v j) ∧ Lm b) ∧ Hid (Scene w [(26, #[.int .i64 (v 0), .int .i64 (v 1), .int .i64 (v 2)])] wr)) (fun s _ => 3 - (intOf s).toNat)
        case atStart => exact ⟨0, by omega, rfl, Lib.hid (fun j hj => by omega), N0⟩
        case round =>
          clear ca la
          obtain ⟨k, hk, rfl, S, M⟩ := hrel
          have ca := M.out.r0.cell
          have la := M.out.r0.lt
          by_cases hk3 : k = 3
          · subst hk3
            have hF := HL.out (S.out 0 (by omega)).1 (S.out 1 (by omega)).1 (S.out 2 (by omega)).1 (S.out 0 (by omega)).2
            obtain ⟨rfl, hn0, hn1⟩ := hF
            have d0 : decide (n ≥ 16776960) = true := decide_eq_true hn0
            have d1 : decide (n ≤ 16777472) = true := decide_eq_true hn1
            clear hn0 hn1
            go_wp2_with fail
            refine (HS.out _).mono ?_
            rintro e y1 ⟨rfl, hb⟩
            have P := Lib.hid ((M.out.below hb).alloc (.cells (q4 u0 u1 u2 u3) 24))
            clear hb M ca la
            go_wp2_with fail
            refine (HN.out _).mono ?_
            rintro e y2 ⟨rfl, hb⟩
            have P2 := Lib.hid (P.out.below hb)
            clear hb P
            go_wp2
            go_ret
            exact ⟨rfl, P2.out.be⟩
          · have hlt : (k : Int) < 3 := by omega
            have hk0 : (0 : Int) ≤ k := by omega
            have ck : wr.cell? ⟨w.heap.size, k, none⟩ = some (.int .i64 (v k)) := (ca k).trans (cell3 (by omega))
            have hw64 : IntKind.i64.wrap ((k : Int) + 1) = (k : Int) + 1 := by simp [IntKind.wrap, IntKind.bits, IntKind.signed]; omega
            have LK := Lib.hid hk3
            have HK := Lib.hid hk
            clear hk3 hk ca
            by_cases h1 : v k > 268435456
            · have d1 : decide (v k > 268435456) = true := decide_eq_true h1
              clear h1
              go_wp2
              go_ret
              exact ⟨rfl, M.out.be⟩
            have d1 : decide (v k > 268435456) = false := decide_eq_false h1
            by_cases h2 : v k < -268435456
            · have d2 : decide (v k < -268435456) = true := decide_eq_true h2
              clear h2 h1
              go_wp2
              go_ret
              exact ⟨rfl, M.out.be⟩
            have d2 : decide (v k < -268435456) = false := decide_eq_false h2
            by_cases h3 : b > 268435456
            · have d3 : decide (b > 268435456) = true := decide_eq_true h3
              clear h2 h1 h3
              go_wp2
              go_ret
              exact ⟨rfl, M.out.be⟩
            have d3 : decide (b > 268435456) = false := decide_eq_false h3
            by_cases h4 : b < -268435456
            · have d4 : decide (b < -268435456) = true := decide_eq_true h4
              clear h2 h1 h3 h4
              go_wp2
              go_ret
              exact ⟨rfl, M.out.be⟩
            have d4 : decide (b < -268435456) = false := decide_eq_false h4
            have G := Lib.hid (show Lm (v k) ∧ Lm b by omega)
            clear h1 h2 h3 h4
            go_wp2
            go_roundw
            case rel => exact ⟨k + 1, by have := LK.out; have := HK.out; omega, by go_num, Lib.hid (fun j hj => by
              rcases Nat.lt_or_ge j k with h | h
              · exact S.out j h
              · obtain rfl : j = k := by omega
                exact G.out), M⟩
            case measure =>
              have := LK.out
              have := HK.out
              simp [intOf]
              omega
      · go_wp2_with fail
        refine (HR.out _).mono ?_
        rintro e x1 ⟨rfl, hb⟩
        have N1 := Lib.hid (N0.out.below hb)
        clear hb ca la
        have ca := N1.out.r0.cell
        have la := N1.out.r0.lt
        go_wp2_with fail
        go_loopw [8] (fun s wr => ∃ k : Nat, k ≤ 3 ∧ s = .int .i64 k ∧ Hid (∀ j, j < k → Lm (v j) ∧ Lm b) ∧ Hid (Scene w [(26, #[.int .i64 (v 0), .int .i64 (v 1), .int .i64 (v 2)])] wr)) (fun s _ => 3 - (intOf s).toNat)
        case atStart => exact ⟨0, by omega, rfl, Lib.hid (fun j hj => by omega), N1⟩
        case round =>
          clear ca la
          obtain ⟨k, hk, rfl, S, M⟩ := hrel
          have ca := M.out.r0.cell
          have la := M.out.r0.lt
          by_cases hk3 : k = 3
          · subst hk3
            have hF := HL.out (S.out 0 (by omega)).1 (S.out 1 (by omega)).1 (S.out 2 (by omega)).1 (S.out 0 (by omega)).2
            obtain ⟨rfl, hn0, hn1⟩ := hF
            have d0 : decide (n ≥ 16776960) = true := decide_eq_true hn0
            have d1 : decide (n ≤ 16777472) = true := decide_eq_true hn1
            clear hn0 hn1
            go_wp2_with fail
            refine (HS.out _).mono ?_
            rintro e y1 ⟨rfl, hb⟩
            have P := Lib.hid ((M.out.below hb).alloc (.cells (q4 u0 u1 u2 u3) 24))
            clear hb M ca la
            go_wp2_with fail
            refine (HN.out _).mono ?_
            rintro e y2 ⟨rfl, hb⟩
            have P2 := Lib.hid (P.out.below hb)
            clear hb P
            go_wp2
            go_ret
            exact ⟨rfl, P2.out.be⟩
          · have hlt : (k : Int) < 3 := by omega
            have hk0 : (0 : Int) ≤ k := by omega
            have ck : wr.cell? ⟨w.heap.size, k, none⟩ = some (.int .i64 (v k)) := (ca k).trans (cell3 (by omega))
            have hw64 : IntKind.i64.wrap ((k : Int) + 1) = (k : Int) + 1 := by simp [IntKind.wrap, IntKind.bits, IntKind.signed]; omega
            have LK := Lib.hid hk3
            have HK := Lib.hid hk
            clear hk3 hk ca
            by_cases h1 : v k > 268435456
            · have d1 : decide (v k > 268435456) = true := decide_eq_true h1
              clear h1
              go_wp2
              go_ret
              exact ⟨rfl, M.out.be⟩
            have d1 : decide (v k > 268435456) = false := decide_eq_false h1
            by_cases h2 : v k < -268435456
            · have d2 : decide (v k < -268435456) = true := decide_eq_true h2
              clear h2 h1
              go_wp2
              go_ret
              exact ⟨rfl, M.out.be⟩
            have d2 : decide (v k < -268435456) = false := decide_eq_false h2
            by_cases h3 : b > 268435456
            · have d3 : decide (b > 268435456) = true := decide_eq_true h3
              clear h2 h1 h3
              go_wp2
              go_ret
              exact ⟨rfl, M.out.be⟩
            have d3 : decide (b > 268435456) = false := decide_eq_false h3
            by_cases h4 : b < -268435456
            · have d4 : decide (b < -268435456) = true := decide_eq_true h4
              clear h2 h1 h3 h4
              go_wp2
              go_ret
              exact ⟨rfl, M.out.be⟩
            have d4 : decide (b < -268435456) = false := decide_eq_false h4
            have G := Lib.hid (show Lm (v k) ∧ Lm b by omega)
            clear h1 h2 h3 h4
            go_wp2
            go_roundw
            case rel => exact ⟨k + 1, by have := LK.out; have := HK.out; omega, by go_num, Lib.hid (fun j hj => by
              rcases Nat.lt_or_ge j k with h | h
              · exact S.out j h
              · obtain rfl : j = k := by omega
                exact G.out), M⟩
            case measure =>
              have := LK.out
              have := HK.out
              simp [intOf]
              omega
  · obtain ⟨rfl, rfl, rfl, rfl, rfl⟩ := HZ.out rfl
    obtain rfl : eqb = true := hq.symm
    clear hq
    go_wp2_with fail
    go_loopw [8] (fun s wr => ∃ k : Nat, k ≤ 3 ∧ s = .int .i64 k ∧ Hid (∀ j, j < k → Lm (v j) ∧ Lm b) ∧ Hid (Scene w [(26, #[.int .i64 (v 0), .int .i64 (v 1), .int .i64 (v 2)])] wr)) (fun s _ => 3 - (intOf s).toNat)
    case atStart => exact ⟨0, by omega, rfl, Lib.hid (fun j hj => by omega), N0⟩
    case round =>
      clear ca la
      obtain ⟨k, hk, rfl, S, M⟩ := hrel
      have ca := M.out.r0.cell
      have la := M.out.r0.lt
      by_cases hk3 : k = 3
      · subst hk3
        have hF := HL.out (S.out 0 (by omega)).1 (S.out 1 (by omega)).1 (S.out 2 (by omega)).1 (S.out 0 (by omega)).2
        obtain ⟨rfl, hn0, hn1⟩ := hF
        have d0 : decide (n ≥ 16776960) = true := decide_eq_true hn0
        have d1 : decide (n ≤ 16777472) = true := decide_eq_true hn1
        clear hn0 hn1
        go_wp2_with fail
        refine (HS.out _).mono ?_
        rintro e y1 ⟨rfl, hb⟩
        have P := Lib.hid ((M.out.below hb).alloc (.cells (q4 u0 u1 u2 u3) 24))
        clear hb M ca la
        go_wp2_with fail
        refine (HN.out _).mono ?_
        rintro e y2 ⟨rfl, hb⟩
        have P2 := Lib.hid (P.out.below hb)
        clear hb P
        go_wp2
        go_ret
        exact ⟨rfl, P2.out.be⟩
      · have hlt : (k : Int) < 3 := by omega
        have hk0 : (0 : Int) ≤ k := by omega
        have ck : wr.cell? ⟨w.heap.size, k, none⟩ = some (.int .i64 (v k)) := (ca k).trans (cell3 (by omega))
        have hw64 : IntKind.i64.wrap ((k : Int) + 1) = (k : Int) + 1 := by simp [IntKind.wrap, IntKind.bits, IntKind.signed]; omega
        have LK := Lib.hid hk3
        have HK := Lib.hid hk
        clear hk3 hk ca
        by_cases h1 : v k > 268435456
        · have d1 : decide (v k > 268435456) = true := decide_eq_true h1
          clear h1
          go_wp2
          go_ret
          exact ⟨rfl, M.out.be⟩
        have d1 : decide (v k > 268435456) = false := decide_eq_false h1
        by_cases h2 : v k < -268435456
        · have d2 : decide (v k < -268435456) = true := decide_eq_true h2
          clear h2 h1
          go_wp2
          go_ret
          exact ⟨rfl, M.out.be⟩
        have d2 : decide (v k < -268435456) = false := decide_eq_false h2
        by_cases h3 : b > 268435456
        · have d3 : decide (b > 268435456) = true := decide_eq_true h3
          clear h2 h1 h3
          go_wp2
          go_ret
          exact ⟨rfl, M.out.be⟩
        have d3 : decide (b > 268435456) = false := decide_eq_false h3
        by_cases h4 : b < -268435456
        · have d4 : decide (b < -268435456) = true := decide_eq_true h4
          clear h2 h1 h3 h4
          go_wp2
          go_ret
          exact ⟨rfl, M.out.be⟩
        have d4 : decide (b < -268435456) = false := decide_eq_false h4
        have G := Lib.hid (show Lm (v k) ∧ Lm b by omega)
        clear h1 h2 h3 h4
        go_wp2
        go_roundw
        case rel => exact ⟨k + 1, by have := LK.out; have := HK.out; omega, by go_num, Lib.hid (fun j hj => by
          rcases Nat.lt_or_ge j k with h | h
          · exact S.out j h
          · obtain rfl : j = k := by omega
            exact G.out), M⟩
        case measure =>
          have := LK.out
          have := HK.out
          simp [intOf]
          omega
end Go.Proofs.Ytmjncjaalleblaa.PQ
