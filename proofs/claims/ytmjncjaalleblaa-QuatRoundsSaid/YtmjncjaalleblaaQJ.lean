import Derived.Test.YtmjncjaalleblaaQI
/- QuatRounds: the walk. -/
namespace Go.Proofs.Ytmjncjaalleblaa.PQ
open Go.RowKit Go.Proofs.YtmjncjaalleblaaW.PrintWords Go.Proofs.YtmjncjaalleblaaW.PrintLast Go.Proofs.YtmjncjaalleblaaW.PrintMore
set_option linter.unusedVariables false
set_option linter.unusedSimpArgs false
abbrev v3 (x y z : Int) : Array Value := #[.int .i64 x, .int .i64 y, .int .i64 z]
theorem mul_one_calls {a b c d : Int} (h : rightN (at4 a b c d) 4 = true) (w : World) :
    Calls Try.prog 11 #[.agg #[.int .i64 a, .int .i64 b, .int .i64 c, .int .i64 d], .agg #[.int .i64 16777216, .int .i64 0, .int .i64 0, .int .i64 0]] w fun e w' =>
      e = .returned (.tuple #[.agg #[.int .i64 a, .int .i64 b, .int .i64 c, .int .i64 d], .bool false]) ∧ Below w.heap.size w w' := by
  obtain ⟨ha, hb, hc, hd⟩ := right_in h
  obtain ⟨e0, e1, e2, e3, e4⟩ := comp_one ha hb hc hd
  exact mul_var a b c d 16777216 0 0 0 a b c d false _ _ rfl rfl e0.symm e1.symm e2.symm e3.symm e4.symm w
theorem one_mul_calls {a b c d : Int} (h : rightN (at4 a b c d) 4 = true) (w : World) :
    Calls Try.prog 11 #[.agg #[.int .i64 16777216, .int .i64 0, .int .i64 0, .int .i64 0], .agg #[.int .i64 a, .int .i64 b, .int .i64 c, .int .i64 d]] w fun e w' =>
      e = .returned (.tuple #[.agg #[.int .i64 a, .int .i64 b, .int .i64 c, .int .i64 d], .bool false]) ∧ Below w.heap.size w w' := by
  obtain ⟨ha, hb, hc, hd⟩ := right_in h
  obtain ⟨e0, e1, e2, e3, e4⟩ := one_comp ha hb hc hd
  exact mul_var 16777216 0 0 0 a b c d a b c d false _ _ rfl rfl e0.symm e1.symm e2.symm e3.symm e4.symm w
theorem turn_one_calls {x y z : Int} (h : rightN (at4 0 x y z) 4 = true) (w : World) :
    Calls Try.prog 12 #[.agg #[.int .i64 16777216, .int .i64 0, .int .i64 0, .int .i64 0], .agg #[.int .i64 x, .int .i64 y, .int .i64 z]] w fun e w' =>
      e = .returned (.tuple #[.agg #[.int .i64 x, .int .i64 y, .int .i64 z], .bool false]) ∧ Below w.heap.size w w' := by
  obtain ⟨_, hx, hy, hz⟩ := right_in h
  obtain ⟨e1, e2, e3, e4⟩ := turn_one hx hy hz
  have h := qturn_calls 16777216 0 0 0 x y z w
  rwa [e1, e2, e3, e4] at h
theorem eq24_same (a b c d : Int) (w : World) : (Op.equalIn 10000 24 (.agg #[.int .i64 a, .int .i64 b, .int .i64 c, .int .i64 d]) (.agg #[.int .i64 a, .int .i64 b, .int .i64 c, .int .i64 d])).run Try.prog w = .ok true w := by
  rw [eq24]; simp
theorem eq26_same (a b c : Int) (w : World) : (Op.equalIn 10000 26 (.agg #[.int .i64 a, .int .i64 b, .int .i64 c]) (.agg #[.int .i64 a, .int .i64 b, .int .i64 c])).run Try.prog w = .ok true w := by
  rw [eq26]; simp
theorem conj_two (a b c d : Int) (h : rightN (at4 a b c d) 4 = true) (hb : b ≠ -70368744177664) (hc : c ≠ -70368744177664) (hd : d ≠ -70368744177664) :
    ∃ nb nc nd, (∀ w, Calls Try.prog 13 #[.agg #[.int .i64 a, .int .i64 b, .int .i64 c, .int .i64 d]] w fun e w' => e = .returned (.agg #[.int .i64 a, .int .i64 nb, .int .i64 nc, .int .i64 nd]) ∧ Below w.heap.size w w') ∧
      (∀ w, Calls Try.prog 13 #[.agg #[.int .i64 a, .int .i64 nb, .int .i64 nc, .int .i64 nd]] w fun e w' => e = .returned (.agg #[.int .i64 a, .int .i64 b, .int .i64 c, .int .i64 d]) ∧ Below w.heap.size w w') := by
  obtain ⟨_, h1, h2, h3⟩ := right_in h
  exact ⟨_, _, _, fun w => conj_calls a b c d w, fun w => conj_var _ _ _ _ _ _ _ (conj_conj h1 hb).symm (conj_conj h2 hc).symm (conj_conj h3 hd).symm w⟩
set_option maxRecDepth 100000 in
set_option maxHeartbeats 8000000 in
theorem rounds_walk (a b c d x y z : Int) (w : World) :
    Calls Try.prog 3 #[.agg #[.int .i64 a, .int .i64 b, .int .i64 c, .int .i64 d], .agg #[.int .i64 x, .int .i64 y, .int .i64 z]] w fun e w' =>
      e = .returned (.bool true) ∧ Below w.heap.size w w' := by
  go_enter Try.func3, Try.ntmps3
  go_wp2_with fail
  refine (shown_calls _).mono ?_
  rintro e w1 ⟨rfl, hb⟩
  have M : Hid (Scene w [(24, q4 a b c d), (26, v3 x y z)] w1) := Lib.hid ((((Scene.none w).push (by simp) _ _).push (by simp) _ _).below hb)
  clear hb
  have cq := M.out.r0.cell
  have cv := M.out.r1.cell
  go_wp2_with fail
  refine (refRight_calls a b c d _).mono ?_
  rintro e w2 ⟨rfl, hb⟩
  have M2 := Lib.hid (M.out.below hb)
  clear hb cq cv M
  cases hr1 : rightN (at4 a b c d) 4
  · go_wp2
    go_ret
    exact ⟨rfl, M2.out.be⟩
  have R1 := Lib.hid hr1
  clear hr1
  have cv := M2.out.r1.cell
  go_wp2_with fail
  refine (refRight_calls 0 x y z _).mono ?_
  rintro e w3 ⟨rfl, hb⟩
  have M3 := Lib.hid (M2.out.below hb)
  clear hb cv M2
  cases hr2 : rightN (at4 0 x y z) 4
  · go_wp2
    go_ret
    exact ⟨rfl, M3.out.be⟩
  have R2 := Lib.hid hr2
  clear hr2
  go_wp2
  go_loopw [6] (fun i wr => ∃ k : Nat, 1 ≤ k ∧ k ≤ 4 ∧ i = .int .i64 k ∧ Hid ((1 < k → b ≠ -70368744177664) ∧ (2 < k → c ≠ -70368744177664) ∧ (3 < k → d ≠ -70368744177664)) ∧ Hid (Scene w [(24, q4 a b c d), (26, v3 x y z)] wr)) (fun i _ => 4 - (intOf i).toNat)
  case atStart => exact ⟨1, by omega, by omega, rfl, Lib.hid ⟨by omega, by omega, by omega⟩, M3⟩
  case round =>
    clear M3
    obtain ⟨k, h1k, hk, rfl, D, M⟩ := hrel
    have cq := M.out.r0.cell
    have cv := M.out.r1.cell
    obtain rfl | rfl | rfl | rfl : k = 1 ∨ k = 2 ∨ k = 3 ∨ k = 4 := by omega
    · by_cases e1 : b = -70368744177664
      · have d1 : (b == -70368744177664) = true := by simp [e1]
        have d2 : decide (b = -70368744177664) = true := by simp [e1]
        clear e1
        go_wp2
        go_ret
        exact ⟨rfl, M.out.be⟩
      · have d1 : (b == -70368744177664) = false := by simp [e1]
        have E1 := Lib.hid e1
        clear e1
        by_cases e2 : x = -70368744177664
        · have d2 : (x == -70368744177664) = true := by simp [e2]
          clear e2
          go_wp2
          go_ret
          exact ⟨rfl, M.out.be⟩
        · have d2 : (x == -70368744177664) = false := by simp [e2]
          clear e2
          go_wp2
          go_roundw
          case rel => exact ⟨1 + 1, by omega, by omega, by go_num, Lib.hid ⟨fun _ => E1.out, by omega, by omega⟩, M⟩
          case measure => simp [intOf]
    · by_cases e1 : c = -70368744177664
      · have d1 : (c == -70368744177664) = true := by simp [e1]
        have d2 : decide (c = -70368744177664) = true := by simp [e1]
        clear e1
        go_wp2
        go_ret
        exact ⟨rfl, M.out.be⟩
      · have d1 : (c == -70368744177664) = false := by simp [e1]
        have E1 := Lib.hid e1
        clear e1
        by_cases e2 : y = -70368744177664
        · have d2 : (y == -70368744177664) = true := by simp [e2]
          clear e2
          go_wp2
          go_ret
          exact ⟨rfl, M.out.be⟩
        · have d2 : (y == -70368744177664) = false := by simp [e2]
          clear e2
          go_wp2
          go_roundw
          case rel => exact ⟨2 + 1, by omega, by omega, by go_num, Lib.hid ⟨fun _ => D.out.1 (by omega), fun _ => E1.out, by omega⟩, M⟩
          case measure => simp [intOf]
    · by_cases e1 : d = -70368744177664
      · have d1 : (d == -70368744177664) = true := by simp [e1]
        have d2 : decide (d = -70368744177664) = true := by simp [e1]
        clear e1
        go_wp2
        go_ret
        exact ⟨rfl, M.out.be⟩
      · have d1 : (d == -70368744177664) = false := by simp [e1]
        have E1 := Lib.hid e1
        clear e1
        by_cases e2 : z = -70368744177664
        · have d2 : (z == -70368744177664) = true := by simp [e2]
          clear e2
          go_wp2
          go_ret
          exact ⟨rfl, M.out.be⟩
        · have d2 : (z == -70368744177664) = false := by simp [e2]
          clear e2
          go_wp2
          go_roundw
          case rel => exact ⟨3 + 1, by omega, by omega, by go_num, Lib.hid ⟨fun _ => D.out.1 (by omega), fun _ => D.out.2.1 (by omega), fun _ => E1.out⟩, M⟩
          case measure => simp [intOf]
    · have l0 := M.out.r0.lt
      have l1 := M.out.r1.lt
      go_wp2_with fail
      refine (mul_one_calls R1.out _).mono ?_
      rintro e w4 ⟨rfl, hb⟩
      have M4 := Lib.hid ((M.out.alloc (.cells (q4 16777216 0 0 0) 24)).below hb)
      have O4 := Lib.hid ((Row.new wr 24 (q4 16777216 0 0 0)).below hb (Row.new wr 24 (q4 16777216 0 0 0)).lt)
      clear hb M cq cv l0 l1
      have cq := M4.out.r0.cell
      have co := O4.out.cell
      have l0 := M4.out.r0.lt
      have l2 := O4.out.lt
      go_wp2_with fail
      refine (one_mul_calls R1.out _).mono ?_
      rintro e w5 ⟨rfl, hb⟩
      have M5 := Lib.hid ((M4.out.alloc (.cells (q4 a b c d) 24)).below hb)
      have O5 := Lib.hid ((O4.out.alloc (.cells (q4 a b c d) 24)).below hb (O4.out.alloc (.cells (q4 a b c d) 24)).lt)
      have A5 := Lib.hid ((Row.new w4 24 (q4 a b c d)).below hb (Row.new w4 24 (q4 a b c d)).lt)
      clear hb M4 O4 cq co l0 l2
      have cv := M5.out.r1.cell
      have co := O5.out.cell
      have l0 := M5.out.r1.lt
      have l2 := O5.out.lt
      go_wp2_with fail
      refine (turn_one_calls R2.out _).mono ?_
      rintro e w6 ⟨rfl, hb⟩
      have M6 := Lib.hid ((M5.out.alloc (.cells (q4 a b c d) 24)).below hb)
      have A6 := Lib.hid ((A5.out.alloc (.cells (q4 a b c d) 24)).below hb (A5.out.alloc (.cells (q4 a b c d) 24)).lt)
      have B6 := Lib.hid ((Row.new w5 24 (q4 a b c d)).below hb (Row.new w5 24 (q4 a b c d)).lt)
      clear hb M5 A5 O5 cv co l0 l2
      go_wp2_with fail
      obtain ⟨nb, nc, nd, hC1, hC2⟩ := conj_two a b c d R1.out (D.out.1 (by omega)) (D.out.2.1 (by omega)) (D.out.2.2 (by omega))
      have C1 := Lib.hid hC1
      have C2 := Lib.hid hC2
      clear hC1 hC2
      have E1 := eq24_same a b c d
      have E2 := eq26_same x y z
      have M7 := Lib.hid (M6.out.alloc (.cells (v3 x y z) 26)).drew
      have A7 := Lib.hid (A6.out.alloc (.cells (v3 x y z) 26)).drew
      have B7 := Lib.hid (B6.out.alloc (.cells (v3 x y z) 26)).drew
      have V7 := Lib.hid (Row.new w6 26 (v3 x y z)).drew
      clear M6 A6 B6
      have K : Hid (Scene w [(24, q4 a b c d), (26, v3 x y z)] (w6.alloc (.cells (v3 x y z) 26)).drew ∧ Row (w6.alloc (.cells (v3 x y z) 26)).drew w4.heap.size 24 (q4 a b c d) ∧ Row (w6.alloc (.cells (v3 x y z) 26)).drew w5.heap.size 24 (q4 a b c d) ∧ Row (w6.alloc (.cells (v3 x y z) 26)).drew w6.heap.size 26 (v3 x y z)) := Lib.hid ⟨M7.out, A7.out, B7.out, V7.out⟩
      clear M7 A7 B7 V7
      go_region_held3 (fun w' => (∀ o, w'.cell? ⟨w.heap.size, o, none⟩ = (q4 a b c d)[o]?) ∧ (∀ o, w'.cell? ⟨w.heap.size + 1, o, none⟩ = (v3 x y z)[o]?) ∧ (∀ o, w'.cell? ⟨w4.heap.size, o, none⟩ = (q4 a b c d)[o]?) ∧ (∀ o, w'.cell? ⟨w5.heap.size, o, none⟩ = (q4 a b c d)[o]?) ∧ (∀ o, w'.cell? ⟨w6.heap.size, o, none⟩ = (v3 x y z)[o]?))
        (first | with_reducible exact ⟨K.out.1.r0.cell, K.out.1.r1.cell, K.out.2.1.cell, K.out.2.2.1.cell, K.out.2.2.2.cell⟩ | go_keep)
        (first
        | (go_at_call 13
           first
           | (with_reducible refine (C1.out _).mono ?_
              rintro e w7 ⟨rfl, hb⟩
              have K' := Lib.hid (And.intro (K.out.1.below hb) (And.intro (K.out.2.1.below hb K.out.2.1.lt) (And.intro (K.out.2.2.1.below hb K.out.2.2.1.lt) (K.out.2.2.2.below hb K.out.2.2.2.lt))))
              clear hb K
              have K := K'
              clear K')
           | (with_reducible refine (C2.out _).mono ?_
              rintro e w8 ⟨rfl, hb⟩
              have K' := Lib.hid (And.intro (K.out.1.below hb) (And.intro (K.out.2.1.below hb K.out.2.1.lt) (And.intro (K.out.2.2.1.below hb K.out.2.2.1.lt) (K.out.2.2.2.below hb K.out.2.2.2.lt))))
              clear hb K
              have K := K'
              clear K')))
      all_goals go_wp2
      all_goals go_ret
      exact ⟨rfl, K.out.1.be⟩
end Go.Proofs.Ytmjncjaalleblaa.PQ
