import Derived.Test.YtmjncjaalleblaaQX
/- QuatConjs: the walk. -/
namespace Go.Proofs.Ytmjncjaalleblaa.PQ
open Go.RowKit Go.Proofs.YtmjncjaalleblaaW.PrintWords Go.Proofs.YtmjncjaalleblaaW.PrintLast Go.Proofs.YtmjncjaalleblaaW.PrintMore
set_option linter.unusedVariables false
set_option linter.unusedSimpArgs false
abbrev ConjTo (a b c d r0 r1 r2 r3 : Int) : Prop := ∀ w, Calls Try.prog 13 #[.agg #[.int .i64 a, .int .i64 b, .int .i64 c, .int .i64 d]] w fun x w' =>
      x = .returned (.agg #[.int .i64 r0, .int .i64 r1, .int .i64 r2, .int .i64 r3]) ∧ Below w.heap.size w w'
theorem whole_conj {a b c d : Int} {A : Nat} (h : Le4 A a b c d) (hA : A ≤ 4194303) : ConjTo (a * 16777216) (b * 16777216) (c * 16777216) (d * 16777216) (a * 16777216) (-b * 16777216) (-c * 16777216) (-d * 16777216) :=
  fun w => conj_var _ _ _ _ _ _ _ (whole_neg (Nat.le_trans h.b hA)).symm (whole_neg (Nat.le_trans h.c hA)).symm (whole_neg (Nat.le_trans h.d hA)).symm w
theorem Le4.conj {a b c d : Int} {A : Nat} (h : Le4 A a b c d) : Le4 A a (-b) (-c) (-d) := ⟨h.a, neg_le h.b, neg_le h.c, neg_le h.d⟩
theorem hm_self (a b c d : Int) : hm0 a b c d a (-b) (-c) (-d) = a * a + b * b + c * c + d * d ∧ hm1 a b c d a (-b) (-c) (-d) = 0 ∧ hm2 a b c d a (-b) (-c) (-d) = 0 ∧ hm3 a b c d a (-b) (-c) (-d) = 0 := by
  simp only [hm0, hm1, hm2, hm3]
  exact ⟨by grind, by grind, by grind, by grind⟩
theorem hm_conj (a b c d e f g h : Int) : hm0 e (-f) (-g) (-h) a (-b) (-c) (-d) = hm0 a b c d e f g h ∧ hm1 e (-f) (-g) (-h) a (-b) (-c) (-d) = -hm1 a b c d e f g h ∧ hm2 e (-f) (-g) (-h) a (-b) (-c) (-d) = -hm2 a b c d e f g h ∧ hm3 e (-f) (-g) (-h) a (-b) (-c) (-d) = -hm3 a b c d e f g h := by
  simp only [hm0, hm1, hm2, hm3]
  exact ⟨by grind, by grind, by grind, by grind⟩
theorem conjs_pure (a b c d e f g h : Int) (hp : Le4 50 a b c d) (hq : Le4 50 e f g h) :
    ∃ p0 p1 p2 p3 q0 q1 q2 q3 n y0 y1 y2 y3 z0 z1 z2 z3 o,
      ConjTo (a * 16777216) (b * 16777216) (c * 16777216) (d * 16777216) p0 p1 p2 p3 ∧
      MulTo (a * 16777216) (b * 16777216) (c * 16777216) (d * 16777216) p0 p1 p2 p3 n 0 0 0 false ∧
      NormTo (a * 16777216) (b * 16777216) (c * 16777216) (d * 16777216) n o ∧
      MulTo (a * 16777216) (b * 16777216) (c * 16777216) (d * 16777216) (e * 16777216) (f * 16777216) (g * 16777216) (h * 16777216) y0 y1 y2 y3 false ∧
      ConjTo (e * 16777216) (f * 16777216) (g * 16777216) (h * 16777216) q0 q1 q2 q3 ∧
      MulTo q0 q1 q2 q3 p0 p1 p2 p3 z0 z1 z2 z3 false ∧ ConjTo y0 y1 y2 y3 z0 z1 z2 z3 := by
  obtain ⟨o, hn⟩ := whole_normTo hp (by decide) (by decide)
  have m1 := whole_mul hp hp.conj (by decide) (by decide) (by decide)
  have s := hm_self a b c d
  rw [s.1, s.2.1, s.2.2.1, s.2.2.2, Int.zero_mul] at m1
  have m2 := whole_mul hq.conj hp.conj (by decide) (by decide) (by decide)
  have t := hm_conj a b c d e f g h
  rw [t.1, t.2.1, t.2.2.1, t.2.2.2] at m2
  exact ⟨_, _, _, _, _, _, _, _, _, _, _, _, _, _, _, _, _, o, whole_conj hp (by decide), m1, hn, whole_mul hp hq (by decide) (by decide) (by decide), whole_conj hq (by decide), m2, whole_conj (hm_le hp hq) (by decide)⟩
theorem eq24_self (a b c d : Int) (w : World) : (Op.equalIn 10000 24 (.agg #[.int .i64 a, .int .i64 b, .int .i64 c, .int .i64 d]) (.agg #[.int .i64 a, .int .i64 b, .int .i64 c, .int .i64 d])).run Try.prog w = .ok true w := by
  rw [eq24]; simp
/-- both factors, the first product, the second -/
structure CB (w1 : World) (s t c y : Array Value) (C Y : Nat) (w : World) : Prop where
  sc : Scene w1 [(24, s), (24, t)] w
  rc : Row w C 24 c
  ry : Row w Y 24 y
section
variable {w1 w w' : World} {s t c y : Array Value} {C Y : Nat}
theorem CB.below (h : CB w1 s t c y C Y w) (hb : Below w.heap.size w w') : CB w1 s t c y C Y w' := ⟨h.sc.below hb, h.rc.below hb h.rc.lt, h.ry.below hb h.ry.lt⟩
theorem CB.alloc (h : CB w1 s t c y C Y w) (o : Obj) : CB w1 s t c y C Y (w.alloc o) := ⟨h.sc.alloc o, h.rc.alloc o, h.ry.alloc o⟩
theorem CB.drew (h : CB w1 s t c y C Y w) : CB w1 s t c y C Y w.drew := ⟨h.sc.drew, h.rc.drew, h.ry.drew⟩
theorem CB.far4 {D : Nat} {a b e d : Value} (h : CB w1 s t c y C Y w) (h1 : w1.heap.size + 2 ≤ D) (h2 : C ≠ D) (h3 : Y ≠ D) :
    CB w1 s t c y C Y ((((w.setCell ⟨D, 0, none⟩ a).setCell ⟨D, 1, none⟩ b).setCell ⟨D, 2, none⟩ e).setCell ⟨D, 3, none⟩ d) := ⟨h.sc.far4 h1, h.rc.far4 h2, h.ry.far4 h3⟩
theorem CB.cells (h : CB w1 s t c y C Y w) : (∀ o, w.cell? ⟨w1.heap.size, o, none⟩ = s[o]?) ∧ (∀ o, w.cell? ⟨w1.heap.size + 1, o, none⟩ = t[o]?) := ⟨h.sc.r0.cell, h.sc.r1.cell⟩
end
set_option maxRecDepth 100000 in
set_option maxHeartbeats 400000000 in
theorem conjs_walk (p q : Nat → Int) (hp : ∀ k, k < 4 → -128 ≤ p k ∧ p k ≤ 127) (hq : ∀ k, k < 4 → -128 ≤ q k ∧ q k ≤ 127) (w : World) :
    Calls Try.prog 5 #[.agg (b4 (p 0) (p 1) (p 2) (p 3)), .agg (b4 (q 0) (q 1) (q 2) (q 3))] w fun e w' =>
      e = .returned (.bool true) ∧ Below w.heap.size w w' := by
  have HP := Lib.hid hp
  have HQ := Lib.hid hq
  clear hp hq
  go_enter Try.func5, Try.ntmps5
  go_wp2_with fail
  refine (shown_calls _).mono ?_
  rintro e w1 ⟨rfl, hb⟩
  have M : Hid (Scene w [(36, b4 (p 0) (p 1) (p 2) (p 3)), (36, b4 (q 0) (q 1) (q 2) (q 3))] w1) := Lib.hid ((((Scene.none w).push (by simp) _ _).push (by simp) _ _).below hb)
  clear hb
  go_wp2_with fail
  go_loopw [8] (fun i wr => ∃ k : Nat, k ≤ 4 ∧ i = .int .i64 k ∧ Hid (Scene w1 [(24, fillK (w8 51 p) k), (24, fillK (w8 51 q) k)] wr)) (fun i _ => 4 - (intOf i).toNat)
  case atStart => exact ⟨0, by omega, rfl, Lib.hid (((Scene.none w1).push (by simp) _ _).push (by simp) _ _)⟩
  case round =>
    obtain ⟨k, hk, rfl, N⟩ := hrel
    have lw := M.out.r1.lt
    obtain rfl | rfl | rfl | rfl | rfl : k = 0 ∨ k = 1 ∨ k = 2 ∨ k = 3 ∨ k = 4 := by omega
    · have P1 := HP.out 0 (by omega)
      have Q1 := HQ.out 0 (by omega)
      have ca := (M.out.below N.out.be).r0.cell 0
      have cb := (M.out.below N.out.be).r1.cell 0
      have oa := N.out.r0.cell 0
      have ob := N.out.r1.cell 0
      have fa := N.out.r0.free 0
      have fb := N.out.r1.free 0
      go_wp2_with fail
      have X1 := N.out.put 0 24 _ N.out.r0 0 (.int .i64 (w8 51 p 0))
      have X2 := X1.put 1 24 _ X1.r1 0 (.int .i64 (w8 51 q 0))
      refine ⟨⟨0 + 1, by omega, by go_num, Lib.hid ?_⟩, by simp [intOf]⟩
      rw [w8_wrap 51 (by decide) (by decide) p 0, w8_wrap 51 (by decide) (by decide) q 0]
      exact X2
    · have P1 := HP.out 1 (by omega)
      have Q1 := HQ.out 1 (by omega)
      have ca := (M.out.below N.out.be).r0.cell 1
      have cb := (M.out.below N.out.be).r1.cell 1
      have oa := N.out.r0.cell 1
      have ob := N.out.r1.cell 1
      have fa := N.out.r0.free 1
      have fb := N.out.r1.free 1
      go_wp2_with fail
      have X1 := N.out.put 0 24 _ N.out.r0 1 (.int .i64 (w8 51 p 1))
      have X2 := X1.put 1 24 _ X1.r1 1 (.int .i64 (w8 51 q 1))
      refine ⟨⟨1 + 1, by omega, by go_num, Lib.hid ?_⟩, by simp [intOf]⟩
      rw [w8_wrap 51 (by decide) (by decide) p 1, w8_wrap 51 (by decide) (by decide) q 1]
      exact X2
    · have P1 := HP.out 2 (by omega)
      have Q1 := HQ.out 2 (by omega)
      have ca := (M.out.below N.out.be).r0.cell 2
      have cb := (M.out.below N.out.be).r1.cell 2
      have oa := N.out.r0.cell 2
      have ob := N.out.r1.cell 2
      have fa := N.out.r0.free 2
      have fb := N.out.r1.free 2
      go_wp2_with fail
      have X1 := N.out.put 0 24 _ N.out.r0 2 (.int .i64 (w8 51 p 2))
      have X2 := X1.put 1 24 _ X1.r1 2 (.int .i64 (w8 51 q 2))
      refine ⟨⟨2 + 1, by omega, by go_num, Lib.hid ?_⟩, by simp [intOf]⟩
      rw [w8_wrap 51 (by decide) (by decide) p 2, w8_wrap 51 (by decide) (by decide) q 2]
      exact X2
    · have P1 := HP.out 3 (by omega)
      have Q1 := HQ.out 3 (by omega)
      have ca := (M.out.below N.out.be).r0.cell 3
      have cb := (M.out.below N.out.be).r1.cell 3
      have oa := N.out.r0.cell 3
      have ob := N.out.r1.cell 3
      have fa := N.out.r0.free 3
      have fb := N.out.r1.free 3
      go_wp2_with fail
      have X1 := N.out.put 0 24 _ N.out.r0 3 (.int .i64 (w8 51 p 3))
      have X2 := X1.put 1 24 _ X1.r1 3 (.int .i64 (w8 51 q 3))
      refine ⟨⟨3 + 1, by omega, by go_num, Lib.hid ?_⟩, by simp [intOf]⟩
      rw [w8_wrap 51 (by decide) (by decide) p 3, w8_wrap 51 (by decide) (by decide) q 3]
      exact X2
    · obtain ⟨p0, p1, p2, p3, q0, q1, q2, q3, n, y0, y1, y2, y3, z0, z1, z2, z3, o, C1, C2, C3, C4, C5, C6, C7⟩ := conjs_pure _ _ _ _ _ _ _ _ (le4_of 51 50 (by decide) rfl p) (le4_of 51 50 (by decide) rfl q)
      have D1 := Lib.hid C1
      have D2 := Lib.hid C2
      have D3 := Lib.hid C3
      have D4 := Lib.hid C4
      have D5 := Lib.hid C5
      have D6 := Lib.hid C6
      have D7 := Lib.hid C7
      clear C1 C2 C3 C4 C5 C6 C7
      have N4 : Hid (Scene w1 [(24, q4 (Int.tmod (p 0) 51 * 16777216) (Int.tmod (p 1) 51 * 16777216) (Int.tmod (p 2) 51 * 16777216) (Int.tmod (p 3) 51 * 16777216)), (24, q4 (Int.tmod (q 0) 51 * 16777216) (Int.tmod (q 1) 51 * 16777216) (Int.tmod (q 2) 51 * 16777216) (Int.tmod (q 3) 51 * 16777216))] wr) := Lib.hid N.out
      clear N
      revert N4 D1 D2 D3 D4 D5 D6 D7
      generalize Int.tmod (p 0) 51 * 16777216 = s0
      generalize Int.tmod (p 1) 51 * 16777216 = s1
      generalize Int.tmod (p 2) 51 * 16777216 = s2
      generalize Int.tmod (p 3) 51 * 16777216 = s3
      generalize Int.tmod (q 0) 51 * 16777216 = t0
      generalize Int.tmod (q 1) 51 * 16777216 = t1
      generalize Int.tmod (q 2) 51 * 16777216 = t2
      generalize Int.tmod (q 3) 51 * 16777216 = t3
      intro D1 D2 D3 D4 D5 D6 D7 N4
      have BE := Lib.hid M.out
      clear M lw hk HP HQ
      have N5 := Lib.hid N4.out.drew
      have NZ := Lib.hid (N4.out.alloc (.cells (q4 0 0 0 0) 24)).drew
      have OZ := Lib.hid (Row.new wr 24 (q4 0 0 0 0)).drew
      have l5 := N4.out.r1.lt
      clear N4
      go_wp2_with fail
      go_region_held3 (fun w' => ∀ o, w'.cell? ⟨w1.heap.size, o, none⟩ = (q4 s0 s1 s2 s3)[o]?) (first | with_reducible exact N5.out.r0.cell | with_reducible exact NZ.out.r0.cell | with_reducible exact N7.out.r0.cell | with_reducible exact (N7.out.alloc _).r0.cell | with_reducible exact (N7.out.r0.far4 (by omega)).cell | with_reducible exact ((N7.out.alloc _).r0.far4 (by omega)).cell | with_reducible exact N6.out.r0.cell | with_reducible exact (N6.out.alloc _).r0.cell | go_keep)
        (first
        | (go_at_call 13
           with_reducible refine (D1.out _).mono ?_
           rintro e w2 ⟨rfl, hb⟩
           have N6 : Hid (Scene w1 [(24, q4 s0 s1 s2 s3), (24, q4 t0 t1 t2 t3)] w2) := Lib.hid (by first | with_reducible exact N5.out.below hb | with_reducible exact NZ.out.below hb)
           try (have O6 := Lib.hid (by with_reducible exact OZ.out.below hb OZ.out.lt))
           have l6 := N6.out.r1.lt
           clear hb)
        | (go_at_call 11
           with_reducible refine (D2.out _).mono ?_
           rintro e w3 ⟨rfl, hb⟩
           have N7 : Hid (Scene w1 [(24, q4 s0 s1 s2 s3), (24, q4 t0 t1 t2 t3)] w3) := Lib.hid (by first | with_reducible exact N6.out.below hb | with_reducible exact (N6.out.alloc _).below hb)
           try (have O7' := by with_reducible exact Row.kept hb
                have O7 := Lib.hid O7'
                clear O7')
           try (have O7 := Lib.hid (O6.out.below hb O6.out.lt))
           try (have oc0 := O7.out.cell 0
                have oc1 := O7.out.cell 1
                have oc2 := O7.out.cell 2
                have oc3 := O7.out.cell 3
                have of0 := O7.out.free 0
                have of1 := O7.out.free 1
                have of2 := O7.out.free 2
                have of3 := O7.out.free 3)
           have l7 := N7.out.r1.lt
           clear hb))
      all_goals first
        | (have H6 := O6
           clear H6
           have RX := Lib.hid (O7.out.fill4 (.int .i64 n) (.int .i64 0) (.int .i64 0) (.int .i64 0))
           have LX : w1.heap.size + 1 < wr.heap.size := by omega
           have SX := Lib.hid (N7.out.far4 (a := .int .i64 n) (b := .int .i64 0) (c := .int .i64 0) (d := .int .i64 0) (C := wr.heap.size) (by simp; omega))
           clear N5 NZ OZ N6 N7 O6 O7 oc0 oc1 oc2 oc3 of0 of1 of2 of3 l5 l6 l7
           revert RX LX SX
           generalize World.setCell (World.setCell (World.setCell (World.setCell w3 _ _) _ _) _ _) _ _ = wf
           generalize wr.heap.size = C)
        | (have RX := Lib.hid (O7.out.fill4 (.int .i64 n) (.int .i64 0) (.int .i64 0) (.int .i64 0))
           have LX : w1.heap.size + 1 < w2.heap.size := by omega
           have SX := Lib.hid (N7.out.far4 (a := .int .i64 n) (b := .int .i64 0) (c := .int .i64 0) (d := .int .i64 0) (C := w2.heap.size) (by simp; omega))
           clear N5 NZ OZ N6 N7 O7 oc0 oc1 oc2 oc3 of0 of1 of2 of3 l5 l6 l7
           revert RX LX SX
           generalize World.setCell (World.setCell (World.setCell (World.setCell w3 _ _) _ _) _ _) _ _ = wf
           generalize w2.heap.size = C)
        | (have RX := Lib.hid (Row.new w3 24 #[.int .i64 n, .int .i64 0, .int .i64 0, .int .i64 0])
           have LX : w1.heap.size + 1 < w3.heap.size := l7
           have SX := Lib.hid (N7.out.alloc (.cells #[.int .i64 n, .int .i64 0, .int .i64 0, .int .i64 0] 24))
           clear N5 NZ OZ N6 N7 l5 l6 l7
           revert RX LX SX
           generalize World.alloc w3 _ = wf
           generalize w3.heap.size = C)
      all_goals
        intro RX LX SX
        clear D2
        have cp := SX.out.r0.cell
        go_wp2_with fail
        refine (D3.out _).mono ?_
        rintro e wa ⟨rfl, hb⟩
        have SA := Lib.hid (SX.out.below hb)
        have RA := Lib.hid (RX.out.below hb RX.out.lt)
        clear hb SX RX cp
        have cp := SA.out.r0.cell
        have cq := SA.out.r1.cell
        go_wp2_with fail
        refine (D4.out _).mono ?_
        rintro e wb ⟨rfl, hb⟩
        have SB := Lib.hid (SA.out.below hb)
        have RB := Lib.hid (RA.out.below hb RA.out.lt)
        clear hb SA RA cp cq
        have KB : CB w1 (q4 s0 s1 s2 s3) (q4 t0 t1 t2 t3) (q4 n 0 0 0) (q4 y0 y1 y2 y3) C wb.heap.size (wb.alloc (.cells (q4 y0 y1 y2 y3) 24)) := ⟨SB.out.alloc _, RB.out.alloc _, Row.new wb 24 _⟩
        have K5 := Lib.hid KB.drew
        have KZ := Lib.hid (KB.alloc (.cells (q4 0 0 0 0) 24)).drew
        have OZ : Hid (Row ((wb.alloc (.cells (q4 y0 y1 y2 y3) 24)).alloc (.cells (q4 0 0 0 0) 24)).drew (wb.heap.size + 1) 24 (q4 0 0 0 0)) := Lib.hid (Row.at_ (wb.alloc (.cells (q4 y0 y1 y2 y3) 24)) 24 (q4 0 0 0 0) (by simp)).drew
        have lb := SB.out.r1.lt
        have lc := RB.out.lt
        clear SB RB D3 D4 KB
        go_wp2_with fail
        go_region_held3 (fun w' => (∀ o, w'.cell? ⟨w1.heap.size, o, none⟩ = (q4 s0 s1 s2 s3)[o]?) ∧ (∀ o, w'.cell? ⟨w1.heap.size + 1, o, none⟩ = (q4 t0 t1 t2 t3)[o]?))
          (first | with_reducible exact K5.out.cells | with_reducible exact KZ.out.cells | with_reducible exact K8.out.cells | with_reducible exact (K8.out.alloc _).cells | with_reducible exact (K8.out.far4 (by omega) (by omega) (by omega)).cells | with_reducible exact ((K8.out.alloc _).far4 (by omega) (by omega) (by omega)).cells | with_reducible exact K7.out.cells | with_reducible exact (K7.out.alloc _).cells | with_reducible exact K6.out.cells | with_reducible exact (K6.out.alloc _).cells | go_keep)
          (first
          | (go_at_call 13
             first
             | (with_reducible refine (D5.out _).mono ?_
                rintro e wc ⟨rfl, hb⟩
                have K6 : Hid (CB w1 (q4 s0 s1 s2 s3) (q4 t0 t1 t2 t3) (q4 n 0 0 0) (q4 y0 y1 y2 y3) C wb.heap.size wc) := Lib.hid (by first | with_reducible exact K5.out.below hb | with_reducible exact KZ.out.below hb)
                try (have O6 := Lib.hid (by with_reducible exact OZ.out.below hb OZ.out.lt))
                have l6 := K6.out.ry.lt
                have m6 := K6.out.rc.lt
                clear hb)
             | (with_reducible refine (D1.out _).mono ?_
                rintro e wd ⟨rfl, hb⟩
                have K7 : Hid (CB w1 (q4 s0 s1 s2 s3) (q4 t0 t1 t2 t3) (q4 n 0 0 0) (q4 y0 y1 y2 y3) C wb.heap.size wd) := Lib.hid (by first | with_reducible exact K6.out.below hb | with_reducible exact (K6.out.alloc _).below hb)
                try (have O7' := by with_reducible exact Row.kept hb
                     have O7 := Lib.hid O7'
                     clear O7')
                try (have O7 := Lib.hid (O6.out.below hb O6.out.lt))
                have l7 := K7.out.ry.lt
                have m7 := K7.out.rc.lt
                clear hb))
          | (go_at_call 11
             with_reducible refine (D6.out _).mono ?_
             rintro e we ⟨rfl, hb⟩
             have K8 : Hid (CB w1 (q4 s0 s1 s2 s3) (q4 t0 t1 t2 t3) (q4 n 0 0 0) (q4 y0 y1 y2 y3) C wb.heap.size we) := Lib.hid (by first | with_reducible exact K7.out.below hb | with_reducible exact (K7.out.alloc _).below hb)
             try (have O8' := by with_reducible exact Row.kept hb
                  have O8 := Lib.hid O8'
                  clear O8')
             try (have O8 := Lib.hid (O7.out.below hb O7.out.lt))
             try (have oc0 := O8.out.cell 0
                  have oc1 := O8.out.cell 1
                  have oc2 := O8.out.cell 2
                  have oc3 := O8.out.cell 3
                  have of0 := O8.out.free 0
                  have of1 := O8.out.free 1
                  have of2 := O8.out.free 2
                  have of3 := O8.out.free 3)
             have l8 := K8.out.ry.lt
             have m8 := K8.out.rc.lt
             clear hb))
      all_goals first
        | (have H := O6
           clear H
           have ZX := Lib.hid (O8.out.fill4 (.int .i64 z0) (.int .i64 z1) (.int .i64 z2) (.int .i64 z3))
           have KX := Lib.hid (K8.out.far4 (a := .int .i64 z0) (b := .int .i64 z1) (e := .int .i64 z2) (d := .int .i64 z3) (D := wb.heap.size + 1) (by omega) (by omega) (by omega))
           clear O6 O7 K5 KZ OZ K6 K7 K8 O8 oc0 oc1 oc2 oc3 of0 of1 of2 of3 l6 m6 l7 m7 l8 m8 lb lc
           revert ZX KX
           generalize World.setCell (World.setCell (World.setCell (World.setCell we _ _) _ _) _ _) _ _ = wf
           generalize wb.heap.size + 1 = D)
        | (have H := O7
           clear H
           have ZX := Lib.hid (O8.out.fill4 (.int .i64 z0) (.int .i64 z1) (.int .i64 z2) (.int .i64 z3))
           have KX := Lib.hid (K8.out.far4 (a := .int .i64 z0) (b := .int .i64 z1) (e := .int .i64 z2) (d := .int .i64 z3) (D := wc.heap.size) (by omega) (by omega) (by omega))
           clear O7 K5 KZ OZ K6 K7 K8 O8 oc0 oc1 oc2 oc3 of0 of1 of2 of3 l6 m6 l7 m7 l8 m8 lb lc
           revert ZX KX
           generalize World.setCell (World.setCell (World.setCell (World.setCell we _ _) _ _) _ _) _ _ = wf
           generalize wc.heap.size = D)
        | (have H := O8
           clear H
           have ZX := Lib.hid (O8.out.fill4 (.int .i64 z0) (.int .i64 z1) (.int .i64 z2) (.int .i64 z3))
           have KX := Lib.hid (K8.out.far4 (a := .int .i64 z0) (b := .int .i64 z1) (e := .int .i64 z2) (d := .int .i64 z3) (D := wd.heap.size) (by omega) (by omega) (by omega))
           clear  K5 KZ OZ K6 K7 K8 O8 oc0 oc1 oc2 oc3 of0 of1 of2 of3 l6 m6 l7 m7 l8 m8 lb lc
           revert ZX KX
           generalize World.setCell (World.setCell (World.setCell (World.setCell we _ _) _ _) _ _) _ _ = wf
           generalize wd.heap.size = D)
        | (have ZX := Lib.hid (Row.new we 24 #[.int .i64 z0, .int .i64 z1, .int .i64 z2, .int .i64 z3])
           have KX := Lib.hid (K8.out.alloc (.cells #[.int .i64 z0, .int .i64 z1, .int .i64 z2, .int .i64 z3] 24))
           clear K5 KZ OZ K6 K7 K8 l6 m6 l7 m7 l8 m8 lb lc
           revert ZX KX
           generalize World.alloc we _ = wf
           generalize we.heap.size = D)
      all_goals
        intro ZX KX
        clear D1 D5 D6 LX
        have E1 := eq24_self n 0 0 0
        have E2 := eq24_self z0 z1 z2 z3
        have KY := Lib.hid KX.out.drew
        have ZY := Lib.hid ZX.out.drew
        clear KX ZX
        go_wp2_with fail
        go_region_held3 (fun w' => (∀ o, w'.cell? ⟨C, o, none⟩ = (q4 n 0 0 0)[o]?) ∧ (∀ o, w'.cell? ⟨wb.heap.size, o, none⟩ = (q4 y0 y1 y2 y3)[o]?) ∧ (∀ o, w'.cell? ⟨D, o, none⟩ = (q4 z0 z1 z2 z3)[o]?))
          (first | with_reducible exact ⟨KY.out.rc.cell, KY.out.ry.cell, ZY.out.cell⟩ | with_reducible exact ⟨KW.out.rc.cell, KW.out.ry.cell, ZW.out.cell⟩ | go_keep)
          (first
          | (go_at_call 13
             with_reducible refine (D7.out _).mono ?_
             rintro e wg ⟨rfl, hb⟩
             have KW := Lib.hid (KY.out.below hb)
             have ZW := Lib.hid (ZY.out.below hb ZY.out.lt)
             clear hb))
        all_goals go_wp2
        all_goals go_ret
        exact ⟨rfl, BE.out.be.trans (KW.out.sc.be.mono BE.out.be.size)⟩
end Go.Proofs.Ytmjncjaalleblaa.PQ
