import Derived.Test.YtmjncjaalleblaaQW
/- QuatWholes: the walk. -/
namespace Go.Proofs.Ytmjncjaalleblaa.PQ
open Go.RowKit Go.Proofs.YtmjncjaalleblaaW.PrintWords Go.Proofs.YtmjncjaalleblaaW.PrintLast Go.Proofs.YtmjncjaalleblaaW.PrintMore
set_option linter.unusedVariables false
set_option linter.unusedSimpArgs false
abbrev b4 (a b c d : Int) : Array Value := #[.int .i8 a, .int .i8 b, .int .i8 c, .int .i8 d]
/-- the first k of four numbers -/
def fillK (f : Nat → Int) : Nat → Array Value
  | 0 => #[.int .i64 0, .int .i64 0, .int .i64 0, .int .i64 0]
  | k + 1 => (fillK f k).setIfInBounds k (.int .i64 (f k))
def w8 (m : Int) (p : Nat → Int) (k : Nat) : Int := Int.tmod (p k) m * 16777216
theorem tmod_small {x : Int} (m : Int) (hm : 0 < m) : -m < Int.tmod x m ∧ Int.tmod x m < m := by
  by_cases h : 0 ≤ x
  · rw [Int.tmod_eq_emod_of_nonneg h]
    have := Int.emod_nonneg x (show m ≠ 0 by omega)
    have := Int.emod_lt_of_pos x hm
    omega
  · have e : x = -(-x) := by omega
    rw [e, Int.neg_tmod, Int.tmod_eq_emod_of_nonneg (by omega)]
    have := Int.emod_nonneg (-x) (show m ≠ 0 by omega)
    have := Int.emod_lt_of_pos (-x) hm
    omega
theorem w8_wrap (m : Int) (h0 : 0 < m) (h1 : m ≤ 128) (p : Nat → Int) (k : Nat) : wrap64 (wrap64 (Int.tmod (p k) m) * 16777216) = w8 m p k := by
  obtain ⟨h2, h3⟩ := tmod_small (x := p k) m h0
  rw [w64 (n := Int.tmod (p k) m) (by omega) (by omega), w64 (by omega) (by omega)]
  rfl
theorem le4_of (m : Int) (A : Nat) (h0 : 0 < m) (hA : m = A + 1) (p : Nat → Int) : Le4 A (Int.tmod (p 0) m) (Int.tmod (p 1) m) (Int.tmod (p 2) m) (Int.tmod (p 3) m) := by
  have h : ∀ k, (Int.tmod (p k) m).natAbs ≤ A := fun k => by
    obtain ⟨h2, h3⟩ := tmod_small (x := p k) m h0
    omega
  exact ⟨h 0, h 1, h 2, h 3⟩
abbrev MulTo (a b c d e f g h r0 r1 r2 r3 : Int) (o : Bool) : Prop := ∀ w, Calls Try.prog 11 #[.agg #[.int .i64 a, .int .i64 b, .int .i64 c, .int .i64 d], .agg #[.int .i64 e, .int .i64 f, .int .i64 g, .int .i64 h]] w fun x w' =>
      x = .returned (.tuple #[.agg #[.int .i64 r0, .int .i64 r1, .int .i64 r2, .int .i64 r3], .bool o]) ∧ Below w.heap.size w w'
abbrev NormTo (a b c d n : Int) (o : Bool) : Prop := ∀ w, Calls Try.prog 14 #[.agg #[.int .i64 a, .int .i64 b, .int .i64 c, .int .i64 d]] w fun x w' =>
      x = .returned (.tuple #[.int .i64 n, .bool o]) ∧ Below w.heap.size w w'
theorem whole_mul {a b c d e f g h : Int} {A B : Nat} (hp : Le4 A a b c d) (hq : Le4 B e f g h) (hA : A ≤ 4194303) (hB : B ≤ 4194303) (hAB : 4 * (A * B) ≤ 4194303) :
    MulTo (a * 16777216) (b * 16777216) (c * 16777216) (d * 16777216) (e * 16777216) (f * 16777216) (g * 16777216) (h * 16777216) (hm0 a b c d e f g h * 16777216) (hm1 a b c d e f g h * 16777216) (hm2 a b c d e f g h * 16777216) (hm3 a b c d e f g h * 16777216) false := by
  obtain ⟨e0, e1, e2, e3, e4⟩ := whole_comp hp hq hA hB hAB
  exact fun w => mul_var _ _ _ _ _ _ _ _ _ _ _ _ _ _ _ rfl rfl e0.symm e1.symm e2.symm e3.symm e4.symm w
theorem norm_to (a b c d : Int) : NormTo a b c d (normV (at4 a b c d)) (normO (at4 a b c d)) := fun w => norm_start (at4 a b c d) w
theorem whole_normTo {a b c d : Int} {A : Nat} (hp : Le4 A a b c d) (hA : A ≤ 4194303) (hAA : 4 * (A * A) ≤ 4194303) :
    ∃ o, NormTo (a * 16777216) (b * 16777216) (c * 16777216) (d * 16777216) ((a * a + b * b + c * c + d * d) * 16777216) o := by
  have h := norm_to (a * 16777216) (b * 16777216) (c * 16777216) (d * 16777216)
  rw [whole_norm hp hA hAA] at h
  exact ⟨_, h⟩
theorem norm_le {a b c d : Int} {A : Nat} (hp : Le4 A a b c d) : (a * a + b * b + c * c + d * d).natAbs ≤ 4 * (A * A) := sum4_le (small_mul hp.a hp.a) (small_mul hp.b hp.b) (small_mul hp.c hp.c) (small_mul hp.d hp.d)
theorem whole_tdiv (z : Int) : (z * 16777216).tdiv 16777216 = z := Int.mul_tdiv_cancel z (by decide)
/-- what the law's calls answer -/
theorem wholes_pure (a b c d e f g h i j k l : Int) (hp : Le4 7 a b c d) (hq : Le4 7 e f g h) (hr : Le4 7 i j k l) :
    ∃ x0 x1 x2 x3 y0 y1 y2 y3 z0 z1 z2 z3 m n o M N f1 f2 f3,
      MulTo (a * 16777216) (b * 16777216) (c * 16777216) (d * 16777216) (e * 16777216) (f * 16777216) (g * 16777216) (h * 16777216) x0 x1 x2 x3 false ∧
      MulTo x0 x1 x2 x3 (i * 16777216) (j * 16777216) (k * 16777216) (l * 16777216) y0 y1 y2 y3 false ∧
      MulTo (e * 16777216) (f * 16777216) (g * 16777216) (h * 16777216) (i * 16777216) (j * 16777216) (k * 16777216) (l * 16777216) z0 z1 z2 z3 false ∧
      MulTo (a * 16777216) (b * 16777216) (c * 16777216) (d * 16777216) z0 z1 z2 z3 y0 y1 y2 y3 false ∧
      NormTo (a * 16777216) (b * 16777216) (c * 16777216) (d * 16777216) m f1 ∧ NormTo (e * 16777216) (f * 16777216) (g * 16777216) (h * 16777216) n f2 ∧ NormTo x0 x1 x2 x3 o f3 ∧
      m.tdiv 16777216 = M ∧ n.tdiv 16777216 = N ∧ o.tdiv 16777216 = M * N ∧ wrap64 M = M ∧ wrap64 N = N ∧ wrap64 (M * N) = M * N := by
  obtain ⟨f1, n1⟩ := whole_normTo hp (by decide) (by decide)
  obtain ⟨f2, n2⟩ := whole_normTo hq (by decide) (by decide)
  have hx := hm_le hp hq
  have hz := hm_le hq hr
  obtain ⟨f3, n3⟩ := whole_normTo hx (by decide) (by decide)
  have A := hm_assoc a b c d e f g h i j k l
  have y := whole_mul hx hr (by decide) (by decide) (by decide)
  rw [A.1, A.2.1, A.2.2.1, A.2.2.2] at y
  have b1 := norm_le hp
  have b2 := norm_le hq
  have b3 := norm_le hx
  rw [hm_norm] at n3 b3
  refine ⟨_, _, _, _, _, _, _, _, _, _, _, _, _, _, _, a * a + b * b + c * c + d * d, e * e + f * f + g * g + h * h, f1, f2, f3, whole_mul hp hq (by decide) (by decide) (by decide), y, whole_mul hq hr (by decide) (by decide) (by decide),
    whole_mul hp hz (by decide) (by decide) (by decide), n1, n2, n3, whole_tdiv _, whole_tdiv _, whole_tdiv _, w64 ?_ ?_, w64 ?_ ?_, w64 ?_ ?_⟩
  all_goals (generalize (a * a + b * b + c * c + d * d) * (e * e + f * f + g * g + h * h) = V at *; generalize a * a + b * b + c * c + d * d = U at *; generalize e * e + f * f + g * g + h * h = T at *; omega)
set_option maxRecDepth 100000 in
set_option maxHeartbeats 8000000 in
theorem wholes_walk (p q r : Nat → Int) (hp : ∀ k, k < 4 → -128 ≤ p k ∧ p k ≤ 127) (hq : ∀ k, k < 4 → -128 ≤ q k ∧ q k ≤ 127) (hr : ∀ k, k < 4 → -128 ≤ r k ∧ r k ≤ 127) (w : World) :
    Calls Try.prog 4 #[.agg (b4 (p 0) (p 1) (p 2) (p 3)), .agg (b4 (q 0) (q 1) (q 2) (q 3)), .agg (b4 (r 0) (r 1) (r 2) (r 3))] w fun e w' =>
      e = .returned (.bool true) ∧ Below w.heap.size w w' := by
  have HP := Lib.hid hp
  have HQ := Lib.hid hq
  have HR := Lib.hid hr
  clear hp hq hr
  go_enter Try.func4, Try.ntmps4
  go_wp2_with fail
  refine (shown_calls _).mono ?_
  rintro e w1 ⟨rfl, hb⟩
  have M : Hid (Scene w [(36, b4 (p 0) (p 1) (p 2) (p 3)), (36, b4 (q 0) (q 1) (q 2) (q 3)), (36, b4 (r 0) (r 1) (r 2) (r 3))] w1) := Lib.hid (((((Scene.none w).push (by simp) _ _).push (by simp) _ _).push (by simp) _ _).below hb)
  clear hb
  go_wp2_with fail
  go_loopw [11] (fun i wr => ∃ k : Nat, k ≤ 4 ∧ i = .int .i64 k ∧ Hid (Scene w1 [(24, fillK (w8 8 p) k), (24, fillK (w8 8 q) k), (24, fillK (w8 8 r) k)] wr)) (fun i _ => 4 - (intOf i).toNat)
  case atStart => exact ⟨0, by omega, rfl, Lib.hid ((((Scene.none w1).push (by simp) _ _).push (by simp) _ _).push (by simp) _ _)⟩
  case round =>
    obtain ⟨k, hk, rfl, N⟩ := hrel
    have lw := M.out.r2.lt
    obtain rfl | rfl | rfl | rfl | rfl : k = 0 ∨ k = 1 ∨ k = 2 ∨ k = 3 ∨ k = 4 := by omega
    · have P1 := HP.out 0 (by omega)
      have Q1 := HQ.out 0 (by omega)
      have R1 := HR.out 0 (by omega)
      have ca := (M.out.below N.out.be).r0.cell 0
      have cb := (M.out.below N.out.be).r1.cell 0
      have cc := (M.out.below N.out.be).r2.cell 0
      have oa := N.out.r0.cell 0
      have ob := N.out.r1.cell 0
      have oc := N.out.r2.cell 0
      have fa := N.out.r0.free 0
      have fb := N.out.r1.free 0
      have fc := N.out.r2.free 0
      go_wp2_with fail
      have X1 := N.out.put 0 24 _ N.out.r0 0 (.int .i64 (w8 8 p 0))
      have X2 := X1.put 1 24 _ X1.r1 0 (.int .i64 (w8 8 q 0))
      have X3 := X2.put 2 24 _ X2.r2 0 (.int .i64 (w8 8 r 0))
      refine ⟨⟨0 + 1, by omega, by go_num, Lib.hid ?_⟩, by simp [intOf]⟩
      rw [w8_wrap 8 (by decide) (by decide) p 0, w8_wrap 8 (by decide) (by decide) q 0, w8_wrap 8 (by decide) (by decide) r 0]
      exact X3
    · have P1 := HP.out 1 (by omega)
      have Q1 := HQ.out 1 (by omega)
      have R1 := HR.out 1 (by omega)
      have ca := (M.out.below N.out.be).r0.cell 1
      have cb := (M.out.below N.out.be).r1.cell 1
      have cc := (M.out.below N.out.be).r2.cell 1
      have oa := N.out.r0.cell 1
      have ob := N.out.r1.cell 1
      have oc := N.out.r2.cell 1
      have fa := N.out.r0.free 1
      have fb := N.out.r1.free 1
      have fc := N.out.r2.free 1
      go_wp2_with fail
      have X1 := N.out.put 0 24 _ N.out.r0 1 (.int .i64 (w8 8 p 1))
      have X2 := X1.put 1 24 _ X1.r1 1 (.int .i64 (w8 8 q 1))
      have X3 := X2.put 2 24 _ X2.r2 1 (.int .i64 (w8 8 r 1))
      refine ⟨⟨1 + 1, by omega, by go_num, Lib.hid ?_⟩, by simp [intOf]⟩
      rw [w8_wrap 8 (by decide) (by decide) p 1, w8_wrap 8 (by decide) (by decide) q 1, w8_wrap 8 (by decide) (by decide) r 1]
      exact X3
    · have P1 := HP.out 2 (by omega)
      have Q1 := HQ.out 2 (by omega)
      have R1 := HR.out 2 (by omega)
      have ca := (M.out.below N.out.be).r0.cell 2
      have cb := (M.out.below N.out.be).r1.cell 2
      have cc := (M.out.below N.out.be).r2.cell 2
      have oa := N.out.r0.cell 2
      have ob := N.out.r1.cell 2
      have oc := N.out.r2.cell 2
      have fa := N.out.r0.free 2
      have fb := N.out.r1.free 2
      have fc := N.out.r2.free 2
      go_wp2_with fail
      have X1 := N.out.put 0 24 _ N.out.r0 2 (.int .i64 (w8 8 p 2))
      have X2 := X1.put 1 24 _ X1.r1 2 (.int .i64 (w8 8 q 2))
      have X3 := X2.put 2 24 _ X2.r2 2 (.int .i64 (w8 8 r 2))
      refine ⟨⟨2 + 1, by omega, by go_num, Lib.hid ?_⟩, by simp [intOf]⟩
      rw [w8_wrap 8 (by decide) (by decide) p 2, w8_wrap 8 (by decide) (by decide) q 2, w8_wrap 8 (by decide) (by decide) r 2]
      exact X3
    · have P1 := HP.out 3 (by omega)
      have Q1 := HQ.out 3 (by omega)
      have R1 := HR.out 3 (by omega)
      have ca := (M.out.below N.out.be).r0.cell 3
      have cb := (M.out.below N.out.be).r1.cell 3
      have cc := (M.out.below N.out.be).r2.cell 3
      have oa := N.out.r0.cell 3
      have ob := N.out.r1.cell 3
      have oc := N.out.r2.cell 3
      have fa := N.out.r0.free 3
      have fb := N.out.r1.free 3
      have fc := N.out.r2.free 3
      go_wp2_with fail
      have X1 := N.out.put 0 24 _ N.out.r0 3 (.int .i64 (w8 8 p 3))
      have X2 := X1.put 1 24 _ X1.r1 3 (.int .i64 (w8 8 q 3))
      have X3 := X2.put 2 24 _ X2.r2 3 (.int .i64 (w8 8 r 3))
      refine ⟨⟨3 + 1, by omega, by go_num, Lib.hid ?_⟩, by simp [intOf]⟩
      rw [w8_wrap 8 (by decide) (by decide) p 3, w8_wrap 8 (by decide) (by decide) q 3, w8_wrap 8 (by decide) (by decide) r 3]
      exact X3
    · obtain ⟨x0, x1, x2, x3, y0, y1, y2, y3, z0, z1, z2, z3, m, n, o, U, V, f1, f2, f3, C1, C2, C3, C4, C5, C6, C7, g1, g2, g3, g4, g5, g6⟩ := wholes_pure _ _ _ _ _ _ _ _ _ _ _ _ (le4_of 8 7 (by decide) rfl p) (le4_of 8 7 (by decide) rfl q) (le4_of 8 7 (by decide) rfl r)
      have D1 := Lib.hid C1
      have D2 := Lib.hid C2
      have D3 := Lib.hid C3
      have D4 := Lib.hid C4
      have D5 := Lib.hid C5
      have D6 := Lib.hid C6
      have D7 := Lib.hid C7
      have G := Lib.hid (And.intro g1 (And.intro g2 (And.intro g3 (And.intro g4 (And.intro g5 g6)))))
      clear C1 C2 C3 C4 C5 C6 C7 g1 g2 g3 g4 g5 g6
      have N4 : Hid (Scene w1 [(24, q4 (Int.tmod (p 0) 8 * 16777216) (Int.tmod (p 1) 8 * 16777216) (Int.tmod (p 2) 8 * 16777216) (Int.tmod (p 3) 8 * 16777216)), (24, q4 (Int.tmod (q 0) 8 * 16777216) (Int.tmod (q 1) 8 * 16777216) (Int.tmod (q 2) 8 * 16777216) (Int.tmod (q 3) 8 * 16777216)), (24, q4 (Int.tmod (r 0) 8 * 16777216) (Int.tmod (r 1) 8 * 16777216) (Int.tmod (r 2) 8 * 16777216) (Int.tmod (r 3) 8 * 16777216))] wr) := Lib.hid N.out
      clear N
      revert N4 D1 D2 D3 D4 D5 D6 D7
      generalize Int.tmod (p 0) 8 * 16777216 = p0
      generalize Int.tmod (p 1) 8 * 16777216 = p1
      generalize Int.tmod (p 2) 8 * 16777216 = p2
      generalize Int.tmod (p 3) 8 * 16777216 = p3
      generalize Int.tmod (q 0) 8 * 16777216 = q0
      generalize Int.tmod (q 1) 8 * 16777216 = q1
      generalize Int.tmod (q 2) 8 * 16777216 = q2
      generalize Int.tmod (q 3) 8 * 16777216 = q3
      generalize Int.tmod (r 0) 8 * 16777216 = r0
      generalize Int.tmod (r 1) 8 * 16777216 = r1
      generalize Int.tmod (r 2) 8 * 16777216 = r2
      generalize Int.tmod (r 3) 8 * 16777216 = r3
      intro D1 D2 D3 D4 D5 D6 D7 N4
      have BE := Lib.hid M.out
      clear M lw hk
      have ca := N4.out.r0.cell
      have cb := N4.out.r1.cell
      go_wp2_with fail
      refine (D1.out _).mono ?_
      rintro e w2 ⟨rfl, hb⟩
      have N5 := Lib.hid (N4.out.below hb)
      clear hb N4 ca cb
      have cc := N5.out.r2.cell
      have lc := N5.out.r2.lt
      go_wp2_with fail
      refine (D2.out _).mono ?_
      rintro e w3 ⟨rfl, hb⟩
      have N6 := Lib.hid ((N5.out.alloc (.cells (q4 x0 x1 x2 x3) 24)).below hb)
      have X6 := Lib.hid ((Row.new w2 24 (q4 x0 x1 x2 x3)).below hb (Row.new w2 24 (q4 x0 x1 x2 x3)).lt)
      clear hb N5 cc lc
      have cb := N6.out.r1.cell
      have lb := N6.out.r1.lt
      have cc := N6.out.r2.cell
      have lc := N6.out.r2.lt
      go_wp2_with fail
      refine (D3.out _).mono ?_
      rintro e w4 ⟨rfl, hb⟩
      have N7 := Lib.hid ((N6.out.alloc (.cells (q4 y0 y1 y2 y3) 24)).below hb)
      have X7 := Lib.hid ((X6.out.alloc (.cells (q4 y0 y1 y2 y3) 24)).below hb (X6.out.alloc (.cells (q4 y0 y1 y2 y3) 24)).lt)
      have Y7 := Lib.hid ((Row.new w3 24 (q4 y0 y1 y2 y3)).below hb (Row.new w3 24 (q4 y0 y1 y2 y3)).lt)
      clear hb N6 X6 cb cc lc lb
      have ca := N7.out.r0.cell
      have lb := N7.out.r0.lt
      have lc := N7.out.r2.lt
      go_wp2_with fail
      refine (D4.out _).mono ?_
      rintro e w5 ⟨rfl, hb⟩
      have N8 := Lib.hid ((N7.out.alloc (.cells (q4 z0 z1 z2 z3) 24)).below hb)
      have X8 := Lib.hid ((X7.out.alloc (.cells (q4 z0 z1 z2 z3) 24)).below hb (X7.out.alloc (.cells (q4 z0 z1 z2 z3) 24)).lt)
      have Y8 := Lib.hid ((Y7.out.alloc (.cells (q4 z0 z1 z2 z3) 24)).below hb (Y7.out.alloc (.cells (q4 z0 z1 z2 z3) 24)).lt)
      clear hb N7 X7 Y7 ca lc lb
      have ca := N8.out.r0.cell
      have lb := N8.out.r0.lt
      have lc := N8.out.r2.lt
      go_wp2_with fail
      refine (D5.out _).mono ?_
      rintro e w6 ⟨rfl, hb⟩
      have N9 := Lib.hid ((N8.out.alloc (.cells (q4 y0 y1 y2 y3) 24)).below hb)
      have X9 := Lib.hid ((X8.out.alloc (.cells (q4 y0 y1 y2 y3) 24)).below hb (X8.out.alloc (.cells (q4 y0 y1 y2 y3) 24)).lt)
      have Y9 := Lib.hid ((Y8.out.alloc (.cells (q4 y0 y1 y2 y3) 24)).below hb (Y8.out.alloc (.cells (q4 y0 y1 y2 y3) 24)).lt)
      have V9 := Lib.hid ((Row.new w5 24 (q4 y0 y1 y2 y3)).below hb (Row.new w5 24 (q4 y0 y1 y2 y3)).lt)
      clear hb N8 X8 Y8 ca lc lb
      have cb := N9.out.r1.cell
      go_wp2_with fail
      refine (D6.out _).mono ?_
      rintro e w7 ⟨rfl, hb⟩
      have NA := Lib.hid (N9.out.below hb)
      have XA := Lib.hid (X9.out.below hb X9.out.lt)
      have YA := Lib.hid (Y9.out.below hb Y9.out.lt)
      have VA := Lib.hid (V9.out.below hb V9.out.lt)
      clear hb N9 X9 Y9 V9 cb
      have cx := XA.out.cell
      go_wp2_with fail
      refine (D7.out _).mono ?_
      rintro e w8 ⟨rfl, hb⟩
      have NB := Lib.hid (NA.out.below hb)
      have YB := Lib.hid (YA.out.below hb YA.out.lt)
      have VB := Lib.hid (VA.out.below hb VA.out.lt)
      clear hb NA YA VA XA cx
      have cy := YB.out.cell
      have cv := VB.out.cell
      have eq := eq24 y0 y1 y2 y3 y0 y1 y2 y3
      obtain ⟨g1, g2, g3, g4, g5, g6⟩ := G.out
      have eqs : ∀ w, (Op.equalIn 10000 24 (.agg #[.int .i64 y0, .int .i64 y1, .int .i64 y2, .int .i64 y3]) (.agg #[.int .i64 y0, .int .i64 y1, .int .i64 y2, .int .i64 y3])).run Try.prog w = .ok true w := fun w => by rw [eq]; simp
      clear eq
      go_wp2_with fail
      go_ret
      exact ⟨rfl, BE.out.be.trans (NB.out.be.mono BE.out.be.size)⟩
end Go.Proofs.Ytmjncjaalleblaa.PQ
