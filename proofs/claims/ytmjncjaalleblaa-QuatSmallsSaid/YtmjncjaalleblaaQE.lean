import Derived.Test.YtmjncjaalleblaaQC
import Derived.Test.YtmjncjaalleblaaQD
/- Layer 4: three numbers that are turned; what is right. -/
namespace Go.Proofs.Ytmjncjaalleblaa.PQ
open Go.RowKit Go.Proofs.YtmjncjaalleblaaW.PrintWords Go.Proofs.YtmjncjaalleblaaW.PrintLast Go.Proofs.YtmjncjaalleblaaW.PrintMore
set_option linter.unusedVariables false
set_option linter.unusedSimpArgs false

def at4 (a b c d : Int) : Nat → Int
  | 0 => a
  | 1 => b
  | 2 => c
  | _ => d
theorem mul_lit (p q : Nat → Int) (w : World) :
    Calls Try.prog 11 #[.agg #[.int .i64 (p 0), .int .i64 (p 1), .int .i64 (p 2), .int .i64 (p 3)], .agg #[.int .i64 (q 0), .int .i64 (q 1), .int .i64 (q 2), .int .i64 (q 3)]] w fun x w' =>
      x = .returned (.tuple #[.agg #[.int .i64 (comp p q 0), .int .i64 (comp p q 1), .int .i64 (comp p q 2), .int .i64 (comp p q 3)], .bool (flagK p q 4)]) ∧ Below w.heap.size w w' := mul_start p q w

theorem Row.kept {w w' : World} {t : TypeId} {cs : Array Value} (hb : Below (w.alloc (.cells cs t)).heap.size (w.alloc (.cells cs t)) w') : Row w' w.heap.size t cs := (Row.new w t cs).below hb (Row.new w t cs).lt
theorem Row.far4 {w : World} {B C : Nat} {t : TypeId} {cs : Array Value} {a b c d : Value} (h : Row w B t cs) (hne : B ≠ C) :
    Row ((((w.setCell ⟨C, 0, none⟩ a).setCell ⟨C, 1, none⟩ b).setCell ⟨C, 2, none⟩ c).setCell ⟨C, 3, none⟩ d) B t cs :=
  (((h.far (p := ⟨C, 0, none⟩) hne a).far (p := ⟨C, 1, none⟩) hne b).far (p := ⟨C, 2, none⟩) hne c).far (p := ⟨C, 3, none⟩) hne d
theorem Scene.far4 {w0 w : World} {L : List (TypeId × Array Value)} {C : Nat} {a b c d : Value} (h : Scene w0 L w) (hC : w0.heap.size + L.length ≤ C) :
    Scene w0 L ((((w.setCell ⟨C, 0, Option.none⟩ a).setCell ⟨C, 1, Option.none⟩ b).setCell ⟨C, 2, Option.none⟩ c).setCell ⟨C, 3, Option.none⟩ d) :=
  ⟨h.rows.imp fun k t cs h1 h2 r => r.far4 (by omega), Below.fill4 h.be (by omega) a b c d⟩
/-- a quaternion turned round -/
def cj (p : Nat → Int) : Nat → Int := at4 (p 0) (subV 0 (p 1)) (subV 0 (p 2)) (subV 0 (p 3))
def turnA (p v : Nat → Int) : Nat → Int := comp p v
def turnV (p v : Nat → Int) : Nat → Int := comp (comp p v) (cj p)
def turnO (p v : Nat → Int) : Bool := flagK p v 4 || flagK (comp p v) (cj p) 4

theorem mul_var (a b c d e f g h r0 r1 r2 r3 : Int) (fl : Bool) (p q : Nat → Int) (hp : p = at4 a b c d) (hq : q = at4 e f g h) (h0 : r0 = comp p q 0) (h1 : r1 = comp p q 1) (h2 : r2 = comp p q 2) (h3 : r3 = comp p q 3)
    (hf : fl = flagK p q 4) (w : World) :
    Calls Try.prog 11 #[.agg #[.int .i64 a, .int .i64 b, .int .i64 c, .int .i64 d], .agg #[.int .i64 e, .int .i64 f, .int .i64 g, .int .i64 h]] w fun x w' =>
      x = .returned (.tuple #[.agg #[.int .i64 r0, .int .i64 r1, .int .i64 r2, .int .i64 r3], .bool fl]) ∧ Below w.heap.size w w' := by
  have h := mul_lit p q w
  rw [← h0, ← h1, ← h2, ← h3, ← hf] at h
  subst hp hq
  exact h
theorem conj_var (a b c d b' c' d' : Int) (hb : b' = subV 0 b) (hc : c' = subV 0 c) (hd : d' = subV 0 d) (w : World) :
    Calls Try.prog 13 #[.agg #[.int .i64 a, .int .i64 b, .int .i64 c, .int .i64 d]] w fun e w' =>
      e = .returned (.agg #[.int .i64 a, .int .i64 b', .int .i64 c', .int .i64 d']) ∧ Below w.heap.size w w' := by
  subst hb hc hd
  exact conj_calls a b c d w

set_option maxRecDepth 100000 in
set_option maxHeartbeats 4000000 in
theorem qturn_var (a b c d x y z b' c' d' a0 a1 a2 a3 r0 r1 r2 r3 : Int) (fa fb : Bool)
    (hA : ∀ w, Calls Try.prog 11 #[.agg #[.int .i64 a, .int .i64 b, .int .i64 c, .int .i64 d], .agg #[.int .i64 0, .int .i64 x, .int .i64 y, .int .i64 z]] w fun e w' =>
      e = .returned (.tuple #[.agg #[.int .i64 a0, .int .i64 a1, .int .i64 a2, .int .i64 a3], .bool fa]) ∧ Below w.heap.size w w')
    (hC : ∀ w, Calls Try.prog 13 #[.agg #[.int .i64 a, .int .i64 b, .int .i64 c, .int .i64 d]] w fun e w' =>
      e = .returned (.agg #[.int .i64 a, .int .i64 b', .int .i64 c', .int .i64 d']) ∧ Below w.heap.size w w')
    (hB : ∀ w, Calls Try.prog 11 #[.agg #[.int .i64 a0, .int .i64 a1, .int .i64 a2, .int .i64 a3], .agg #[.int .i64 a, .int .i64 b', .int .i64 c', .int .i64 d']] w fun e w' =>
      e = .returned (.tuple #[.agg #[.int .i64 r0, .int .i64 r1, .int .i64 r2, .int .i64 r3], .bool fb]) ∧ Below w.heap.size w w') (w : World) :
    Calls Try.prog 12 #[.agg #[.int .i64 a, .int .i64 b, .int .i64 c, .int .i64 d], .agg #[.int .i64 x, .int .i64 y, .int .i64 z]] w fun e w' =>
      e = .returned (.tuple #[.agg #[.int .i64 r1, .int .i64 r2, .int .i64 r3], .bool (fa || fb)]) ∧ Below w.heap.size w w' := by
  have HA := Lib.hid hA
  have HB := Lib.hid hB
  have HC := Lib.hid hC
  clear hA hB hC
  go_enter Try.func12, Try.ntmps12
  go_wp2_with fail
  refine (HA.out _).mono ?_
  rintro e w1 ⟨rfl, hb⟩
  have M : Hid (Scene w [(24, q4 a b c d), (26, #[.int .i64 x, .int .i64 y, .int .i64 z]), (26, #[.int .i64 0, .int .i64 0, .int .i64 0])] w1) :=
    Lib.hid ((((((Scene.none w).push (by simp) _ _).push (by simp) _ _).push (by simp) _ _)).below hb)
  clear hb
  have l0 := M.out.r2.lt
  have q0 := M.out.r0.cell
  go_wp2_with fail
  have MA := Lib.hid (M.out.alloc (.cells (q4 a0 a1 a2 a3) 24)).drew
  have NA := Lib.hid (Row.new w1 24 (q4 a0 a1 a2 a3)).drew
  have MZ := Lib.hid ((M.out.alloc (.cells (q4 a0 a1 a2 a3) 24)).alloc (.cells (q4 0 0 0 0) 24)).drew
  have NZ := Lib.hid ((Row.new w1 24 (q4 a0 a1 a2 a3)).alloc (.cells (q4 0 0 0 0) 24)).drew
  have OZ : Hid (Row ((w1.alloc (.cells (q4 a0 a1 a2 a3) 24)).alloc (.cells (q4 0 0 0 0) 24)).drew (w1.heap.size + 1) 24 (q4 0 0 0 0)) := Lib.hid (Row.at_ (w1.alloc (.cells (q4 a0 a1 a2 a3) 24)) 24 (q4 0 0 0 0) (by simp)).drew
  clear M q0
  go_region_held3 (fun w' => (∀ o, w'.cell? ⟨w.heap.size, o, none⟩ = (q4 a b c d)[o]?) ∧ (∀ o, w'.cell? ⟨w1.heap.size, o, none⟩ = (q4 a0 a1 a2 a3)[o]?)) (first | with_reducible exact ⟨MA.out.r0.cell, NA.out.cell⟩ | with_reducible exact ⟨MZ.out.r0.cell, NZ.out.cell⟩ | with_reducible exact ⟨M2.out.r0.cell, N2.out.cell⟩ | with_reducible exact ⟨(M2.out.alloc _).r0.cell, (N2.out.alloc _).cell⟩ | with_reducible exact ⟨M1.out.r0.cell, N1.out.cell⟩ | with_reducible exact ⟨(M1.out.alloc _).r0.cell, (N1.out.alloc _).cell⟩ | with_reducible exact ⟨(MA.out.alloc _).r0.cell, (NA.out.alloc _).cell⟩ | with_reducible exact ⟨(M2.out.r0.far4 (by omega)).cell, (N2.out.far4 (by omega)).cell⟩ | with_reducible exact ⟨((M2.out.alloc _).r0.far4 (by omega)).cell, ((N2.out.alloc _).far4 (by omega)).cell⟩ | go_keep)
    (first
    | (go_at_call 13
       refine (HC.out _).mono ?_
       rintro e w2 ⟨rfl, hb2⟩
       have M1 : Hid (Scene w [(24, q4 a b c d), (26, #[.int .i64 x, .int .i64 y, .int .i64 z]), (26, #[.int .i64 0, .int .i64 0, .int .i64 0])] w2) := Lib.hid (by first | with_reducible exact MA.out.below hb2 | with_reducible exact MZ.out.below hb2)
       have N1 : Hid (Row w2 w1.heap.size 24 (q4 a0 a1 a2 a3)) := Lib.hid (by first | with_reducible exact NA.out.below hb2 NA.out.lt | with_reducible exact NZ.out.below hb2 NZ.out.lt)
       have l1 := N1.out.lt
       try (have O1 : Hid (Row w2 (w1.heap.size + 1) 24 (q4 0 0 0 0)) := Lib.hid (by with_reducible exact OZ.out.below hb2 OZ.out.lt))
       clear hb2)
    | (go_at_call 11
       refine (HB.out _).mono ?_
       rintro e w3 ⟨rfl, hb3⟩
       have M2 : Hid (Scene w [(24, q4 a b c d), (26, #[.int .i64 x, .int .i64 y, .int .i64 z]), (26, #[.int .i64 0, .int .i64 0, .int .i64 0])] w3) := Lib.hid (by first | with_reducible exact M1.out.below hb3 | with_reducible exact (M1.out.alloc _).below hb3)
       have N2 : Hid (Row w3 w1.heap.size 24 (q4 a0 a1 a2 a3)) := Lib.hid (by first | with_reducible exact N1.out.below hb3 N1.out.lt | with_reducible exact (N1.out.alloc _).below hb3 (N1.out.alloc _).lt)
       try (have O2' := by with_reducible exact Row.kept hb3
            have O2 := Lib.hid O2'
            clear O2')
       try (have O2 := Lib.hid (O1.out.below hb3 O1.out.lt))
       try (have oc0 := O2.out.cell 0
            have oc1 := O2.out.cell 1
            have oc2 := O2.out.cell 2
            have oc3 := O2.out.cell 3
            have of0 := O2.out.free 0
            have of1 := O2.out.free 1
            have of2 := O2.out.free 2
            have of3 := O2.out.free 3)
       have l2 := N2.out.lt
       have l3 := M2.out.r2.lt
       clear hb3))
  all_goals clear HA HB HC
  all_goals first
    | (clear O1
       have RX := Lib.hid (O2.out.fill4 (.int .i64 r0) (.int .i64 r1) (.int .i64 r2) (.int .i64 r3))
       have LX : w.heap.size + 2 < w1.heap.size + 1 := by omega
       have SX := Lib.hid (M2.out.far4 (a := .int .i64 r0) (b := .int .i64 r1) (c := .int .i64 r2) (d := .int .i64 r3) (C := w1.heap.size + 1) (by simp; omega))
       clear M2 N2 M1 N1 MA NA MZ NZ OZ O2 oc0 oc1 oc2 oc3 of0 of1 of2 of3 l1 l2 l3
       revert RX SX LX
       generalize World.setCell (World.setCell (World.setCell (World.setCell w3 _ _) _ _) _ _) _ _ = wf
       generalize w1.heap.size + 1 = C)
    | (have RX := Lib.hid (O2.out.fill4 (.int .i64 r0) (.int .i64 r1) (.int .i64 r2) (.int .i64 r3))
       have LX : w.heap.size + 2 < w2.heap.size := by omega
       have SX := Lib.hid (M2.out.far4 (a := .int .i64 r0) (b := .int .i64 r1) (c := .int .i64 r2) (d := .int .i64 r3) (C := w2.heap.size) (by simp; omega))
       clear M2 N2 M1 N1 MA NA MZ NZ OZ O2 oc0 oc1 oc2 oc3 of0 of1 of2 of3 l1 l2 l3
       revert RX SX LX
       generalize World.setCell (World.setCell (World.setCell (World.setCell w3 _ _) _ _) _ _) _ _ = wf
       generalize w2.heap.size = C)
    | (have RX := Lib.hid (Row.new w3 24 #[.int .i64 r0, .int .i64 r1, .int .i64 r2, .int .i64 r3])
       have LX : w.heap.size + 2 < w3.heap.size := l3
       have SX := Lib.hid (M2.out.alloc (.cells #[.int .i64 r0, .int .i64 r1, .int .i64 r2, .int .i64 r3] 24))
       clear M2 N2 M1 N1 MA NA MZ NZ OZ l1 l2 l3
       revert RX SX LX
       generalize World.alloc w3 _ = wf
       generalize w3.heap.size = C)
  all_goals
    intro RX LX SX
    have c1 := RX.out.cell 1
    have c2 := RX.out.cell 2
    have c3 := RX.out.cell 3
    have d0 := SX.out.r2.cell 0
    have d1 := SX.out.r2.cell 1
    have d2 := SX.out.r2.cell 2
    have e0 := SX.out.r2.free 0
    have e1 := SX.out.r2.free 1
    have e2 := SX.out.r2.free 2
    cases fa
    all_goals go_wp2
  all_goals
    have R := ((SX.out.r2.set 0 (.int .i64 r1)).set 1 (.int .i64 r2)).set 2 (.int .i64 r3)
    have HB := ((SX.out.be.setCell (p := ⟨w.heap.size + 1 + 1, 0, none⟩) (by simp; omega) (.int .i64 r1)).setCell (p := ⟨w.heap.size + 1 + 1, 1, none⟩) (by simp; omega) (.int .i64 r2)).setCell (p := ⟨w.heap.size + 1 + 1, 2, none⟩) (by simp; omega) (.int .i64 r3)
    clear SX RX c1 c2 c3 d0 d1 d2 e0 e1 e2
    revert R HB
    generalize World.setCell (World.setCell (World.setCell wf _ _) _ _) _ _ = wg
    intro R HB
    refine bodyPost_ret (v := .tuple #[.agg #[.int .i64 r1, .int .i64 r2, .int .i64 r3], .bool _]) ?_ rfl ⟨rfl, HB⟩
    have x0 := R.cell 0
    have x1 := R.cell 1
    have x2 := R.cell 2
    simp at x0 x1 x2
    simp [results, Try.f12, Try.results12, go_sem, x0, x1, x2]
theorem qturn_calls (a b c d x y z : Int) (w : World) :
    Calls Try.prog 12 #[.agg #[.int .i64 a, .int .i64 b, .int .i64 c, .int .i64 d], .agg #[.int .i64 x, .int .i64 y, .int .i64 z]] w fun e w' =>
      e = .returned (.tuple #[.agg #[.int .i64 (turnV (at4 a b c d) (at4 0 x y z) 1), .int .i64 (turnV (at4 a b c d) (at4 0 x y z) 2), .int .i64 (turnV (at4 a b c d) (at4 0 x y z) 3)],
        .bool (turnO (at4 a b c d) (at4 0 x y z))]) ∧ Below w.heap.size w w' :=
  qturn_var a b c d x y z _ _ _ _ _ _ _ (turnV (at4 a b c d) (at4 0 x y z) 0) _ _ _ _ _ (fun w => mul_var _ _ _ _ _ _ _ _ _ _ _ _ _ _ _ rfl rfl rfl rfl rfl rfl rfl w) (fun w => conj_var _ _ _ _ _ _ _ rfl rfl rfl w)
    (fun w => mul_var _ _ _ _ _ _ _ _ _ _ _ _ _ (comp (at4 a b c d) (at4 0 x y z)) (cj (at4 a b c d)) (by funext k; rcases k with _ | _ | _ | k <;> rfl) rfl rfl rfl rfl rfl rfl w) w
end Go.Proofs.Ytmjncjaalleblaa.PQ
