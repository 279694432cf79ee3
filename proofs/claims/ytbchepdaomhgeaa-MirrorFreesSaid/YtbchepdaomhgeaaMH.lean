import Derived.Test.YtbchepdaomhgeaaMG
import Derived.ChangeKeysEq
import Derived.Laws.StructEq
/- Layer 14: outputs that are held against one another; the document's example. -/
namespace Go.Proofs.Ytbchepdaomhgeaa.MM
open Go.RowKit
set_option linter.unusedVariables false
set_option linter.unusedSimpArgs false
theorem part31 (xs : Array Value) (k : Nat) (x : Int) (h : xs[k]? = some (I x)) (w : World) : (part 31 xs k).run Try.prog w = .ok (I x) w := by
  simp [part, go_sem, h]
theorem items_cons (d : Nat) (a e : Int) (xs ys : Array Value) (k : Nat) (hx : xs[k]? = some (I a)) (hy : ys[k]? = some (I e)) (ks : List Nat) (r : Bool) (w : World)
    (h : (Op.eqItems (d + 1) 31 1 xs ys ks).run Try.prog w = .ok r w) : (Op.eqItems (d + 1) 31 1 xs ys (k :: ks)).run Try.prog w = .ok ((a == e) && r) w := by
  have p1 := part31 xs (k * 1) a (by simpa using hx) w
  have p2 := part31 ys (k * 1) e (by simpa using hy) w
  have p3 := run_equalIn_int w (P := Try.prog) d 31 .i64 .i64 a e rfl
  simp only [Op.eqItems, Sem.run_bind, p1, p2, p3, Result.andThen_ok]
  cases hr : (a == e)
  · simp
  · simpa using h
theorem eq33 (d : Nat) (a b c e f g : Int) (w : World) :
    (Op.equalIn (d + 1 + 1) 33 (.agg #[I a, I b, I c]) (.agg #[I e, I f, I g])).run Try.prog w = .ok ((a == e) && ((b == f) && ((c == g) && true))) w := by
  rw [run_equalIn_array (P := Try.prog) (w := w) (d + 1) (e := 31) (n := 3) (i := _) _ _ rfl rfl]
  exact items_cons d _ _ _ _ 0 rfl rfl _ _ w (items_cons d _ _ _ _ 1 rfl rfl _ _ w (items_cons d _ _ _ _ 2 rfl rfl _ _ w (by simp [Op.eqItems])))
def Ot.eqb (x y : Ot) : Bool := (x.k == y.k) && ((x.a == y.a) && ((x.b == y.b) && ((x.c == y.c) && true)))
theorem Ot.eqb_iff (x y : Ot) : x.eqb y = decide (x = y) := by
  obtain ⟨k, a, b, c⟩ := x
  obtain ⟨k', a', b', c'⟩ := y
  by_cases h : (⟨k, a, b, c⟩ : Ot) = ⟨k', a', b', c'⟩
  · injection h with h1 h2 h3 h4; subst h1 h2 h3 h4; simp [Ot.eqb]
  · rw [decide_eq_false h]
    cases he : Ot.eqb ⟨k, a, b, c⟩ ⟨k', a', b', c'⟩
    · rfl
    · simp [Ot.eqb] at he
      obtain ⟨rfl, rfl, rfl, rfl⟩ := he
      exact absurd rfl h
theorem eq37 (x y : Ot) (w : World) : (Op.equalIn 10000 37 x.val y.val).run Try.prog w = .ok (x.eqb y) w := by
  obtain ⟨k, a, b, c⟩ := x
  obtain ⟨k', a', b', c'⟩ := y
  rw [run_equalIn_struct (P := Try.prog) w 9999 37 _ _ (by kernel_rfl) (by kernel_rfl)]
  have hf : (Try.prog.fieldsOf 37).toList = [(Try.prog.fieldsOf 37)[0]!, (Try.prog.fieldsOf 37)[1]!] := by kernel_rfl
  have p0 : (part (Try.prog.fieldsOf 37)[0]!.type #[I k, I a, I b, I c] (Try.prog.fieldsOf 37)[0]!.offset).run Try.prog w = .ok (I k) w := by kernel_rfl
  have p0' : (part (Try.prog.fieldsOf 37)[0]!.type #[I k', I a', I b', I c'] (Try.prog.fieldsOf 37)[0]!.offset).run Try.prog w = .ok (I k') w := by kernel_rfl
  have p1 : (part (Try.prog.fieldsOf 37)[1]!.type #[I k, I a, I b, I c] (Try.prog.fieldsOf 37)[1]!.offset).run Try.prog w = .ok (.agg #[I a, I b, I c]) w := by kernel_rfl
  have p1' : (part (Try.prog.fieldsOf 37)[1]!.type #[I k', I a', I b', I c'] (Try.prog.fieldsOf 37)[1]!.offset).run Try.prog w = .ok (.agg #[I a', I b', I c']) w := by kernel_rfl
  have n0 : (Try.prog.fieldsOf 37)[0]!.name ≠ "_" := by decide +kernel
  have n1 : (Try.prog.fieldsOf 37)[1]!.name ≠ "_" := by decide +kernel
  have t0 : (Try.prog.fieldsOf 37)[0]!.type = 2 := by kernel_rfl
  have t1 : (Try.prog.fieldsOf 37)[1]!.type = 33 := by kernel_rfl
  have e3 : (Op.equalIn 9999 33 (.agg #[I a, I b, I c]) (.agg #[I a', I b', I c'])).run Try.prog w = .ok ((a == a') && ((b == b') && ((c == c') && true))) w := eq33 9997 a b c a' b' c' w
  have e2 : (Op.equalIn 9999 2 (I k) (I k')).run Try.prog w = .ok (k == k') w := run_equalIn_int w (P := Try.prog) 9998 2 .i64 .i64 k k' rfl
  rw [t0] at p0 p0'
  rw [t1] at p1 p1'
  rw [hf]
  simp only [Op.eqFields, if_pos n0, if_pos n1, t0, t1, Sem.run_bind, p0, p0', e2, Result.andThen_ok, Ot.eqb]
  cases hr : (k == k')
  · simp
  · simp only [Bool.not_true, Bool.false_eq_true, if_false, Sem.run_bind, p1, p1', e3, Result.andThen_ok, Bool.true_and]
    generalize ((a == a') && ((b == b') && ((c == c') && true))) = z
    cases z <;> simp
theorem Sl.alloc {w : World} {v : Value} {l : List Ot} (h : Sl w v l) (o : Obj) : Sl (w.alloc o) v l := h.below ((Below.refl _ _).alloc (Nat.le_refl _) o)
theorem known_in {n : Int} (h0 : 0 ≤ n) (h1 : n ≤ 4611686018427387904) : known n = n := by simp [known, inB, h0, h1]
set_option maxRecDepth 100000 in
set_option maxHeartbeats 4000000 in
theorem shown_calls (w : World) : Calls Try.prog 10 #[] w fun e w' => e = .returned (.bool true) ∧ Below w.heap.size w w' := by
  have e37 := fun w => eq37 ⟨1, 3, 0, 0⟩ ⟨1, 3, 0, 0⟩ w
  go_enter Try.func10, Try.ntmps10
  go_wp2_with fail
  refine (new_calls 1 0 _).mono ?_
  rw [known_in (n := 1) (by omega) (by omega), known_in (n := 0) (by omega) (by omega)]
  rintro e w1 ⟨rfl, hb⟩
  have HB := Lib.hid hb
  clear hb
  go_wp2_with fail
  refine (add_calls ⟨1, 0, 0, -1, 0, 0⟩ (.slice none 0 0) [] 3 0 0 _ ⟨none, 0, rfl, by simp, fun _ => rfl, Wts.nil _ _ _⟩ (by simp) (by simp) (by simp)).mono ?_
  rintro e w2 ⟨s', rfl, hs, _, hb⟩
  have HB2 := Lib.hid (HB.out.trans (hb.mono HB.out.size))
  have HS : Hid (Sl w2 s' [⟨1, 3, 0, 0⟩]) := Lib.hid hs
  obtain ⟨A1, c1, rfl, _, _, _⟩ := HS.out
  clear hb hs HB
  go_wp2_with fail
  have HB3 := Lib.hid (HB2.out.alloc HB2.out.size (.cells (Dk.row ⟨1, 1, 0, -1, 0, 0⟩ (.slice A1 1 c1)) 26))
  refine (free_calls ⟨1, 1, 0, -1, 0, 0⟩ (.slice A1 1 c1) [⟨1, 3, 0, 0⟩] _ (HS.out.alloc _) (by simp)).mono ?_
  rintro e w3 ⟨s2, v, rfl, hs2, hv, hb⟩
  have HB4 := Lib.hid (HB3.out.trans (hb.mono HB3.out.size))
  have HS2 : Hid (Sl w3 s2 []) := Lib.hid hs2
  have HV : Hid (Sl w3 v [⟨1, 3, 0, 0⟩]) := Lib.hid hv
  have lw := Lib.hid (show w3.heap.size ≥ w2.heap.size + 1 by have := hb.size; simp at this; omega)
  clear hs2 hv hb HB2 HB3 HS
  obtain ⟨A2, c2, rfl, _, _, _⟩ := HS2.out
  obtain ⟨A3, c3, rfl, _, _, hw3⟩ := HV.out
  obtain ⟨b, off, rfl, hb3, hc3⟩ := hw3 (by simp)
  obtain ⟨x0, x1, x2, x3⟩ := hc3 0 _ rfl
  clear hc3 hw3
  simp only [Nat.zero_mul, Nat.add_zero] at x0 x1 x2 x3
  go_wp2_with fail
  have hr : Dk.right ⟨1, 1, 0, -1, 0, 0⟩ [] = true := by decide
  have HB5 := Lib.hid (HB4.out.alloc HB4.out.size (.cells (Dk.row ⟨1, 1, 0, -1, 0, 0⟩ (.slice A2 0 c2)) 26))
  refine (right_calls ⟨1, 1, 0, -1, 0, 0⟩ (.slice A2 0 c2) [] _ (HS2.out.alloc _)).mono ?_
  rw [hr]
  rintro e w4 ⟨rfl, hb⟩
  have HB6 := Lib.hid (HB5.out.trans (hb.mono HB5.out.size))
  clear hb HB5 HB4 HV HS2
  go_wp2
  go_ret
  exact ⟨rfl, HB6.out⟩
end Go.Proofs.Ytbchepdaomhgeaa.MM
