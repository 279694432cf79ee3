import Derived.Test.YtnijhjbcjeohhaaV9
import Derived.Test.YtnijhjbcjeohhaaV8
import Derived.Test.YtnijhjbcjeohhaaV5
import Derived.Maps.AppendAt
/- Joined and thinned by a program of this session's own (wip/pack2.py) out of its texts (wip/ of its repo); parts were laid by its own program (wip/print-patch.py over the kit's print) out of the translation; Lean checks all. -/
set_option maxRecDepth 100000
set_option maxHeartbeats 8000000
namespace Go.Proofs.Ytnijhjbcjeohhaa.PQ
set_option linter.unusedVariables false
set_option linter.unusedSimpArgs false
theorem VK {X : Int} (h0 : 0 ≤ X) (h1 : X ≤ 73786976294838206464) : 0 ≤ lw X ∧ lw X ≤ 4398046511104 ∧ lw X * 16777216 - X ≤ 8388608 ∧ -8388608 ≤ lw X * 16777216 - X := by
 unfold lw
 simp only []
 repeat' split
 all_goals omega
theorem GH {l : Int} {s : Bool} (h0 : 0 ≤ l) (h1 : l ≤ 4398046511104) : sg 0 l s = (if s = true then -l else l, false) := by
 unfold sg
 rw [if_pos rfl, if_neg (by omega)]
 cases s
 · simp only [Bool.false_eq_true, if_false]
   rw [qj (by omega) (by omega), uS (by omega) (by omega)]
 · simp only [if_true]
   rw [qj (by omega) (by omega), uS (by omega) (by omega)]
theorem VJ {N y : Int} (h0 : 0 ≤ N) (h1 : N ≤ 1152921504606846976) (hy : 0 < y) : 0 ≤ rn N y ∧ rn N y ≤ N / y + 1 ∧ (N - rn N y * y) * 2 ≤ y ∧ -y ≤ (N - rn N y * y) * 2 := by
 have e := Int.ediv_mul_add_emod N y
 have r0 := Int.emod_nonneg N (show y ≠ 0 by omega)
 have r1 := Int.emod_lt_of_pos N hy
 have q0 : 0 ≤ N / y := Int.ediv_nonneg h0 (by omega)
 have q1 := Int.ediv_le_self (a := N) y h0
 have hw : (N / y + 1) % 18446744073709551616 = N / y + 1 := by omega
 unfold rn
 rw [hw]
 have hm : (N / y + 1) * y = N / y * y + y := by rw [Int.add_mul]; omega
 repeat' split
 all_goals (try rw [hm])
 all_goals omega
theorem PW (a b : Int) : sz a * sz b = if ((decide (a < 0)) != (decide (b < 0))) = true then -(a * b) else a * b := by
 unfold sz
 by_cases ha : a < 0 <;> by_cases hb : b < 0 <;> simp [ha, hb, Int.neg_mul, Int.mul_neg]
theorem qc {a b : Int} (ha : nP a) (hb : nP b) (h : sz a * sz b ≤ 73786976294838206464) :
 pG a b = false ∧ -8388608 ≤ jB a b * 16777216 - a * b ∧ jB a b * 16777216 - a * b ≤ 8388608 ∧ -4398046511104 ≤ jB a b ∧ jB a b ≤ 4398046511104 := by
 have h0 : 0 ≤ sz a * sz b := Int.mul_nonneg (Nl a) (Nl b)
 have hn := VK h0 h
 have hms := PW a b
 have e : mulR a b = (if ((decide (a < 0)) != (decide (b < 0))) = true then -lw (sz a * sz b) else lw (sz a * sz b), false) := by
  unfold mulR
  rw [qj ha.1 ha.2, qj hb.1 hb.2, uS ha.1 ha.2, uS hb.1 hb.2, show sz a * sz b / 309485009821345068724781056 = 0 by omega, GH hn.1 hn.2.1]
  rfl
 unfold pG jB
 rw [e]
 generalize lw (sz a * sz b) = L at *
 generalize sz a * sz b = X at *
 generalize a * b = Y at *
 refine ⟨rfl, ?_⟩
 by_cases hs : ((decide (a < 0)) != (decide (b < 0))) = true
 · rw [if_pos hs] at hms
   rw [if_pos hs]
   dsimp only
   omega
 · rw [if_neg hs] at hms
   rw [if_neg hs]
   dsimp only
   omega
theorem xg {a R : Int} (hR : 4194296 ≤ R) (hR1 : R ≤ 34359738368) (ha : -(R + 6) < a) (ha' : a < R + 6) :
 divO a R = false ∧ -R ≤ 2 * (divV a R * R - a * 16777216) ∧ 2 * (divV a R * R - a * 16777216) ≤ R ∧ -33554432 ≤ divV a R ∧ divV a R ≤ 33554432 := by
 have hca : cl a = a := qj (by omega) (by omega)
 have hcb : cl R = R := qj (by omega) (by omega)
 have hoa : od a = false := uS (by omega) (by omega)
 have hob : od R = false := uS (by omega) (by omega)
 have sR : sz R = R := by unfold sz; rw [if_neg (by omega)]
 have sa : 0 ≤ sz a ∧ sz a < R + 6 := by unfold sz; split <;> omega
 have hn := VJ (N := sz a * 16777216) (y := R) (by omega) (by omega) (by omega)
 have hq : sz a * 16777216 / R ≤ 33554431 := by
  have : sz a * 16777216 < (33554432 : Int) * R := by omega
  have := Int.ediv_lt_of_lt_mul (a := sz a * 16777216) (b := 33554432) (c := R) (by omega) this
  omega
 have e : yF a R = (if ((decide (a < 0)) != (decide (R < 0))) = true then -rn (sz a * 16777216) R else rn (sz a * 16777216) R, false) := by
  unfold yF
  rw [hca, hcb, hoa, hob, if_neg (by omega), sR, if_neg (by omega), GH hn.1 (by omega)]
  rfl
 unfold divO divV
 rw [e]
 refine ⟨rfl, ?_⟩
 have hRs : decide (R < 0) = false := decide_eq_false (by omega)
 rw [hRs]
 generalize hr : rn (sz a * 16777216) R = r at *
 by_cases h : a < 0
 · have hsa : sz a = -a := by unfold sz; rw [if_pos h]
   rw [hsa] at hn hq
   have hs : ((decide (a < 0)) != false) = true := by simp [h]
   rw [if_pos hs]
   dsimp only
   rw [Int.neg_mul]
   omega
 · have hsa : sz a = a := by unfold sz; rw [if_neg h]
   rw [hsa] at hn hq
   have hs : ¬ ((decide (a < 0)) != false) = true := by simp [h]
   rw [if_neg hs]
   dsimp only
   omega
end Go.Proofs.Ytnijhjbcjeohhaa.PQ

namespace Go.Proofs.Ytnijhjbcjeohhaa.PQ
open Go.RowKit Go.Proofs.af.aO Go.Proofs.af.aU Go.Proofs.af.aV
set_option linter.unusedVariables false
set_option linter.unusedSimpArgs false
abbrev b4 (a b c d : Int) : Array Value := #[.int .i8 a, .int .i8 b, .int .i8 c, .int .i8 d]
def w8 (m : Int) (p : Nat → Int) (k : Nat) : Int := Int.tmod (p k) m * 16777216
abbrev KG (a b c d n : Int) (o : Bool) : Prop := ∀ w, Calls Try.prog 91 #[.agg #[.int .i64 a, .int .i64 b, .int .i64 c, .int .i64 d]] w fun x w' =>
 x = .returned (.tuple #[.int .i64 n, .bool o]) ∧ Below w.heap.size w w'
theorem Et (a b c d : Int) : KG a b c d (nZ (at4 a b c d)) (sJ (at4 a b c d)) := fun w => JD (at4 a b c d) w
end Go.Proofs.Ytnijhjbcjeohhaa.PQ

namespace Go.Proofs.Ytnijhjbcjeohhaa.PQ
open Go.RowKit Go.Proofs.af.aO Go.Proofs.af.aU Go.Proofs.af.aV
set_option linter.unusedVariables false
set_option linter.unusedSimpArgs false
def NS (p u : Nat → Int) : Nat → Array Value
 | 0 => #[.int .i64 (p 0), .int .i64 (p 1), .int .i64 (p 2), .int .i64 (p 3)]
 | k + 1 => (NS p u k).setIfInBounds k (.int .i64 (u k))
def Ld (f : Bool) (o : Nat → Bool) : Nat → Bool
 | 0 => f
 | k + 1 => Ld f o k || o k
theorem Dc (p u : Nat → Int) (o : Nat → Bool) (n R : Int) (no so : Bool) (hN : KG (p 0) (p 1) (p 2) (p 3) n no) (hS : ∀ w, Calls Try.prog 92 #[.int .i64 n] w (Both w R so)) (hR : R ≠ 0)
 (hD : ∀ k, k < 4 → ∀ w, Calls Try.prog 93 #[.int .i64 (p k), .int .i64 R] w (Both w (u k) (o k))) (w : World) :
 Calls Try.prog 62 #[.agg #[.int .i64 (p 0), .int .i64 (p 1), .int .i64 (p 2), .int .i64 (p 3)]] w fun e w' =>
  e = .returned (.tuple #[.agg #[.int .i64 (u 0), .int .i64 (u 1), .int .i64 (u 2), .int .i64 (u 3)], .bool (Ld ((false || no) || so) o 4)]) ∧ Below w.heap.size w w' := by
 have HN := Lib.hid hN
 have HS := Lib.hid hS
 have HD := Lib.hid hD
 have hR' : (R == 0) = false := by simpa using hR
 clear hN hS hD hR
 go_enter Try.func62, Try.ntmps62
 go_wp2_with fail
 refine (HN.out _).mono ?_
 rintro e w1 ⟨rfl, hb⟩
 have M : Hid (aX w [(28, #[.int .i64 (p 0), .int .i64 (p 1), .int .i64 (p 2), .int .i64 (p 3)]), (28, q4 0 0 0 0), (136, #[.bool false])] w1) := Lib.hid (((((aX.none w).push (by simp) _ _).push (by simp) _ _).push (by simp) _ _).below hb)
 clear hb
 go_wp2_with fail
 refine (dK _ _ _ _ _ M.out.r2).mono ?_
 rintro e w2 ⟨rfl, hg, hf⟩
 have M2 : Hid (aX w [(28, #[.int .i64 (p 0), .int .i64 (p 1), .int .i64 (p 2), .int .i64 (p 3)]), (28, q4 0 0 0 0), (136, #[.bool (false || no)])] w2) := Lib.hid (M.out.grown 2 _ _ hg hf)
 clear hg hf M
 go_wp2_with fail
 refine (HS.out _).mono ?_
 rintro e w3 ⟨rfl, hb⟩
 have M3 := Lib.hid (M2.out.below hb)
 clear hb M2
 go_wp2_with fail
 refine (dK _ _ _ _ _ M3.out.r2).mono ?_
 rintro e w4 ⟨rfl, hg, hf⟩
 have M4 : Hid (aX w [(28, #[.int .i64 (p 0), .int .i64 (p 1), .int .i64 (p 2), .int .i64 (p 3)]), (28, q4 0 0 0 0), (136, #[.bool ((false || no) || so)])] w4) := Lib.hid (M3.out.grown 2 _ _ hg hf)
 clear hg hf M3
 have ca := M4.out.r0.cell
 go_wp2_with fail
 clear ca
 go_loopw [22] (fun i wr => ∃ k : Nat, k ≤ 4 ∧ i = .int .i64 k ∧ Hid (aX w [(28, NS p u k), (28, q4 0 0 0 0), (136, #[.bool (Ld ((false || no) || so) o k)])] wr)) (fun i _ => 4 - (intOf i).toNat)
 case atStart => exact ⟨0, by omega, rfl, M4⟩
 case round =>
  clear M4
  obtain ⟨k, hk, rfl, M⟩ := hrel
  obtain rfl | rfl | rfl | rfl | rfl : k = 0 ∨ k = 1 ∨ k = 2 ∨ k = 3 ∨ k = 4 := by omega
  · have ix : ∀ w', (Instr.index 28 (.agg #[.int .i64 (p 0), .int .i64 (p 1), .int .i64 (p 2), .int .i64 (p 3)]) (.int .i64 0)).run Try.prog w' = .ok (.int .i64 (p 0)) w' := fun w' => by kernel_rfl
    go_wp2_with fail
    refine (HD.out 0 (by omega) _).mono ?_
    rintro e wa ⟨rfl, hb⟩
    have MA := Lib.hid (M.out.below hb)
    clear hb M ix
    go_wp2_with fail
    refine (dK _ _ _ _ _ MA.out.r2).mono ?_
    rintro e wb ⟨rfl, hg, hf⟩
    have MB : Hid (aX w [(28, NS p u 0), (28, q4 0 0 0 0), (136, #[.bool (Ld ((false || no) || so) o 0 || o 0)])] wb) := Lib.hid (MA.out.grown 2 _ _ hg hf)
    clear hg hf MA
    have co := MB.out.r0.cell 0
    have fo := MB.out.r0.free 0
    go_wp2
    go_roundw
    case rel => exact ⟨0 + 1, by omega, by go_num, Lib.hid (MB.out.put 0 28 _ MB.out.r0 0 (.int .i64 (u 0)))⟩
    case measure => simp [intOf]
  · have ix : ∀ w', (Instr.index 28 (.agg #[.int .i64 (p 0), .int .i64 (p 1), .int .i64 (p 2), .int .i64 (p 3)]) (.int .i64 1)).run Try.prog w' = .ok (.int .i64 (p 1)) w' := fun w' => by kernel_rfl
    go_wp2_with fail
    refine (HD.out 1 (by omega) _).mono ?_
    rintro e wa ⟨rfl, hb⟩
    have MA := Lib.hid (M.out.below hb)
    clear hb M ix
    go_wp2_with fail
    refine (dK _ _ _ _ _ MA.out.r2).mono ?_
    rintro e wb ⟨rfl, hg, hf⟩
    have MB : Hid (aX w [(28, NS p u 1), (28, q4 0 0 0 0), (136, #[.bool (Ld ((false || no) || so) o 1 || o 1)])] wb) := Lib.hid (MA.out.grown 2 _ _ hg hf)
    clear hg hf MA
    have co := MB.out.r0.cell 1
    have fo := MB.out.r0.free 1
    go_wp2
    go_roundw
    case rel => exact ⟨1 + 1, by omega, by go_num, Lib.hid (MB.out.put 0 28 _ MB.out.r0 1 (.int .i64 (u 1)))⟩
    case measure => simp [intOf]
  · have ix : ∀ w', (Instr.index 28 (.agg #[.int .i64 (p 0), .int .i64 (p 1), .int .i64 (p 2), .int .i64 (p 3)]) (.int .i64 2)).run Try.prog w' = .ok (.int .i64 (p 2)) w' := fun w' => by kernel_rfl
    go_wp2_with fail
    refine (HD.out 2 (by omega) _).mono ?_
    rintro e wa ⟨rfl, hb⟩
    have MA := Lib.hid (M.out.below hb)
    clear hb M ix
    go_wp2_with fail
    refine (dK _ _ _ _ _ MA.out.r2).mono ?_
    rintro e wb ⟨rfl, hg, hf⟩
    have MB : Hid (aX w [(28, NS p u 2), (28, q4 0 0 0 0), (136, #[.bool (Ld ((false || no) || so) o 2 || o 2)])] wb) := Lib.hid (MA.out.grown 2 _ _ hg hf)
    clear hg hf MA
    have co := MB.out.r0.cell 2
    have fo := MB.out.r0.free 2
    go_wp2
    go_roundw
    case rel => exact ⟨2 + 1, by omega, by go_num, Lib.hid (MB.out.put 0 28 _ MB.out.r0 2 (.int .i64 (u 2)))⟩
    case measure => simp [intOf]
  · have ix : ∀ w', (Instr.index 28 (.agg #[.int .i64 (p 0), .int .i64 (p 1), .int .i64 (p 2), .int .i64 (p 3)]) (.int .i64 3)).run Try.prog w' = .ok (.int .i64 (p 3)) w' := fun w' => by kernel_rfl
    go_wp2_with fail
    refine (HD.out 3 (by omega) _).mono ?_
    rintro e wa ⟨rfl, hb⟩
    have MA := Lib.hid (M.out.below hb)
    clear hb M ix
    go_wp2_with fail
    refine (dK _ _ _ _ _ MA.out.r2).mono ?_
    rintro e wb ⟨rfl, hg, hf⟩
    have MB : Hid (aX w [(28, NS p u 3), (28, q4 0 0 0 0), (136, #[.bool (Ld ((false || no) || so) o 3 || o 3)])] wb) := Lib.hid (MA.out.grown 2 _ _ hg hf)
    clear hg hf MA
    have co := MB.out.r0.cell 3
    have fo := MB.out.r0.free 3
    go_wp2
    go_roundw
    case rel => exact ⟨3 + 1, by omega, by go_num, Lib.hid (MB.out.put 0 28 _ MB.out.r0 3 (.int .i64 (u 3)))⟩
    case measure => simp [intOf]
  · have M5 : Hid (aX w [(28, q4 (u 0) (u 1) (u 2) (u 3)), (28, q4 0 0 0 0), (136, #[.bool (Ld ((false || no) || so) o 4)])] wr) := Lib.hid M.out
    clear M HN HS HD
    revert M5
    generalize hff : Ld ((false || no) || so) o 4 = ff
    intro M5
    have ca := M5.out.r0.cell
    have cf := M5.out.r2.cell 0
    have cb := M5.out.r1.cell
    have fb := M5.out.r1.free
    have nx : w.heap.size + 1 ≠ w.heap.size := by omega
    have ny : w.heap.size + 1 ≠ w.heap.size + 1 + 1 := by omega
    have MD := Lib.hid M5.out.drew
    go_wp2
    go_region_held3 (fun w' => (∀ o, w'.cell? ⟨w.heap.size, o, none⟩ = (q4 (u 0) (u 1) (u 2) (u 3))[o]?) ∧ w'.cell? ⟨w.heap.size + 1 + 1, 0, none⟩ = some (.bool ff))
     (first | with_reducible exact ⟨MD.out.r0.cell, MD.out.r2.cell 0⟩ | with_reducible exact ⟨(MD.out.r0.oK (by omega)).cell, (MD.out.r2.oK (by omega)).cell 0⟩ | go_keep) (fail)
    all_goals go_wp2
    all_goals
     have R := (M5.out.r1.iU (.int .i64 (u 0)) (.int .i64 (u 1)) (.int .i64 (u 2)) (.int .i64 (u 3))).drew
     have HB := (Below.iU (B := w.heap.size + 1) M5.out.be (by omega) (.int .i64 (u 0)) (.int .i64 (u 1)) (.int .i64 (u 2)) (.int .i64 (u 3))).drew
     clear M5 MD ca cf cb fb nx ny
     revert R HB
     generalize World.drew _ = wf
     intro R HB
     refine bodyPost_ret (v := .tuple #[.agg #[.int .i64 (u 0), .int .i64 (u 1), .int .i64 (u 2), .int .i64 (u 3)], .bool ff]) ?_ rfl ⟨by rw [hff], HB⟩
     have r0 := R.cell 0
     have r1 := R.cell 1
     have r2 := R.cell 2
     have r3 := R.cell 3
     simp at r0 r1 r2 r3
     simp [results, Try.f62, Try.results62, go_sem, r0, r1, r2, r3]
theorem Na (p : Nat → Int) (n : Int) (no so : Bool) (hN : KG (p 0) (p 1) (p 2) (p 3) n no) (hS : ∀ w, Calls Try.prog 92 #[.int .i64 n] w (Both w 0 so)) (w : World) :
 Calls Try.prog 62 #[.agg #[.int .i64 (p 0), .int .i64 (p 1), .int .i64 (p 2), .int .i64 (p 3)]] w fun e w' =>
  e = .returned (.tuple #[.agg #[.int .i64 16777216, .int .i64 0, .int .i64 0, .int .i64 0], .bool true]) ∧ Below w.heap.size w w' := by
 have HN := Lib.hid hN
 have HS := Lib.hid hS
 clear hN hS
 go_enter Try.func62, Try.ntmps62
 go_wp2_with fail
 refine (HN.out _).mono ?_
 rintro e w1 ⟨rfl, hb⟩
 have M : Hid (aX w [(28, #[.int .i64 (p 0), .int .i64 (p 1), .int .i64 (p 2), .int .i64 (p 3)]), (28, q4 0 0 0 0), (136, #[.bool false])] w1) := Lib.hid (((((aX.none w).push (by simp) _ _).push (by simp) _ _).push (by simp) _ _).below hb)
 clear hb
 go_wp2_with fail
 refine (dK _ _ _ _ _ M.out.r2).mono ?_
 rintro e w2 ⟨rfl, hg, hf⟩
 have M2 : Hid (aX w [(28, #[.int .i64 (p 0), .int .i64 (p 1), .int .i64 (p 2), .int .i64 (p 3)]), (28, q4 0 0 0 0), (136, #[.bool (false || no)])] w2) := Lib.hid (M.out.grown 2 _ _ hg hf)
 clear hg hf M
 go_wp2_with fail
 refine (HS.out _).mono ?_
 rintro e w3 ⟨rfl, hb⟩
 have M3 := Lib.hid (M2.out.below hb)
 clear hb M2
 go_wp2_with fail
 refine (dK _ _ _ _ _ M3.out.r2).mono ?_
 rintro e w4 ⟨rfl, hg, hf⟩
 have M4 : Hid (aX w [(28, #[.int .i64 (p 0), .int .i64 (p 1), .int .i64 (p 2), .int .i64 (p 3)]), (28, q4 0 0 0 0), (136, #[.bool ((false || no) || so)])] w4) := Lib.hid (M3.out.grown 2 _ _ hg hf)
 clear hg hf M3
 have cb := M4.out.r1.cell
 have fb := M4.out.r1.free
 go_wp2
 have R := M4.out.r1.iU (.int .i64 16777216) (.int .i64 0) (.int .i64 0) (.int .i64 0)
 have HB := Below.iU (B := w.heap.size + 1) M4.out.be (by omega) (.int .i64 16777216) (.int .i64 0) (.int .i64 0) (.int .i64 0)
 clear M4 cb fb
 revert R HB
 generalize World.setCell (World.setCell (World.setCell (World.setCell w4 _ _) _ _) _ _) _ _ = wf
 intro R HB
 refine bodyPost_ret (v := .tuple #[.agg #[.int .i64 16777216, .int .i64 0, .int .i64 0, .int .i64 0], .bool true]) ?_ rfl ⟨rfl, HB⟩
 have r0 := R.cell 0
 have r1 := R.cell 1
 have r2 := R.cell 2
 have r3 := R.cell 3
 simp at r0 r1 r2 r3
 simp [results, Try.f62, Try.results62, go_sem, r0, r1, r2, r3]
end Go.Proofs.Ytnijhjbcjeohhaa.PQ

namespace Go.Proofs.Ytnijhjbcjeohhaa.PQ
open Go.RowKit Go.Proofs.af.aO Go.Proofs.af.aU Go.Proofs.af.aV
set_option linter.unusedVariables false
set_option linter.unusedSimpArgs false
abbrev Xb (a R : Int) (o : Bool) : Prop := ∀ w, Calls Try.prog 92 #[.int .i64 a] w (Both w R o)
theorem GK (a : Int) : ∃ R o, Xb a R o ∧ nP R ∧ (0 ≤ a → a ≤ 70368744177663 → 0 ≤ R ∧ R ≤ 34359738368 ∧ R * R ≤ a * 16777216 ∧ a * 16777216 < (R + 1) * (R + 1) ∧ o = false) := by
 have c0 := sZ a
 have c1 := tq a
 by_cases h : cl a < 0
 · have hf : bU.f 0 a = some (0, true) := by
    unfold bU.f
    rw [oZ]
    simp only [Option.bind_some]
    rw [if_pos h]
   refine ⟨0, true, fun w => bU.calls 0 a _ _ w hf, by decide, fun h0 h1 => ?_⟩
   rw [qj (by omega) h1] at h
   omega
 · by_cases hi : 0 ≤ a ∧ a ≤ 70368744177663
   · obtain ⟨R, hE, hR0, hR1, hR2, hR3⟩ := VB a hi.1 hi.2
     obtain ⟨k, hk⟩ := hE.rounds
     refine ⟨R, false, fun w => bU.calls k a _ _ w hk, by unfold nP; omega, fun h0 h1 => ⟨hR0, ?_, hR2, hR3, rfl⟩⟩
     rcases Int.lt_or_le R 34359738369 with hl | hl
     · omega
     · have := kD (x := R) (y := 34359738369) (by omega) hl
       omega
   · have hN : cl a / 1099511627776 * 18446744073709551616 + cl a * 16777216 % 18446744073709551616 = cl a * 16777216 := by omega
     obtain ⟨R, hE, hR0, hR1, _⟩ := Dh (od a) (cl a / 1099511627776) (cl a * 16777216 % 18446744073709551616) (by omega) (by omega) (by omega) 36 0 (by omega) (by omega) (by decide) (by decide) (by omega)
      (by rw [hN, show ((0 : Int) + 2 ^ 36) * (0 + 2 ^ 36) = 4722366482869645213696 by decide]; omega)
     obtain ⟨k, hk⟩ := hE.rounds
     have hf : bU.f k a = some (R, od a) := by
      unfold bU.f
      rw [oZ]
      simp only [Option.bind_some]
      rw [if_neg h, dD, dD, Int.emod_eq_of_lt (b := 18446744073709551616) (by omega) (by omega)]
      exact hk
     exact ⟨R, od a, fun w => bU.calls k a _ _ w hf, by unfold nP; omega, fun h0 h1 => absurd ⟨h0, h1⟩ hi⟩
end Go.Proofs.Ytnijhjbcjeohhaa.PQ

namespace Go.Proofs.Ytnijhjbcjeohhaa.PQ
open Go.RowKit
set_option linter.unusedVariables false
set_option linter.unusedSimpArgs false
theorem sgB (h l : Int) (s : Bool) : nP (sg h l s).1 := by
 have h : ∀ (x : Int) (b : Bool), nP ((cl x, b) : Int × Bool).1 := fun x _ => ⟨sZ x, tq x⟩
 unfold sg
 repeat' split
 all_goals exact h _ _
theorem TR (a b : Int) : nP (yF a b).1 := by
 unfold yF
 repeat' split
 all_goals first | exact sgB _ _ _ | (simp [nP]; done)
theorem PD {a b c d : Int} (ha : nP a) (hb : nP b) (hc : nP c) (hd : nP d) : fU (at4 a b c d) 4 = true := by
 have e : fU (at4 a b c d) 4 = ((((true && inB a) && inB b) && inB c) && inB d) := rfl
 rw [e]
 unfold nP at *
 simp [inB]
 omega
theorem Yd {x B : Int} (hB : 0 ≤ B) (h0 : -B ≤ x) (h1 : x ≤ B) : sz x * sz x ≤ B * B := by
 have : 0 ≤ sz x ∧ sz x ≤ B := by unfold sz; split <;> omega
 exact Int.mul_le_mul this.2 this.2 this.1 hB
theorem xP {a b c d : Int} (ha : -8589934592 ≤ a ∧ a ≤ 8589934592) (hb : -8589934592 ≤ b ∧ b ≤ 8589934592) (hc : -8589934592 ≤ c ∧ c ≤ 8589934592) (hd : -8589934592 ≤ d ∧ d ≤ 8589934592) :
 sJ (at4 a b c d) = false ∧ a * a + b * b + c * c + d * d - 33554432 ≤ nZ (at4 a b c d) * 16777216 ∧ nZ (at4 a b c d) * 16777216 ≤ a * a + b * b + c * c + d * d + 33554432 ∧ nZ (at4 a b c d) ≤ 70368744177663 := by
 have S : ∀ x, -8589934592 ≤ x ∧ x ≤ 8589934592 → sz x * sz x ≤ 73786976294838206464 := fun x hx => Yd (B := 8589934592) (by decide) hx.1 hx.2
 have I : ∀ x : Int, -8589934592 ≤ x ∧ x ≤ 8589934592 → nP x := fun x hx => by unfold nP; omega
 have na := qc (I a ha) (I a ha) (S a ha)
 have nb := qc (I b hb) (I b hb) (S b hb)
 have nc := qc (I c hc) (I c hc) (S c hc)
 have nd := qc (I d hd) (I d hd) (S d hd)
 have e : nZ (at4 a b c d) = rZ (at3 (jB b b) (jB c c) (jB d d)) (jB a a) 3 := rfl
 have o : sJ (at4 a b c d) = CB (at3 (jB b b) (jB c c) (jB d d)) (((((false || pG a a) || pG b b) || pG c c)) || pG d d) (jB a a) 3 := rfl
 rw [na.1, nb.1, nc.1, nd.1] at o
 generalize jB a a = x0 at *
 generalize jB b b = x1 at *
 generalize jB c c = x2 at *
 generalize jB d d = x3 at *
 have s := Np (x0 := x0) (x1 := x1) (x2 := x2) (x3 := x3) (by unfold nP; omega) (by unfold nP; omega) (by unfold nP; omega) (by unfold nP; omega) (by unfold nP; omega) (by unfold nP; omega) (by unfold nP; omega)
 rw [e, o, s.1, s.2]
 generalize a * a = A at *
 generalize b * b = B at *
 generalize c * c = C at *
 generalize d * d = D at *
 exact ⟨rfl, by omega, by omega, by omega⟩
abbrev ug (a b c d u0 u1 u2 u3 : Int) (f : Bool) : Prop := ∀ w, Calls Try.prog 62 #[.agg #[.int .i64 a, .int .i64 b, .int .i64 c, .int .i64 d]] w fun e w' =>
 e = .returned (.tuple #[.agg #[.int .i64 u0, .int .i64 u1, .int .i64 u2, .int .i64 u3], .bool f]) ∧ Below w.heap.size w w'
theorem Df (a b c d : Int) : ∃ u0 u1 u2 u3 f, ug a b c d u0 u1 u2 u3 f ∧ fU (at4 u0 u1 u2 u3) 4 = true ∧
 ((-8589934592 ≤ a ∧ a ≤ 8589934592) → (-8589934592 ≤ b ∧ b ≤ 8589934592) → (-8589934592 ≤ c ∧ c ≤ 8589934592) → (-8589934592 ≤ d ∧ d ≤ 8589934592) →
   ((4194304 ≤ a ∨ a ≤ -4194304) ∨ (4194304 ≤ b ∨ b ≤ -4194304) ∨ (4194304 ≤ c ∨ c ≤ -4194304) ∨ (4194304 ≤ d ∨ d ≤ -4194304)) →
   f = false ∧ 16776960 ≤ nZ (at4 u0 u1 u2 u3) ∧ nZ (at4 u0 u1 u2 u3) ≤ 16777472) := by
 obtain ⟨R, so, hS, hRI, hRs⟩ := GK (nZ (at4 a b c d))
 by_cases hR : R = 0
 · subst hR
   refine ⟨16777216, 0, 0, 0, true, fun w => Na (at4 a b c d) _ _ so (Et a b c d) hS w, by decide +kernel, fun ha hb hc hd hs => ?_⟩
   obtain ⟨ho, h0, h1, h2⟩ := xP ha hb hc hd
   have sq : ∀ x : Int, 0 ≤ x * x := fun x => by
    rcases Int.lt_or_le x 0 with h | h
    · have := Int.mul_nonneg (show 0 ≤ -x by omega) (show 0 ≤ -x by omega); rwa [Int.neg_mul_neg] at this
    · exact Int.mul_nonneg h h
   have big : ∀ x : Int, (4194304 ≤ x ∨ x ≤ -4194304) → 17592186044416 ≤ x * x := fun x hx => by
    rcases hx with hx | hx
    · exact kD (x := x) (y := 4194304) (by decide) hx
    · have := kD (x := -x) (y := 4194304) (by decide) (by omega); rwa [Int.neg_mul_neg] at this
   have s0 := sq a; have s1 := sq b; have s2 := sq c; have s3 := sq d
   have hbig : 17592186044416 ≤ a * a + b * b + c * c + d * d := by
    rcases hs with h | h | h | h
    · have := big a h; omega
    · have := big b h; omega
    · have := big c h; omega
    · have := big d h; omega
   have := hRs (by omega) h2
   omega
 · refine ⟨divV a R, divV b R, divV c R, divV d R, _, fun w => Dc (at4 a b c d) (fun k => divV (at4 a b c d k) R) (fun k => divO (at4 a b c d k) R) _ R _ so (Et a b c d) hS hR (fun k _ w => uF _ _ w) w,
    PD (TR _ _) (TR _ _) (TR _ _) (TR _ _), fun ha hb hc hd hs => ?_⟩
   obtain ⟨ho, h0, h1, h2⟩ := xP ha hb hc hd
   have sq : ∀ x : Int, 0 ≤ x * x := fun x => by
    rcases Int.lt_or_le x 0 with h | h
    · have := Int.mul_nonneg (show 0 ≤ -x by omega) (show 0 ≤ -x by omega); rwa [Int.neg_mul_neg] at this
    · exact Int.mul_nonneg h h
   have big : ∀ x : Int, (4194304 ≤ x ∨ x ≤ -4194304) → 17592186044416 ≤ x * x := fun x hx => by
    rcases hx with hx | hx
    · exact kD (x := x) (y := 4194304) (by decide) hx
    · have := kD (x := -x) (y := 4194304) (by decide) (by omega); rwa [Int.neg_mul_neg] at this
   have s0 := sq a; have s1 := sq b; have s2 := sq c; have s3 := sq d
   have hbig : 17592186044416 ≤ a * a + b * b + c * c + d * d := by
    rcases hs with h | h | h | h
    · have := big a h; omega
    · have := big b h; omega
    · have := big c h; omega
    · have := big d h; omega
   obtain ⟨r0, r1, r2, r3, r4⟩ := hRs (by omega) h2
   have hRb : 4194296 ≤ R := by
    rcases Int.lt_or_le R 4194296 with hl | hl
    · have := kD (x := 4194296) (y := R + 1) (by omega) (by omega)
      omega
    · exact hl
   have e1 : (R + 1) * (R + 1) = R * R + 2 * R + 1 := by grind
   have e6 : (R + 6) * (R + 6) = R * R + 12 * R + 36 := by grind
   have b0 := kT (a := a) (R := R) (K := 6) (by omega) (by omega) (by omega)
   have b1 := kT (a := b) (R := R) (K := 6) (by omega) (by omega) (by omega)
   have b2 := kT (a := c) (R := R) (K := 6) (by omega) (by omega) (by omega)
   have b3 := kT (a := d) (R := R) (K := 6) (by omega) (by omega) (by omega)
   have d0 := xg hRb r1 b0.1 b0.2
   have d1 := xg hRb r1 b1.1 b1.2
   have d2 := xg hRb r1 b2.1 b2.2
   have d3 := xg hRb r1 b3.1 b3.2
   have hm := xP (a := divV a R) (b := divV b R) (c := divV c R) (d := divV d R) (by omega) (by omega) (by omega) (by omega)
   refine ⟨?_, Ja h0 h1 hRb r2 r3 ⟨d0.2.1, d0.2.2.1⟩ ⟨d1.2.1, d1.2.2.1⟩ ⟨d2.2.1, d2.2.2.1⟩ ⟨d3.2.1, d3.2.2.1⟩ hm.2.1 hm.2.2.1⟩
   show ((((((false || sJ (at4 a b c d)) || so) || divO a R) || divO b R) || divO c R) || divO d R) = false
   rw [ho, r4, d0.1, d1.1, d2.1, d3.1]
   rfl
end Go.Proofs.Ytnijhjbcjeohhaa.PQ

namespace Go.Proofs.Ytnijhjbcjeohhaa.PQ
open Go.RowKit Go.Proofs.af.aO Go.Proofs.af.aU Go.Proofs.af.aV
set_option linter.unusedVariables false
set_option linter.unusedSimpArgs false
def UJ (x : Nat → Int) : Nat → Array Value
 | 0 => #[.int .i64 16777216, .int .i64 0, .int .i64 0, .int .i64 0]
 | k + 1 => (UJ x k).setIfInBounds (k + 1) (.int .i64 (x k))
theorem Row.flag {w : World} {F : Nat} {b : Bool} (h : Row w F 136 #[.bool b]) : w.cell? ⟨F, 0, none⟩ = some (.bool b) := h.cell 0
theorem zM (v x : Nat → Int) (o : Nat → Bool) (b h u0 u1 u2 u3 : Int) (f : Bool) (hH : ∀ w, Calls Try.prog 84 #[.int .i64 b, .int .i64 1] w fun e w' => e = .returned (.int .i64 h) ∧ Below w.heap.size w w')
 (hM : ∀ k, k < 3 → ∀ w, Calls Try.prog 67 #[.int .i64 (v k), .int .i64 h] w (Both w (x k) (o k))) (hU : ug 16777216 (x 0) (x 1) (x 2) u0 u1 u2 u3 f) (w : World) :
 Calls Try.prog 59 #[.agg #[.int .i64 (v 0), .int .i64 (v 1), .int .i64 (v 2)], .int .i64 b] w fun e w' =>
  e = .returned (.tuple #[.agg #[.int .i64 u0, .int .i64 u1, .int .i64 u2, .int .i64 u3], .bool (f || Ld false o 3)]) ∧ Below w.heap.size w w' := by
 have HH := Lib.hid hH
 have HM := Lib.hid hM
 have HU := Lib.hid hU
 clear hH hM hU
 go_enter Try.func59, Try.ntmps59
 go_wp2_with fail
 refine (HH.out _).mono ?_
 rintro e w1 ⟨rfl, hb⟩
 have M : Hid (aX w [(42, #[.int .i64 (v 0), .int .i64 (v 1), .int .i64 (v 2)]), (28, q4 0 0 0 0), (136, #[.bool false])] w1) := Lib.hid (((((aX.none w).push (by simp) _ _).push (by simp) _ _).push (by simp) _ _).below hb)
 clear hb
 have ca := M.out.r0.cell
 have la := M.out.r0.lt
 go_wp2_with fail
 go_loopw [17] (fun i wr => ∃ k : Nat, k ≤ 3 ∧ i = .int .i64 k ∧ Hid (aX w [(42, #[.int .i64 (v 0), .int .i64 (v 1), .int .i64 (v 2)]), (28, q4 0 0 0 0), (136, #[.bool (Ld false o k)])] wr) ∧ Hid (Row wr w1.heap.size 28 (UJ x k))) (fun i _ => 3 - (intOf i).toNat)
 case atStart => exact ⟨0, by omega, rfl, Lib.hid (M.out.alloc _), Lib.hid (Row.new w1 28 _)⟩
 case round =>
  clear ca
  have lM := M.out.r2.lt
  clear M
  obtain ⟨k, hk, rfl, N, Q⟩ := hrel
  obtain rfl | rfl | rfl | rfl : k = 0 ∨ k = 1 ∨ k = 2 ∨ k = 3 := by omega
  · have ix : ∀ w', (Instr.index 42 (.agg #[.int .i64 (v 0), .int .i64 (v 1), .int .i64 (v 2)]) (.int .i64 0)).run Try.prog w' = .ok (.int .i64 (v 0)) w' := fun w' => by kernel_rfl
    go_wp2_with fail
    refine (HM.out 0 (by omega) _).mono ?_
    rintro e wa ⟨rfl, hb⟩
    have NA := Lib.hid (N.out.below hb)
    have QA := Lib.hid (Q.out.below hb Q.out.lt)
    clear hb N Q ix
    go_wp2_with fail
    refine (dK _ _ _ _ _ NA.out.r2).mono ?_
    rintro e wb ⟨rfl, hg, hf⟩
    have NB := Lib.hid (NA.out.grown 2 _ _ hg hf)
    have QB := Lib.hid (QA.out.grown hg (by simp; omega))
    clear hg hf NA QA
    have co := QB.out.cell 1
    have fo := QB.out.free 1
    go_wp2
    go_roundw
    case rel => exact ⟨0 + 1, by omega, by go_num, Lib.hid ⟨NB.out.rows.imp fun k t cs h1 h2 r => r.far (p := ⟨w1.heap.size, 1, none⟩) (by simp at h2 ⊢; omega) _, NB.out.be.setCell (p := ⟨w1.heap.size, 1, none⟩) (by simp; omega) _⟩, Lib.hid (QB.out.set 1 _)⟩
    case measure => simp [intOf]
  · have ix : ∀ w', (Instr.index 42 (.agg #[.int .i64 (v 0), .int .i64 (v 1), .int .i64 (v 2)]) (.int .i64 1)).run Try.prog w' = .ok (.int .i64 (v 1)) w' := fun w' => by kernel_rfl
    go_wp2_with fail
    refine (HM.out 1 (by omega) _).mono ?_
    rintro e wa ⟨rfl, hb⟩
    have NA := Lib.hid (N.out.below hb)
    have QA := Lib.hid (Q.out.below hb Q.out.lt)
    clear hb N Q ix
    go_wp2_with fail
    refine (dK _ _ _ _ _ NA.out.r2).mono ?_
    rintro e wb ⟨rfl, hg, hf⟩
    have NB := Lib.hid (NA.out.grown 2 _ _ hg hf)
    have QB := Lib.hid (QA.out.grown hg (by simp; omega))
    clear hg hf NA QA
    have co := QB.out.cell 2
    have fo := QB.out.free 2
    go_wp2
    go_roundw
    case rel => exact ⟨1 + 1, by omega, by go_num, Lib.hid ⟨NB.out.rows.imp fun k t cs h1 h2 r => r.far (p := ⟨w1.heap.size, 2, none⟩) (by simp at h2 ⊢; omega) _, NB.out.be.setCell (p := ⟨w1.heap.size, 2, none⟩) (by simp; omega) _⟩, Lib.hid (QB.out.set 2 _)⟩
    case measure => simp [intOf]
  · have ix : ∀ w', (Instr.index 42 (.agg #[.int .i64 (v 0), .int .i64 (v 1), .int .i64 (v 2)]) (.int .i64 2)).run Try.prog w' = .ok (.int .i64 (v 2)) w' := fun w' => by kernel_rfl
    go_wp2_with fail
    refine (HM.out 2 (by omega) _).mono ?_
    rintro e wa ⟨rfl, hb⟩
    have NA := Lib.hid (N.out.below hb)
    have QA := Lib.hid (Q.out.below hb Q.out.lt)
    clear hb N Q ix
    go_wp2_with fail
    refine (dK _ _ _ _ _ NA.out.r2).mono ?_
    rintro e wb ⟨rfl, hg, hf⟩
    have NB := Lib.hid (NA.out.grown 2 _ _ hg hf)
    have QB := Lib.hid (QA.out.grown hg (by simp; omega))
    clear hg hf NA QA
    have co := QB.out.cell 3
    have fo := QB.out.free 3
    go_wp2
    go_roundw
    case rel => exact ⟨2 + 1, by omega, by go_num, Lib.hid ⟨NB.out.rows.imp fun k t cs h1 h2 r => r.far (p := ⟨w1.heap.size, 3, none⟩) (by simp at h2 ⊢; omega) _, NB.out.be.setCell (p := ⟨w1.heap.size, 3, none⟩) (by simp; omega) _⟩, Lib.hid (QB.out.set 3 _)⟩
    case measure => simp [intOf]
  · have Q5 : Hid (Row wr w1.heap.size 28 (q4 16777216 (x 0) (x 1) (x 2))) := Lib.hid Q.out
    have cq := Q5.out.cell
    go_wp2_with fail
    refine (HU.out _).mono ?_
    rintro e w5 ⟨rfl, hb⟩
    have N5 := Lib.hid (N.out.below hb)
    clear hb cq Q Q5 N
    go_wp2_with fail
    have l5 := N5.out.r2.lt
    have cb := (N5.out.alloc (.cells (q4 u0 u1 u2 u3) 28)).r1.cell
    have fb := (N5.out.alloc (.cells (q4 u0 u1 u2 u3) 28)).r1.free
    have N6 := Lib.hid (N5.out.alloc (.cells (q4 u0 u1 u2 u3) 28))
    have U6 := Lib.hid (Row.new w5 28 (q4 u0 u1 u2 u3))
    have N7 := Lib.hid N6.out.drew
    have U7 := Lib.hid U6.out.drew
    have nx : w.heap.size + 1 ≠ w5.heap.size := by omega
    have ny : w.heap.size + 1 ≠ w.heap.size + 1 + 1 := by omega
    clear N5 HH HM HU
    generalize hgg : Ld false o 3 = g at *
    have HG := Lib.hid hgg
    clear hgg
    cases f
    · go_region_held3 (fun w' => (∀ o, w'.cell? ⟨w5.heap.size, o, none⟩ = (q4 u0 u1 u2 u3)[o]?) ∧ w'.cell? ⟨w.heap.size + 1 + 1, 0, none⟩ = some (.bool g)) (first | with_reducible exact ⟨U7.out.cell, N7.out.r2.flag⟩ | with_reducible exact ⟨(U7.out.oK (by omega)).cell, (N7.out.r2.oK (by omega)).flag⟩ | with_reducible exact ⟨(U6.out.oK (by omega)).drew.cell, (N6.out.r2.oK (by omega)).drew.flag⟩ | go_keep) (fail)
      all_goals go_wp2
      all_goals
       have R := (N6.out.r1.iU (.int .i64 u0) (.int .i64 u1) (.int .i64 u2) (.int .i64 u3)).drew
       have HB := (Below.iU (B := w.heap.size + 1) N6.out.be (by omega) (.int .i64 u0) (.int .i64 u1) (.int .i64 u2) (.int .i64 u3)).drew
       clear N6 N7 U6 U7 cb fb nx ny l5
       revert R HB
       first
       | generalize World.drew _ = wf
       | generalize World.setCell (World.setCell (World.setCell (World.setCell _ _ _) _ _) _ _) _ _ = wf
       intro R HB
       have r0 := R.cell 0
       have r1 := R.cell 1
       have r2 := R.cell 2
       have r3 := R.cell 3
       simp at r0 r1 r2 r3
       refine bodyPost_ret (v := .tuple #[.agg #[.int .i64 u0, .int .i64 u1, .int .i64 u2, .int .i64 u3], .bool g]) ?_ rfl ⟨by rw [HG.out], HB⟩
       simp [results, Try.f59, Try.results59, go_sem, r0, r1, r2, r3]
    · have u0c := U7.out.cell
      have n2c := N7.out.r2.flag
      go_region
      all_goals go_wp2
      all_goals
       have R := (N6.out.r1.iU (.int .i64 u0) (.int .i64 u1) (.int .i64 u2) (.int .i64 u3)).drew
       have HB := (Below.iU (B := w.heap.size + 1) N6.out.be (by omega) (.int .i64 u0) (.int .i64 u1) (.int .i64 u2) (.int .i64 u3)).drew
       clear N6 N7 U6 U7 cb fb nx ny l5
       revert R HB
       first
       | generalize World.drew _ = wf
       | generalize World.setCell (World.setCell (World.setCell (World.setCell _ _ _) _ _) _ _) _ _ = wf
       intro R HB
       have r0 := R.cell 0
       have r1 := R.cell 1
       have r2 := R.cell 2
       have r3 := R.cell 3
       simp at r0 r1 r2 r3
       refine bodyPost_ret (v := .tuple #[.agg #[.int .i64 u0, .int .i64 u1, .int .i64 u2, .int .i64 u3], .bool true]) ?_ rfl ⟨rfl, HB⟩
       simp [results, Try.f59, Try.results59, go_sem, r0, r1, r2, r3]
end Go.Proofs.Ytnijhjbcjeohhaa.PQ

namespace Go.Proofs.Ytnijhjbcjeohhaa.PQ
open Go.RowKit Go.Proofs.af.aO Go.Proofs.af.aU Go.Proofs.af.aV
set_option linter.unusedVariables false
set_option linter.unusedSimpArgs false
theorem Qi (a : Int) : ∃ h, jh.f a 1 = some h ∧ (h = a / 2 ∨ h = wrap64 (a / 2 + 1)) := by
 have e : mn (mx 1 0) 62 = 1 := rfl
 have e2 : a / 2 ^ (1 : Int).toNat = a / 2 := rfl
 unfold jh.f
 rw [e, e2, if_pos (by omega), if_pos (by omega)]
 repeat' split
 all_goals exact ⟨_, rfl, by simp⟩
theorem Oi : jh.f 0 1 = some 0 := by decide +kernel
theorem TJ (a : Int) : ∃ h, (∀ w, Calls Try.prog 84 #[.int .i64 a, .int .i64 1] w fun e w' => e = .returned (.int .i64 h) ∧ Below w.heap.size w w') ∧ (a = 0 → h = 0) ∧ (-268435456 ≤ a → a ≤ 268435456 → -134217729 ≤ h ∧ h ≤ 134217729) := by
 obtain ⟨h, hf, hx⟩ := Qi a
 refine ⟨h, fun w => jh.calls a 1 h w hf, fun e => ?_, fun h0 h1 => ?_⟩
 · subst e
   rw [Oi] at hf
   injection hf with hf
   exact hf.symm
 · rcases hx with rfl | rfl
   · omega
   · rw [Gq (by omega) (by omega)]; omega
abbrev zG (v : Nat → Int) (b u0 u1 u2 u3 : Int) (F : Bool) : Prop := ∀ w, Calls Try.prog 59 #[.agg #[.int .i64 (v 0), .int .i64 (v 1), .int .i64 (v 2)], .int .i64 b] w fun e w' =>
 e = .returned (.tuple #[.agg #[.int .i64 u0, .int .i64 u1, .int .i64 u2, .int .i64 u3], .bool F]) ∧ Below w.heap.size w w'
theorem Pn : ug 16777216 0 0 0 16777216 0 0 0 false := by
 obtain ⟨R, so, hS, hRI, hRs⟩ := GK (nZ (at4 16777216 0 0 0))
 have hn : nZ (at4 16777216 0 0 0) = 16777216 := by decide +kernel
 have ho : sJ (at4 16777216 0 0 0) = false := by decide +kernel
 obtain ⟨r0, r1, r2, r3, r4⟩ := hRs (by omega) (by omega)
 rw [hn] at r2 r3
 have hR : R = 16777216 := by
  rcases Int.lt_trichotomy R 16777216 with h | h | h
  · have := kD (x := 16777216) (y := R + 1) (by omega) (by omega); omega
  · exact h
  · have := kD (x := R) (y := 16777217) (by omega) (by omega); omega
 subst hR
 have d0 : divV 16777216 16777216 = 16777216 := by decide +kernel
 have d1 : divV 0 16777216 = 0 := by decide +kernel
 have o0 : divO 16777216 16777216 = false := by decide +kernel
 have o1 : divO 0 16777216 = false := by decide +kernel
 intro w
 have h := Dc (at4 16777216 0 0 0) (fun k => divV (at4 16777216 0 0 0 k) 16777216) (fun k => divO (at4 16777216 0 0 0 k) 16777216) _ 16777216 _ so (Et 16777216 0 0 0) hS (by decide) (fun k _ w => uF _ _ w) w
 have e0 : divV (at4 16777216 0 0 0 0) 16777216 = 16777216 := d0
 have e1 : divV (at4 16777216 0 0 0 1) 16777216 = 0 := d1
 have e2 : divV (at4 16777216 0 0 0 2) 16777216 = 0 := d1
 have e3 : divV (at4 16777216 0 0 0 3) 16777216 = 0 := d1
 rw [e0, e1, e2, e3] at h
 have ef : Ld ((false || sJ (at4 16777216 0 0 0)) || so) (fun k => divO (at4 16777216 0 0 0 k) 16777216) 4 = false := by
  show ((((((false || sJ (at4 16777216 0 0 0)) || so) || divO 16777216 16777216) || divO 0 16777216) || divO 0 16777216) || divO 0 16777216) = false
  rw [ho, r4, o0, o1]; rfl
 rw [ef] at h
 exact h
theorem xQ {a : Int} (ha : nP a) : jB a 0 = 0 ∧ pG a 0 = false := by
 have h := qc ha (by unfold nP; omega : nP 0) (by simp [sz])
 rw [Int.mul_zero] at h
 exact ⟨by have := h.2.1; have := h.2.2.1; omega, h.1⟩
theorem Ns (v : Nat → Int) (b : Int) : ∃ u0 u1 u2 u3 F, zG v b u0 u1 u2 u3 F ∧ (b = 0 → nP (v 0) → nP (v 1) → nP (v 2) → u0 = 16777216 ∧ u1 = 0 ∧ u2 = 0 ∧ u3 = 0 ∧ F = false) ∧
 ((-268435456 ≤ v 0 ∧ v 0 ≤ 268435456) → (-268435456 ≤ v 1 ∧ v 1 ≤ 268435456) → (-268435456 ≤ v 2 ∧ v 2 ≤ 268435456) → (-268435456 ≤ b ∧ b ≤ 268435456) →
   F = false ∧ 16776960 ≤ nZ (at4 u0 u1 u2 u3) ∧ nZ (at4 u0 u1 u2 u3) ≤ 16777472) := by
 obtain ⟨h, hH, hz, hs⟩ := TJ b
 have hM : ∀ k, k < 3 → ∀ w, Calls Try.prog 67 #[.int .i64 (v k), .int .i64 h] w (Both w ((fun k => jB (v k) h) k) ((fun k => pG (v k) h) k)) := fun k _ w => fH _ _ w
 by_cases hb : b = 0 ∧ nP (v 0) ∧ nP (v 1) ∧ nP (v 2)
 · obtain ⟨rfl, i0, i1, i2⟩ := hb
   obtain rfl := hz rfl
   have m0 := xQ i0
   have m1 := xQ i1
   have m2 := xQ i2
   have hU : ug 16777216 ((fun k => jB (v k) 0) 0) ((fun k => jB (v k) 0) 1) ((fun k => jB (v k) 0) 2) 16777216 0 0 0 false := by
    show ug 16777216 (jB (v 0) 0) (jB (v 1) 0) (jB (v 2) 0) 16777216 0 0 0 false
    rw [m0.1, m1.1, m2.1]; exact Pn
   have ef : (false || Ld false (fun k => pG (v k) 0) 3) = false := by
    show (false || (((false || pG (v 0) 0) || pG (v 1) 0) || pG (v 2) 0)) = false
    rw [m0.2, m1.2, m2.2]; rfl
   refine ⟨16777216, 0, 0, 0, false, fun w => ?_, fun _ _ _ _ => ⟨rfl, rfl, rfl, rfl, rfl⟩, fun _ _ _ _ => ⟨rfl, by decide +kernel, by decide +kernel⟩⟩
   have hw := zM v _ _ 0 0 16777216 0 0 0 false hH hM hU w
   rw [ef] at hw
   exact hw
 · obtain ⟨u0, u1, u2, u3, f, hU, hr, hm⟩ := Df 16777216 (jB (v 0) h) (jB (v 1) h) (jB (v 2) h)
   refine ⟨u0, u1, u2, u3, _, fun w => zM v _ _ b h u0 u1 u2 u3 f hH hM hU w, fun e i0 i1 i2 => absurd ⟨e, i0, i1, i2⟩ hb, fun b0 b1 b2 bb => ?_⟩
   have hh := hs bb.1 bb.2
   have near : ∀ x, -268435456 ≤ x ∧ x ≤ 268435456 → pG x h = false ∧ -8589934592 ≤ jB x h ∧ jB x h ≤ 8589934592 := by
    intro x hx
    have hsz : sz x * sz h ≤ 73786976294838206464 := by
     have h1 : 0 ≤ sz x ∧ sz x ≤ 8589934592 := by unfold sz; split <;> omega
     have h2 : 0 ≤ sz h ∧ sz h ≤ 8589934592 := by unfold sz; split <;> omega
     have := Int.mul_le_mul h1.2 h2.2 h2.1 (by omega : (0 : Int) ≤ 8589934592)
     omega
    have hn := qc (a := x) (b := h) (by unfold nP; omega) (by unfold nP; omega) hsz
    have hp := zl (x := x) (y := h) (A := 268435456) (B := 134217729) (by omega) (by omega) (by omega) (by omega) (by omega)
    refine ⟨hn.1, ?_, ?_⟩ <;> omega
   have n0 := near _ b0
   have n1 := near _ b1
   have n2 := near _ b2
   obtain ⟨hf, hm0, hm1⟩ := hm (by omega) n0.2 n1.2 n2.2 (.inl (by omega))
   refine ⟨?_, hm0, hm1⟩
   show (f || (((false || pG (v 0) h) || pG (v 1) h) || pG (v 2) h)) = false
   rw [hf, n0.1, n1.1, n2.1]; rfl
end Go.Proofs.Ytnijhjbcjeohhaa.PQ

namespace Go.Proofs.Ytnijhjbcjeohhaa.EE
open Go.RowKit Go.Proofs.Ytnijhjbcjeohhaa.KK Go.Proofs.af.aO Go.Proofs.af.aU Go.Proofs.af.aV
set_option linter.unusedVariables false
set_option linter.unusedSimpArgs false
theorem Ed (g : Nat) (c : Cf) (e : Es) (s : Sm) (w : World) (R : Row w g 89 (wk c e s 0 0 0)) (hm : s.missing = true) :
 Calls Try.prog 37 #[.pointer (some ⟨g, 0, none⟩)] w fun x w' => x = .returned (.tuple #[]) ∧ w' = w := by
 have hc := R.cell
 go_enter Try.func37, Try.ntmps37
 go_wp2
 exact bodyPost_ret (results_none rfl _ _ _) rfl ⟨rfl, rfl⟩
theorem Fb (g : Nat) (c : Cf) (e : Es) (s : Sm) (a0 a1 a2 : Int) (w : World) (R : Row w g 89 (wk c e s a0 a1 a2)) (hm : s.missing = true) :
 Calls Try.prog 39 #[.pointer (some ⟨g, 0, none⟩)] w fun x w' => x = .returned (.tuple #[]) ∧ w' = w := by
 have hc := R.cell
 go_enter Try.func39, Try.ntmps39
 go_wp2
 exact bodyPost_ret (results_none rfl _ _ _) rfl ⟨rfl, rfl⟩
structure Rw (w : World) (t : Tr) : Prop where
 x : Rd w t.A t.x
 xc : t.x.length ≤ t.c
 p : Rd w t.B t.p
 pd : t.p.length ≤ t.d
theorem Rw.below {w w' : World} {t : Tr} (h : Rw w t) (hb : Below w.heap.size w w') : Rw w' t := ⟨h.x.below hb, h.xc, h.p.below hb, h.pd⟩
theorem Rx.rw {o : Prop} {g : Nat} {w : World} {t : Tr} (h : Rx o g w t) : Rw w t := ⟨h.x.rd, h.xc, h.p.rd, h.pd⟩
theorem Rw.rx {w : World} {t : Tr} (h : Rw w t) (hx : 0 < t.x.length) (hp : 0 < t.p.length) : Rx True (w.heap.size + 5) w t :=
 ⟨⟨h.x, fun ad e => .inl ⟨trivial, (by have := PR.Rd.blk h.x ad e hx; omega)⟩⟩, h.xc, ⟨h.p, fun ad e => .inl ⟨trivial, (by have := PR.Rd.blk h.p ad e hp; omega)⟩⟩, h.pd⟩
structure Gd (n : En) : Prop where
 lx : ∀ j, j < 3 → (n.x j).length = 3
 lp : ∀ j, j < 3 → (n.p j).length = 9
 s0 : 0 ≤ n.steps
 s1 : n.steps ≤ 1099511627776
 c0 : 0 ≤ n.dO
 c1 : n.dO ≤ 1000
 o0 : ∀ k, k < 4 → 0 ≤ n.off k
 o1 : ∀ k, k < 4 → n.off k ≤ 1000
def a3 (x y z : Int) : Nat → Int
 | 0 => x
 | 1 => y
 | _ => z
def DL (miss : Bool) (dt : Int) (n : En) (g0 g1 g2 a0 a1 a2 : Int) (n1 : En) (y : Nat → Int) : Prop :=
 (miss = true ∧ n1 = n ∧ y = a3 0 0 0) ∨
 (miss = false ∧ ∃ m0 m1 m2 m3 p0 p1 p2 p3 u0 u1 u2 u3 y0 y1 y2 F1 F2 F3 F4, zG (PQ.cl g0) (PQ.cl g1) (PQ.cl g2) dt m0 m1 m2 m3 F1 ∧ Vm n.q0 n.q1 n.q2 n.q3 m0 m1 m2 m3 p0 p1 p2 p3 F2 ∧ ug p0 p1 p2 p3 u0 u1 u2 u3 F3 ∧
   QY u0 u1 u2 u3 (PQ.cl a0) (PQ.cl a1) (PQ.cl a2) y0 y1 y2 F4 ∧ PQ.fU (PQ.at4 u0 u1 u2 u3) 4 = true ∧
   n1 = { n with q0 := u0, q1 := u1, q2 := u2, q3 := u3, sat := (((((((n.sat || PQ.od g0) || PQ.od g1) || PQ.od g2) || PQ.od a0) || PQ.od a1) || PQ.od a2) || (((F1 || F2) || F3) || F4)) } ∧ y = a3 y0 y1 y2)
theorem Jc (miss : Bool) (dt : Int) (n : En) (g0 g1 g2 a0 a1 a2 : Int) : ∃ n1 y, DL miss dt n g0 g1 g2 a0 a1 a2 n1 y := by
 cases miss
 · obtain ⟨m0, m1, m2, m3, F1, h1, _⟩ := PQ.Ns (a3 (PQ.cl g0) (PQ.cl g1) (PQ.cl g2)) dt
   obtain ⟨u0, u1, u2, u3, F3, h3, hr, _⟩ := PQ.Df (PQ.comp (PQ.at4 n.q0 n.q1 n.q2 n.q3) (PQ.at4 m0 m1 m2 m3) 0) (PQ.comp (PQ.at4 n.q0 n.q1 n.q2 n.q3) (PQ.at4 m0 m1 m2 m3) 1) (PQ.comp (PQ.at4 n.q0 n.q1 n.q2 n.q3) (PQ.at4 m0 m1 m2 m3) 2) (PQ.comp (PQ.at4 n.q0 n.q1 n.q2 n.q3) (PQ.at4 m0 m1 m2 m3) 3)
   exact ⟨_, _, .inr ⟨rfl, m0, m1, m2, m3, _, _, _, _, u0, u1, u2, u3, _, _, _, F1, _, F3, _, h1, fun w => PQ.Dp (PQ.at4 n.q0 n.q1 n.q2 n.q3) (PQ.at4 m0 m1 m2 m3) w, h3, fun w => PQ.GU _ _ _ _ _ _ _ w, hr, rfl, rfl⟩⟩
 · exact ⟨_, _, .inl ⟨rfl, rfl, rfl⟩⟩
theorem DL.gd {miss : Bool} {dt : Int} {n : En} {g0 g1 g2 a0 a1 a2 : Int} {n1 : En} {y : Nat → Int} (h : DL miss dt n g0 g1 g2 a0 a1 a2 n1 y) (G : Gd n) : Gd n1 := by
 rcases h with ⟨_, rfl, _⟩ | ⟨_, _, _, _, _, _, _, _, _, _, _, _, _, _, _, _, _, _, _, _, _, _, _, _, _, rfl, _⟩
 · exact G
 · exact ⟨fun j hj => by obtain rfl | rfl | rfl : j = 0 ∨ j = 1 ∨ j = 2 := by omega
                         all_goals exact G.lx _ (by omega), fun j hj => by obtain rfl | rfl | rfl : j = 0 ∨ j = 1 ∨ j = 2 := by omega
                                                                           all_goals exact G.lp _ (by omega), G.s0, G.s1, G.c0, G.c1, fun k hk => by obtain rfl | rfl | rfl | rfl : k = 0 ∨ k = 1 ∨ k = 2 ∨ k = 3 := by omega
                                                                                                                                                     all_goals exact G.o0 _ (by omega), fun k hk => by obtain rfl | rfl | rfl | rfl : k = 0 ∨ k = 1 ∨ k = 2 ∨ k = 3 := by omega
                                                                                                                                                                                                       all_goals exact G.o1 _ (by omega)⟩
def Zb (c : Cf) : List Int := [16777216, c.dt, 0, 0, 16777216, (kQ 0 c.dt).1, 0, 0, 16777216]
def ahQ (c : Cf) : List Int := fF [0, (iQ c.acc c.dt).1, (iQ c.bias c.dt).1]
def WZ (c : Cf) (n : En) (j : Nat) : List Int := mulL 3 3 1 (Zb c) (n.x j)
def XV (c : Cf) (n : En) (j : Nat) : List Int := PR.uY 3 (iL iw 3 3 (PR.ig 3 3 (Zb c) (n.p j)) (ahQ c))
def ahY (c : Cf) (n : En) (y : Nat → Int) (j : Nat) : Int := (iw ((WZ c n j).getD 1 0) (iQ (y j) c.dt).1).1
def ahS (c : Cf) (n : En) (y : Nat → Int) : Bool :=
 Pz (((n.sat || (kQ 0 c.dt).2) || (iQ c.acc c.dt).2) || (iQ c.bias c.dt).2) (fun j => (iQ (y j) c.dt).2) (fun j => (iw ((WZ c n j).getD 1 0) (iQ (y j) c.dt).1).2) (fun j => qF 3 3 1 (Zb c) (n.x j)) (fun j => PR.mV 3 3 (Zb c) (n.p j)) (fun j => jv iw 3 3 (PR.ig 3 3 (Zb c) (n.p j)) (ahQ c)) 3
def En.ahead (c : Cf) (n : En) (y : Nat → Int) : En :=
 { n with x0 := (WZ c n 0).set 1 (ahY c n y 0), p0 := XV c n 0, x1 := (WZ c n 1).set 1 (ahY c n y 1), p1 := XV c n 1, x2 := (WZ c n 2).set 1 (ahY c n y 2), p2 := XV c n 2, sat := ahS c n y }
theorem L_ (c : Cf) (n : En) (j : Nat) : (WZ c n j).length = 3 := PR.jD 3 3 1 _ _
theorem Uf (c : Cf) (n : En) (j : Nat) : (XV c n j).length = 9 := by unfold XV PR.uY; rw [PR.pK, PR.qZ]
theorem Gd.ahead {c : Cf} {n : En} {y : Nat → Int} (G : Gd n) : Gd (En.ahead c n y) :=
 ⟨fun j hj => by
   obtain rfl | rfl | rfl : j = 0 ∨ j = 1 ∨ j = 2 := by omega
   all_goals simp [En.x, En.ahead, L_], fun j hj => by
   obtain rfl | rfl | rfl : j = 0 ∨ j = 1 ∨ j = 2 := by omega
   all_goals simp [En.p, En.ahead, Uf], G.s0, G.s1, G.c0, G.c1, fun k hk => by
   obtain rfl | rfl | rfl | rfl : k = 0 ∨ k = 1 ∨ k = 2 ∨ k = 3 := by omega
   all_goals exact G.o0 _ (by omega), fun k hk => by
   obtain rfl | rfl | rfl | rfl : k = 0 ∨ k = 1 ∨ k = 2 ∨ k = 3 := by omega
   all_goals exact G.o1 _ (by omega)⟩
theorem Sj (a b : Int) : PQ.nP (iQ a b).1 := PQ.sgB _ _ _
theorem not_odd {a : Int} (h : PQ.nP a) : kR a = false := by
 have := h.1
 have := h.2
 unfold kR
 simp
 omega
theorem QU (g : Nat) (c : Cf) (e : Es) (s : Sm) (y : Nat → Int) (w : World) (R : Row w g 89 (wk c e s (y 0) (y 1) (y 2))) (hr : Ok True g w e) (G : Gd e.nu) :
 Calls Try.prog 38 #[.pointer (some ⟨g, 0, none⟩)] w fun r w' => r = .returned (.tuple #[]) ∧ ∃ e' : Es, e'.nu = En.ahead c e.nu y ∧ Ok False g w' e' ∧ iC w g c e' s (y 0) (y 1) (y 2) w' := by
 refine (IE g c e s y (kQ 0 c.dt).1 (iQ c.acc c.dt).1 (iQ c.bias c.dt).1 _ _ _ (ahQ c) (WZ c e.nu) _ _ (XV c e.nu) _ _ _ _ _ _ (ahY c e.nu y) w R hr (fun j hj => ⟨by rw [Ep]; exact G.lx j hj, by rw [G7]; exact G.lp j hj⟩)
  (fun w => pW _ _ w) (fun w => fH _ _ w) (fun w => fH _ _ w) rfl (PR.jU _) (by simp [List.any, not_odd (Sj _ _), show kR 0 = false from rfl]) (fun j hj => by rw [Ep, G7]; exact ⟨rfl, rfl, rfl, rfl, rfl, rfl, rfl⟩) (fun j _ => L_ c e.nu j)
  (fun j hj w => fH _ _ w) (fun j hj w => nS _ _ w)).mono ?_
 rintro r w' ⟨rfl, t, ht, hw⟩
 refine ⟨rfl, _, ?_, ?_, hw⟩
 · simp only [Es.nu, (ht 0 (by decide)).1, (ht 0 (by decide)).2.1, (ht 1 (by decide)).1, (ht 1 (by decide)).2.1, (ht 2 (by decide)).1, (ht 2 (by decide)).2.1]
   rfl
 · intro j hj
   obtain rfl | rfl | rfl : j = 0 ∨ j = 1 ∨ j = 2 := by omega
   all_goals exact (ht _ (by omega)).2.2
def yO (n : En) (i k : Nat) (z r gate : Int) (n' : En) : Prop := ∃ X P tk fl, vW n i k z r gate X P tk fl ∧ n' = n.held i k X P tk (PQ.od z || fl)
theorem Ru {lx lp lh : List Int} {z r gate : Int} {X P : List Int} {tk fl : Bool} (H : PR.Ve 3 lx lp lh z r gate X P tk fl) (h1 : lx.length = 3) (h2 : lp.length = 9) : X.length = 3 ∧ P.length = 9 := by
 unfold PR.Ve at H
 split at H
 · obtain ⟨rfl, rfl, _, _⟩ := H
   exact ⟨h1, h2⟩
 · obtain ⟨rfl, rfl, _, _⟩ := H
   exact ⟨upto_length, by unfold PR.tP PR.uY; rw [PR.pK, PR.qZ]⟩
theorem qK {n : En} (G : Gd n) {i k : Nat} (hi : i < 3) (hk : k < 4) (z r gate : Int) : ∃ n', yO n i k z r gate n' := by
 obtain ⟨X, P, tk, fl, h⟩ := PR.Pm 3 (n.x i) (n.p i) [16777216, 0, 0] (PQ.cl z) r gate
 have hl := Ru h (G.lx i hi) (G.lp i hi)
 exact ⟨_, X, P, tk, fl, ⟨h, G.lx i hi, G.lp i hi, hl.1, hl.2, G.o0 k hk, G.o1 k hk⟩, rfl⟩
theorem A_ {tk : Bool} {n : Int} (h0 : 0 ≤ n) (h1 : n ≤ 1000) : 0 ≤ jr tk n ∧ jr tk n ≤ 1000 := by
 unfold jr
 split
 · omega
 · omega
theorem Wn (n : En) (i k j : Nat) (hj : j < 3) (hi : i < 3) (X P : List Int) (tk fl : Bool) : (n.held i k X P tk fl).x j = if i = j then X else n.x j := by
 obtain rfl | rfl | rfl : i = 0 ∨ i = 1 ∨ i = 2 := by omega
 all_goals
  obtain rfl | rfl | rfl : j = 0 ∨ j = 1 ∨ j = 2 := by omega
  all_goals simp [En.held, En.x]
theorem Wp (n : En) (i k j : Nat) (hj : j < 3) (hi : i < 3) (X P : List Int) (tk fl : Bool) : (n.held i k X P tk fl).p j = if i = j then P else n.p j := by
 obtain rfl | rfl | rfl : i = 0 ∨ i = 1 ∨ i = 2 := by omega
 all_goals
  obtain rfl | rfl | rfl : j = 0 ∨ j = 1 ∨ j = 2 := by omega
  all_goals simp [En.held, En.p]
theorem wU (n : En) (i k j : Nat) (hj : j < 4) (hk : k < 4) (X P : List Int) (tk fl : Bool) : (n.held i k X P tk fl).off j = if k = j then jr tk (n.off k) else n.off j := by
 obtain rfl | rfl | rfl | rfl : k = 0 ∨ k = 1 ∨ k = 2 ∨ k = 3 := by omega
 all_goals
  obtain rfl | rfl | rfl | rfl : j = 0 ∨ j = 1 ∨ j = 2 ∨ j = 3 := by omega
  all_goals simp [En.held, En.off]
theorem yO.gd {n n' : En} {i k : Nat} {z r gate : Int} (h : yO n i k z r gate n') (G : Gd n) (hi : i < 3) (hk : k < 4) : Gd n' := by
 obtain ⟨X, P, tk, fl, H, rfl⟩ := h
 refine ⟨fun j hj => ?_, fun j hj => ?_, G.s0, G.s1, G.c0, G.c1, fun j hj => ?_, fun j hj => ?_⟩
 · rw [Wn n i k j hj hi]; split
   · exact H.lX
   · exact G.lx j hj
 · rw [Wp n i k j hj hi]; split
   · exact H.lP
   · exact G.lp j hj
 · rw [wU n i k j hj hk]; split
   · exact (A_ H.o0 H.o1).1
   · exact G.o0 j hj
 · rw [wU n i k j hj hk]; split
   · exact (A_ H.o0 H.o1).2
   · exact G.o1 j hj
structure IP (c : Cf) (n : En) (s : Sm) (n' : En) : Prop where
 miss : s.missing = true → n' = n
 go : s.missing = false → ∃ (m1 : En) (gk : Nat → En), (s.hasB = true → yO n 2 0 s.iM c.iM c.gate m1) ∧ (s.hasB = false → m1 = n) ∧ gk 0 = m1 ∧ gk 3 = n' ∧
  (s.lQ = true → ∀ k, k < 3 → yO (gk k) k (k + 1) (s.n k) c.l7 c.gate (gk (k + 1))) ∧ (s.lQ = false → ∀ k, k < 3 → gk (k + 1) = gk k)
theorem JS (c : Cf) {n : En} (s : Sm) (G : Gd n) : ∃ n', IP c n s n' ∧ Gd n' := by
 cases hm : s.missing
 case true => exact ⟨n, ⟨fun _ => rfl, fun h => by rw [hm] at h; cases h⟩, G⟩
 have hB : ∃ m1, Gd m1 ∧ (s.hasB = true → yO n 2 0 s.iM c.iM c.gate m1) ∧ (s.hasB = false → m1 = n) := by
  cases hb : s.hasB
  · exact ⟨n, G, (fun h => by cases h), fun _ => rfl⟩
  · obtain ⟨m1, h⟩ := qK G (i := 2) (k := 0) (by decide) (by decide) s.iM c.iM c.gate
    exact ⟨m1, h.gd G (by decide) (by decide), fun _ => h, (fun h => by cases h)⟩
 obtain ⟨m1, G1, h1, h2⟩ := hB
 cases hg : s.lQ
 · exact ⟨m1, ⟨fun h => by rw [hm] at h; (cases h), fun _ => ⟨m1, fun _ => m1, h1, h2, rfl, rfl, fun h => by rw [hg] at h; (cases h), fun _ _ _ => rfl⟩⟩, G1⟩
 · obtain ⟨k1, e1⟩ := qK G1 (i := 0) (k := 1) (by decide) (by decide) (s.n 0) c.l7 c.gate
   have G2 := e1.gd G1 (by decide) (by decide)
   obtain ⟨k2, e2⟩ := qK G2 (i := 1) (k := 2) (by decide) (by decide) (s.n 1) c.l7 c.gate
   have G3 := e2.gd G2 (by decide) (by decide)
   obtain ⟨k3, e3⟩ := qK G3 (i := 2) (k := 3) (by decide) (by decide) (s.n 2) c.l7 c.gate
   refine ⟨k3, ⟨fun h => by rw [hm] at h; (cases h), fun _ => ⟨m1, fun k => match k with | 0 => m1 | 1 => k1 | 2 => k2 | _ => k3, h1, h2, rfl, rfl, fun _ k hk => ?_, fun h => by rw [hg] at h; (cases h)⟩⟩, e3.gd G3 (by decide) (by decide)⟩
   obtain rfl | rfl | rfl : k = 0 ∨ k = 1 ∨ k = 2 := by omega
   · exact e1
   · exact e2
   · exact e3
theorem Tj {o : Prop} (g : Nat) (c : Cf) (e : Es) (s : Sm) (a0 a1 a2 : Int) (n' : En) (w : World) (R : Row w g 89 (wk c e s a0 a1 a2)) (hr : Ok o g w e) (hb : 0 < c.iM) (hn : 0 < c.l7) (H : IP c e.nu s n') :
 Calls Try.prog 39 #[.pointer (some ⟨g, 0, none⟩)] w fun x w' => x = .returned (.tuple #[]) ∧ ∃ e' : Es, e'.nu = n' ∧ Ok o g w' e' ∧ iC w g c e' s a0 a1 a2 w' := by
 cases hm : s.missing
 case true =>
  refine (Fb g c e s a0 a1 a2 w R hm).mono ?_
  rintro x w' ⟨rfl, rfl⟩
  exact ⟨rfl, e, (H.miss hm).symm, hr, R, dY _ _⟩
 obtain ⟨m1, gk, h1, h2, h3, h4, h5, h6⟩ := H.go hm
 have hB : ∃ XB PB UG U1, s.hasB = true → 0 < c.iM ∧ vW e.nu 2 0 s.iM c.iM c.gate XB PB UG U1 ∧ m1 = e.nu.held 2 0 XB PB UG (PQ.od s.iM || U1) := by
  cases hb' : s.hasB
  · exact ⟨[], [], false, false, fun h => by cases h⟩
  · obtain ⟨X, P, tk, fl, ht, he⟩ := h1 hb'
    exact ⟨X, P, tk, fl, fun _ => ⟨hb, ht, he⟩⟩
 obtain ⟨XB, PB, UG, U1, hB⟩ := hB
 have hG : ∃ (XG PG : Nat → List Int) (UF UZ : Nat → Bool), s.lQ = true → 0 < c.l7 ∧ ∀ k, k < 3 → vW (gk k) k (k + 1) (s.n k) c.l7 c.gate (XG k) (PG k) (UF k) (UZ k) ∧ gk (k + 1) = (gk k).held k (k + 1) (XG k) (PG k) (UF k) (PQ.od (s.n k) || UZ k) := by
  cases hg' : s.lQ
  · exact ⟨fun _ => [], fun _ => [], fun _ => false, fun _ => false, fun h => by cases h⟩
  · obtain ⟨X0, P0, t0, f0, e0, d0⟩ := h5 hg' 0 (by decide)
    obtain ⟨X1, P1, t1, f1, e1, d1⟩ := h5 hg' 1 (by decide)
    obtain ⟨X2, P2, t2, f2, e2, d2⟩ := h5 hg' 2 (by decide)
    refine ⟨fun k => match k with | 0 => X0 | 1 => X1 | _ => X2, fun k => match k with | 0 => P0 | 1 => P1 | _ => P2, fun k => match k with | 0 => t0 | 1 => t1 | _ => t2, fun k => match k with | 0 => f0 | 1 => f1 | _ => f2, fun _ => ⟨hn, fun k hk => ?_⟩⟩
    obtain rfl | rfl | rfl : k = 0 ∨ k = 1 ∨ k = 2 := by omega
    · exact ⟨e0, d0⟩
    · exact ⟨e1, d1⟩
    · exact ⟨e2, d2⟩
 obtain ⟨XG, PG, UF, UZ, hG⟩ := hG
 refine (JR g c e s a0 a1 a2 m1 gk XB PB UG U1 XG PG UF UZ w R hr hm hB h2 h3 hG h6).mono ?_
 rintro x w' ⟨rfl, e', he, ho, hw⟩
 exact ⟨rfl, e', he.trans h4, ho, hw⟩
def En.cnt (n : En) (miss : Bool) : En := { n with steps := min (n.steps + 1) 1099511627776, dO := if miss = true then min (n.dO + 1) 1000 else 0 }
theorem Gd.cnt {n : En} (G : Gd n) (m : Bool) : Gd (n.cnt m) :=
 ⟨fun j hj => by
   obtain rfl | rfl | rfl : j = 0 ∨ j = 1 ∨ j = 2 := by omega
   all_goals exact G.lx _ (by omega), fun j hj => by
   obtain rfl | rfl | rfl : j = 0 ∨ j = 1 ∨ j = 2 := by omega
   all_goals exact G.lp _ (by omega), by have := G.s0; simp only [En.cnt]; omega, by simp only [En.cnt]; omega, by have := G.c0; simp only [En.cnt]; split <;> omega, by simp only [En.cnt]; split <;> omega, fun k hk => by
   obtain rfl | rfl | rfl | rfl : k = 0 ∨ k = 1 ∨ k = 2 ∨ k = 3 := by omega
   all_goals exact G.o0 _ (by omega), fun k hk => by
   obtain rfl | rfl | rfl | rfl : k = 0 ∨ k = 1 ∨ k = 2 ∨ k = 3 := by omega
   all_goals exact G.o1 _ (by omega)⟩
structure Ro (n0 : Nat) (w : World) (t : Tr) : Prop where
 rw : Rw w t
 na : ∀ ad, t.A = some ad → n0 ≤ ad.block
 nb : ∀ ad, t.B = some ad → n0 ≤ ad.block
theorem Ro.below {n0 : Nat} {w w' : World} {t : Tr} (h : Ro n0 w t) (hb : Below w.heap.size w w') : Ro n0 w' t := ⟨h.rw.below hb, h.na, h.nb⟩
theorem Ro.grown {n0 : Nat} {w w' : World} {t : Tr} (h : Ro n0 w t) {b : Nat} (hg : w.grownBy w' (some b)) (hb : b < n0) : Ro n0 w' t :=
 ⟨⟨Rd.gr h.rw.x hg (fun ad e => by have := h.na ad e; omega), h.rw.xc, Rd.gr h.rw.p hg (fun ad e => by have := h.nb ad e; omega), h.rw.pd⟩, h.na, h.nb⟩
theorem PM {w : World} {base c : Nat} {A : Option Addr} {l : List Int} (h : Own w base (.slice A l.length c) l) : ∀ ad, A = some ad → base ≤ ad.block := fun ad e => by
 subst e
 exact (h.row.lt ad.block rfl).1
def KA (c : Cf) (n : En) (s : Sm) (n' : En) : Prop := ∀ (e : Es) (w : World), e.nu = n → (∀ j, j < 3 → Rw w (e.ax j)) →
 Calls Try.prog 16 #[.agg c.R, .agg e.R, .agg s.R] w fun x w' => ∃ e' : Es, e'.nu = n' ∧ x = .returned (.tuple #[.agg e'.R, .agg #[I (n'.x0.getD 0 0), I (n'.x1.getD 0 0), I (n'.x2.getD 0 0)]]) ∧ (∀ j, j < 3 → Ro w.heap.size w' (e'.ax j)) ∧ Below w.heap.size w w'
theorem La (c : Cf) (n : En) (s : Sm) (n1 n3 : En) (y : Nat → Int) (G : Gd n) (hb : 0 < c.iM) (hn : 0 < c.l7) (T : DL s.missing c.dt n s.g0 s.g1 s.g2 s.a0 s.a1 s.a2 n1 y) (H : IP c (En.ahead c n1 y) s n3) (G3 : Gd n3) : KA c n s (n3.cnt s.missing) := by
 intro e w he hr
 subst he
 have G1 := T.gd G
 refine (Nq c e s w (fun i w' => match i with
  | 0 => Row w' (w.heap.size + 5) 89 (wk c e s 0 0 0) ∧ Ok True (w.heap.size + 5) w' e
  | 1 => ∃ e1 : Es, e1.nu = n1 ∧ Ok True (w.heap.size + 5) w' e1 ∧ Row w' (w.heap.size + 5) 89 (wk c e1 s (y 0) (y 1) (y 2))
  | 2 => ∃ e1 : Es, e1.nu = En.ahead c n1 y ∧ Ok False (w.heap.size + 5) w' e1 ∧ Row w' (w.heap.size + 5) 89 (wk c e1 s (y 0) (y 1) (y 2))
  | 3 => ∃ e1 : Es, e1.nu = n3 ∧ Ok False (w.heap.size + 5) w' e1 ∧ Row w' (w.heap.size + 5) 89 (wk c e1 s (y 0) (y 1) (y 2))
  | _ => ∃ e1 : Es, e1.nu = n3.cnt s.missing ∧ Ok False (w.heap.size + 5) w' e1 ∧ Row w' (w.heap.size + 5) 89 (wk c e1 s (y 0) (y 1) (y 2))) (fun e' => e'.nu = n3.cnt s.missing) (w.heap.size + 5) rfl ?_ ?_ ?_ ?_ ?_ ?_).mono ?_
 · intro w' R hb
   exact ⟨R, fun j hj => ((hr j hj).rx (by rw [Ep, G.lx j hj]; decide) (by rw [G7, G.lp j hj]; decide)).below hb⟩
 · rintro w' ⟨R, ho⟩
   rcases T with ⟨hm, rfl, rfl⟩ | ⟨hm, m0, m1, m2, m3, p0, p1, p2, p3, u0, u1, u2, u3, y0, y1, y2, F1, F2, F3, F4, h1, h2, h3, h4, _, rfl, rfl⟩
   · refine (Ed _ c e s w' R hm).mono ?_
     rintro x w2 ⟨rfl, rfl⟩
     exact ⟨rfl, ⟨e, rfl, ho, R⟩, dY _ _⟩
   · refine (qB _ c e s m0 m1 m2 m3 p0 p1 p2 p3 u0 u1 u2 u3 y0 y1 y2 F1 F2 F3 F4 w' R hm h1 h2 h3 h4).mono ?_
     rintro x w2 ⟨rfl, hw⟩
     refine ⟨rfl, ⟨_, ?_, ?_, hw.row⟩, hw.gr⟩
     · rfl
     · intro j hj
       have := (ho j hj).gr hw.gr
       obtain rfl | rfl | rfl : j = 0 ∨ j = 1 ∨ j = 2 := by omega
       all_goals exact this
 · rintro w' ⟨e1, rfl, ho, R⟩
   refine (QU _ c e1 s y w' R ho G1).mono ?_
   rintro x w2 ⟨rfl, e2, h2, ho2, hw⟩
   exact ⟨rfl, ⟨e2, h2, ho2, hw.row⟩, hw.gr⟩
 · rintro w' ⟨e1, h1, ho, R⟩
   refine (Tj _ c e1 s _ _ _ n3 w' R ho hb hn (by rw [h1]; exact H)).mono ?_
   rintro x w2 ⟨rfl, e2, h2, ho2, hw⟩
   exact ⟨rfl, ⟨e2, h2, ho2, hw.row⟩, hw.gr⟩
 · rintro w' ⟨e1, rfl, ho, R⟩
   refine (Iq _ c e1 s _ _ _ w' R G3.s0 G3.s1 G3.c0 G3.c1).mono ?_
   rintro x w2 ⟨rfl, hw⟩
   refine ⟨rfl, ⟨_, ?_, ?_, hw.row⟩, hw.gr⟩
   · rfl
   · intro j hj
     have := (ho j hj).gr hw.gr
     obtain rfl | rfl | rfl : j = 0 ∨ j = 1 ∨ j = 2 := by omega
     all_goals exact this
 · rintro w' ⟨e1, h1, ho, R⟩
   exact ⟨e1, _, _, _, h1, R, ho, fun j hj => by rw [Ep, h1]; exact (G3.cnt _).lx j hj⟩
 · rintro x w' ⟨e', he, rfl, hx, hb⟩
   refine ⟨e', he, ?_, fun j hj => ⟨(hx j hj).rw, fun ad e => Nat.le_of_lt (Nat.lt_of_le_of_lt (Nat.le_add_right _ 5) ((hx j hj).x.beyond ad e)), fun ad e => Nat.le_of_lt (Nat.lt_of_le_of_lt (Nat.le_add_right _ 5) ((hx j hj).p.beyond ad e))⟩, hb⟩
   rw [← he]
   rfl
end Go.Proofs.Ytnijhjbcjeohhaa.EE

namespace Go.Proofs.Ytnijhjbcjeohhaa.PR
open Go.RowKit Go.Proofs.Ytnijhjbcjeohhaa.PQ Go.Proofs.af.aO Go.Proofs.af.aU Go.Proofs.af.aV Go.Proofs.Ytnijhjbcjeohhaa.KK
set_option linter.unusedVariables false
set_option linter.unusedSimpArgs false
theorem PT (n : Nat) (A1 A2 : Option Addr) (c1 c2 : Nat) (x v : List Int) (w : World) (rx : Rd w A1 x) (rv : Rd w A2 v) (h : newP x v) (ex : x.length = n) (ev : v.length = n) :
 Calls Try.prog 36 #[.slice A1 n c1, .slice A2 n c2] w fun e w' => ∃ Ax dx Ap dp, e = .returned (.tuple #[.agg #[I n, I 1, .slice Ax n dx, I n, I n, .slice Ap (fF v).length dp], I 0]) ∧ Own w' w.heap.size (.slice Ax x.length dx) x ∧ n ≤ dx ∧ Own w' w.heap.size (.slice Ap (fF v).length dp) (fF v) ∧ (fF v).length ≤ dp ∧ Below w.heap.size w w' := by
 have N : Hid (aX w [(33, #[I 0, I 0, .slice none 0 0, I 0, I 0, .slice none 0 0])] (w.alloc (.cells #[I 0, I 0, .slice none 0 0, I 0, I 0, .slice none 0 0] 33))) := Lib.hid ((aX.none w).push (by simp) _ _)
 have HT : Hid (kN (n : Int) 1 x n n (fF v)) := Lib.hid (by have := NL h; rwa [ev] at this)
 obtain ⟨hl, h1, h8, hx, hv, h0⟩ := h
 have EX := Lib.hid ex
 have HC : Hid (∀ w', Rd w' A1 x → Calls Try.prog 58 #[.slice A1 n c1] w' fun e w'' => ∃ C dc, e = .returned (.slice C n dc) ∧ n ≤ dc ∧ Own w'' w'.heap.size (.slice C x.length dc) x ∧ Below w'.heap.size w' w'') := Lib.hid (fun w' h => by
  have hh := Iu A1 c1 x w' h (by omega) (fun e => by
   obtain ⟨b, off, e2, _⟩ := Rd.cells h (by omega)
   rw [e] at e2
   cases e2)
  rw [ex] at hh
  refine hh.mono ?_
  rintro e w'' ⟨v', rfl, ho, hb⟩
  obtain ⟨C, dc, rfl, hc, _⟩ := Own.reads ho
  rw [ex] at hc
  exact ⟨C, dc, by rw [ex], hc, ho, hb⟩)
 have HD : Hid (∀ w', Rd w' A2 v → Calls Try.prog 57 #[.slice A2 n c2] w' fun e w'' => ∃ v', e = .returned (.tuple #[.agg #[I n, I n, v'], I 0]) ∧ Own w'' w'.heap.size v' (fF v) ∧ Below w'.heap.size w' w'') := Lib.hid (fun w' h => by
  have hh := xY A2 c2 v w' h h1 h8 (PR.dP hv)
  rw [ev] at hh
  exact hh)
 have RX := Lib.hid rx
 have RV := Lib.hid rv
 clear rx rv hl h1 h8 hx hv h0 ex ev
 go_enter Try.func36, Try.ntmps36
 go_wp2_with fail
 refine (HD.out _ (RV.out.below N.out.be)).mono ?_
 rintro e w1 ⟨v', rfl, ho, hb⟩
 obtain ⟨D, dd, rfl, _, _⟩ := Own.reads ho
 have N1 := Lib.hid ((N.out.below hb).alloc (.cells #[I n, I n, .slice D (fF v).length dd] 31))
 have PB := Lib.hid (Row.new w1 31 #[I n, I n, .slice D (fF v).length dd])
 have DO : Hid (Own (w1.alloc (.cells #[I n, I n, .slice D (fF v).length dd] 31)) (w.heap.size + 1) (.slice D (fF v).length dd) (fF v)) := Lib.hid (Own.lower (Own.alloc ho _) (by simp))
 have DC := Lib.hid (Own.rd ho).2
 clear ho hb N HD RV
 go_wp2_with fail
 rename_i K2 aK2
 generalize w1.alloc (.cells #[I n, I n, .slice D (fF v).length dd] 31) = wr at N1 PB DO ⊢
 generalize w1.heap.size = pb at PB ⊢
 have Xr : Hid (∀ w', Below wr.heap.size wr w' → (∀ o, w'.cell? ⟨pb, o, none⟩ = #[I n, I n, .slice D (fF v).length dd][o]?) ∧ True) := Lib.hid (fun w' h => ⟨(PB.out.below h PB.out.lt).cell, trivial⟩)
 have T31 := Lib.hid (fun w' (h : Below wr.heap.size wr w') => HC.out w' (RX.out.below (L8 N1.out.be h)))
 have BN := Lib.hid (Below.refl wr.heap.size wr)
 clear HC RX
 have REST : Hid (∀ (tb : Nat) (w3 : World) (C : Option Addr) (dc : Nat), Below wr.heap.size wr w3 → Row w3 tb 33 #[I n, I 1, .slice C n dc, I n, I n, .slice D (fF v).length dd] → Own w3 (w.heap.size + 1) (.slice C x.length dc) x → n ≤ dc → wr.heap.size ≤ tb → K2 { tmps := #[Value.slice A1 n c1, Value.slice A2 n c2, undef, undef, Value.pointer (some ⟨w.heap.size, 0, none⟩), I 0, Value.pointer (some ⟨pb, 0, none⟩), I 0, Value.pointer (some ⟨tb, 0, none⟩), Value.tuple #[Value.agg #[I n, I n, Value.slice D (fF v).length dd], I 0], Value.slice A2 n c2, Value.tuple #[Value.agg #[I n, I n, Value.slice D (fF v).length dd], I 0], Value.agg #[I n, I n, Value.slice D (fF v).length dd], I 0, Value.slice A1 n c1, I n, Value.slice A1 n c1, Value.slice C n dc, Value.agg #[I n, I 1, Value.slice C n dc], Value.agg #[I n, I n, Value.slice D (fF v).length dd], Value.agg #[I n, I 1, Value.slice C n dc, I n, I n, Value.slice D (fF v).length dd], undef, undef, undef, undef, undef, undef, undef, undef, undef], defers := [] } w3) := Lib.hid (by
  intro tb w3 C dc hB hT hx kx htb
  refine aK2 _ _ ?_
  have N3 := Lib.hid (N1.out.below hB)
  have TB := Lib.hid hT
  have RC := Lib.hid hx
  have KC := Lib.hid kx
  have DO3 := Lib.hid (DO.out.below hB)
  have ZB : Hid (w.heap.size + 1 ≤ wr.heap.size ∧ wr.heap.size ≤ tb) := Lib.hid ⟨by have h := N1.out.rows.le N1.out.be.size; simpa using h, htb⟩
  have T18 : Hid (Calls Try.prog 45 #[.agg #[I n, I 1, .slice C n dc, I n, I n, .slice D (fF v).length dd]] w3 fun e w' => e = .returned (.bool true) ∧ Below w3.heap.size w3 w') := Lib.hid (by
   have hh := wJ n C dc x D dd (fF v) w3 (Own.rd hx).1 (by rw [EX.out]; exact kx) (Own.rd DO3.out).1 DC.out HT.out
   rw [EX.out] at hh
   exact hh)
  clear hB hT hx kx htb T31 Xr BN N1 PB DO aK2
  have xt := TB.out.cell
  go_wp2_with fail
  refine T18.out.mono ?_
  rintro e w4 ⟨rfl, hb⟩
  have N4 := Lib.hid (N3.out.below hb)
  have T4 := Lib.hid (TB.out.below hb TB.out.lt)
  have RC4 := Lib.hid (RC.out.below hb)
  have DO4 := Lib.hid (DO3.out.below hb)
  clear hb xt N3 TB RC DO3 T18
  have xt := T4.out.cell
  have x0 := N4.out.r0.cell
  have g0 := N4.out.r0.free
  have zz := ZB.out
  have hne : tb ≠ w.heap.size := by omega
  have t0 := N4.out.r0.lt
  go_wp2
  refine bodyPost_ret (Yg rfl rfl (Row.eY N4.out.r0 _ _ _ _ _ _)) rfl ⟨_, _, _, _, rfl, ?_, KC.out, ?_, DC.out, ?_⟩
  · exact Own.lower (Own.eY RC4.out (by omega) _ _ _ _ _ _) (by omega)
  · exact Own.lower (Own.eY DO4.out (by omega) _ _ _ _ _ _) (by omega)
  · exact Below.eY N4.out.be (Nat.le_refl _) _ _ _ _ _ _)
 go_region_held3 (fun w' => (∀ o, w'.cell? ⟨pb, o, none⟩ = #[I n, I n, .slice D (fF v).length dd][o]?) ∧ True)
  (first | with_reducible exact Xr.out _ BN.out | with_reducible exact Xr.out _ (bal BN.out _) | with_reducible exact Xr.out _ (Kr BN.out) | with_reducible exact Xr.out _ (bal (Kr BN.out) _) | with_reducible exact Xr.out _ (Kr (bal BN.out _)) | ((with_reducible refine Xr.out _ (Below.eY BN.out ?_ _ _ _ _ _ _)); first | omega | (simp; omega)))
  (first
      | (go_at_call 58
         first
          | ((with_reducible refine (T31.out _ (Kr BN.out)).mono ?_)
             rintro e w2 ⟨C, dc, rfl, hc, ho, hb⟩
             have OC := Lib.hid ho
             have LC := Lib.hid hc
             have BN := Lib.hid (L8 (Kr BN.out) hb)
             have zw2 := BN.out.size
             clear hb ho hc)
          | ((with_reducible refine (T31.out _ (bal (Kr BN.out) _)).mono ?_)
             rintro e w2 ⟨C, dc, rfl, hc, ho, hb⟩
             have OC := Lib.hid ho
             have LC := Lib.hid hc
             have BN := Lib.hid (L8 (bal (Kr BN.out) _) hb)
             have zw2 := BN.out.size
             have TB : Hid (Row w2 wr.heap.size 33 #[I 0, I 0, .slice none 0 0, I 0, I 0, .slice none 0 0]) := Lib.hid (Row.below (Row.new wr.drew 33 #[I 0, I 0, .slice none 0 0, I 0, I 0, .slice none 0 0]) hb (by simp))
             have zt := TB.out.lt
             have kc := TB.out.cell
             have kf := TB.out.free
             clear hb ho hc)
          | ((with_reducible refine (T31.out _ (Kr (bal BN.out _))).mono ?_)
             rintro e w2 ⟨C, dc, rfl, hc, ho, hb⟩
             have OC := Lib.hid ho
             have LC := Lib.hid hc
             have BN := Lib.hid (L8 (Kr (bal BN.out _)) hb)
             have zw2 := BN.out.size
             have TB : Hid (Row w2 wr.heap.size 33 #[I 0, I 0, .slice none 0 0, I 0, I 0, .slice none 0 0]) := Lib.hid (Row.below (Row.drew (Row.new wr 33 #[I 0, I 0, .slice none 0 0, I 0, I 0, .slice none 0 0])) hb (by simp))
             have zt := TB.out.lt
             have kc := TB.out.cell
             have kf := TB.out.free
             clear hb ho hc)))
 all_goals
  show K2 _ _
  first
   | ((with_reducible refine REST.out _ _ _ _ (bal BN.out _) (Row.new _ _ _) (Own.lower (OC.out.alloc _) ?_) LC.out (by omega)); have h := N1.out.rows.le N1.out.be.size; simp at h; first | omega | (simp; omega))
   | ((with_reducible refine REST.out _ _ _ _ (Below.eY BN.out ?_ _ _ _ _ _ _) (Row.eY TB.out _ _ _ _ _ _) (Own.lower (Own.eY OC.out ?_ _ _ _ _ _ _) ?_) LC.out ?_)
      all_goals have h := N1.out.rows.le N1.out.be.size
      all_goals simp at h
      all_goals first | omega | (simp; done) | (simp; omega))
theorem JE (A1 A2 : Option Addr) (c1 c2 : Nat) (x v : List Int) (w : World) (rx : Rd w A1 x) (cx : x.length ≤ c1) (rv : Rd w A2 v) (cv : v.length ≤ c2) (h : newP x v) :
 Calls Try.prog 36 #[.slice A1 x.length c1, .slice A2 v.length c2] w fun e w' => ∃ Ax dx Ap dp, e = .returned (.tuple #[.agg #[I x.length, I 1, .slice Ax x.length dx, I v.length, I v.length, .slice Ap (fF v).length dp], I 0]) ∧ Own w' w.heap.size (.slice Ax x.length dx) x ∧ x.length ≤ dx ∧ Own w' w.heap.size (.slice Ap (fF v).length dp) (fF v) ∧ (fF v).length ≤ dp ∧ Below w.heap.size w w' := by
 have hh := PT v.length A1 A2 c1 c2 x v w rx rv h h.1 rfl
 rw [h.1] at hh ⊢
 exact hh
end Go.Proofs.Ytnijhjbcjeohhaa.PR

namespace Go.Proofs.Ytnijhjbcjeohhaa.EE
open Go.RowKit Go.Proofs.Ytnijhjbcjeohhaa.KK Go.Proofs.af.aO Go.Proofs.af.aU Go.Proofs.af.aV
set_option linter.unusedVariables false
set_option linter.unusedSimpArgs false
def mW (q : Int) : Bool := decide (q ≤ 0) || decide (q > 17179869184)
theorem Kt (q : Int) (w : World) : Calls Try.prog 56 #[I q] w fun e w' => e = .returned (.bool (mW q)) ∧ Below w.heap.size w w' := by
 by_cases h : q ≤ 0
 · have h0 : decide (q ≤ 0) = true := decide_eq_true h
   clear h
   go_enter Try.func56, Try.ntmps56
   go_wp2
   go_ret
   exact ⟨by simp [mW, h0], Below.refl _ _⟩
 · have h0 : decide (q ≤ 0) = false := decide_eq_false h
   clear h
   go_enter Try.func56, Try.ntmps56
   go_wp2
   go_ret
   exact ⟨by simp [mW, h0], Below.refl _ _⟩
theorem Px {l : List Int} {j : Nat} {x : Int} (h : l[j]? = some x) (ha : (l.take j).any mW = false) (hx : mW x = false) : (l.take (j + 1)).any mW = false := by
 rw [List.take_add_one, h, List.any_append, ha]
 simp [hx]
theorem WW {l : List Int} {j : Nat} {x : Int} (h : l[j]? = some x) (hx : mW x = true) : l.any mW = true :=
 List.any_eq_true.2 ⟨x, List.mem_of_getElem? h, hx⟩
theorem Oe (A : Option Addr) (c : Nat) (l : List Int) (w : World) (hw : Rd w A l) (hlen : l.length ≤ 1000000) :
 Calls Try.prog 81 #[.slice A l.length c, .func (.func 56) #[] #[]] w fun e w' => ∃ x, e = .returned (I x) ∧ decide (x ≥ 0) = l.any mW ∧ Below w.heap.size w w' := by
 have HW := Lib.hid hw
 have HL := Lib.hid hlen
 clear hw hlen
 go_enter Try.func81, Try.ntmps81
 go_wp2_with fail
 go_loopw [8] (fun i wr => ∃ k : Nat, k ≤ l.length ∧ i = .int .i64 k ∧ Hid ((l.take k).any mW = false) ∧ Hid (Below w.heap.size w wr)) (fun i _ => l.length - (intOf i).toNat)
 case atStart => exact ⟨0, by omega, rfl, Lib.hid (by simp), Lib.hid (Below.refl _ _)⟩
 case round =>
  obtain ⟨k, hk, rfl, F, HB⟩ := hrel
  by_cases hkl : k = l.length
  · subst hkl
    go_wp2
    go_ret
    exact ⟨_, rfl, by have := F.out; rw [List.take_length] at this; rw [this]; rfl, HB.out⟩
  have hlt : (k : Int) < l.length := by omega
  have hk0 : (0 : Int) ≤ k := by omega
  have STEP : Hid (k + 1 ≤ l.length ∧ l.length - (k + 1) < l.length - k) := Lib.hid (by omega)
  have hw64 : IntKind.i64.wrap ((k : Int) + 1) = (k : Int) + 1 := by have := HL.out; simp [IntKind.wrap, IntKind.bits, IntKind.signed]; omega
  obtain ⟨b, off, rfl, hb, hc⟩ := (HW.out.below HB.out).cells (by omega)
  obtain ⟨x, hx⟩ : ∃ x, l[k]? = some x := ⟨l[k]'(by omega), List.getElem?_eq_getElem (by omega)⟩
  have c0 := hc k x hx
  have HX := Lib.hid hx
  clear hc hx hk hkl
  go_wp2_with fail
  refine (Kt x _).mono ?_
  rintro e w2 ⟨rfl, hb2⟩
  have HB2 := Lib.hid (HB.out.trans (hb2.mono HB.out.size))
  clear hb2
  cases hq : mW x
  · have HQ := Lib.hid hq
    clear hq
    go_wp2
    go_roundw
    case rel => exact ⟨k + 1, STEP.out.1, by go_num, Lib.hid (Px HX.out F.out HQ.out), HB2⟩
    case measure =>
     have h := STEP.out.2
     show l.length - ((k : Int) + 1).toNat < l.length - ((k : Int)).toNat
     rw [show ((k : Int) + 1).toNat = k + 1 by omega, show ((k : Int)).toNat = k by omega]
     exact h
  · have HQ := Lib.hid hq
    clear hq
    go_wp2
    go_ret
    exact ⟨_, rfl, by rw [WW HX.out HQ.out]; simp, HB2.out⟩
theorem F_ (A : Option Addr) (c : Nat) (l : List Int) (w : World) (hw : Rd w A l) (hlen : l.length ≤ 1000000) :
 Calls Try.prog 55 #[.slice A l.length c, .func (.func 56) #[] #[]] w fun e w' => e = .returned (.bool (l.any mW)) ∧ Below w.heap.size w w' := by
 have H := Lib.hid (Oe A c l w hw hlen)
 clear hw hlen
 go_enter Try.func55, Try.ntmps55
 go_wp2_with fail
 refine H.out.mono ?_
 rintro e w2 ⟨x, rfl, hx, hb⟩
 have HB := Lib.hid hb
 have HX := Lib.hid hx
 clear hb hx
 go_wp2
 go_ret
 exact ⟨by rw [← HX.out]; rfl, HB.out⟩
def Cf.l (c : Cf) : List Int := [c.dt, c.acc, c.bias, c.iM, c.l7, c.gate]
def Cf.may (c : Cf) : Bool := !c.l.any mW
theorem NV (c : Cf) (w : World) : Calls Try.prog 35 #[.agg c.row] w fun e w' => e = .returned (.bool c.may) ∧ Below w.heap.size w w' := by
 have H : Hid (Calls Try.prog 55 #[.slice (some ⟨w.heap.size + 1, 0, none⟩) 6 6, .func (.func 56) #[] #[]] ((w.alloc (.cells c.row 24)).alloc (.cells #[I c.dt, I c.acc, I c.bias, I c.iM, I c.l7, I c.gate] 22)) fun e w' => e = .returned (.bool (c.l.any mW)) ∧ Below ((w.alloc (.cells c.row 24)).alloc (.cells #[I c.dt, I c.acc, I c.bias, I c.iM, I c.l7, I c.gate] 22)).heap.size ((w.alloc (.cells c.row 24)).alloc (.cells #[I c.dt, I c.acc, I c.bias, I c.iM, I c.l7, I c.gate] 22)) w') := Lib.hid (by
  have hr := Rd.new (w.alloc (.cells c.row 24)) 22 c.l (by simp [Cf.l])
  have := F_ (some ⟨(w.alloc (.cells c.row 24)).heap.size, 0, none⟩) 6 c.l _ hr (by simp [Cf.l])
  rw [World.size_alloc] at this
  exact this)
 have B0 := Lib.hid (((Below.refl w.heap.size w).alloc (Nat.le_refl _) (.cells c.row 24)).alloc (by simp) (.cells #[I c.dt, I c.acc, I c.bias, I c.iM, I c.l7, I c.gate] 22))
 go_enter Try.func35, Try.ntmps35
 go_wp2_with fail
 refine H.out.mono ?_
 rintro e w2 ⟨rfl, hb⟩
 have HB := Lib.hid (B0.out.trans (hb.mono B0.out.size))
 clear hb
 go_wp2
 go_ret
 exact ⟨rfl, HB.out⟩
theorem Ro.own {w : World} {base c d n0 : Nat} {A B : Option Addr} {x p : List Int} (h : Own w base (.slice A x.length c) x) (k : Own w base (.slice B p.length d) p) (hn : n0 ≤ base) : Ro n0 w ⟨A, c, x, B, d, p⟩ :=
 ⟨⟨(PR.Own.rd h).1, (PR.Own.rd h).2, (PR.Own.rd k).1, (PR.Own.rd k).2⟩, fun ad e => Nat.le_trans hn (PM h ad e), fun ad e => Nat.le_trans hn (PM k ad e)⟩
def rP : List Int := fF [1677721600, 167772160, 16777216]
def pI (t : Nat → Tr) : Nat → Array Value
 | 0 => #[I 16777216, I 0, I 0, I 0, I 0, I 0, .slice none 0 0, I 0, I 0, .slice none 0 0, I 0, I 0, .slice none 0 0, I 0, I 0, .slice none 0 0, I 0, I 0, .slice none 0 0, I 0, I 0, .slice none 0 0, I 0, I 0, I 0, I 0, I 0, I 0, .bool false]
 | 1 => #[I 16777216, I 0, I 0, I 0, I 3, I 1, .slice (t 0).A 3 (t 0).c, I 3, I 3, .slice (t 0).B 9 (t 0).d, I 0, I 0, .slice none 0 0, I 0, I 0, .slice none 0 0, I 0, I 0, .slice none 0 0, I 0, I 0, .slice none 0 0, I 0, I 0, I 0, I 0, I 0, I 0, .bool false]
 | 2 => #[I 16777216, I 0, I 0, I 0, I 3, I 1, .slice (t 0).A 3 (t 0).c, I 3, I 3, .slice (t 0).B 9 (t 0).d, I 3, I 1, .slice (t 1).A 3 (t 1).c, I 3, I 3, .slice (t 1).B 9 (t 1).d, I 0, I 0, .slice none 0 0, I 0, I 0, .slice none 0 0, I 0, I 0, I 0, I 0, I 0, I 0, .bool false]
 | _ => #[I 16777216, I 0, I 0, I 0, I 3, I 1, .slice (t 0).A 3 (t 0).c, I 3, I 3, .slice (t 0).B 9 (t 0).d, I 3, I 1, .slice (t 1).A 3 (t 1).c, I 3, I 3, .slice (t 1).B 9 (t 1).d, I 3, I 1, .slice (t 2).A 3 (t 2).c, I 3, I 3, .slice (t 2).B 9 (t 2).d, I 0, I 0, I 0, I 0, I 0, I 0, .bool false]
theorem zQ {P : Program} {fn : Func} {p u : Tmp} {ty : TypeId} (h : fn.results = #[.cell p ty, .tmp u]) (tmps : Array Value) (w : World) (g : Nat) (cs : List Value) (d : TypeDesc)
 (hp : tmps.getD p undef = .pointer (some ⟨g, 0, none⟩)) (hg : w.rangeAt g 0 cs) (hu : P.underlying ty = some d) (hd : d.isRow = true) (hi : (P.info? ty).map (·.size) = some cs.length) :
 (results fn tmps).run P w = .ok (.tuple #[.agg cs.toArray, tmps.getD u undef]) w := by
 have h1 : tmps[p]?.getD undef = .pointer (some ⟨g, 0, none⟩) := by simpa using hp
 simp [results, h, h1, asAddr, run_loadVar_mid w g 0 ty cs d hg hu hd hi]
theorem Ew (A1 A2 : Option Addr) (w : World) (rx : Rd w A1 [0, 0, 0]) (rv : Rd w A2 [1677721600, 167772160, 16777216]) :
 Calls Try.prog 36 #[.slice A1 3 3, .slice A2 3 3] w fun e w' => ∃ t : Tr, e = .returned (.tuple #[.agg #[I 3, I 1, .slice t.A 3 t.c, I 3, I 3, .slice t.B 9 t.d], I 0]) ∧ t.x = [0, 0, 0] ∧ t.p = rP ∧ Ro w.heap.size w' t ∧ Below w.heap.size w w' := by
 refine (PR.JE A1 A2 3 3 [0, 0, 0] [1677721600, 167772160, 16777216] w rx (by decide) rv (by decide) ⟨rfl, by decide, by decide, ?_, ?_, ?_⟩).mono ?_
 · intro j
   match j with
   | 0 | 1 | 2 => decide
   | j + 3 => simp
 · intro j
   match j with
   | 0 | 1 | 2 => decide
   | j + 3 => simp
 · intro j
   match j with
   | 0 | 1 | 2 => decide
   | j + 3 => simp
 · rintro e w' ⟨Ax, dx, Ap, dp, rfl, ox, hx, op, hp, hb⟩
   exact ⟨⟨Ax, dx, [0, 0, 0], Ap, dp, rP⟩, rfl, rfl, rfl, Ro.own ox op (Nat.le_refl _), hb⟩
end Go.Proofs.Ytnijhjbcjeohhaa.EE

namespace Go.Proofs.Ytnijhjbcjeohhaa.EE
open Go.RowKit Go.Proofs.Ytnijhjbcjeohhaa.KK Go.Proofs.af.aO Go.Proofs.af.aU Go.Proofs.af.aV
set_option linter.unusedVariables false
set_option linter.unusedSimpArgs false
abbrev six (w : World) (B o : Nat) (a b c d e f : Value) : World := (((((w.setCell ⟨B, o, none⟩ a).setCell ⟨B, o + 1, none⟩ b).setCell ⟨B, o + 2, none⟩ c).setCell ⟨B, o + 3, none⟩ d).setCell ⟨B, o + 4, none⟩ e).setCell ⟨B, o + 5, none⟩ f
theorem ND : ∀ (vs pre rest : List Value), rest.length = vs.length → GY (pre ++ rest) pre.length vs = pre ++ vs := by
 intro vs
 induction vs with
 | nil => intro pre rest h; simp only [List.length_nil, List.length_eq_zero_iff] at h; subst h; rfl
 | cons v vs ih =>
   intro pre rest h
   cases rest with
   | nil => simp at h
   | cons r rest =>
     have := ih (pre ++ [v]) rest (by simpa using h)
     simpa [GY] using this
theorem Row.full {w : World} {B : Nat} {t : TypeId} {C : Array Value} (R : Row w B t C) (D : Array Value) (h : D.size = C.size) : Row (w.setCells B 0 D.toList) B t D := by
 obtain ⟨arr, h1, h2⟩ := KK.Row.setCells D.toList 0 w C R
 have h3 := ND D.toList [] C.toList (by simp [h])
 simp only [List.nil_append, List.length_nil] at h3
 rw [h3] at h2
 have : arr = D := Array.toList_inj.mp h2
 rwa [this] at h1
def Az : Array Value := pI (fun _ => ⟨none, 0, [], none, 0, []⟩) 0
def Ej (t : Nat → Tr) (k : Nat) (u : Tr) : Nat → Tr := fun j => if j = k then u else t j
theorem SB (t : Nat → Tr) (u : Tr) : ((((((pI t 0).setIfInBounds 4 (I 3)).setIfInBounds 5 (I 1)).setIfInBounds 6 (.slice u.A 3 u.c)).setIfInBounds 7 (I 3)).setIfInBounds 8 (I 3)).setIfInBounds 9 (.slice u.B 9 u.d) = pI (Ej t 0 u) 1 := by kernel_rfl
theorem SA (t : Nat → Tr) (u : Tr) : ((((((pI t 1).setIfInBounds 10 (I 3)).setIfInBounds 11 (I 1)).setIfInBounds 12 (.slice u.A 3 u.c)).setIfInBounds 13 (I 3)).setIfInBounds 14 (I 3)).setIfInBounds 15 (.slice u.B 9 u.d) = pI (Ej t 1 u) 2 := by kernel_rfl
theorem Sz (t : Nat → Tr) (u : Tr) : ((((((pI t 2).setIfInBounds 16 (I 3)).setIfInBounds 17 (I 1)).setIfInBounds 18 (.slice u.A 3 u.c)).setIfInBounds 19 (I 3)).setIfInBounds 20 (I 3)).setIfInBounds 21 (.slice u.B 9 u.d) = pI (Ej t 2 u) 3 := by kernel_rfl
theorem _root_.Go.Proofs.Ytnijhjbcjeohhaa.KK.aX.six {w0 w : World} {L : List (TypeId × Array Value)} (h : aX w0 L w) {B : Nat} (hp : w0.heap.size + L.length ≤ B) (o : Nat) (a b c d e f : Value) : aX w0 L (EE.six w B o a b c d e f) :=
 (((((aX.set h (p := ⟨B, o, none⟩) hp a).set (p := ⟨B, o + 1, none⟩) hp b).set (p := ⟨B, o + 2, none⟩) hp c).set (p := ⟨B, o + 3, none⟩) hp d).set (p := ⟨B, o + 4, none⟩) hp e).set (p := ⟨B, o + 5, none⟩) hp f
theorem nR (w : World) (B o : Nat) (a b c d e f : Value) : w.grownBy (six w B o a b c d e f) (some B) :=
 bP (bP (bP (bP (bP (bP (dY _ _) _ _) _ _) _ _) _ _) _ _) _ _
theorem Ro.alloc {n0 : Nat} {w : World} {t : Tr} (h : Ro n0 w t) (o : Obj) : Ro n0 (w.alloc o) t := h.below ((Below.refl _ _).alloc (Nat.le_refl _) o)
theorem Ro.mono {n0 n1 : Nat} {w : World} {t : Tr} (h : Ro n0 w t) (hn : n1 ≤ n0) : Ro n1 w t := ⟨h.rw, fun ad e => Nat.le_trans hn (h.na ad e), fun ad e => Nat.le_trans hn (h.nb ad e)⟩
theorem zS {P : Program} {fn : Func} {p u : Tmp} {ty : TypeId} (h : fn.results = #[.cell p ty, .tmp u]) (tmps : Array Value) (w : World) (g : Nat) (C : Array Value) (d : TypeDesc)
 (hp : tmps.getD p undef = .pointer (some ⟨g, 0, none⟩)) (hg : w.rangeAt g 0 C.toList) (hu : P.underlying ty = some d) (hd : d.isRow = true) (hi : (P.info? ty).map (·.size) = some C.size) :
 (results fn tmps).run P w = .ok (.tuple #[.agg C, tmps.getD u undef]) w := by
 have := zQ h tmps w g C.toList d hp hg hu hd (by simpa using hi)
 simpa using this
theorem Row.whole {w : World} {B : Nat} {t : TypeId} {C : Array Value} (R : Row w B t C) : w.rangeAt B 0 C.toList := Row.range R 0 _ (by simp)
theorem JI (c : Cf) (w : World) (hm : c.may = true) : Calls Try.prog 15 #[.agg c.row] w fun x w' => ∃ t : Nat → Tr, x = .returned (.tuple #[.agg (pI t 3), I 0]) ∧ (∀ j, j < 3 → (t j).x = [0, 0, 0] ∧ (t j).p = rP ∧ Ro w.heap.size w' (t j)) ∧ Below w.heap.size w w' := by
 have HM := Lib.hid hm
 have L : Hid (aX w [(24, c.row), (37, #[.int .i64 0, .int .i64 0, .int .i64 0, .int .i64 0, .int .i64 0, .int .i64 0, .slice none 0 0, .int .i64 0, .int .i64 0, .slice none 0 0, .int .i64 0, .int .i64 0, .slice none 0 0, .int .i64 0, .int .i64 0, .slice none 0 0, .int .i64 0, .int .i64 0, .slice none 0 0, .int .i64 0, .int .i64 0, .slice none 0 0, .int .i64 0, .int .i64 0, .int .i64 0, .int .i64 0, .int .i64 0, .int .i64 0, .bool false])] (((w.alloc (.cells c.row 24)).alloc (.cells #[.int .i64 0, .int .i64 0, .int .i64 0, .int .i64 0, .int .i64 0, .int .i64 0, .slice none 0 0, .int .i64 0, .int .i64 0, .slice none 0 0, .int .i64 0, .int .i64 0, .slice none 0 0, .int .i64 0, .int .i64 0, .slice none 0 0, .int .i64 0, .int .i64 0, .slice none 0 0, .int .i64 0, .int .i64 0, .slice none 0 0, .int .i64 0, .int .i64 0, .int .i64 0, .int .i64 0, .int .i64 0, .int .i64 0, .bool false] 37)))) := Lib.hid (((aX.none w).push (by simp) _ _).push (by simp) _ _)
 have LZ : Hid (((w.alloc (.cells c.row 24)).alloc (.cells #[.int .i64 0, .int .i64 0, .int .i64 0, .int .i64 0, .int .i64 0, .int .i64 0, .slice none 0 0, .int .i64 0, .int .i64 0, .slice none 0 0, .int .i64 0, .int .i64 0, .slice none 0 0, .int .i64 0, .int .i64 0, .slice none 0 0, .int .i64 0, .int .i64 0, .slice none 0 0, .int .i64 0, .int .i64 0, .slice none 0 0, .int .i64 0, .int .i64 0, .int .i64 0, .int .i64 0, .int .i64 0, .int .i64 0, .bool false] 37)).heap.size = w.heap.size + 2) := Lib.hid (by simp)
 clear hm
 go_enter Try.func15, Try.ntmps15
 go_upto_region 1 with fail
 generalize ((w.alloc (.cells c.row 24)).alloc (.cells #[.int .i64 0, .int .i64 0, .int .i64 0, .int .i64 0, .int .i64 0, .int .i64 0, .slice none 0 0, .int .i64 0, .int .i64 0, .slice none 0 0, .int .i64 0, .int .i64 0, .slice none 0 0, .int .i64 0, .int .i64 0, .slice none 0 0, .int .i64 0, .int .i64 0, .slice none 0 0, .int .i64 0, .int .i64 0, .slice none 0 0, .int .i64 0, .int .i64 0, .int .i64 0, .int .i64 0, .int .i64 0, .int .i64 0, .bool false] 37)) = w2 at L LZ ⊢
 have hc := L.out.r0.cell
 go_wp2_with fail
 refine (NV c _).mono ?_
 rintro x w3 ⟨rfl, hb⟩
 have L3 := Lib.hid (L.out.below hb)
 clear hb hc L
 rw [HM.out]
 have HBD : Hid (∀ w', (Instr.build 37 #[(0, .agg #[I 16777216, I 0, I 0, I 0])]).run Try.prog w' = .ok (.agg Az) w') := Lib.hid (fun w' => by kernel_rfl)
 have HT : Hid ((w3.alloc (.cells #[.int .i64 0, .int .i64 0, .int .i64 0, .int .i64 0, .int .i64 0, .int .i64 0, .slice none 0 0, .int .i64 0, .int .i64 0, .slice none 0 0, .int .i64 0, .int .i64 0, .slice none 0 0, .int .i64 0, .int .i64 0, .slice none 0 0, .int .i64 0, .int .i64 0, .slice none 0 0, .int .i64 0, .int .i64 0, .slice none 0 0, .int .i64 0, .int .i64 0, .int .i64 0, .int .i64 0, .int .i64 0, .int .i64 0, .bool false] 37)).there w3.heap.size 0 Az.size) := Lib.hid (by have h := Row.there (Row.new w3 37 #[.int .i64 0, .int .i64 0, .int .i64 0, .int .i64 0, .int .i64 0, .int .i64 0, .slice none 0 0, .int .i64 0, .int .i64 0, .slice none 0 0, .int .i64 0, .int .i64 0, .slice none 0 0, .int .i64 0, .int .i64 0, .slice none 0 0, .int .i64 0, .int .i64 0, .slice none 0 0, .int .i64 0, .int .i64 0, .slice none 0 0, .int .i64 0, .int .i64 0, .int .i64 0, .int .i64 0, .int .i64 0, .int .i64 0, .bool false]); exact h)
 have i37 : Hid ((Try.prog.info? 37).map (·.size) = some Az.size) := Lib.hid (by kernel_rfl)
 have one : Hid (Az.all (·.oneCell') = true) := Lib.hid (by kernel_rfl)
 have R4 : Hid (Row ((w3.alloc (.cells #[.int .i64 0, .int .i64 0, .int .i64 0, .int .i64 0, .int .i64 0, .int .i64 0, .slice none 0 0, .int .i64 0, .int .i64 0, .slice none 0 0, .int .i64 0, .int .i64 0, .slice none 0 0, .int .i64 0, .int .i64 0, .slice none 0 0, .int .i64 0, .int .i64 0, .slice none 0 0, .int .i64 0, .int .i64 0, .slice none 0 0, .int .i64 0, .int .i64 0, .int .i64 0, .int .i64 0, .int .i64 0, .int .i64 0, .bool false] 37)).setCells w3.heap.size 0 Az.toList) w3.heap.size 37 Az) := Lib.hid (Row.full (Row.new w3 37 #[.int .i64 0, .int .i64 0, .int .i64 0, .int .i64 0, .int .i64 0, .int .i64 0, .slice none 0 0, .int .i64 0, .int .i64 0, .slice none 0 0, .int .i64 0, .int .i64 0, .slice none 0 0, .int .i64 0, .int .i64 0, .slice none 0 0, .int .i64 0, .int .i64 0, .slice none 0 0, .int .i64 0, .int .i64 0, .slice none 0 0, .int .i64 0, .int .i64 0, .int .i64 0, .int .i64 0, .int .i64 0, .int .i64 0, .bool false]) Az rfl)
 have L4 : Hid (aX w [(24, c.row), (37, #[.int .i64 0, .int .i64 0, .int .i64 0, .int .i64 0, .int .i64 0, .int .i64 0, .slice none 0 0, .int .i64 0, .int .i64 0, .slice none 0 0, .int .i64 0, .int .i64 0, .slice none 0 0, .int .i64 0, .int .i64 0, .slice none 0 0, .int .i64 0, .int .i64 0, .slice none 0 0, .int .i64 0, .int .i64 0, .slice none 0 0, .int .i64 0, .int .i64 0, .int .i64 0, .int .i64 0, .int .i64 0, .int .i64 0, .bool false])] ((w3.alloc (.cells #[.int .i64 0, .int .i64 0, .int .i64 0, .int .i64 0, .int .i64 0, .int .i64 0, .slice none 0 0, .int .i64 0, .int .i64 0, .slice none 0 0, .int .i64 0, .int .i64 0, .slice none 0 0, .int .i64 0, .int .i64 0, .slice none 0 0, .int .i64 0, .int .i64 0, .slice none 0 0, .int .i64 0, .int .i64 0, .slice none 0 0, .int .i64 0, .int .i64 0, .int .i64 0, .int .i64 0, .int .i64 0, .int .i64 0, .bool false] 37)).setCells w3.heap.size 0 Az.toList)) := Lib.hid (aX.app (L3.out.alloc _) (mP Az.toList 0 _) (fun g e => by injection e with e; subst e; exact L3.out.rows.le L3.out.be.size))
 have LB : Hid (w.heap.size + 2 ≤ w3.heap.size) := Lib.hid (L3.out.rows.le L3.out.be.size)
 go_upto_region 4 with (first
  | (with_reducible refine wpList_build rfl 37 #[(0, .tmp 10)] rfl #[(0, .agg #[I 16777216, I 0, I 0, I 0])] (by kernel_rfl) _ (HBD.out _) ?_)
  | (with_reducible refine wpList_store_mid rfl 37 (.tmp 4) (.tmp 11) rfl w3.heap.size 0 Az rfl rfl HT.out i37.out one.out ?_))
 clear HBD HT i37 one L3
 generalize (w3.alloc (.cells #[.int .i64 0, .int .i64 0, .int .i64 0, .int .i64 0, .int .i64 0, .int .i64 0, .slice none 0 0, .int .i64 0, .int .i64 0, .slice none 0 0, .int .i64 0, .int .i64 0, .slice none 0 0, .int .i64 0, .int .i64 0, .slice none 0 0, .int .i64 0, .int .i64 0, .slice none 0 0, .int .i64 0, .int .i64 0, .slice none 0 0, .int .i64 0, .int .i64 0, .int .i64 0, .int .i64 0, .int .i64 0, .int .i64 0, .bool false] 37)).setCells w3.heap.size 0 Az.toList = w4 at R4 L4 ⊢
 generalize w3.heap.size = B at R4 LB ⊢
 go_wp2_with fail
 go_loopw [12] (fun i wl => ∃ (k : Nat) (t : Nat → Tr), k ≤ 3 ∧ i = .int .i64 k ∧ Hid (aX w [(24, c.row), (37, #[.int .i64 0, .int .i64 0, .int .i64 0, .int .i64 0, .int .i64 0, .int .i64 0, .slice none 0 0, .int .i64 0, .int .i64 0, .slice none 0 0, .int .i64 0, .int .i64 0, .slice none 0 0, .int .i64 0, .int .i64 0, .slice none 0 0, .int .i64 0, .int .i64 0, .slice none 0 0, .int .i64 0, .int .i64 0, .slice none 0 0, .int .i64 0, .int .i64 0, .int .i64 0, .int .i64 0, .int .i64 0, .int .i64 0, .bool false])] wl) ∧ Hid (Row wl B 37 (pI t k)) ∧ Hid (∀ j, j < k → (t j).x = [0, 0, 0] ∧ (t j).p = rP ∧ Ro (B + 1) wl (t j))) (fun i _ => 3 - (intOf i).toNat)
 case atStart => exact ⟨0, (fun _ => ⟨none, 0, [], none, 0, []⟩), by omega, rfl, L4, R4, Lib.hid (fun j hj => by omega)⟩
 case round =>
  clear L4 R4
  obtain ⟨k, t, hk, rfl, L, R, T⟩ := hrel
  have mk : ∀ w', (Instr.makeSlice 29 (.int .i64 3) (.int .i64 3)).run Try.prog w' = .ok (.slice (some ⟨w'.heap.size, 0, none⟩) 3 3) (w'.alloc (.cells #[I 0, I 0, I 0] 22)) := fun w' => by
   have h := Dq w' 3 (by decide)
   rw [show madeCells #[I 0] 3 = #[I 0, I 0, I 0] from by kernel_rfl] at h
   exact h
  have RX : Hid (∀ w' : World, Rd ((w'.alloc (.cells #[I 0, I 0, I 0] 22)).alloc (.cells #[I 1677721600, I 167772160, I 16777216] 22)) (some ⟨w'.heap.size, 0, none⟩) [0, 0, 0]) := Lib.hid (fun w' => (Rd.new w' 22 [0, 0, 0] (by simp)).below ((Below.refl _ _).alloc (Nat.le_refl _) _))
  have RV : Hid (∀ w' : World, Rd ((w'.alloc (.cells #[I 0, I 0, I 0] 22)).alloc (.cells #[I 1677721600, I 167772160, I 16777216] 22)) (some ⟨w'.heap.size + 1, 0, none⟩) [1677721600, 167772160, 16777216]) := Lib.hid (fun w' => by
   have h := Rd.new (w'.alloc (.cells #[I 0, I 0, I 0] 22)) 22 [1677721600, 167772160, 16777216] (by simp)
   rw [World.size_alloc] at h
   exact h)
  obtain rfl | rfl | rfl | rfl : k = 3 ∨ k = 0 ∨ k = 1 ∨ k = 2 := by omega
  · clear mk RX RV
    have RA := Lib.hid (Row.whole R.out)
    have i37 : Hid ((Try.prog.info? 37).map (·.size) = some (pI t 3).toList.length) := Lib.hid (by kernel_rfl)
    have P6 : Hid ((Try.prog.info? 37).map (·.size) = some (pI t 3).size) := Lib.hid (by kernel_rfl)
    have one : Hid ((pI t 3).all (·.oneCell') = true) := Lib.hid (by kernel_rfl)
    have HT : Hid (wr.there (w.heap.size + 1) 0 (pI t 3).size) := Lib.hid (by have h := Row.there L.out.r1; exact h)
    go_wp2_with (first
     | (with_reducible refine wpList_load_mid rfl 37 (.tmp 4) rfl B 0 rfl (pI t 3).toList _ RA.out Try.underlying37 rfl i37.out ?_)
     | (with_reducible refine wpList_store_mid rfl 37 (.tmp 2) (.tmp 25) rfl (w.heap.size + 1) 0 (pI t 3) rfl rfl HT.out P6.out one.out ?_))
    refine bodyPost_ret (zS rfl _ _ (w.heap.size + 1) (pI t 3) _ rfl (World.rangeAt_setCells_same _ _ _ _ (by have h := HT.out; simpa using h)) Try.underlying37 rfl P6.out) rfl ?_
    refine ⟨t, rfl, fun j hj => ⟨(T.out j hj).1, (T.out j hj).2.1, ((T.out j hj).2.2.grown (mP _ _ _) (by have := LB.out; omega)).mono (by have := LB.out; omega)⟩, KK.eu _ _ _ L.out.be (by omega)⟩
  · go_wp2_with fail
    refine (Ew _ _ _ (RX.out _) (RV.out _)).mono ?_
    rintro x w5 ⟨u, rfl, ux, up, uo, hb⟩
    have L5 := Lib.hid (((L.out.alloc _).alloc _).below hb)
    have R5 := Lib.hid (Row.below ((R.out.alloc _).alloc _) hb ((R.out.alloc _).alloc _).lt)
    have T5 : Hid (∀ j, j < 0 → (t j).x = [0, 0, 0] ∧ (t j).p = rP ∧ Ro (B + 1) w5 (t j)) := Lib.hid (fun j hj => ⟨(T.out j hj).1, (T.out j hj).2.1, (((T.out j hj).2.2.alloc _).alloc _).below hb⟩)
    have U5 : Hid (u.x = [0, 0, 0] ∧ u.p = rP ∧ Ro (B + 1) w5 u) := Lib.hid ⟨ux, up, uo.mono (by have := R.out.lt; simp; omega)⟩
    clear ux up uo hb L R T mk RX RV
    have c5 := R5.out.cell
    have f5 := R5.out.free
    simp only [pI] at c5
    go_wp2
    go_roundw
    case rel =>
     refine ⟨0 + 1, Ej t 0 u, by omega, by go_num, Lib.hid (L5.out.six LB.out 4 _ _ _ _ _ _), Lib.hid ?_, Lib.hid ?_⟩
     · rw [← SB]
       exact (((((R5.out.set 4 _).set 5 _).set 6 _).set 7 _).set 8 _).set 9 _
     · intro j hj
       by_cases h : j = 0
       · subst h
         exact ⟨U5.out.1, U5.out.2.1, U5.out.2.2.grown (nR _ _ 4 _ _ _ _ _ _) (Nat.lt_succ_self _)⟩
       · have h1 := T5.out j (by omega)
         have e : Ej t 0 u j = t j := if_neg h
         rw [e]
         exact ⟨h1.1, h1.2.1, h1.2.2.grown (nR _ _ 4 _ _ _ _ _ _) (Nat.lt_succ_self _)⟩
    case measure => simp [intOf]
  · go_wp2_with fail
    refine (Ew _ _ _ (RX.out _) (RV.out _)).mono ?_
    rintro x w5 ⟨u, rfl, ux, up, uo, hb⟩
    have L5 := Lib.hid (((L.out.alloc _).alloc _).below hb)
    have R5 := Lib.hid (Row.below ((R.out.alloc _).alloc _) hb ((R.out.alloc _).alloc _).lt)
    have T5 : Hid (∀ j, j < 1 → (t j).x = [0, 0, 0] ∧ (t j).p = rP ∧ Ro (B + 1) w5 (t j)) := Lib.hid (fun j hj => ⟨(T.out j hj).1, (T.out j hj).2.1, (((T.out j hj).2.2.alloc _).alloc _).below hb⟩)
    have U5 : Hid (u.x = [0, 0, 0] ∧ u.p = rP ∧ Ro (B + 1) w5 u) := Lib.hid ⟨ux, up, uo.mono (by have := R.out.lt; simp; omega)⟩
    clear ux up uo hb L R T mk RX RV
    have c5 := R5.out.cell
    have f5 := R5.out.free
    simp only [pI] at c5
    go_wp2
    go_roundw
    case rel =>
     refine ⟨1 + 1, Ej t 1 u, by omega, by go_num, Lib.hid (L5.out.six LB.out 10 _ _ _ _ _ _), Lib.hid ?_, Lib.hid ?_⟩
     · rw [← SA]
       exact (((((R5.out.set 10 _).set 11 _).set 12 _).set 13 _).set 14 _).set 15 _
     · intro j hj
       by_cases h : j = 1
       · subst h
         exact ⟨U5.out.1, U5.out.2.1, U5.out.2.2.grown (nR _ _ 10 _ _ _ _ _ _) (Nat.lt_succ_self _)⟩
       · have h1 := T5.out j (by omega)
         have e : Ej t 1 u j = t j := if_neg h
         rw [e]
         exact ⟨h1.1, h1.2.1, h1.2.2.grown (nR _ _ 10 _ _ _ _ _ _) (Nat.lt_succ_self _)⟩
    case measure => simp [intOf]
  · go_wp2_with fail
    refine (Ew _ _ _ (RX.out _) (RV.out _)).mono ?_
    rintro x w5 ⟨u, rfl, ux, up, uo, hb⟩
    have L5 := Lib.hid (((L.out.alloc _).alloc _).below hb)
    have R5 := Lib.hid (Row.below ((R.out.alloc _).alloc _) hb ((R.out.alloc _).alloc _).lt)
    have T5 : Hid (∀ j, j < 2 → (t j).x = [0, 0, 0] ∧ (t j).p = rP ∧ Ro (B + 1) w5 (t j)) := Lib.hid (fun j hj => ⟨(T.out j hj).1, (T.out j hj).2.1, (((T.out j hj).2.2.alloc _).alloc _).below hb⟩)
    have U5 : Hid (u.x = [0, 0, 0] ∧ u.p = rP ∧ Ro (B + 1) w5 u) := Lib.hid ⟨ux, up, uo.mono (by have := R.out.lt; simp; omega)⟩
    clear ux up uo hb L R T mk RX RV
    have c5 := R5.out.cell
    have f5 := R5.out.free
    simp only [pI] at c5
    go_wp2
    go_roundw
    case rel =>
     refine ⟨2 + 1, Ej t 2 u, by omega, by go_num, Lib.hid (L5.out.six LB.out 16 _ _ _ _ _ _), Lib.hid ?_, Lib.hid ?_⟩
     · rw [← Sz]
       exact (((((R5.out.set 16 _).set 17 _).set 18 _).set 19 _).set 20 _).set 21 _
     · intro j hj
       by_cases h : j = 2
       · subst h
         exact ⟨U5.out.1, U5.out.2.1, U5.out.2.2.grown (nR _ _ 16 _ _ _ _ _ _) (Nat.lt_succ_self _)⟩
       · have h1 := T5.out j (by omega)
         have e : Ej t 2 u j = t j := if_neg h
         rw [e]
         exact ⟨h1.1, h1.2.1, h1.2.2.grown (nR _ _ 16 _ _ _ _ _ _) (Nat.lt_succ_self _)⟩
    case measure => simp [intOf]
end Go.Proofs.Ytnijhjbcjeohhaa.EE

namespace Go.Proofs.Ytnijhjbcjeohhaa.EE
open Go.RowKit Go.Proofs.Ytnijhjbcjeohhaa.KK Go.Proofs.af.aO Go.Proofs.af.aU Go.Proofs.af.aV
set_option linter.unusedVariables false
set_option linter.unusedSimpArgs false
def iT (q : Int) : Bool := decide (q < 0) || decide (q > 1000)
theorem BO (q : Int) (w : World) : Calls Try.prog 46 #[I q] w fun e w' => e = .returned (.bool (iT q)) ∧ Below w.heap.size w w' := by
 by_cases h : q < 0
 · have h0 : decide (q < 0) = true := decide_eq_true h
   clear h
   go_enter Try.func46, Try.ntmps46
   go_wp2
   go_ret
   exact ⟨by simp [iT, h0], Below.refl _ _⟩
 · have h0 : decide (q < 0) = false := decide_eq_false h
   clear h
   go_enter Try.func46, Try.ntmps46
   go_wp2
   go_ret
   exact ⟨by simp [iT, h0], Below.refl _ _⟩
theorem Nk {l : List Int} {j : Nat} {x : Int} (h : l[j]? = some x) (ha : (l.take j).any iT = false) (hx : iT x = false) : (l.take (j + 1)).any iT = false := by
 rw [List.take_add_one, h, List.any_append, ha]
 simp [hx]
theorem Ub {l : List Int} {j : Nat} {x : Int} (h : l[j]? = some x) (hx : iT x = true) : l.any iT = true :=
 List.any_eq_true.2 ⟨x, List.mem_of_getElem? h, hx⟩
theorem JK (A : Option Addr) (c : Nat) (l : List Int) (w : World) (hw : Rd w A l) (hlen : l.length ≤ 1000000) :
 Calls Try.prog 78 #[.slice A l.length c, .func (.func 46) #[] #[]] w fun e w' => ∃ x, e = .returned (I x) ∧ decide (x ≥ 0) = l.any iT ∧ Below w.heap.size w w' := by
 have HW := Lib.hid hw
 have HL := Lib.hid hlen
 clear hw hlen
 go_enter Try.func78, Try.ntmps78
 go_wp2_with fail
 go_loopw [8] (fun i wr => ∃ k : Nat, k ≤ l.length ∧ i = .int .i64 k ∧ Hid ((l.take k).any iT = false) ∧ Hid (Below w.heap.size w wr)) (fun i _ => l.length - (intOf i).toNat)
 case atStart => exact ⟨0, by omega, rfl, Lib.hid (by simp), Lib.hid (Below.refl _ _)⟩
 case round =>
  obtain ⟨k, hk, rfl, F, HB⟩ := hrel
  by_cases hkl : k = l.length
  · subst hkl
    go_wp2
    go_ret
    exact ⟨_, rfl, by have := F.out; rw [List.take_length] at this; rw [this]; rfl, HB.out⟩
  have hlt : (k : Int) < l.length := by omega
  have hk0 : (0 : Int) ≤ k := by omega
  have STEP : Hid (k + 1 ≤ l.length ∧ l.length - (k + 1) < l.length - k) := Lib.hid (by omega)
  have hw64 : IntKind.i64.wrap ((k : Int) + 1) = (k : Int) + 1 := by have := HL.out; simp [IntKind.wrap, IntKind.bits, IntKind.signed]; omega
  obtain ⟨b, off, rfl, hb, hc⟩ := (HW.out.below HB.out).cells (by omega)
  obtain ⟨x, hx⟩ : ∃ x, l[k]? = some x := ⟨l[k]'(by omega), List.getElem?_eq_getElem (by omega)⟩
  have c0 := hc k x hx
  have HX := Lib.hid hx
  clear hc hx hk hkl
  go_wp2_with fail
  refine (BO x _).mono ?_
  rintro e w2 ⟨rfl, hb2⟩
  have HB2 := Lib.hid (HB.out.trans (hb2.mono HB.out.size))
  clear hb2
  cases hq : iT x
  · have HQ := Lib.hid hq
    clear hq
    go_wp2
    go_roundw
    case rel => exact ⟨k + 1, STEP.out.1, by go_num, Lib.hid (Nk HX.out F.out HQ.out), HB2⟩
    case measure =>
     have h := STEP.out.2
     show l.length - ((k : Int) + 1).toNat < l.length - ((k : Int)).toNat
     rw [show ((k : Int) + 1).toNat = k + 1 by omega, show ((k : Int)).toNat = k by omega]
     exact h
  · have HQ := Lib.hid hq
    clear hq
    go_wp2
    go_ret
    exact ⟨_, rfl, by rw [Ub HX.out HQ.out]; simp, HB2.out⟩
theorem CY (A : Option Addr) (c : Nat) (l : List Int) (w : World) (hw : Rd w A l) (hlen : l.length ≤ 1000000) :
 Calls Try.prog 48 #[.slice A l.length c, .func (.func 46) #[] #[]] w fun e w' => e = .returned (.bool (l.any iT)) ∧ Below w.heap.size w w' := by
 have H := Lib.hid (JK A c l w hw hlen)
 clear hw hlen
 go_enter Try.func48, Try.ntmps48
 go_wp2_with fail
 refine H.out.mono ?_
 rintro e w2 ⟨x, rfl, hx, hb⟩
 have HB := Lib.hid hb
 have HX := Lib.hid hx
 clear hb hx
 go_wp2
 go_ret
 exact ⟨by rw [← HX.out]; rfl, HB.out⟩
theorem Rd.part {w : World} {b o : Nat} {t : TypeId} {C : Array Value} {l : List Int} (R : Row w b t C) (hl : l.length ≤ 1000) (h : ∀ j x, l[j]? = some x → C[o + j]? = some (I x)) : Rd w (some ⟨b, o, none⟩) l := by
 refine ⟨rfl, by show l.length ≤ _; omega, fun hp => ⟨_, rfl, fun j x hx => ?_⟩⟩
 refine ⟨[I x], by first | rfl | (show _ ≤ _; omega) | trivial, rfl, fun k u hu => ?_⟩
 have hk : k = 0 := by
  cases k with
  | zero => rfl
  | succ k => simp at hu
 subst hk
 simp at hu
 subst hu
 have h1 : (Kd.int .i64).sz = 1 := rfl
 have ea : ∀ n, (⟨b, o, none⟩ : Addr).add n = ⟨b, o + n, none⟩ := fun n => by unfold Addr.add; split <;> simp_all
 rw [h1, Nat.mul_one, Nat.add_zero, ea, R.cell]
 exact h j x hx
def Es.right (e : Es) : Bool := PQ.fU (PQ.at4 e.q0 e.q1 e.q2 e.q3) 4 && decide (0 ≤ e.steps) && decide (e.steps ≤ 1099511627776) && !iT e.dO && !([e.f0, e.f1, e.f2, e.f3].any iT)
theorem Nv (e : Es) (w : World) (hr : ∀ j, j < 3 → Rw w (e.ax j)) (hl : ∀ j, j < 3 → (e.ax j).x.length = 3 ∧ (e.ax j).p.length = 9) (ht : ∀ j, j < 3 → PR.kN 3 1 (e.ax j).x 3 3 (e.ax j).p) :
 Calls Try.prog 20 #[.agg e.R] w fun x w' => x = .returned (.bool e.right) ∧ Below w.heap.size w w' := by
 have HK : Hid (∀ j, j < 3 → ∀ w', Below w.heap.size w w' → Calls Try.prog 45 #[.agg (e.ax j).row] w' fun x w'' => x = .returned (.bool true) ∧ Below w'.heap.size w' w'') := Lib.hid (fun j hj w' hb =>
  PR.wJ 3 (e.ax j).A (e.ax j).c (e.ax j).x (e.ax j).B (e.ax j).d (e.ax j).p w' ((hr j hj).x.below hb) (hr j hj).xc ((hr j hj).p.below hb) (hr j hj).pd (ht j hj))
 have L : Hid (aX w [(37, e.R)] (w.alloc (.cells e.R 37))) := Lib.hid ((aX.none w).push (by simp) _ _)
 have HL := Lib.hid hl
 clear hr hl ht
 go_enter Try.func20, Try.ntmps20
 go_upto_region 1 with fail
 generalize (w.alloc (.cells e.R 37)) = w1 at L ⊢
 have RA := Lib.hid (Row.range L.out.r0 4 e.yw.toList (by kernel_rfl))
 have i34 := Lib.hid (show (Try.prog.info? 34).map (·.size) = some e.yw.toList.length by kernel_rfl)
 go_wp2_with (with_reducible refine wpList_load_mid rfl 34 (.tmp 6) rfl w.heap.size 4 rfl e.yw.toList _ RA.out Try.underlying34 rfl i34.out ?_)
 clear RA i34
 have IX : Hid ((∀ w', (Instr.index 34 (.agg e.yw) (.int .i64 0)).run Try.prog w' = .ok (.agg e.t0.row) w') ∧ (∀ w', (Instr.index 34 (.agg e.yw) (.int .i64 1)).run Try.prog w' = .ok (.agg e.t1.row) w') ∧ (∀ w', (Instr.index 34 (.agg e.yw) (.int .i64 2)).run Try.prog w' = .ok (.agg e.t2.row) w')) := Lib.hid ⟨fun w' => by kernel_rfl, fun w' => by kernel_rfl, fun w' => by kernel_rfl⟩
 go_loopw [8] (fun i wl => ∃ k : Nat, k ≤ 3 ∧ i = .int .i64 k ∧ Hid (aX w [(37, e.R)] wl)) (fun i _ => 3 - (intOf i).toNat)
 case atStart => exact ⟨0, by omega, rfl, L⟩
 case round =>
  clear L
  obtain ⟨k, hk, rfl, L⟩ := hrel
  obtain rfl | rfl | rfl | rfl : k = 3 ∨ k = 0 ∨ k = 1 ∨ k = 2 := by omega
  · have hc : ∀ i, wr.cell? ⟨w.heap.size, i, none⟩ = e.row[i]? := L.out.r0.cell
    go_wp2_with fail
    refine (PQ.mM e.q0 e.q1 e.q2 e.q3 _).mono ?_
    rintro x w5 ⟨rfl, hb⟩
    have L5 := Lib.hid (L.out.below hb)
    clear hb hc L HK IX
    have hc : ∀ i, w5.cell? ⟨w.heap.size, i, none⟩ = e.row[i]? := L5.out.r0.cell
    cases h1 : PQ.fU (PQ.at4 e.q0 e.q1 e.q2 e.q3) 4
    · go_wp2
      go_ret
      exact ⟨by simp [Es.right, h1], L5.out.be⟩
    cases h2 : decide (e.steps ≥ 0)
    · go_wp2
      go_ret
      exact ⟨by simp only [Es.right, h1, show decide (0 ≤ e.steps) = false from h2]; rfl, L5.out.be⟩
    cases h3 : decide (e.steps ≤ 1099511627776)
    · go_wp2
      go_ret
      exact ⟨by simp only [Es.right, h1, h3, show decide (0 ≤ e.steps) = true from h2]; rfl, L5.out.be⟩
    go_wp2_with fail
    refine (BO e.dO _).mono ?_
    rintro x w6 ⟨rfl, hb⟩
    have L6 := Lib.hid (L5.out.below hb)
    clear hb hc L5
    have hc : ∀ i, w6.cell? ⟨w.heap.size, i, none⟩ = e.row[i]? := L6.out.r0.cell
    cases h4 : iT e.dO
    case true =>
     go_wp2
     go_ret
     exact ⟨by simp only [Es.right, h1, h3, h4, show decide (0 ≤ e.steps) = true from h2]; rfl, L6.out.be⟩
    go_wp2_with fail
    refine (CY (some ⟨w.heap.size, 24, none⟩) 4 [e.f0, e.f1, e.f2, e.f3] w6 (Rd.part L6.out.r0 (by simp) (fun j x hx => ?_)) (by simp)).mono ?_
    · match j, hx with
      | 0, hx => injection hx with hx; subst hx; rfl
      | 1, hx => injection hx with hx; subst hx; rfl
      | 2, hx => injection hx with hx; subst hx; rfl
      | 3, hx => injection hx with hx; subst hx; rfl
      | j + 4, hx => simp at hx
    rintro x w7 ⟨rfl, hb⟩
    have L7 := Lib.hid (L6.out.below hb)
    clear hb hc L6
    go_wp2
    go_ret
    have hE : (!iT e.f0 && (!iT e.f1 && (!iT e.f2 && !iT e.f3))) = !([e.f0, e.f1, e.f2, e.f3].any iT) := by
     simp only [List.any_cons, List.any_nil]
     generalize iT e.f0 = a, iT e.f1 = b, iT e.f2 = c, iT e.f3 = d
     revert a b c d
     decide
    have hR : e.right = (!iT e.f0 && (!iT e.f1 && (!iT e.f2 && !iT e.f3))) := by
     rw [hE]
     simp only [Es.right, h1, h3, h4, show decide (0 ≤ e.steps) = true from h2]
     rfl
    exact ⟨by rw [hR]; rfl, L7.out.be⟩
  · have ix := IX.out.1
    have z0 := L.out.r0.lt
    go_wp2_with fail
    refine (HK.out 0 (by decide) _ (L.out.alloc _).be).mono ?_
    rintro x w5 ⟨rfl, hb⟩
    have L5 := Lib.hid ((L.out.alloc _).below hb)
    have R5 := Lib.hid (Row.below (Row.new wr 33 e.t0.row) hb (Row.new wr 33 e.t0.row).lt)
    clear hb L
    have c5 := R5.out.cell 0
    go_wp2
    go_roundw
    case rel => exact ⟨0 + 1, by omega, by go_num, L5⟩
    case measure => simp [intOf]
  · have ix := IX.out.2.1
    have z0 := L.out.r0.lt
    go_wp2_with fail
    refine (HK.out 1 (by decide) _ (L.out.alloc _).be).mono ?_
    rintro x w5 ⟨rfl, hb⟩
    have L5 := Lib.hid ((L.out.alloc _).below hb)
    have R5 := Lib.hid (Row.below (Row.new wr 33 e.t1.row) hb (Row.new wr 33 e.t1.row).lt)
    clear hb L
    have c5 := R5.out.cell 0
    go_wp2
    go_roundw
    case rel => exact ⟨1 + 1, by omega, by go_num, L5⟩
    case measure => simp [intOf]
  · have ix := IX.out.2.2
    have z0 := L.out.r0.lt
    go_wp2_with fail
    refine (HK.out 2 (by decide) _ (L.out.alloc _).be).mono ?_
    rintro x w5 ⟨rfl, hb⟩
    have L5 := Lib.hid ((L.out.alloc _).below hb)
    have R5 := Lib.hid (Row.below (Row.new wr 33 e.t2.row) hb (Row.new wr 33 e.t2.row).lt)
    clear hb L
    have c5 := R5.out.cell 0
    go_wp2
    go_roundw
    case rel => exact ⟨2 + 1, by omega, by go_num, L5⟩
    case measure => simp [intOf]
end Go.Proofs.Ytnijhjbcjeohhaa.EE

namespace Go.Proofs.Ytnijhjbcjeohhaa.EE
open Go.RowKit Go.Proofs.Ytnijhjbcjeohhaa.KK Go.Proofs.af.aO Go.Proofs.af.aU Go.Proofs.af.aV
set_option linter.unusedVariables false
set_option linter.unusedSimpArgs false
theorem MX : (Try.prog.info? 2).map (fun i => (i.zero, i.size, i.bytes)) = some (some (I 0), 1, 8) := by kernel_rfl
abbrev BQ (w : World) (base : Nat) (v : Value) (l : List Int) : Prop := w.ownsRow base 2 1 v l.length (l.map I)
theorem Uc (w : World) (ty : TypeId) (base : Nat) (v : Value) (ad : Addr) (c : Nat) (l : List Int) (x : Int) (hown : BQ w base v l) (hbase : base ≤ w.heap.size) (hx : w.cell? ad = some (I x)) (hlen : l.length ≤ 1000000) :
 ∃ A c' w', (Builtin.append_ #[52, 52] ty #[v, .slice (some ad) 1 c]).run Try.prog w = .ok (.slice A (l ++ [x]).length c') w' ∧ BQ w' base (.slice A (l ++ [x]).length c') (l ++ [x]) ∧ w.grownBy w' v.ownBlock ∧ ((Value.slice A (l ++ [x]).length c').ownBlock = v.ownBlock ∨ (Value.slice A (l ++ [x]).length c').ownBlock = some w.heap.size) := by
 obtain ⟨i0, hi0, hz0, hz1, hz2⟩ := info_parts MX
 have h1 : ∀ u ∈ ([I x] : List Value), u.oneCell' = true := by intro u hu; simp at hu; subst hu; rfl
 obtain ⟨v', w', hr, ho, hg, _, hat⟩ := run_append_own_at (P := Try.prog) w base 52 ty 2 i0 (I 0) 1 8 Try.underlying52 hi0 hz0 hz1 hz2 rfl (by omega) v l.length (l.map I) hown ad 1 c [I x] rfl (fun j u hj => by
  cases j with
  | zero =>
    simp at hj
    subst hj
    have e : ad.add 0 = ad := by
     have h := wu hx
     generalize ad.block = b, ad.off = o at h
     subst h
     rfl
    rw [e]
    exact hx
  | succ j => simp at hj) h1 (by simp only [maxLen]; omega) (by omega) hbase
 have e : l.map I ++ [I x] = (l ++ [x]).map I := by simp
 have e2 : l.length + 1 = (l ++ [x]).length := by simp
 rw [e, e2] at ho
 rcases ho.2 with ⟨rfl, h0⟩ | ⟨g, cap, cur, rfl, _⟩
 · simp at h0
 · exact ⟨_, _, w', hr, ho, hg, hat⟩
theorem zJ (w : World) {ops : Array Oper} {rest : List Oper} {o : Oper} {a : Act} {Q : Exit → Act → World → Prop} (hgd : o.guard = none) (s x : Operand)
 (ho : o.op = .call { callee := .builtin .append, args := #[s, x], argTypes := #[52, 52] })
 (base : Nat) (v : Value) (ad : Addr) (c : Nat) (l : List Int) (y : Int) (hs : a.eval s = v) (hy : a.eval x = .slice (some ad) 1 c) (hown : BQ w base v l) (hbase : base ≤ w.heap.size) (hx : w.cell? ad = some (I y)) (hlen : l.length ≤ 1000000)
 (h : ∀ A c' w', BQ w' base (.slice A (l ++ [y]).length c') (l ++ [y]) → w.grownBy w' v.ownBlock → ((Value.slice A (l ++ [y]).length c').ownBlock = v.ownBlock ∨ (Value.slice A (l ++ [y]).length c').ownBlock = some w.heap.size) → wpList Try.prog ops Q rest (a.put o.dst (.slice A (l ++ [y]).length c')) w') :
 wpList Try.prog ops Q (o :: rest) a w := by
 refine wpList_plain hgd fun K hK => ?_
 obtain ⟨A, c', w', hrun, h1, h2, h3⟩ := Uc w o.type base v ad c l y hown hbase hx hlen
 unfold Oper.wp execOp
 simp only [ho, resolve, invoke, builtin, Sem.run_bind, Sem.run_pure, Result.andThen_ok, List.map_toArray, List.map_cons, List.map_nil, hs, hy, hrun]
 exact hK _ _ (h A c' w' h1 h2 h3)
structure Lay (w : World) (O : Nat) (v : Value) (w' : World) : Prop where
 os : w'.os = w.os
 tape : w'.tape = w.tape
 output : w'.output = w.output
 size : w.heap.size ≤ w'.heap.size
 block : ∀ k, k < w.heap.size → k ≠ O → v.ownBlock ≠ some k → w'.heap[k]? = w.heap[k]?
theorem Lay.refl (w : World) (O : Nat) (v : Value) : Lay w O v w := ⟨rfl, rfl, rfl, Nat.le_refl _, fun _ _ _ _ => rfl⟩
theorem Lay.rd {w w' : World} {O : Nat} {v : Value} {A : Option Addr} {l : List Int} (h : Lay w O v w') (hl : Rd w A l) (hne : ∀ ad, A = some ad → ad.block ≠ O ∧ v.ownBlock ≠ some ad.block) : Rd w' A l :=
 ⟨hl.1, hl.2.1, fun hp => by
   obtain ⟨ad, e, hc⟩ := hl.2.2 hp
   refine ⟨ad, e, fun j x hx => ?_⟩
   obtain ⟨c, p, hr, hcell⟩ := hc j x hx
   refine ⟨c, p, hr, fun i u hu => ?_⟩
   have hx := hcell i u hu
   have hb := rC ad (j * (Kd.int .i64).sz + i)
   rw [World.cell?_of_block (h.block _ (cell_lt hx) (by rw [hb]; exact (hne ad e).1) (by rw [hb]; exact (hne ad e).2))]
   exact hx⟩
theorem Lay.more {w wr w1 w2 : World} {O : Nat} {v vk v' : Value} (h : Lay w O v wr) (hk : vk.ownBlock = v.ownBlock ∨ ∃ b, w.heap.size ≤ b ∧ vk.ownBlock = some b) (hb : Below wr.heap.size wr w1) (hg : w1.grownBy w2 vk.ownBlock) : Lay w O v (w2.setCell ⟨O, 0, none⟩ v') :=
 ⟨hg.os.trans (hb.os.trans h.os), hg.tape.trans (hb.tape.trans h.tape), hg.output.trans (hb.output.trans h.output), by simpa using Nat.le_trans h.size (Nat.le_trans hb.size hg.size), fun k h1 h2 h3 => by
   have hk1 : k < wr.heap.size := Nat.lt_of_lt_of_le h1 h.size
   rw [Below.heap_setCell _ _ _ k h2, hg.block k (Nat.lt_of_lt_of_le hk1 hb.size) ?_, hb.block k hk1, h.block k h1 h2 h3]
   intro e
   rcases hk with hk | ⟨b, hb1, hb2⟩
   · exact h3 (by rw [← hk, ← e])
   · rw [hb2] at e
     injection e with e
     omega⟩
theorem Oa (O base : Nat) (A : Option Addr) (c : Nat) (v : Value) (l0 l : List Int) (w : World) (hO : O < base) (hb : base ≤ w.heap.size) (hl : Rd w A l) (hne : ∀ ad, A = some ad → ad.block ≠ O ∧ v.ownBlock ≠ some ad.block) (R : Row w O 52 #[v]) (ho : BQ w base v l0) (hn : l0.length + l.length ≤ 1000) :
 Calls Try.prog 49 #[.slice A l.length c, .pointer (some ⟨O, 0, none⟩)] w fun e w' => e = .returned (.tuple #[]) ∧ ∃ v', Row w' O 52 #[v'] ∧ BQ w' base v' (l0 ++ l) ∧ (v'.ownBlock = v.ownBlock ∨ ∃ b, w.heap.size ≤ b ∧ v'.ownBlock = some b) ∧ Lay w O v w' := by
 have HB := Lib.hid (And.intro hO (And.intro hb hn))
 have HR := Lib.hid hl
 have HN := Lib.hid hne
 have R0 := Lib.hid R
 have O0 := Lib.hid ho
 clear hO hb hl hne R ho hn
 go_enter Try.func49, Try.ntmps49
 go_wp2_with fail
 go_loopw [7] (fun i wr => ∃ (k : Nat) (vk : Value), k ≤ l.length ∧ i = .int .i64 k ∧ Hid (Row wr O 52 #[vk]) ∧ Hid (BQ wr base vk (l0 ++ l.take k)) ∧ Hid (vk.ownBlock = v.ownBlock ∨ ∃ b, w.heap.size ≤ b ∧ vk.ownBlock = some b) ∧ Hid (Lay w O v wr)) (fun i _ => l.length - (intOf i).toNat)
 case atStart => exact ⟨0, v, by omega, rfl, R0, Lib.hid (by simpa using O0.out), Lib.hid (.inl rfl), Lib.hid (Lay.refl _ _ _)⟩
 case round =>
  clear R0 O0
  obtain ⟨k, vk, hk, rfl, RK, OK, NK, LK⟩ := hrel
  by_cases hkl : k = l.length
  · subst hkl
    go_wp2
    go_end0
    exact ⟨rfl, vk, RK.out, by have h := OK.out; rwa [List.take_length] at h, NK.out, LK.out⟩
  have hlt : (k : Int) < l.length := by omega
  have hk0 : (0 : Int) ≤ k := by omega
  have STEP : Hid (k + 1 ≤ l.length ∧ l.length - (k + 1) < l.length - k) := Lib.hid (by omega)
  have hw64 : IntKind.i64.wrap ((k : Int) + 1) = (k : Int) + 1 := by have := HB.out.2.2; simp [IntKind.wrap, IntKind.bits, IntKind.signed]; omega
  have hrd := LK.out.rd HR.out HN.out
  obtain ⟨b, off, rfl, hb, hc⟩ := hrd.cells (by omega)
  obtain ⟨x, hx⟩ : ∃ x, l[k]? = some x := ⟨l[k]'(by omega), List.getElem?_eq_getElem (by omega)⟩
  have c0 := hc k x hx
  have HX := Lib.hid hx
  have cr := RK.out.cell 0
  have lr := RK.out.lt
  clear hc hx hk hkl hrd
  obtain ⟨L, hL⟩ : ∃ L, L = l0 ++ l.take k := ⟨_, rfl⟩
  have EL : Hid (L ++ [x] = l0 ++ l.take (k + 1)) := Lib.hid (by rw [hL, List.take_add_one, HX.out]; simp)
  have OA : Hid (BQ (wr.alloc (.cells #[I x] 2)) base vk L) := Lib.hid (by rw [hL]; exact lC OK.out fun k' hk' => ((Below.refl wr.heap.size wr).alloc (Nat.le_refl _) _).block k' (OK.out.lt k' hk').2)
  have HS : Hid (base ≤ (wr.alloc (.cells #[I x] 2)).heap.size) := Lib.hid (by have := HB.out.2.1; have := LK.out.size; simp; omega)
  have CX : Hid ((wr.alloc (.cells #[I x] 2)).cell? ⟨wr.heap.size, 0, none⟩ = some (I x)) := Lib.hid ((Row.new wr 2 #[I x]).cell 0)
  have LN : Hid (L.length ≤ 1000000) := Lib.hid (by have := HB.out.2.2; have := STEP.out.1; rw [hL]; simp; omega)
  have NO : Hid (vk.ownBlock ≠ some O) := Lib.hid (fun e => by have := (OK.out.lt O e).1; have := HB.out.1; omega)
  clear hL OK
  go_wp2_with (with_reducible refine zJ _ rfl (.tmp 11) (.tmp 13) rfl base vk ⟨wr.heap.size, 0, none⟩ 1 L x rfl rfl OA.out HS.out CX.out LN.out ?_)
  intro A c' w2 h1 h2 h3
  have R2 := Lib.hid (Row.grown (RK.out.alloc _) h2 (fun e => NO.out e.symm))
  have O2 := Lib.hid h1
  have G2 := Lib.hid h2
  have N2 := Lib.hid h3
  clear h1 h2 h3 cr
  have cr := R2.out.cell 0
  have fr := R2.out.free 0
  go_wp2
  go_roundw
  case rel =>
   refine ⟨k + 1, .slice A (L.length + 1) c', STEP.out.1, by go_num, Lib.hid (R2.out.set 0 _), Lib.hid ?_, Lib.hid ?_, Lib.hid (LK.out.more NK.out ((Below.refl _ _).alloc (Nat.le_refl _) _) G2.out)⟩
   · rw [← EL.out]
     exact Go.RowKit.ownsRow_setCell_below O2.out HB.out.1 _
   · rcases N2.out with h | h
     · rw [h]
       exact NK.out
     · exact .inr ⟨_, by have := LK.out.size; omega, h⟩
  case measure =>
   have h := STEP.out.2
   show l.length - ((k : Int) + 1).toNat < l.length - ((k : Int)).toNat
   rw [show ((k : Int) + 1).toNat = k + 1 by omega, show ((k : Int)).toNat = k by omega]
   exact h
end Go.Proofs.Ytnijhjbcjeohhaa.EE

