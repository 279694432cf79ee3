import Derived.Test.YtnihbplibmljlaaOf
import Derived.Test.YtnihbplibmljlaaMathD
import Derived.LoopTactic
import Derived.Lib.Hide
import Derived.Test.YtnihbplibmljlaaPureQfixRoots
/- QfixBounds: the walk. -/
namespace Go.Proofs.Ytnihbplibmljlaa.PQ
open Go.RowKit Go.Proofs.YtnihbplibmljlaaW.PrintWords Go.Proofs.YtnihbplibmljlaaW.PrintLast Go.Proofs.YtnihbplibmljlaaW.PrintMore
set_option linter.unusedVariables false

abbrev InB (z : Int) : Prop := -70368744177664 ≤ z ∧ z ≤ 70368744177663
def Told (w : World) (e : Ending) (w' : World) : Prop := ∃ z o, e = .returned (.tuple #[.int .i64 z, .bool o]) ∧ InB z ∧ Below w.heap.size w w'
theorem add_told (a b : Int) (w : World) : Calls Try.prog 14 #[.int .i64 a, .int .i64 b] w (Told w) :=
  (qfix_Add.calls a b _ _ w (add_f a b)).mono fun _ _ h => ⟨_, _, h.1, ⟨cl_lo _, cl_hi _⟩, h.2⟩
theorem sub_told (a b : Int) (w : World) : Calls Try.prog 15 #[.int .i64 a, .int .i64 b] w (Told w) :=
  (qfix_Sub.calls a b _ _ w (sub_f a b)).mono fun _ _ h => ⟨_, _, h.1, ⟨cl_lo _, cl_hi _⟩, h.2⟩
theorem sgB (h l : Int) (s : Bool) : InB (sg h l s).1 := by
  have h : ∀ (x : Int) (b : Bool), InB ((cl x, b) : Int × Bool).1 := fun x _ => ⟨cl_lo x, cl_hi x⟩
  unfold sg
  repeat' split
  all_goals exact h _ _
theorem mul_told (a b : Int) (w : World) : Calls Try.prog 11 #[.int .i64 a, .int .i64 b] w (Told w) :=
  (qfix_Mul.calls a b _ _ w (mul_f a b)).mono fun _ _ h => ⟨_, _, h.1, sgB _ _ _, h.2⟩
theorem dvsB (a b : Int) : InB (dvs a b).1 := by
  unfold dvs
  repeat' split
  all_goals first | exact sgB _ _ _ | (simp [InB]; done)
theorem div_told (a b : Int) (w : World) : Calls Try.prog 12 #[.int .i64 a, .int .i64 b] w (Told w) := by
  obtain ⟨k, h⟩ := (div_f a b).rounds
  exact (qfix_Div.calls k a b _ _ w h).mono fun _ _ h => ⟨_, _, h.1, dvsB _ _, h.2⟩
open Go.Proofs.Ytnihbplibmljlaa.Pure in
theorem sqrt_told (a : Int) (w : World) : Calls Try.prog 16 #[.int .i64 a] w (Told w) := by
  have c0 := cl_lo a
  have c1 := cl_hi a
  by_cases h : cl a < 0
  · have hf : qfix_Sqrt.f 0 a = some (0, true) := by
      unfold qfix_Sqrt.f
      rw [clamp_f]
      simp only [Option.bind_some]
      rw [if_pos h]
    exact (qfix_Sqrt.calls 0 a _ _ w hf).mono fun _ _ h => ⟨_, _, h.1, ⟨by decide, by decide⟩, h.2⟩
  · have hN : cl a / 1099511627776 * 18446744073709551616 + cl a * 16777216 % 18446744073709551616 = cl a * 16777216 := by omega
    obtain ⟨R, hE, hR0, hR1, _⟩ := root_loop (od a) (cl a / 1099511627776) (cl a * 16777216 % 18446744073709551616) (by omega) (by omega) (by omega) 36 0 (by omega) (by omega) (by decide) (by decide) (by omega)
      (by rw [hN, show ((0 : Int) + 2 ^ 36) * (0 + 2 ^ 36) = 4722366482869645213696 by decide]; omega)
    obtain ⟨k, hk⟩ := hE.rounds
    have hf : qfix_Sqrt.f k a = some (R, od a) := by
      unfold qfix_Sqrt.f
      rw [clamp_f]
      simp only [Option.bind_some]
      rw [if_neg h, u64_wrap, u64_wrap, Int.emod_eq_of_lt (b := 18446744073709551616) (by omega) (by omega)]
      exact hk
    exact (qfix_Sqrt.calls k a _ _ w hf).mono fun _ _ h => ⟨_, _, h.1, ⟨by omega, by omega⟩, h.2⟩
theorem of_told (a : Int) (w : World) : Calls Try.prog 23 #[.int .i64 a] w (Told w) := by
  have hf : ∃ z o, qfix_Of.f a = some (z, o) ∧ InB z := by
    unfold qfix_Of.f
    by_cases h1 : a > 4194303
    · exact ⟨_, _, if_pos h1, by decide, by decide⟩
    · rw [if_neg h1]
      by_cases h2 : a < -4194304
      · exact ⟨_, _, if_pos h2, by decide, by decide⟩
      · rw [if_neg h2]
        refine ⟨_, _, rfl, ?_⟩
        rw [w64 (by omega) (by omega)]
        exact ⟨by omega, by omega⟩
  obtain ⟨z, o, hf, hz⟩ := hf
  exact (qfix_Of.calls a _ _ w hf).mono fun _ _ h => ⟨_, _, h.1, hz, h.2.below⟩
theorem shown_told (w : World) : Calls Try.prog 10 #[] w fun e w' => e = .returned (.bool true) ∧ Below w.heap.size w w' := by
  obtain ⟨k, h⟩ := shown_f.rounds
  exact alidadelaw01_shown.calls k true w h
theorem in_told (a : Int) (w : World) (h : InB a) : Calls Try.prog 13 #[.int .i64 a] w fun e w' => e = .returned (.bool true) ∧ Drawn0 w w' :=
  alidaderef01_In.calls a true w (by rw [in_f, decide_eq_true h])
theorem bcell {W w1 : World} (hb : Below W.heap.size W w1) : (∀ b o, b < W.heap.size → w1.cell? ⟨b, o, none⟩ = W.cell? ⟨b, o, none⟩) ∧ (∀ b o, b < W.heap.size → w1.frozen? ⟨b, o, none⟩ = W.frozen? ⟨b, o, none⟩) :=
  ⟨fun b o h => hb.cell (p := ⟨b, o, none⟩) h, fun b o h => hb.frozen (p := ⟨b, o, none⟩) h⟩
/-- block B is just these cells -/
def Row (w : World) (B : Nat) (t : TypeId) (cs : Array Value) : Prop := w.heap[B]? = some (.cells cs t (0, 0))
theorem Row.cell {w : World} {B : Nat} {t : TypeId} {cs : Array Value} (h : Row w B t cs) (i : Nat) : w.cell? ⟨B, i, none⟩ = cs[i]? := by unfold Row at h; simp [World.cell?, h]
theorem Row.free {w : World} {B : Nat} {t : TypeId} {cs : Array Value} (h : Row w B t cs) (i : Nat) : w.frozen? ⟨B, i, none⟩ = false := by unfold Row at h; simp [World.frozen?, h]
theorem Row.lt {w : World} {B : Nat} {t : TypeId} {cs : Array Value} (h : Row w B t cs) : B < w.heap.size := by
  rcases Nat.lt_or_ge B w.heap.size with hl | hl
  · exact hl
  · unfold Row at h; rw [Array.getElem?_eq_none hl] at h; cases h
theorem Row.new (w : World) (t : TypeId) (cs : Array Value) : Row (w.alloc (.cells cs t)) w.heap.size t cs := heap_alloc_new w _
theorem Row.below {w w' : World} {B n : Nat} {t : TypeId} {cs : Array Value} (h : Row w B t cs) (hb : Below n w w') (hn : B < n) : Row w' B t cs := (hb.block B hn).trans h
theorem Row.set {w : World} {B : Nat} {t : TypeId} {cs : Array Value} (h : Row w B t cs) (i : Nat) (u : Value) : Row (w.setCell ⟨B, i, none⟩ u) B t (cs.setIfInBounds i u) := by
  unfold Row at h ⊢
  simp [World.setCell, Array.getElem?_modify, h]
set_option maxRecDepth 100000 in
set_option maxHeartbeats 2000000 in
theorem bounds_walk (a b n : Int) (w : World) : Calls Try.prog 9 #[.int .i64 a, .int .i64 b, .int .i64 n] w fun e w' => e = .returned (.bool true) ∧ Below w.heap.size w w' := by
  go_enter Try.func9, Try.ntmps9
  go_wp2_with fail
  refine (shown_told _).mono ?_
  rintro e w1 ⟨rfl, hb1⟩
  go_wp2_with fail
  refine (add_told _ _ _).mono ?_
  rintro e w2 ⟨z0, o0, rfl, hz0, hb2⟩
  have R2 : Hid (Row w2 w1.heap.size _ #[.int .i64 0, .int .i64 0, .int .i64 0, .int .i64 0, .int .i64 0, .int .i64 0]) := Lib.hid ((Row.new w1 _ _).below hb2 ((Row.new w1 _ _).lt))
  have hb2 := Lib.hid hb2
  have hc2 := R2.out.cell
  have hf2 := R2.out.free
  go_wp2_with fail
  refine (sub_told _ _ _).mono ?_
  rintro e w3 ⟨z1, o1, rfl, hz1, hb3⟩
  have R3 : Hid (Row w3 w1.heap.size _ #[.int .i64 z0, .int .i64 0, .int .i64 0, .int .i64 0, .int .i64 0, .int .i64 0]) := Lib.hid ((R2.out.set 0 (.int .i64 z0)).below hb3 ((R2.out.set 0 (.int .i64 z0)).lt))
  have hb3 := Lib.hid hb3
  have hc3 := R3.out.cell
  have hf3 := R3.out.free
  go_wp2_with fail
  refine (mul_told _ _ _).mono ?_
  rintro e w4 ⟨z2, o2, rfl, hz2, hb4⟩
  have R4 : Hid (Row w4 w1.heap.size _ #[.int .i64 z0, .int .i64 z1, .int .i64 0, .int .i64 0, .int .i64 0, .int .i64 0]) := Lib.hid ((R3.out.set 1 (.int .i64 z1)).below hb4 ((R3.out.set 1 (.int .i64 z1)).lt))
  have hb4 := Lib.hid hb4
  have hc4 := R4.out.cell
  have hf4 := R4.out.free
  go_wp2_with fail
  refine (div_told _ _ _).mono ?_
  rintro e w5 ⟨z3, o3, rfl, hz3, hb5⟩
  have R5 : Hid (Row w5 w1.heap.size _ #[.int .i64 z0, .int .i64 z1, .int .i64 z2, .int .i64 0, .int .i64 0, .int .i64 0]) := Lib.hid ((R4.out.set 2 (.int .i64 z2)).below hb5 ((R4.out.set 2 (.int .i64 z2)).lt))
  have hb5 := Lib.hid hb5
  have hc5 := R5.out.cell
  have hf5 := R5.out.free
  go_wp2_with fail
  refine (sqrt_told _ _).mono ?_
  rintro e w6 ⟨z4, o4, rfl, hz4, hb6⟩
  have R6 : Hid (Row w6 w1.heap.size _ #[.int .i64 z0, .int .i64 z1, .int .i64 z2, .int .i64 z3, .int .i64 0, .int .i64 0]) := Lib.hid ((R5.out.set 3 (.int .i64 z3)).below hb6 ((R5.out.set 3 (.int .i64 z3)).lt))
  have hb6 := Lib.hid hb6
  have hc6 := R6.out.cell
  have hf6 := R6.out.free
  go_wp2_with fail
  refine (of_told _ _).mono ?_
  rintro e w7 ⟨z5, o5, rfl, hz5, hb7⟩
  have R7 : Hid (Row w7 w1.heap.size _ #[.int .i64 z0, .int .i64 z1, .int .i64 z2, .int .i64 z3, .int .i64 z4, .int .i64 0]) := Lib.hid ((R6.out.set 4 (.int .i64 z4)).below hb7 ((R6.out.set 4 (.int .i64 z4)).lt))
  have hb7 := Lib.hid hb7
  have hc7 := R7.out.cell
  have hf7 := R7.out.free
  go_wp2_with fail
  have RW := R7.out.set 5 (.int .i64 z5)
  have RL := RW.lt
  have BW : Below w.heap.size w (w7.setCell ⟨w1.heap.size, 5, none⟩ (.int .i64 z5)) := by
    have s1 := hb1.size
    refine Below.setCell ?_ s1 _
    have step : ∀ {x y : World} (i : Nat) (u : Value), Below w.heap.size w x → Below (x.setCell ⟨w1.heap.size, i, none⟩ u).heap.size (x.setCell ⟨w1.heap.size, i, none⟩ u) y → Below w.heap.size w y :=
      fun {x y} i u h h' => (h.setCell (p := ⟨w1.heap.size, i, none⟩) s1 u).trans (h'.mono (by simpa using h.size))
    exact step _ _ (step _ _ (step _ _ (step _ _ (step _ _ ((hb1.alloc s1 _).trans (hb2.out.mono (by simp; omega))) hb3.out) hb4.out) hb5.out) hb6.out) hb7.out
  have RW := Lib.hid RW
  have BW := Lib.hid BW
  clear hc2 hc3 hc4 hc5 hc6 hc7 hf2 hf3 hf4 hf5 hf6 hf7 R2 R3 R4 R5 R6 R7 hb2 hb3 hb4 hb5 hb6 hb7
  generalize w7.setCell ⟨w1.heap.size, 5, none⟩ (.int .i64 z5) = W at *
  generalize w1.heap.size = B at *
  go_loopw [9] (fun i wr => ∃ k : Nat, k ≤ 6 ∧ i = .int .i64 k ∧ Row wr B 34 #[.int .i64 z0, .int .i64 z1, .int .i64 z2, .int .i64 z3, .int .i64 z4, .int .i64 z5] ∧ Below w.heap.size w wr) (fun i _ => 6 - (intOf i).toNat)
  case atStart => exact ⟨0, by omega, rfl, RW.out, BW.out⟩
  case round =>
    obtain ⟨k, hk, rfl, hR, hB⟩ := hrel
    have HR := Lib.hid hR
    have HB := Lib.hid hB
    by_cases hlt : k < 6
    · obtain ⟨z, hz, hzb⟩ : ∃ z, wr.cell? ⟨B, k, none⟩ = some (.int .i64 z) ∧ InB z := by
        rw [hR.cell]
        obtain rfl | rfl | rfl | rfl | rfl | rfl : k = 0 ∨ k = 1 ∨ k = 2 ∨ k = 3 ∨ k = 4 ∨ k = 5 := by omega
        · exact ⟨z0, rfl, hz0⟩
        · exact ⟨z1, rfl, hz1⟩
        · exact ⟨z2, rfl, hz2⟩
        · exact ⟨z3, rfl, hz3⟩
        · exact ⟨z4, rfl, hz4⟩
        · exact ⟨z5, rfl, hz5⟩
      clear hR hB hz0 hz1 hz2 hz3 hz4 hz5
      go_wp2_with (go_at_call 13; refine (in_told z _ hzb).mono ?_; rintro e wd ⟨rfl, hd⟩)
      go_roundw
      case rel => exact ⟨k + 1, by omega, by go_num, HR.out.below hd.below HR.out.lt, HB.out.trans (hd.below.mono HB.out.size)⟩
      case measure => simp [intOf]; omega
    · clear hR hB
      go_wp2
      go_ret
      exact ⟨rfl, HB.out⟩
end Go.Proofs.Ytnihbplibmljlaa.PQ
