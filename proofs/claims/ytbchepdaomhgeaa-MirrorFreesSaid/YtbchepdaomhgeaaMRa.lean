import Derived.Test.YtbchepdaomhgeaaMH
/- Layer 14: which desks are right, by the document; what the selector is told. -/
namespace Go.Proofs.Ytbchepdaomhgeaa.MM
open Go.RowKit
set_option linter.unusedVariables false
set_option linter.unusedSimpArgs false
theorem toNat_two (j : Nat) : ((j : Int) + 1 + 1).toNat = j + 1 + 1 := by omega
theorem rise_pos {k : Int} : ∀ {l : List Ot} {last : Int} {j : Nat} {o : Ot}, riseB k last l = true → l[j]? = some o → last < o.k := by
  intro l
  induction l with
  | nil => intro last j o _ h; simp at h
  | cons x l ih =>
    intro last j o hr h
    simp only [riseB, Bool.and_eq_true, Bool.not_eq_true', Bool.or_eq_false_iff, decide_eq_false_iff_not] at hr
    cases j with
    | zero => simp at h; subst h; omega
    | succ j => have := ih hr.2 (by simpa using h); omega
theorem refIn_same (n : Int) (w : World) : Calls Try.prog 38 #[I n] w fun e w' => e = .returned (.bool (inB n)) ∧ w' = w := by
  by_cases h : 0 ≤ n
  · have h0 : decide (0 ≤ n) = true := decide_eq_true h
    go_enter Try.func38, Try.ntmps38
    go_wp2
    go_ret
    exact ⟨by simp [inB, h], rfl⟩
  · have h0 : decide (0 ≤ n) = false := decide_eq_false h
    go_enter Try.func38, Try.ntmps38
    go_wp2
    go_ret
    exact ⟨by simp [inB, h0], rfl⟩
set_option maxRecDepth 100000 in
set_option maxHeartbeats 4000000 in
theorem refRight_bad (gen k acked peer stage seq : Int) (s : Value) (l : List Ot) (w : World) (hs : Sl w s l) (hbad : (inB gen && inB k && inB acked && inB seq && decide (acked ≤ k) && decide (stage ≥ 0) && decide (stage ≤ 3) && decide ((l.length : Int) ≤ 64)) = false) :
    Calls Try.prog 14 #[Dk.val ⟨gen, k, acked, peer, stage, seq⟩ s] w fun e w' => e = .returned (.bool false) ∧ Below w.heap.size w w' := by
  obtain ⟨A, c, rfl, hc, hA, hw⟩ := hs
  have HW := Lib.hid hw
  clear hw hc hA
  have N : Hid (Scene w [(26, Dk.row ⟨gen, k, acked, peer, stage, seq⟩ (.slice A l.length c))] (w.alloc (.cells (Dk.row ⟨gen, k, acked, peer, stage, seq⟩ (.slice A l.length c)) 26))) := Lib.hid ((Scene.none w).push (by simp) _ _)
  have HBAD := Lib.hid hbad
  clear hbad
  go_enter Try.func14, Try.ntmps14
  go_wp2_with fail
  refine (refIn_same _ _).mono ?_
  rintro e _ ⟨rfl, rfl⟩
  cases h0 : inB gen
  · go_wp2
    go_ret
    exact ⟨rfl, N.out.be⟩
  go_wp2_with fail
  refine (refIn_same _ _).mono ?_
  rintro e _ ⟨rfl, rfl⟩
  cases h1 : inB k
  · go_wp2
    go_ret
    exact ⟨rfl, N.out.be⟩
  go_wp2_with fail
  refine (refIn_same _ _).mono ?_
  rintro e _ ⟨rfl, rfl⟩
  cases h2 : inB acked
  · go_wp2
    go_ret
    exact ⟨rfl, N.out.be⟩
  go_wp2_with fail
  refine (refIn_same _ _).mono ?_
  rintro e _ ⟨rfl, rfl⟩
  cases h3 : inB seq
  · go_wp2
    go_ret
    exact ⟨rfl, N.out.be⟩
  by_cases b0 : acked > k
  · have d0 : decide (acked > k) = true := decide_eq_true b0
    clear b0
    go_wp2
    go_ret
    exact ⟨rfl, N.out.be⟩
  have d0 : decide (acked > k) = false := decide_eq_false b0
  have g0 : decide (acked ≤ k) = true := decide_eq_true (by omega)
  clear b0
  by_cases b1 : stage < 0
  · have d1 : decide (stage < 0) = true := decide_eq_true b1
    clear b1
    go_wp2
    go_ret
    exact ⟨rfl, N.out.be⟩
  have d1 : decide (stage < 0) = false := decide_eq_false b1
  have g1 : decide (stage ≥ 0) = true := decide_eq_true (by omega)
  clear b1
  by_cases b2 : stage > 3
  · have d2 : decide (stage > 3) = true := decide_eq_true b2
    clear b2
    go_wp2
    go_ret
    exact ⟨rfl, N.out.be⟩
  have d2 : decide (stage > 3) = false := decide_eq_false b2
  have g2 : decide (stage ≤ 3) = true := decide_eq_true (by omega)
  clear b2
  by_cases b3 : (l.length : Int) > 64
  · have d3 : decide ((l.length : Int) > 64) = true := decide_eq_true b3
    clear b3
    go_wp2
    go_ret
    exact ⟨rfl, N.out.be⟩
  have d3 : decide ((l.length : Int) > 64) = false := decide_eq_false b3
  have g3 : decide ((l.length : Int) ≤ 64) = true := decide_eq_true (by omega)
  clear b3
  have hh := HBAD.out
  rw [h0, h1, h2, h3, g0, g1, g2, g3] at hh
  cases hh
end Go.Proofs.Ytbchepdaomhgeaa.MM
