import Derived.Test.YtmjncjaalleblaaQM
/- Layer 4: a small turn, in numbers. -/
namespace Go.Proofs.Ytmjncjaalleblaa.PQ
open Go.RowKit Go.Proofs.YtmjncjaalleblaaW.PrintWords Go.Proofs.YtmjncjaalleblaaW.PrintLast Go.Proofs.YtmjncjaalleblaaW.PrintMore
set_option linter.unusedVariables false
set_option linter.unusedSimpArgs false
theorem half_any (a : Int) : ∃ h, qfix_Half.f a 1 = some h ∧ (h = a / 2 ∨ h = wrap64 (a / 2 + 1)) := by
  have e : mn (mx 1 0) 62 = 1 := rfl
  have e2 : a / 2 ^ (1 : Int).toNat = a / 2 := rfl
  unfold qfix_Half.f
  rw [e, e2, if_pos (by omega), if_pos (by omega)]
  repeat' split
  all_goals exact ⟨_, rfl, by simp⟩
theorem half_zero : qfix_Half.f 0 1 = some 0 := by decide +kernel
theorem half_to (a : Int) : ∃ h, (∀ w, Calls Try.prog 36 #[.int .i64 a, .int .i64 1] w fun e w' => e = .returned (.int .i64 h) ∧ Below w.heap.size w w') ∧ (a = 0 → h = 0) ∧ (-268435456 ≤ a → a ≤ 268435456 → -134217729 ≤ h ∧ h ≤ 134217729) := by
  obtain ⟨h, hf, hx⟩ := half_any a
  refine ⟨h, fun w => qfix_Half.calls a 1 h w hf, fun e => ?_, fun h0 h1 => ?_⟩
  · subst e
    rw [half_zero] at hf
    injection hf with hf
    exact hf.symm
  · rcases hx with rfl | rfl
    · omega
    · rw [w64 (by omega) (by omega)]; omega
abbrev SmallTo (v : Nat → Int) (b u0 u1 u2 u3 : Int) (F : Bool) : Prop := ∀ w, Calls Try.prog 21 #[.agg #[.int .i64 (v 0), .int .i64 (v 1), .int .i64 (v 2)], .int .i64 b] w fun e w' =>
      e = .returned (.tuple #[.agg #[.int .i64 u0, .int .i64 u1, .int .i64 u2, .int .i64 u3], .bool F]) ∧ Below w.heap.size w w'
theorem unit_one : UnitTo 16777216 0 0 0 16777216 0 0 0 false := by
  obtain ⟨R, so, hS, hRI, hRs⟩ := root_any (normV (at4 16777216 0 0 0))
  have hn : normV (at4 16777216 0 0 0) = 16777216 := by decide +kernel
  have ho : normO (at4 16777216 0 0 0) = false := by decide +kernel
  obtain ⟨r0, r1, r2, r3, r4⟩ := hRs (by omega) (by omega)
  rw [hn] at r2 r3
  have hR : R = 16777216 := by
    rcases Int.lt_trichotomy R 16777216 with h | h | h
    · have := sq_le_sq (x := 16777216) (y := R + 1) (by omega) (by omega); omega
    · exact h
    · have := sq_le_sq (x := R) (y := 16777217) (by omega) (by omega); omega
  subst hR
  have d0 : divV 16777216 16777216 = 16777216 := by decide +kernel
  have d1 : divV 0 16777216 = 0 := by decide +kernel
  have o0 : divO 16777216 16777216 = false := by decide +kernel
  have o1 : divO 0 16777216 = false := by decide +kernel
  intro w
  have h := unit_walk (at4 16777216 0 0 0) (fun k => divV (at4 16777216 0 0 0 k) 16777216) (fun k => divO (at4 16777216 0 0 0 k) 16777216) _ 16777216 _ so (norm_to 16777216 0 0 0) hS (by decide) (fun k _ w => div_calls _ _ w) w
  have e0 : divV (at4 16777216 0 0 0 0) 16777216 = 16777216 := d0
  have e1 : divV (at4 16777216 0 0 0 1) 16777216 = 0 := d1
  have e2 : divV (at4 16777216 0 0 0 2) 16777216 = 0 := d1
  have e3 : divV (at4 16777216 0 0 0 3) 16777216 = 0 := d1
  rw [e0, e1, e2, e3] at h
  have ef : orU ((false || normO (at4 16777216 0 0 0)) || so) (fun k => divO (at4 16777216 0 0 0 k) 16777216) 4 = false := by
    show ((((((false || normO (at4 16777216 0 0 0)) || so) || divO 16777216 16777216) || divO 0 16777216) || divO 0 16777216) || divO 0 16777216) = false
    rw [ho, r4, o0, o1]; rfl
  rw [ef] at h
  exact h
theorem mulO_zero {a : Int} (ha : InR a) : mulV a 0 = 0 ∧ mulO a 0 = false := by
  have h := mul_near ha (by unfold InR; omega : InR 0) (by simp [sz])
  rw [Int.mul_zero] at h
  exact ⟨by have := h.2.1; have := h.2.2.1; omega, h.1⟩
theorem small_any (v : Nat → Int) (b : Int) : ∃ u0 u1 u2 u3 F, SmallTo v b u0 u1 u2 u3 F ∧ (b = 0 → InR (v 0) → InR (v 1) → InR (v 2) → u0 = 16777216 ∧ u1 = 0 ∧ u2 = 0 ∧ u3 = 0 ∧ F = false) ∧
    ((-268435456 ≤ v 0 ∧ v 0 ≤ 268435456) → (-268435456 ≤ v 1 ∧ v 1 ≤ 268435456) → (-268435456 ≤ v 2 ∧ v 2 ≤ 268435456) → (-268435456 ≤ b ∧ b ≤ 268435456) →
      F = false ∧ 16776960 ≤ normV (at4 u0 u1 u2 u3) ∧ normV (at4 u0 u1 u2 u3) ≤ 16777472) := by
  obtain ⟨h, hH, hz, hs⟩ := half_to b
  have hM : ∀ k, k < 3 → ∀ w, Calls Try.prog 25 #[.int .i64 (v k), .int .i64 h] w (Both w ((fun k => mulV (v k) h) k) ((fun k => mulO (v k) h) k)) := fun k _ w => mul_calls _ _ w
  by_cases hb : b = 0 ∧ InR (v 0) ∧ InR (v 1) ∧ InR (v 2)
  · obtain ⟨rfl, i0, i1, i2⟩ := hb
    obtain rfl := hz rfl
    have m0 := mulO_zero i0
    have m1 := mulO_zero i1
    have m2 := mulO_zero i2
    have hU : UnitTo 16777216 ((fun k => mulV (v k) 0) 0) ((fun k => mulV (v k) 0) 1) ((fun k => mulV (v k) 0) 2) 16777216 0 0 0 false := by
      show UnitTo 16777216 (mulV (v 0) 0) (mulV (v 1) 0) (mulV (v 2) 0) 16777216 0 0 0 false
      rw [m0.1, m1.1, m2.1]; exact unit_one
    have ef : (false || orU false (fun k => mulO (v k) 0) 3) = false := by
      show (false || (((false || mulO (v 0) 0) || mulO (v 1) 0) || mulO (v 2) 0)) = false
      rw [m0.2, m1.2, m2.2]; rfl
    refine ⟨16777216, 0, 0, 0, false, fun w => ?_, fun _ _ _ _ => ⟨rfl, rfl, rfl, rfl, rfl⟩, fun _ _ _ _ => ⟨rfl, by decide +kernel, by decide +kernel⟩⟩
    have hw := small_walk v _ _ 0 0 16777216 0 0 0 false hH hM hU w
    rw [ef] at hw
    exact hw
  · obtain ⟨u0, u1, u2, u3, f, hU, hr, hm⟩ := unit_pure 16777216 (mulV (v 0) h) (mulV (v 1) h) (mulV (v 2) h)
    refine ⟨u0, u1, u2, u3, _, fun w => small_walk v _ _ b h u0 u1 u2 u3 f hH hM hU w, fun e i0 i1 i2 => absurd ⟨e, i0, i1, i2⟩ hb, fun b0 b1 b2 bb => ?_⟩
    have hh := hs bb.1 bb.2
    have near : ∀ x, -268435456 ≤ x ∧ x ≤ 268435456 → mulO x h = false ∧ -8589934592 ≤ mulV x h ∧ mulV x h ≤ 8589934592 := by
      intro x hx
      have hsz : sz x * sz h ≤ 73786976294838206464 := by
        have h1 : 0 ≤ sz x ∧ sz x ≤ 8589934592 := by unfold sz; split <;> omega
        have h2 : 0 ≤ sz h ∧ sz h ≤ 8589934592 := by unfold sz; split <;> omega
        have := Int.mul_le_mul h1.2 h2.2 h2.1 (by omega : (0 : Int) ≤ 8589934592)
        omega
      have hn := mul_near (a := x) (b := h) (by unfold InR; omega) (by unfold InR; omega) hsz
      have hp := mul_abs (x := x) (y := h) (A := 268435456) (B := 134217729) (by omega) (by omega) (by omega) (by omega) (by omega)
      refine ⟨hn.1, ?_, ?_⟩ <;> omega
    have n0 := near _ b0
    have n1 := near _ b1
    have n2 := near _ b2
    obtain ⟨hf, hm0, hm1⟩ := hm (by omega) n0.2 n1.2 n2.2 (.inl (by omega))
    refine ⟨?_, hm0, hm1⟩
    show (f || (((false || mulO (v 0) h) || mulO (v 1) h) || mulO (v 2) h)) = false
    rw [hf, n0.1, n1.1, n2.1]; rfl
end Go.Proofs.Ytmjncjaalleblaa.PQ
