import Derived.Test.YtmjncjaalleblaaQH
/- Layer 4: times (1, 0, 0, 0). -/
namespace Go.Proofs.Ytmjncjaalleblaa.PQ
set_option linter.unusedVariables false
set_option linter.unusedSimpArgs false
theorem inR_num (z : Int) (h0 : -70368744177664 ≤ z) (h1 : z ≤ 70368744177663) : InR z := ⟨h0, h1⟩
theorem at4_in {a b c d : Int} (ha : InR a) (hb : InR b) (hc : InR c) (hd : InR d) : ∀ k, k < 4 → InR (at4 a b c d k) := by
  intro k hk
  obtain rfl | rfl | rfl | rfl : k = 0 ∨ k = 1 ∨ k = 2 ∨ k = 3 := by omega
  · exact ha
  · exact hb
  · exact hc
  · exact hd
theorem right_in {a b c d : Int} (h : rightN (at4 a b c d) 4 = true) : InR a ∧ InR b ∧ InR c ∧ InR d := by
  have e : rightN (at4 a b c d) 4 = ((((true && inB a) && inB b) && inB c) && inB d) := rfl
  rw [e] at h
  simp [inB] at h
  unfold InR
  omega
abbrev One4 : Nat → Int := at4 16777216 0 0 0
theorem one_in : ∀ k, k < 4 → InR (One4 k) := at4_in (by decide) (by decide) (by decide) (by decide)
/-- times one from the right -/
theorem comp_one {a b c d : Int} (ha : InR a) (hb : InR b) (hc : InR c) (hd : InR d) :
    comp (at4 a b c d) One4 0 = a ∧ comp (at4 a b c d) One4 1 = b ∧ comp (at4 a b c d) One4 2 = c ∧ comp (at4 a b c d) One4 3 = d ∧ flagK (at4 a b c d) One4 4 = false := by
  have h := comp_exact (p := at4 a b c d) (q := One4) (t := fun i j => if j = 0 then at4 a b c d i else 0) (at4_in ha hb hc hd) one_in
    (by
      intro i j hi hj
      by_cases h : j = 0
      · simp only [h, if_true]; exact at4_in ha hb hc hd i hi
      · simp only [h, if_false]; exact ⟨by decide, by decide⟩)
    (by
      intro i j hi hj
      obtain rfl | rfl | rfl | rfl : j = 0 ∨ j = 1 ∨ j = 2 ∨ j = 3 := by omega
      · simp [One4, at4]
      · simp [One4, at4]
      · simp [One4, at4]
      · simp [One4, at4])
    (by constructor <;> simp [at4] <;> omega) (by constructor <;> simp [at4] <;> omega) (by constructor <;> simp [at4] <;> omega) (by constructor <;> simp [at4] <;> omega)
  simpa [at4] using h
theorem one_comp {a b c d : Int} (ha : InR a) (hb : InR b) (hc : InR c) (hd : InR d) :
    comp One4 (at4 a b c d) 0 = a ∧ comp One4 (at4 a b c d) 1 = b ∧ comp One4 (at4 a b c d) 2 = c ∧ comp One4 (at4 a b c d) 3 = d ∧ flagK One4 (at4 a b c d) 4 = false := by
  have h := comp_exact (p := One4) (q := at4 a b c d) (t := fun i j => if i = 0 then at4 a b c d j else 0) one_in (at4_in ha hb hc hd)
    (by
      intro i j hi hj
      by_cases h : i = 0
      · simp only [h, if_true]; exact at4_in ha hb hc hd j hj
      · simp only [h, if_false]; exact ⟨by decide, by decide⟩)
    (by
      intro i j hi hj
      obtain rfl | rfl | rfl | rfl : i = 0 ∨ i = 1 ∨ i = 2 ∨ i = 3 := by omega
      · simp [One4, at4, Int.mul_comm]
      · simp [One4, at4]
      · simp [One4, at4]
      · simp [One4, at4])
    (by constructor <;> simp [at4] <;> omega) (by constructor <;> simp [at4] <;> omega) (by constructor <;> simp [at4] <;> omega) (by constructor <;> simp [at4] <;> omega)
  simpa [at4] using h
theorem conj_conj {b : Int} (hb : InR b) (hn : b ≠ -70368744177664) : subV 0 (subV 0 b) = b := by
  have h1 : InR (-b) := by unfold InR at *; omega
  rw [(neg_exact hb h1).1, (neg_exact h1 (by rw [Int.neg_neg]; exact hb)).1, Int.neg_neg]
theorem at4_eta (f : Nat → Int) (a b c d : Int) (h0 : f 0 = a) (h1 : f 1 = b) (h2 : f 2 = c) (h3 : ∀ k, f (k + 3) = d) : f = at4 a b c d := by
  funext k
  rcases k with _ | _ | _ | k
  · exact h0
  · exact h1
  · exact h2
  · exact h3 k
theorem turn_one {x y z : Int} (hx : InR x) (hy : InR y) (hz : InR z) :
    turnV One4 (at4 0 x y z) 1 = x ∧ turnV One4 (at4 0 x y z) 2 = y ∧ turnV One4 (at4 0 x y z) 3 = z ∧ turnO One4 (at4 0 x y z) = false := by
  have z0 : InR 0 := by decide
  have h := one_comp z0 hx hy hz
  have e : comp One4 (at4 0 x y z) = at4 0 x y z := at4_eta _ _ _ _ _ h.1 h.2.1 h.2.2.1 (fun k => h.2.2.2.1)
  have ec : cj One4 = One4 := by
    have : subV 0 0 = 0 := by decide
    show at4 16777216 (subV 0 0) (subV 0 0) (subV 0 0) = _
    rw [this]
  have h' := comp_one z0 hx hy hz
  unfold turnV turnO
  rw [e, ec]
  exact ⟨h'.2.1, h'.2.2.1, h'.2.2.2.1, by rw [h.2.2.2.2, h'.2.2.2.2]; rfl⟩
end Go.Proofs.Ytmjncjaalleblaa.PQ
