import Derived.Test.YtmjncjaalleblaaMathA
/- Plain laws of layer 1: the long division of bits.Div64. -/
namespace Go.Proofs.Ytmjncjaalleblaa.PQ
open Go.RowKit Go.Proofs.YtmjncjaalleblaaW.PrintWords Go.Proofs.YtmjncjaalleblaaW.PrintLast Go.Proofs.YtmjncjaalleblaaW.PrintMore

theorem mask32 (x : Int) (h0 : 0 ≤ x) (h1 : x < 18446744073709551616) : Go.bits .and .u64 x 4294967295 = x % 4294967296 :=
  bits_mask .u64 64 (by decide) wraps_u64 32 (by decide) x h0 h1
section
variable {n1 n0 D U u q r : Int}
theorem digit_no (hD : D = n1 * 4294967296 + n0) (hp : 0 < D) (e : q * n1 + r = U) (h : q * n0 ≤ 4294967296 * r + u) : q ≤ (U * 4294967296 + u) / D := by
  refine Int.le_ediv_of_mul_le hp ?_
  rw [hD, Int.mul_add, ← Int.mul_assoc]
  omega
theorem digit_top (hp : 0 < D) (hU : U < D) (hu : u < 4294967296) : (U * 4294967296 + u) / D < 4294967296 := by
  refine Int.ediv_lt_of_lt_mul hp ?_
  omega
theorem digit_yes (hD : D = n1 * 4294967296 + n0) (hp : 0 < D) (e : q * n1 + r = U) (h : 4294967296 * r + u < q * n0) : (U * 4294967296 + u) / D < q := by
  refine Int.ediv_lt_of_lt_mul hp ?_
  rw [hD, Int.mul_add, ← Int.mul_assoc]
  omega
theorem digit_out (hD : D = n1 * 4294967296 + n0) (hp : 0 < D) (h0 : 0 ≤ n0) (h0' : n0 < 4294967296) (hu0 : 0 ≤ u) (e : q * n1 + r = U) (hq0 : 1 ≤ q) (hq : q ≤ 4294967297) (h : 4294967296 ≤ r + n1) :
    q - 1 ≤ (U * 4294967296 + u) / D := by
  refine Int.le_ediv_of_mul_le hp ?_
  have h1 : (q - 1) * n0 ≤ 4294967296 * 4294967295 := Int.mul_le_mul (by omega) (by omega) h0 (by omega)
  rw [hD, Int.mul_add, ← Int.mul_assoc, Int.sub_mul q 1 n1]
  omega
theorem digit_first (hD : D = n1 * 4294967296 + n0) (h1 : 2147483648 ≤ n1) (h0 : 0 ≤ n0) (h0' : n0 < 4294967296) (hU0 : 0 ≤ U) (hU : U < D) (hu0 : 0 ≤ u) (hu : u < 4294967296) :
    (U * 4294967296 + u) / D ≤ U / n1 ∧ U / n1 ≤ 4294967297 := by
  constructor
  · refine Int.le_ediv_of_mul_le (by omega) ?_
    have hp : 0 < D := by omega
    have h := Int.ediv_mul_le (U * 4294967296 + u) (b := D) (by omega)
    have hq0 : 0 ≤ (U * 4294967296 + u) / D := Int.ediv_nonneg (by omega) (by omega)
    generalize (U * 4294967296 + u) / D = Q at *
    have hn : 0 ≤ Q * n0 := Int.mul_nonneg hq0 h0
    rw [hD, Int.mul_add, ← Int.mul_assoc] at h
    omega
  · have := Int.ediv_lt_of_lt_mul (a := U) (b := 4294967298) (c := n1) (by omega) (by omega)
    omega
end

theorem mulw {a b : Int} (ha0 : 0 ≤ a) (ha : a < 4294967296) (hb0 : 0 ≤ b) (hb : b < 4294967296) : 0 ≤ a * b ∧ a * b < 18446744073709551616 := by
  have h1 : a * b ≤ 4294967295 * 4294967295 := Int.mul_le_mul (by omega) (by omega) hb0 (by omega)
  have h2 := Int.mul_nonneg ha0 hb0
  omega

theorem loop0 {n1 n0 D U u : Int} (hD : D = n1 * 4294967296 + n0) (h1 : 2147483648 ≤ n1) (h1' : n1 < 4294967296) (h0 : 0 ≤ n0) (h0' : n0 < 4294967296) (hU0 : 0 ≤ U) (hU : U < D) (hu0 : 0 ≤ u) (hu : u < 4294967296) (x8 x14 : Int) (res : Int × Int)
    (hres : Ev (fun k => bits_Div64.j2 k D x8 n1 n0 U u x14 ((U * 4294967296 + u) / D)) res) :
    ∀ (d : Nat) (q r : Int), q * n1 + r = U → 0 ≤ r → r < 4294967296 → (U * 4294967296 + u) / D ≤ q → q ≤ 4294967297 → q - (U * 4294967296 + u) / D = d → Ev (fun k => bits_Div64.l0 k D x8 n1 n0 U u x14 q r) res := by
  have hp : 0 < D := by omega
  have hQ0 : 0 ≤ (U * 4294967296 + u) / D := Int.ediv_nonneg (by omega) (by omega)
  have hQt := digit_top hp hU hu
  have hmore : ∀ (q r : Int), q * n1 + r = U → 0 ≤ r → r < 4294967296 → (U * 4294967296 + u) / D < q → q ≤ 4294967297 →
      (∀ r', (q - 1) * n1 + r' = U → 0 ≤ r' → r' < 4294967296 → Ev (fun k => bits_Div64.l0 k D x8 n1 n0 U u x14 (q - 1) r') res) → Ev (fun k => bits_Div64.j1 k D x8 n1 n0 U u x14 q r true) res := by
    intro q r e hr0 hr hlt hq ih
    have w1 : IntKind.u64.wrap (r + n1) = r + n1 := wraps_u64 _ (by omega) (by omega)
    have w2 : IntKind.u64.wrap (q - 1) = q - 1 := wraps_u64 _ (by omega) (by omega)
    by_cases hb : r + n1 ≥ 4294967296
    · refine Ev.step (f := fun k => bits_Div64.j2 k D x8 n1 n0 U u x14 (q - 1)) ?_ ?_
      · intro k
        simp only [bits_Div64.j1, if_true]
        rw [w1, if_pos hb, w2]
      · have := digit_out hD hp h0 h0' hu0 e (by omega) hq hb
        rw [show q - 1 = (U * 4294967296 + u) / D by omega]
        exact hres
    · refine Ev.step (f := fun k => bits_Div64.l0 k D x8 n1 n0 U u x14 (q - 1) (r + n1)) ?_ (ih (r + n1) (by rw [Int.sub_mul]; omega) (by omega) (by omega))
      intro k
      simp only [bits_Div64.j1, if_true]
      rw [w1, if_neg hb, w2]
  intro d
  induction d with
  | zero =>
    intro q r e hr0 hr hle hq hd
    have hq' : q = (U * 4294967296 + u) / D := by omega
    have hq4 : q < 4294967296 := by omega
    have hn : ¬ (4294967296 * r + u < q * n0) := fun h => by
      have := digit_yes hD hp e h
      omega
    have hm := mulw (a := q) (b := n0) (by omega) hq4 h0 h0'
    refine Ev.step (f := fun k => bits_Div64.j1 k D x8 n1 n0 U u x14 q r false) ?_ (Ev.step (f := fun k => bits_Div64.j2 k D x8 n1 n0 U u x14 q) ?_ (by rw [hq']; exact hres))
    · intro k
      simp only [bits_Div64.l0]
      rw [if_neg (by omega), wraps_u64 (q * n0) (by omega) (by omega), wraps_u64 (4294967296 * r) (by omega) (by omega), wraps_u64 (4294967296 * r + u) (by omega) (by omega), decide_eq_false (by omega)]
    · intro k
      simp [bits_Div64.j1]
  | succ d ih =>
    intro q r e hr0 hr hle hq hd
    have hlt : (U * 4294967296 + u) / D < q := by omega
    have hy : q < 4294967296 → 4294967296 * r + u < q * n0 := fun _ => by
      rcases Int.lt_or_le (4294967296 * r + u) (q * n0) with h | h
      · exact h
      · have := digit_no hD hp e h
        omega
    refine Ev.step (f := fun k => bits_Div64.j1 k D x8 n1 n0 U u x14 q r true) ?_ (hmore q r e hr0 hr hlt hq fun r' e' a b => ih (q - 1) r' e' a b (by omega) (by omega) (by omega))
    intro k
    simp only [bits_Div64.l0]
    by_cases hq4 : q ≥ 4294967296
    · rw [if_pos hq4]
    · have hm := mulw (a := q) (b := n0) (by omega) (by omega) h0 h0'
      have := hy (by omega)
      rw [if_neg hq4, wraps_u64 (q * n0) (by omega) (by omega), wraps_u64 (4294967296 * r) (by omega) (by omega), wraps_u64 (4294967296 * r + u) (by omega) (by omega), decide_eq_true (by omega)]

theorem loop1 {n1 n0 D U u : Int} (hD : D = n1 * 4294967296 + n0) (h1 : 2147483648 ≤ n1) (h1' : n1 < 4294967296) (h0 : 0 ≤ n0) (h0' : n0 < 4294967296) (hU0 : 0 ≤ U) (hU : U < D) (hu0 : 0 ≤ u) (hu : u < 4294967296) (x8 x15 : Int) (h8 : 0 ≤ x8) :
    ∀ (d : Nat) (q r : Int), q * n1 + r = U → 0 ≤ r → r < 4294967296 → (U * 4294967296 + u) / D ≤ q → q ≤ 4294967297 → q - (U * 4294967296 + u) / D = d →
      Ev (fun k => bits_Div64.l1 k D x8 n1 n0 u x15 r U q) (IntKind.u64.wrap (IntKind.u64.wrap (x15 * 4294967296) + (U * 4294967296 + u) / D),
        shr .u64 (IntKind.u64.wrap (IntKind.u64.wrap (IntKind.u64.wrap (U * 4294967296) + u) - IntKind.u64.wrap ((U * 4294967296 + u) / D * D))) x8) := by
  have hp : 0 < D := by omega
  have hQ0 : 0 ≤ (U * 4294967296 + u) / D := Int.ediv_nonneg (by omega) (by omega)
  have hQt := digit_top hp hU hu
  have hmore : ∀ (res : Int × Int), res = (IntKind.u64.wrap (IntKind.u64.wrap (x15 * 4294967296) + (U * 4294967296 + u) / D), shr .u64 (IntKind.u64.wrap (IntKind.u64.wrap (IntKind.u64.wrap (U * 4294967296) + u) - IntKind.u64.wrap ((U * 4294967296 + u) / D * D))) x8) →
      ∀ (q r : Int), q * n1 + r = U → 0 ≤ r → r < 4294967296 → (U * 4294967296 + u) / D < q → q ≤ 4294967297 →
      (∀ r', (q - 1) * n1 + r' = U → 0 ≤ r' → r' < 4294967296 → Ev (fun k => bits_Div64.l1 k D x8 n1 n0 u x15 r' U (q - 1)) res) → Ev (fun k => bits_Div64.j4 k D x8 n1 n0 u x15 r U q true) res := by
    intro res hres q r e hr0 hr hlt hq ih
    have w1 : IntKind.u64.wrap (r + n1) = r + n1 := wraps_u64 _ (by omega) (by omega)
    have w2 : IntKind.u64.wrap (q - 1) = q - 1 := wraps_u64 _ (by omega) (by omega)
    by_cases hb : r + n1 ≥ 4294967296
    · refine Ev.step (f := fun _ => some res) ?_ (Ev.now _)
      intro k
      have := digit_out hD hp h0 h0' hu0 e (by omega) hq hb
      have hqe : q - 1 = (U * 4294967296 + u) / D := by omega
      simp only [bits_Div64.j4, if_true]
      rw [w1, if_pos hb, w2, if_pos h8, hqe, hres]
    · refine Ev.step (f := fun k => bits_Div64.l1 k D x8 n1 n0 u x15 (r + n1) U (q - 1)) ?_ (ih (r + n1) (by rw [Int.sub_mul]; omega) (by omega) (by omega))
      intro k
      simp only [bits_Div64.j4, if_true]
      rw [w1, if_neg hb, w2]
  intro d
  induction d with
  | zero =>
    intro q r e hr0 hr hle hq hd
    have hq' : q = (U * 4294967296 + u) / D := by omega
    have hq4 : q < 4294967296 := by omega
    have hn : ¬ (4294967296 * r + u < q * n0) := fun h => by
      have := digit_yes hD hp e h
      omega
    have hm := mulw (a := q) (b := n0) (by omega) hq4 h0 h0'
    rw [← hq']
    refine Ev.step (f := fun k => bits_Div64.j4 k D x8 n1 n0 u x15 r U q false) ?_ (Ev.step (f := fun _ => some (_, _)) ?_ (Ev.now _))
    · intro k
      simp only [bits_Div64.l1]
      rw [if_neg (by omega), wraps_u64 (q * n0) (by omega) (by omega), wraps_u64 (4294967296 * r) (by omega) (by omega), wraps_u64 (4294967296 * r + u) (by omega) (by omega), decide_eq_false (by omega)]
    · intro k
      simp only [bits_Div64.j4, Bool.false_eq_true, if_false]
      rw [if_pos h8]
  | succ d ih =>
    intro q r e hr0 hr hle hq hd
    have hlt : (U * 4294967296 + u) / D < q := by omega
    have hy : q < 4294967296 → 4294967296 * r + u < q * n0 := fun _ => by
      rcases Int.lt_or_le (4294967296 * r + u) (q * n0) with h | h
      · exact h
      · have := digit_no hD hp e h
        omega
    refine Ev.step (f := fun k => bits_Div64.j4 k D x8 n1 n0 u x15 r U q true) ?_ (hmore _ rfl q r e hr0 hr hlt hq fun r' e' a b => ih (q - 1) r' e' a b (by omega) (by omega) (by omega))
    intro k
    simp only [bits_Div64.l1]
    by_cases hq4 : q ≥ 4294967296
    · rw [if_pos hq4]
    · have hm := mulw (a := q) (b := n0) (by omega) (by omega) h0 h0'
      have := hy (by omega)
      rw [if_neg hq4, wraps_u64 (q * n0) (by omega) (by omega), wraps_u64 (4294967296 * r) (by omega) (by omega), wraps_u64 (4294967296 * r + u) (by omega) (by omega), decide_eq_true (by omega)]
end Go.Proofs.Ytmjncjaalleblaa.PQ
