import Derived.Test.YtmjncjaalleblaaQI
import Derived.Test.YtmjncjaalleblaaQK
/- Layer 4: whole numbers. No program in sight. -/
namespace Go.Proofs.Ytmjncjaalleblaa.PQ
set_option linter.unusedVariables false
set_option linter.unusedSimpArgs false
/-- the product's numbers -/
def hm0 (a b c d e f g h : Int) : Int := a * e + -(b * f) + -(c * g) + -(d * h)
def hm1 (a b c d e f g h : Int) : Int := a * f + b * e + c * h + -(d * g)
def hm2 (a b c d e f g h : Int) : Int := a * g + -(b * h) + c * e + d * f
def hm3 (a b c d e f g h : Int) : Int := a * h + b * g + -(c * f) + d * e
theorem small_mul {x y : Int} {A B : Nat} (hx : x.natAbs ≤ A) (hy : y.natAbs ≤ B) : (x * y).natAbs ≤ A * B := by
  rw [Int.natAbs_mul]; exact Nat.mul_le_mul hx hy
structure Le4 (A : Nat) (a b c d : Int) : Prop where
  a : a.natAbs ≤ A
  b : b.natAbs ≤ A
  c : c.natAbs ≤ A
  d : d.natAbs ≤ A
theorem Le4.at_ {A : Nat} {a b c d : Int} (h : Le4 A a b c d) (k : Nat) : (at4 a b c d k).natAbs ≤ A := by
  rcases k with _ | _ | _ | k
  · exact h.a
  · exact h.b
  · exact h.c
  · exact h.d
theorem whole_in {z : Int} {A : Nat} (h : z.natAbs ≤ A) (hA : A ≤ 4194303) : InR (z * 16777216) := by unfold InR; omega
theorem at4_mul (a b c d m : Int) (k : Nat) : at4 (a * m) (b * m) (c * m) (d * m) k = at4 a b c d k * m := by
  rcases k with _ | _ | _ | k <;> rfl
theorem fits_whole {x0 x1 x2 x3 : Int} {N : Nat} (h0 : x0.natAbs ≤ N) (h1 : x1.natAbs ≤ N) (h2 : x2.natAbs ≤ N) (h3 : x3.natAbs ≤ N) (hN : 4 * N ≤ 4194303) :
    Fits (x0 * 16777216) (x1 * 16777216) (x2 * 16777216) (x3 * 16777216) := by
  have b0 : -(N : Int) ≤ x0 ∧ x0 ≤ N := by omega
  have b1 : -(N : Int) ≤ x1 ∧ x1 ≤ N := by omega
  have b2 : -(N : Int) ≤ x2 ∧ x2 ≤ N := by omega
  have b3 : -(N : Int) ≤ x3 ∧ x3 ≤ N := by omega
  clear h0 h1 h2 h3
  constructor <;> (unfold InR; omega)
theorem sum4_le {x0 x1 x2 x3 : Int} {N : Nat} (h0 : x0.natAbs ≤ N) (h1 : x1.natAbs ≤ N) (h2 : x2.natAbs ≤ N) (h3 : x3.natAbs ≤ N) : (x0 + x1 + x2 + x3).natAbs ≤ 4 * N := by omega
theorem neg_le {x : Int} {N : Nat} (h : x.natAbs ≤ N) : (-x).natAbs ≤ N := by rwa [Int.natAbs_neg]
/-- a product of whole numbers is exact -/
theorem whole_comp {a b c d e f g h : Int} {A B : Nat} (hp : Le4 A a b c d) (hq : Le4 B e f g h) (hA : A ≤ 4194303) (hB : B ≤ 4194303) (hAB : 4 * (A * B) ≤ 4194303) :
    comp (at4 (a * 16777216) (b * 16777216) (c * 16777216) (d * 16777216)) (at4 (e * 16777216) (f * 16777216) (g * 16777216) (h * 16777216)) 0 = hm0 a b c d e f g h * 16777216 ∧
    comp (at4 (a * 16777216) (b * 16777216) (c * 16777216) (d * 16777216)) (at4 (e * 16777216) (f * 16777216) (g * 16777216) (h * 16777216)) 1 = hm1 a b c d e f g h * 16777216 ∧
    comp (at4 (a * 16777216) (b * 16777216) (c * 16777216) (d * 16777216)) (at4 (e * 16777216) (f * 16777216) (g * 16777216) (h * 16777216)) 2 = hm2 a b c d e f g h * 16777216 ∧
    comp (at4 (a * 16777216) (b * 16777216) (c * 16777216) (d * 16777216)) (at4 (e * 16777216) (f * 16777216) (g * 16777216) (h * 16777216)) 3 = hm3 a b c d e f g h * 16777216 ∧
    flagK (at4 (a * 16777216) (b * 16777216) (c * 16777216) (d * 16777216)) (at4 (e * 16777216) (f * 16777216) (g * 16777216) (h * 16777216)) 4 = false := by
  have K : ∀ i j, (at4 a b c d i * at4 e f g h j).natAbs ≤ A * B := fun i j => small_mul (hp.at_ i) (hq.at_ j)
  have H := comp_exact (p := at4 (a * 16777216) (b * 16777216) (c * 16777216) (d * 16777216)) (q := at4 (e * 16777216) (f * 16777216) (g * 16777216) (h * 16777216))
    (t := fun i j => at4 a b c d i * at4 e f g h j * 16777216)
    (fun k hk => by rw [at4_mul]; exact whole_in (hp.at_ k) hA) (fun k hk => by rw [at4_mul]; exact whole_in (hq.at_ k) hB)
    (fun i j hi hj => whole_in (K i j) (by omega)) (fun i j hi hj => by rw [at4_mul, at4_mul]; grind)
    (by have h := fits_whole (K 0 0) (neg_le (K 1 1)) (neg_le (K 2 2)) (neg_le (K 3 3)) hAB; rwa [Int.neg_mul, Int.neg_mul, Int.neg_mul] at h)
    (by have h := fits_whole (K 0 1) (K 1 0) (K 2 3) (neg_le (K 3 2)) hAB; rwa [Int.neg_mul] at h)
    (by have h := fits_whole (K 0 2) (neg_le (K 1 3)) (K 2 0) (K 3 1) hAB; rwa [Int.neg_mul] at h)
    (by have h := fits_whole (K 0 3) (K 1 2) (neg_le (K 2 1)) (K 3 0) hAB; rwa [Int.neg_mul] at h)
  obtain ⟨H0, H1, H2, H3, H4⟩ := H
  refine ⟨H0.trans ?_, H1.trans ?_, H2.trans ?_, H3.trans ?_, H4⟩
  · simp only [at4, hm0]; grind
  · simp only [at4, hm1]; grind
  · simp only [at4, hm2]; grind
  · simp only [at4, hm3]; grind
theorem hm_le {a b c d e f g h : Int} {A B : Nat} (hp : Le4 A a b c d) (hq : Le4 B e f g h) : Le4 (4 * (A * B)) (hm0 a b c d e f g h) (hm1 a b c d e f g h) (hm2 a b c d e f g h) (hm3 a b c d e f g h) := by
  have K : ∀ i j, (at4 a b c d i * at4 e f g h j).natAbs ≤ A * B := fun i j => small_mul (hp.at_ i) (hq.at_ j)
  exact ⟨sum4_le (K 0 0) (neg_le (K 1 1)) (neg_le (K 2 2)) (neg_le (K 3 3)), sum4_le (K 0 1) (K 1 0) (K 2 3) (neg_le (K 3 2)), sum4_le (K 0 2) (neg_le (K 1 3)) (K 2 0) (K 3 1), sum4_le (K 0 3) (K 1 2) (neg_le (K 2 1)) (K 3 0)⟩
/-- the norm of whole numbers is exact -/
theorem whole_norm {a b c d : Int} {A : Nat} (hp : Le4 A a b c d) (hA : A ≤ 4194303) (hAA : 4 * (A * A) ≤ 4194303) :
    normV (at4 (a * 16777216) (b * 16777216) (c * 16777216) (d * 16777216)) = (a * a + b * b + c * c + d * d) * 16777216 := by
  have K : ∀ i j, (at4 a b c d i * at4 a b c d j).natAbs ≤ A * A := fun i j => small_mul (hp.at_ i) (hp.at_ j)
  have S : ∀ k, sqV (at4 (a * 16777216) (b * 16777216) (c * 16777216) (d * 16777216)) k = at4 a b c d k * at4 a b c d k * 16777216 := fun k => by
    unfold sqV
    rw [at4_mul]
    exact mulV_exact (whole_in (hp.at_ k) hA) (whole_in (hp.at_ k) hA) (whole_in (K k k) (by omega)) (by grind)
  unfold normV
  rw [S, S, S, S]
  rw [(fits_whole (K 0 0) (K 1 1) (K 2 2) (K 3 3) hAA).sum.1]
  simp only [at4]
  grind
theorem whole_neg {b : Int} (h : b.natAbs ≤ 4194303) : subV 0 (b * 16777216) = -b * 16777216 := by
  rw [(neg_exact (whole_in h (Nat.le_refl _)) (by unfold InR; omega)).1]; omega
theorem hm_assoc (a b c d e f g h i j k l : Int) :
    hm0 (hm0 a b c d e f g h) (hm1 a b c d e f g h) (hm2 a b c d e f g h) (hm3 a b c d e f g h) i j k l = hm0 a b c d (hm0 e f g h i j k l) (hm1 e f g h i j k l) (hm2 e f g h i j k l) (hm3 e f g h i j k l) ∧
    hm1 (hm0 a b c d e f g h) (hm1 a b c d e f g h) (hm2 a b c d e f g h) (hm3 a b c d e f g h) i j k l = hm1 a b c d (hm0 e f g h i j k l) (hm1 e f g h i j k l) (hm2 e f g h i j k l) (hm3 e f g h i j k l) ∧
    hm2 (hm0 a b c d e f g h) (hm1 a b c d e f g h) (hm2 a b c d e f g h) (hm3 a b c d e f g h) i j k l = hm2 a b c d (hm0 e f g h i j k l) (hm1 e f g h i j k l) (hm2 e f g h i j k l) (hm3 e f g h i j k l) ∧
    hm3 (hm0 a b c d e f g h) (hm1 a b c d e f g h) (hm2 a b c d e f g h) (hm3 a b c d e f g h) i j k l = hm3 a b c d (hm0 e f g h i j k l) (hm1 e f g h i j k l) (hm2 e f g h i j k l) (hm3 e f g h i j k l) := by
  simp only [hm0, hm1, hm2, hm3]
  exact ⟨by grind, by grind, by grind, by grind⟩
theorem hm_norm (a b c d e f g h : Int) :
    hm0 a b c d e f g h * hm0 a b c d e f g h + hm1 a b c d e f g h * hm1 a b c d e f g h + hm2 a b c d e f g h * hm2 a b c d e f g h + hm3 a b c d e f g h * hm3 a b c d e f g h =
      (a * a + b * b + c * c + d * d) * (e * e + f * f + g * g + h * h) := by
  simp only [hm0, hm1, hm2, hm3]
  grind
end Go.Proofs.Ytmjncjaalleblaa.PQ
