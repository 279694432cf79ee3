import Derived.Test.YtninmcmajbfccaaY9
import Derived.Test.YtninmcmajbfccaaY10
import Derived.Test.YtninmcmajbfccaaY2
import Derived.Test.YtninmcmajbfccaaY7
import Derived.Test.YtninmcmajbfccaaY8
import Derived.Test.YtninmcmajbfccaaY5
/- Joined and thinned by a program of this session's own (wip/pack2.py) out of its texts (wip/ of its repo); parts were laid by its own program (wip/print-patch.py over the kit's print) out of the translation; Lean checks all. -/
set_option maxRecDepth 100000
set_option maxHeartbeats 8000000
namespace Go.Proofs.Ytninmcmajbfccaa.PR
open Go.RowKit Go.Proofs.Ytninmcmajbfccaa.PQ Go.Proofs.aH.bK Go.Proofs.aH.dG Go.Proofs.aH.dJ Go.Proofs.Ytninmcmajbfccaa.KK
set_option linter.unusedVariables false
set_option linter.unusedSimpArgs false
theorem Rd.blk {w : World} {A : Option Addr} {l : List Int} (h : Rd w A l) : ∀ ad, A = some ad → 0 < l.length → ad.block < w.heap.size := fun ad e hp => by
 obtain ⟨b, off, e2, hb, _⟩ := Rd.cells h hp
 rw [e] at e2
 injection e2 with e2
 subst e2
 exact hb
theorem Vf {w : World} {B : Nat} {a b c d e f : Value} {fn : Func} {k i j m : Nat} {tmps : Array Value} (h : fn.results = #[.cell k 28, .tmp i, .tmp j, .tmp m]) (hk : tmps.getD k undef = .pointer (some ⟨B, 0, none⟩)) (R : Row w B 28 #[a, b, c, d, e, f]) :
 (results fn tmps).run Try.prog w = .ok (.tuple #[.agg #[a, b, c, d, e, f], tmps.getD i undef, tmps.getD j undef, tmps.getD m undef]) w := by
 have c := R.cell
 have hk' : tmps[k]?.getD undef = .pointer (some ⟨B, 0, none⟩) := by simpa using hk
 simp only [results, h]
 simp [go_sem, hk', c]
theorem QE (n : Nat) (A1 A2 A3 : Option Addr) (c1 c2 c3 : Nat) (lx lp lh : List Int) (z r gate y s q1 q2 : Int) (o f1 f2 : Bool) (w : World) (h1 : 1 ≤ n) (h8 : n ≤ 8) (hx : lx.length = n * 1) (hp : lp.length = n * n) (hh : lh.length = 1 * n)
 (rx : Rd w A1 lx) (cx : lx.length ≤ c1) (rp : Rd w A2 lp) (cp : lp.length ≤ c2) (rh : Rd w A3 lh) (ch : lh.length ≤ c3)
 (hm : PQ.jW.f 1000 n 1 lx n n lp 1 n lh r = some 0) (hi : kE.f false n 1 lx n n lp 1 n lh z r = some (y, s, o)) (h2 : xX y y = (q1, f1)) (h3 : xX gate s = (q2, f2)) (h4 : ¬ q1 > q2) (h5 : ¬ s ≤ 0) :
 Calls Try.prog 13 #[.agg #[I n, I 1, .slice A1 lx.length c1, I n, I n, .slice A2 lp.length c2], .agg #[I 1, I n, .slice A3 lh.length c3], I z, I r, I gate] w fun e w' => ∃ Ax dx Ap dp, e = .returned (.tuple #[.agg #[I n, I 1, .slice Ax (tX n lx lp lh y s).length dx, I n, I n, .slice Ap (tP n lp lh s r).length dp], .bool true, .bool (tB n lx lp lh y s r (o || f1 || f2)), I 0]) ∧ Own w' w.heap.size (.slice Ax (tX n lx lp lh y s).length dx) (tX n lx lp lh y s) ∧ Own w' w.heap.size (.slice Ap (tP n lp lh s r).length dp) (tP n lp lh s r) ∧ (∀ k, (Value.slice Ax (tX n lx lp lh y s).length dx).ownBlock = some k → (Value.slice Ap (tP n lp lh s r).length dp).ownBlock ≠ some k) ∧ Below w.heap.size w w' := by
 have N : Hid (fF w [(28, #[I n, I 1, .slice A1 lx.length c1, I n, I n, .slice A2 lp.length c2]), (26, #[I 1, I n, .slice A3 lh.length c3]), (28, #[I 0, I 0, .slice none 0 0, I 0, I 0, .slice none 0 0])] (((w.alloc (.cells #[I n, I 1, .slice A1 lx.length c1, I n, I n, .slice A2 lp.length c2] 28)).alloc (.cells #[I 1, I n, .slice A3 lh.length c3] 26)).alloc (.cells #[I 0, I 0, .slice none 0 0, I 0, I 0, .slice none 0 0] 28))) := Lib.hid ((((fF.none w).push (by simp) _ _).push (by simp) _ _).push (by simp) _ _)
 have RX := Lib.hid rx
 have RP := Lib.hid rp
 have RH := Lib.hid rh
 have CX := Lib.hid cx
 have CP := Lib.hid cp
 have CH := Lib.hid ch
 have HM := Lib.hid hm
 have HI := Lib.hid hi
 have H2 := Lib.hid h2
 have H3 := Lib.hid h3
 have HT := Lib.hid (And.intro (And.intro h1 h8) (And.intro hx (And.intro hp hh)))
 have e4 : decide (q1 > q2) = false := decide_eq_false h4
 have e5 : decide (s ≤ 0) = false := decide_eq_false h5
 clear rx rp rh cx cp ch hm hi h1 h8 hx hp hh h2 h3 h4 h5
 go_enter Try.func13, Try.ntmps13
 go_wp2_with fail
 refine (PQ.jW.calls 1000 n 1 A1 c1 lx n n A2 c2 lp 1 n A3 c3 lh r 0 _ (RX.out.below N.out.be) CX.out (RP.out.below N.out.be) CP.out (RH.out.below N.out.be) CH.out HM.out).mono ?_
 rintro e w1 ⟨rfl, hb⟩
 have N1 := Lib.hid (N.out.below hb)
 have y0 := N1.out.r0.cell
 have y1 := N1.out.r1.cell
 have t0 := N1.out.r0.lt
 have t1 := N1.out.r1.lt
 clear hb N
 have G1 := Lib.hid (Row.new w1 77 #[.bool false])
 have N2 := Lib.hid (N1.out.alloc (.cells #[.bool false] 77))
 have GE : Hid (w.heap.size + 3 ≤ w1.heap.size) := Lib.hid (by have h := N1.out.rows.le N1.out.be.size; simpa using h)
 have FX : Hid (∀ ad, A1 = some ad → 0 < lx.length → ad.block ≠ w1.heap.size) := Lib.hid (fun ad e hp => by have h1 := Rd.blk RX.out ad e hp; have h2 := GE.out; omega)
 have FP : Hid (∀ ad, A2 = some ad → 0 < lp.length → ad.block ≠ w1.heap.size) := Lib.hid (fun ad e hp => by have h1 := Rd.blk RP.out ad e hp; have h2 := GE.out; omega)
 have FH : Hid (∀ ad, A3 = some ad → 0 < lh.length → ad.block ≠ w1.heap.size) := Lib.hid (fun ad e hp => by have h1 := Rd.blk RH.out ad e hp; have h2 := GE.out; omega)
 go_wp2_with fail
 refine (kE.calls w1.heap.size false n 1 A1 c1 lx n n A2 c2 lp 1 n A3 c3 lh z r y s o w _ ⟨G1.out, by have h := GE.out; omega⟩ N2.out.be (RX.out.below N2.out.be) CX.out FX.out (RP.out.below N2.out.be) CP.out FP.out (RH.out.below N2.out.be) CH.out FH.out HI.out).mono ?_
 rintro e w2 ⟨rfl, hs, hb, hk⟩
 have R2 : Hid (Row w2 w1.heap.size 77 #[.bool o]) := Lib.hid hs.1
 have N3 := Lib.hid (N2.out.app (grown_of N2.out.be hb hk) (fun g e => by injection e with e; have h := GE.out; simp; omega))
 clear hs hb hk y0 y1 t0 t1
 go_wp2_with fail
 refine (zf y y w2).mono ?_
 rw [H2.out]
 rintro e w3 ⟨rfl, hb⟩
 have R3 := Lib.hid (Row.below R2.out hb R2.out.lt)
 have N4 := Lib.hid (N3.out.below hb)
 clear hb
 go_wp2_with fail
 refine (KF w1.heap.size o f1 q1 w3 R3.out).mono ?_
 rintro e w4 ⟨rfl, hr, hg⟩
 have R4 := Lib.hid hr
 have N5 := Lib.hid (N4.out.app hg (fun g e => by injection e with e; have h := GE.out; simp; omega))
 clear hr hg
 go_wp2_with fail
 refine (zf gate s w4).mono ?_
 rw [H3.out]
 rintro e w5 ⟨rfl, hb⟩
 have R5 := Lib.hid (Row.below R4.out hb R4.out.lt)
 have N6 := Lib.hid (N5.out.below hb)
 clear hb
 go_wp2_with fail
 refine (KF w1.heap.size (o || f1) f2 q2 w5 R5.out).mono ?_
 rintro e w6 ⟨rfl, hr, hg⟩
 have R6 := Lib.hid hr
 have N7 := Lib.hid (N6.out.app hg (fun g e => by injection e with e; have h := GE.out; simp; omega))
 clear hr hg
 have y0 := N7.out.r0.cell
 have y1 := N7.out.r1.cell
 go_wp2_with fail
 refine (J9 w w6 w1.heap.size n (o || f1 || f2) y s r A1 A2 A3 c1 c2 c3 lx lp lh _ _ _ _ _ _ _ _ _ _ _ _ _ _ _ _ _ _ _ _ _ _ _ HT.out.1.1 HT.out.1.2 HT.out.2.1 HT.out.2.2.1 HT.out.2.2.2 (SE n lx lp lh (o || f1 || f2) y s r) R6.out (by have h := GE.out; omega) N7.out.be (RX.out.below N7.out.be) CX.out FX.out (RP.out.below N7.out.be) CP.out FP.out (RH.out.below N7.out.be) CH.out FH.out).mono ?_
 rintro e w7 ⟨Ax, dx, Ap, dp, rfl, ox, op, hne, hr, hg⟩
 have N8 := Lib.hid (N7.out.app hg (fun g e => by injection e with e; have h := GE.out; simp; omega))
 have R8 := Lib.hid hr
 have OX := Lib.hid ox
 have OP := Lib.hid op
 have NE := Lib.hid hne
 have BE : Hid (w.heap.size + 3 ≤ w6.heap.size) := Lib.hid (by have h := N7.out.rows.le N7.out.be.size; simpa using h)
 obtain ⟨X, hX⟩ : ∃ X, tX n lx lp lh y s = X := ⟨_, rfl⟩
 obtain ⟨P, hP⟩ : ∃ P, tP n lp lh s r = P := ⟨_, rfl⟩
 obtain ⟨fl, hfl⟩ : ∃ fl, tB n lx lp lh y s r (o || f1 || f2) = fl := ⟨_, rfl⟩
 have R8' : Hid (Row w7 w1.heap.size 77 #[.bool fl]) := Lib.hid (by rw [← hfl]; exact R8.out)
 have HX := Lib.hid hX
 have HP := Lib.hid hP
 have HFL := Lib.hid hfl
 rw [hX] at OX NE ⊢
 rw [hP] at OP NE ⊢
 clear hX hP hfl R8 ox op hne hr hg y0 y1 N1 N2 N3 N4 N5 N6 N7 R2 R3 R4 R5 R6
 have N9 := Lib.hid (N8.out.alloc (.cells #[I n, I 1, .slice Ax X.length dx, I n, I n, .slice Ap P.length dp] 28))
 have R9 := Lib.hid (Row.alloc R8'.out (.cells #[I n, I 1, .slice Ax X.length dx, I n, I n, .slice Ap P.length dp] 28))
 have T9 := Lib.hid (Row.new w7 28 #[I n, I 1, .slice Ax X.length dx, I n, I n, .slice Ap P.length dp])
 have OX9 := Lib.hid (OX.out.alloc (.cells #[I n, I 1, .slice Ax X.length dx, I n, I n, .slice Ap P.length dp] 28))
 have OP9 := Lib.hid (OP.out.alloc (.cells #[I n, I 1, .slice Ax X.length dx, I n, I n, .slice Ap P.length dp] 28))
 have BF : Hid (w.heap.size + 3 ≤ w7.heap.size ∧ w.heap.size + 3 ≤ w1.heap.size) := Lib.hid ⟨by have h := N8.out.rows.le N8.out.be.size; simpa using h, GE.out⟩
 go_wp2_with fail
 obtain ⟨w8, hw8⟩ : ∃ w8, w7.alloc (.cells #[I n, I 1, .slice Ax X.length dx, I n, I n, .slice Ap P.length dp] 28) = w8 := ⟨_, rfl⟩
 rw [hw8] at N9 R9 T9 OX9 OP9
 change Code.wp Try.prog _ _ _ (w7.alloc (.cells #[I n, I 1, .slice Ax X.length dx, I n, I n, .slice Ap P.length dp] 28))
 rw [hw8]
 clear hw8
 have x2 := N9.out.r2.cell
 have g2 := N9.out.r2.free
 have KS : Hid (∀ w', Row w' w7.heap.size 28 #[I n, I 1, .slice Ax X.length dx, I n, I n, .slice Ap P.length dp] → Row w' w1.heap.size 77 #[.bool fl] → (∀ o, w'.cell? ⟨w7.heap.size, o, none⟩ = #[I n, I 1, .slice Ax X.length dx, I n, I n, .slice Ap P.length dp][o]?) ∧ (∀ o, w'.cell? ⟨w1.heap.size, o, none⟩ = #[.bool fl][o]?)) := Lib.hid (fun w' a b => ⟨a.cell, b.cell⟩)
 go_region_held3 (fun w' => (∀ o, w'.cell? ⟨w7.heap.size, o, none⟩ = #[I n, I 1, .slice Ax X.length dx, I n, I n, .slice Ap P.length dp][o]?) ∧ (∀ o, w'.cell? ⟨w1.heap.size, o, none⟩ = #[.bool fl][o]?))
  (first | with_reducible exact KS.out _ T9.out.drew R9.out.drew | with_reducible exact KS.out _ (Row.drew (Row.TS T9.out (C := w.heap.size + 1 + 1) (by have h := BF.out; omega) _ _ _ _ _ _)) (Row.drew (Row.TS R9.out (C := w.heap.size + 1 + 1) (by have h := BF.out; omega) _ _ _ _ _ _)))
  (fail)
 go_wp2
 have zb := BF.out
 have zc := BE.out
 refine bodyPost_ret (Vf rfl rfl (Row.drew (Row.oO N9.out.r2 _ _ _ _ _ _))) rfl ?_
 rw [HX.out, HP.out, HFL.out]
 refine ⟨_, _, _, _, rfl, ?_, ?_, NE.out, ?_⟩
 · exact ((Own.oO OX9.out (by omega) _ _ _ _ _ _).drew).lower (by omega)
 · exact ((Own.oO OP9.out (by omega) _ _ _ _ _ _).drew).lower (by omega)
 · have hbb := N9.out.be
   exact ((((((hbb.setCell (p := ⟨w.heap.size + 1 + 1, 0, none⟩) (by dsimp only; omega) _).setCell (p := ⟨w.heap.size + 1 + 1, 1, none⟩) (by dsimp only; omega) _).setCell (p := ⟨w.heap.size + 1 + 1, 2, none⟩) (by dsimp only; omega) _).setCell (p := ⟨w.heap.size + 1 + 1, 3, none⟩) (by dsimp only; omega) _).setCell (p := ⟨w.heap.size + 1 + 1, 4, none⟩) (by dsimp only; omega) _).setCell (p := ⟨w.heap.size + 1 + 1, 5, none⟩) (by dsimp only; omega) _).drew
end Go.Proofs.Ytninmcmajbfccaa.PR

namespace Go.Proofs.Ytninmcmajbfccaa.PR
open Go.RowKit Go.Proofs.Ytninmcmajbfccaa.PQ Go.Proofs.aH.bK Go.Proofs.aH.dG Go.Proofs.aH.dJ Go.Proofs.Ytninmcmajbfccaa.KK
set_option linter.unusedVariables false
set_option linter.unusedSimpArgs false
theorem Cj (a : Int) : fC.f a = some (!jV a) := by
 rw [ahX]
 unfold jV
 congr 1
 by_cases h1 : a < -70368744177664
 · simp [h1]
   try omega
 · by_cases h2 : a > 70368744177663
   · simp [h1, h2]
     try omega
   · simp [h1, h2]
     try omega
theorem Uj {l : List Int} {j : Nat} (h : j < l.length) : (l.drop j).any jV = (jV (l.getD j 0) || (l.drop (j + 1)).any jV) := by
 rw [List.drop_eq_getElem_cons h, List.any_cons]
 congr 2
 rw [List.getD_eq_getElem?_getD, List.getElem?_eq_getElem h]; rfl
theorem G8 (r c : Int) (l : List Int) (hl : l.length ≤ 1000000) : ∀ (d j : Nat), j + d = l.length → aX.l0 (d + 1) j r c l = some (!(l.drop j).any jV) := by
 intro d
 induction d with
 | zero =>
   intro j hj
   obtain rfl : j = l.length := by omega
   unfold aX.l0
   rw [if_neg (by omega)]
   simp
 | succ d ih =>
   intro j hj
   have hlt : j < l.length := by omega
   have e1 : wrap64 ((j : Int) + 1) = ((j + 1 : Nat) : Int) := by rw [zZ (by omega) (by omega)]; push_cast; rfl
   have e2 : rd l (j : Int) = l.getD j 0 := by unfold rd; rw [Int.toNat_natCast]
   unfold aX.l0
   rw [if_pos (by omega), if_pos (by omega), e2, Cj, Uj hlt]
   simp only [Option.bind_some]
   cases ho : jV (l.getD j 0)
   · simp only [Bool.not_false, if_true, e1, ih (j + 1) (by omega), Bool.false_or]
   · simp
theorem Dw (r c : Int) (l : List Int) : ∃ k, aX.f k r c l = some (jO r c l) := by
 unfold aX.f jO
 by_cases h0 : r < 1
 · exact ⟨1, by rw [if_pos h0]; unfold aX.j0; (try simp); (try omega)⟩
 simp only [if_neg h0]
 by_cases h1 : r > 8
 · exact ⟨1, by rw [if_pos h1]; unfold aX.j0; (try simp); (try omega)⟩
 simp only [if_neg h1]
 by_cases h2 : c < 1
 · exact ⟨1, by rw [if_pos h2]; unfold aX.j0; (try simp); (try omega)⟩
 simp only [if_neg h2]
 by_cases h3 : c > 8
 · exact ⟨1, by rw [if_pos h3]; unfold aX.j0; (try simp); (try omega)⟩
 simp only [if_neg h3]
 by_cases h4 : (l.length : Int) = wrap64 (r * c)
 · have b0 : 0 ≤ r * c := Int.mul_nonneg (by omega) (by omega)
   have b1 : r * c ≤ 8 * c := Int.mul_le_mul_of_nonneg_right (by omega) (by omega)
   have hl : l.length ≤ 1000000 := by
    rw [zZ (by omega) (by omega)] at h4
    omega
   refine ⟨l.length + 2, ?_⟩
   have e : ((l.length : Int) != wrap64 (r * c)) = false := by simp [h4]
   unfold aX.j0
   rw [e]
   simp only [Bool.false_eq_true, if_false]
   have := G8 r c l hl l.length 0 (by omega)
   simp only [List.drop_zero] at this
   rw [show ((0 : Nat) : Int) = 0 from rfl] at this
   rw [this]
   have d0 : decide (r ≥ 1) = true := decide_eq_true (by omega)
   have d1 : decide (r ≤ 8) = true := decide_eq_true (by omega)
   have d2 : decide (c ≥ 1) = true := decide_eq_true (by omega)
   have d3 : decide (c ≤ 8) = true := decide_eq_true (by omega)
   have d4 : ((l.length : Int) == wrap64 (r * c)) = true := by simpa using h4
   simp [d0, d1, d2, d3, d4]
 · refine ⟨1, ?_⟩
   have e : ((l.length : Int) != wrap64 (r * c)) = true := by simpa using h4
   have e2 : ((l.length : Int) == wrap64 (r * c)) = false := by simpa using h4
   unfold aX.j0
   simp [e, e2]
theorem yh (r c : Int) (A : Option Addr) (cp : Nat) (l : List Int) (w : World) (hA : Rd w A l) (hc : l.length ≤ cp) : Calls Try.prog 14 #[.agg #[I r, I c, .slice A l.length cp]] w fun e w' => e = .returned (.bool (jO r c l)) ∧ Below w.heap.size w w' := by
 obtain ⟨k, hk⟩ := Dw r c l
 exact aX.calls k r c A cp l _ w hA hc hk
end Go.Proofs.Ytninmcmajbfccaa.PR

namespace Go.Proofs.Ytninmcmajbfccaa.PR
open Go.RowKit Go.Proofs.Ytninmcmajbfccaa.PQ Go.Proofs.aH.bK Go.Proofs.aH.dG Go.Proofs.aH.dJ Go.Proofs.Ytninmcmajbfccaa.KK
set_option linter.unusedVariables false
set_option linter.unusedSimpArgs false
theorem TE (n : Int) : Go.bits .and .i64 n 1 = n % 2 := by
 have h1 : (BitVec.ofInt 64 1).toNat = 2 ^ 1 - 1 := by decide
 have key : (BitVec.ofInt 64 n &&& BitVec.ofInt 64 1).toNat = (n % ((2 ^ 64 : Nat) : Int)).toNat % 2 ^ 1 := by
  rw [BitVec.toNat_and, BitVec.toNat_ofInt, h1, Nat.and_two_pow_sub_one_eq_mod]
 show IntKind.i64.wrap ((BitVec.ofInt 64 n &&& BitVec.ofInt 64 1).toNat : Nat) = n % 2
 rw [key, IntKind.wrap_i64]
 omega
def hv (a : Int) : Int := if a % 2 = 0 then a / 2 else if a / 2 % 2 = 0 then a / 2 else a / 2 + 1
theorem aaD (a : Int) : Int.tdiv a 2 = if 0 ≤ a then a / 2 else -((-a) / 2) := by
 split
 · exact Int.tdiv_eq_ediv_of_nonneg ‹_›
 · rw [show a = -(-a) by omega, Int.neg_tdiv, Int.tdiv_eq_ediv_of_nonneg (by omega), Int.neg_neg]
theorem SH (a : Int) : Int.tmod a 2 = if 0 ≤ a then a % 2 else -((-a) % 2) := by
 split
 · exact Int.tmod_eq_emod_of_nonneg ‹_›
 · rw [show a = -(-a) by omega, Int.neg_tmod, Int.tmod_eq_emod_of_nonneg (by omega), Int.neg_neg]
theorem SV (a : Int) (h0 : -1000000000000000 ≤ a) (h1 : a ≤ 1000000000000000) : Ev (fun k => bP.f k a 1) (hv a) := by
 refine Ev.of (bP.mono a 1) (k := 3) ?_
 unfold bP.f
 rw [if_neg (by omega), if_neg (by omega)]
 show bP.l0 2 a 1 1 0 = _
 unfold bP.l0
 rw [if_pos (by omega), show wrap64 (1 * 2) = 2 from zZ (n := 2) (by omega) (by omega), show wrap64 (0 + 1) = 1 from zZ (n := 1) (by omega) (by omega)]
 unfold bP.l0
 rw [if_neg (by omega), if_neg (by omega)]
 have e1 := aaD a
 have e2 := SH a
 have e3 : wrap64 (Int.tdiv 2 2) = 1 := zZ (n := 1) (by omega) (by omega)
 have e4 : wrap64 (Int.tdiv a 2) = Int.tdiv a 2 := zZ (by rw [e1]; split <;> omega) (by rw [e1]; split <;> omega)
 have e5 : wrap64 (Int.tdiv a 2 - 1) = Int.tdiv a 2 - 1 := zZ (by rw [e1]; split <;> omega) (by rw [e1]; split <;> omega)
 have e6 : wrap64 (Int.tdiv a 2 + 1) = Int.tdiv a 2 + 1 := zZ (by rw [e1]; split <;> omega) (by rw [e1]; split <;> omega)
 have e7 : wrap64 (Int.tmod a 2 + 2) = Int.tmod a 2 + 2 := zZ (by rw [e2]; split <;> omega) (by rw [e2]; split <;> omega)
 have e8 : wrap64 (Int.tdiv a 2 - 1 + 1) = Int.tdiv a 2 - 1 + 1 := zZ (by rw [e1]; split <;> omega) (by rw [e1]; split <;> omega)
 rw [e3, e4, e5, e6, e7, e8, SH (Int.tdiv a 2 - 1), SH (Int.tdiv a 2), e1, e2]
 unfold hv
 by_cases hp : 0 ≤ a
 · simp only [if_pos hp]
   repeat' split
   all_goals first | rfl | (congr 1; omega) | omega
 · simp only [if_neg hp]
   repeat' split
   all_goals first | rfl | (congr 1; omega) | omega
theorem Td (a : Int) (h0 : -1000000000000000 ≤ a) (h1 : a ≤ 1000000000000000) : qc.f a 1 = some (hv a) := by
 have e1 : mn (mx 1 0) 62 = 1 := by decide
 unfold qc.f
 rw [e1]
 have b1 : (2 : Int) ^ (1 : Int).toNat = 2 := by decide
 have b2 : IntKind.u64.wrap (IntKind.u64.wrap 2 - 1) = 1 := by decide
 have b3 : IntKind.u64.wrap ((2 : Int) ^ ((1 : Int) - 1).toNat) = 1 := by decide
 have m : Go.bits .and .u64 (IntKind.u64.wrap a) 1 = a % 2 := by
  rw [Tv _ (by rw [gG]; omega) (by rw [gG]; omega), gG]; omega
 rw [b1, b2, b3, m]
 rw [if_pos (by omega), if_pos (by omega), if_neg (by omega)]
 have w : wrap64 (a / 2 + 1) = a / 2 + 1 := zZ (by omega) (by omega)
 rw [w]
 have n := TE (a / 2)
 rw [n]
 unfold hv
 repeat' split
 all_goals first | rfl | (congr 1; omega) | omega
def fl (N : Nat) (Q : Nat → Int) : List Int := (List.range N).map Q
variable {N j c : Nat} {Q Q' : Nat → Int} {q : Nat → Nat → Int} {x : Int}
theorem jA : (fl N Q).length = N := by simp [fl]
theorem pY (h : j < N) : (fl N Q).getD j 0 = Q j := by simp [fl, List.getD_eq_getElem?_getD, h]
theorem JG {l : List Int} (hl : l.length = N) (h : ∀ j, j < N → l.getD j 0 = Q j) : l = fl N Q := by
 apply List.ext_getElem?
 intro j
 by_cases hj : j < N
 · have h1 := h j hj
   rw [List.getD_eq_getElem?_getD, List.getElem?_eq_getElem (by omega)] at h1
   rw [List.getElem?_eq_getElem (by omega), List.getElem?_eq_getElem (by rw [jA]; exact hj)]
   simp only [Option.getD_some] at h1
   rw [h1]
   simp [fl]
 · rw [List.getElem?_eq_none (by omega), List.getElem?_eq_none (by rw [jA]; omega)]
theorem lF (h : ∀ j, j < N → Q j = Q' j) : fl N Q = fl N Q' := JG jA (fun j hj => by rw [pY hj, h j hj])
theorem JF (h : j < N) : (fl N Q).set j x = fl N (fun i => if i = j then x else Q i) := by
 refine JG (by rw [List.length_set, jA]) (fun i hi => ?_)
 rw [List.getD_eq_getElem?_getD, List.getElem?_set]
 by_cases e : i = j
 · subst e
   simp [jA, h]
 · rw [if_neg (by omega), if_neg e, ← List.getD_eq_getElem?_getD, pY hi]
theorem dv {n i k : Nat} (hk : k < n) : (i * n + k) / n = i := by
 rw [Nat.mul_comm, Nat.mul_add_div (by omega), Nat.div_eq_of_lt hk, Nat.add_zero]
theorem md {n i k : Nat} (hk : k < n) : (i * n + k) % n = k := by
 rw [Nat.mul_comm, Nat.mul_add_mod, Nat.mod_eq_of_lt hk]
theorem I5 : ∀ r, upto c q r = fl (r * c) (fun j => q (j / c) (j % c)) := by
 intro r
 induction r with
 | zero => simp [upto, fl]
 | succ r ih =>
   rw [upto_succ, ih]
   refine JG (by simp [jA, Nat.succ_mul]) (fun j hj => ?_)
   rw [Nat.succ_mul] at hj
   by_cases h : j < r * c
   · rw [List.getD_eq_getElem?_getD, List.getElem?_append_left (by rw [jA]; exact h), ← List.getD_eq_getElem?_getD, pY h]
   · obtain ⟨k, rfl⟩ : ∃ k, j = r * c + k := ⟨j - r * c, by omega⟩
     have hk : k < c := by omega
     rw [List.getD_eq_getElem?_getD, List.getElem?_append_right (by rw [jA]; omega), jA, Nat.add_sub_cancel_left, dv hk, md hk]
     simp [hk]
theorem QT (r c : Int) (N : Nat) (hN : N ≤ 1000000) (e : wrap64 (r * c) = N) : ∀ (d j : Nat), j + d = N → Ev (fun k => dV.l0 k r c (fl j (fun _ => 0)) j) (r, c, fl N (fun _ => 0)) := by
 intro d
 induction d with
 | zero =>
   intro j hj
   obtain rfl : j = N := by omega
   refine Ev.step (f := fun _ => some (r, c, fl j (fun _ => 0))) (fun k => ?_) (Ev.now _)
   unfold dV.l0
   rw [if_neg (by omega)]
 | succ d ih =>
   intro j hj
   refine Ev.step (fun k => ?_) (ih (j + 1) (by omega))
   have e1 : wrap64 ((j : Int) + 1) = ((j + 1 : Nat) : Int) := by rw [zZ (by omega) (by omega)]; push_cast; rfl
   show (if (j : Int) < wrap64 (r * c) then (if (fl j (fun _ => 0)).length < 17592186044416 then (dV.l0 k r c (fl j (fun _ => 0) ++ [0]) (wrap64 ((j : Int) + 1))) else (none)) else (some (r, c, fl j (fun _ => 0)))) = _
   rw [if_pos (by omega), if_pos (by rw [jA]; omega), e1]
   congr 1
   simp [fl, List.range_succ]
theorem OU (r c : Int) (N : Nat) (hN : N ≤ 1000000) (e : wrap64 (r * c) = N) : Ev (fun k => dV.f k r c) (r, c, fl N (fun _ => 0)) := QT r c N hN e N 0 (by omega)
theorem QM (r c r' c' : Int) (l m : List Int) (hlen : l.length = m.length) (hl : l.length ≤ 1000000) : ∀ (d j : Nat), j + d = l.length → Ev (fun k => bU.l0 k j r c l r' c' m) (decide (l.drop j = m.drop j)) := by
 intro d
 induction d with
 | zero =>
   intro j hj
   refine Ev.step (f := fun _ => some true) (fun k => ?_) ?_
   · unfold bU.l0
     rw [if_neg (by omega)]
   · have : decide (l.drop j = m.drop j) = true := by
      rw [List.drop_eq_nil_of_le (by omega), List.drop_eq_nil_of_le (by omega)]; rfl
     rw [this]
     exact Ev.now _
 | succ d ih =>
   intro j hj
   have e1 : wrap64 ((j : Int) + 1) = ((j + 1 : Nat) : Int) := by rw [zZ (by omega) (by omega)]; push_cast; rfl
   have h1 : j < l.length := by omega
   have h2 : j < m.length := by omega
   have r1 : rd l (j : Int) = l[j] := by unfold rd; rw [Int.toNat_natCast, List.getD_eq_getElem?_getD, List.getElem?_eq_getElem h1]; rfl
   have r2 : rd m (j : Int) = m[j] := by unfold rd; rw [Int.toNat_natCast, List.getD_eq_getElem?_getD, List.getElem?_eq_getElem h2]; rfl
   have ed : decide (l.drop j = m.drop j) = (decide (l[j] = m[j]) && decide (l.drop (j + 1) = m.drop (j + 1))) := by
    rw [List.drop_eq_getElem_cons h1, List.drop_eq_getElem_cons h2, ← Bool.decide_and]
    congr 1
    rw [List.cons.injEq]
   rw [ed]
   by_cases hx : l[j] = m[j]
   · rw [decide_eq_true hx, Bool.true_and]
     refine Ev.step (fun k => ?_) (ih (j + 1) (by omega))
     show (if (j : Int) < (l.length : Int) then (if 0 ≤ (j : Int) then (if (j : Int) < (m.length : Int) then (if (rd l j) = (rd m j) then (bU.l0 k (wrap64 ((j : Int) + 1)) r c l r' c' m) else (some false)) else (none)) else (none)) else (some true)) = _
     rw [if_pos (by omega), if_pos (by omega), if_pos (by omega), r1, r2, if_pos hx, e1]
   · rw [decide_eq_false hx, Bool.false_and]
     refine Ev.step (f := fun _ => some false) (fun k => ?_) (Ev.now _)
     show (if (j : Int) < (l.length : Int) then (if 0 ≤ (j : Int) then (if (j : Int) < (m.length : Int) then (if (rd l j) = (rd m j) then (bU.l0 k (wrap64 ((j : Int) + 1)) r c l r' c' m) else (some false)) else (none)) else (none)) else (some true)) = _
     rw [if_pos (by omega), if_pos (by omega), if_pos (by omega), r1, r2, if_neg hx]
theorem En (r c r' c' : Int) (l m : List Int) (hl : l.length ≤ 1000000) : Ev (fun k => bU.f k r c l r' c' m) (decide (r = r' ∧ c = c' ∧ l = m)) := by
 have T : ∀ v : Bool, Ev (fun k => bU.j0 k true r c l r' c' m) false := fun _ => by
  exact Ev.step (f := fun _ => some false) (fun k => rfl) (Ev.now _)
 unfold bU.f
 by_cases h1 : r = r'
 · by_cases h2 : c = c'
   · simp only [if_pos h1, if_pos h2]
     by_cases h3 : l.length = m.length
     · have e : ((l.length : Int) != (m.length : Int)) = false := by simp [h3]
       rw [e]
       have := QM r c r' c' l m h3 hl l.length 0 (by omega)
       simp only [List.drop_zero] at this
       have ed : decide (r = r' ∧ c = c' ∧ l = m) = decide (l = m) := by simp [h1, h2]
       rw [ed]
       exact Ev.step (fun k => rfl) this
     · have e : ((l.length : Int) != (m.length : Int)) = true := by simp; omega
       rw [e]
       have ed : decide (r = r' ∧ c = c' ∧ l = m) = false := by
        refine decide_eq_false (fun h => h3 (by rw [h.2.2]))
       rw [ed]
       exact T true
   · simp only [if_pos h1, if_neg h2]
     have ed : decide (r = r' ∧ c = c' ∧ l = m) = false := decide_eq_false (fun h => h2 h.2.1)
     rw [ed]
     exact T true
 · simp only [if_neg h1]
   have ed : decide (r = r' ∧ c = c' ∧ l = m) = false := decide_eq_false (fun h => h1 h.1)
   rw [ed]
   exact T true
end Go.Proofs.Ytninmcmajbfccaa.PR

namespace Go.Proofs.Ytninmcmajbfccaa.PR
open Go.RowKit Go.Proofs.Ytninmcmajbfccaa.PQ Go.Proofs.aH.bK Go.Proofs.aH.dG Go.Proofs.aH.dJ Go.Proofs.Ytninmcmajbfccaa.KK
set_option linter.unusedVariables false
set_option linter.unusedSimpArgs false
def ac (n m : Nat) : Nat := (m % n) * n + m / n
def eQ (n : Nat) (l : List Int) (m : Nat) : Int := hv (l.getD m 0 + l.getD (ac n m) 0)
def gQ (n : Nat) (l : List Int) (m : Nat) : Int := if m / n = m % n ∧ eQ n l m < 0 then 0 else eQ n l m
def pg (n : Nat) (l : List Int) : List Int := fl (n * n) (gQ n l)
def Jg (l : List Int) : Prop := ∀ j, -70368744177664 ≤ l.getD j 0 ∧ l.getD j 0 ≤ 70368744177663
theorem Vd {n : Nat} (h : n ≤ 8) : n * n ≤ 64 := Nat.mul_le_mul h h
theorem rC {n i j : Nat} (h8 : n ≤ 8) (hi : i < n) (hj : j < n) : wrap64 (wrap64 ((i : Int) * (n : Int)) + (j : Int)) = ((i * n + j : Nat) : Int) := by
 have h1 := kH (c := n) hi hj
 have h2 := Vd h8
 have e : (i : Int) * (n : Int) = ((i * n : Nat) : Int) := by push_cast; rfl
 rw [e, zZ (n := ((i * n : Nat) : Int)) (by omega) (by omega), zZ (by omega) (by omega)]
 push_cast; rfl
theorem wu {i : Nat} (h : i ≤ 1000000) : wrap64 ((i : Int) + 1) = ((i + 1 : Nat) : Int) := by rw [zZ (by omega) (by omega)]; push_cast; rfl
theorem l7 {l : List Int} {j : Nat} : rd l (j : Int) = l.getD j 0 := by unfold rd; rw [Int.toNat_natCast]
theorem TT (n : Nat) (l : List Int) (h8 : n ≤ 8) (hl : l.length = n * n) (hr : Jg l) (V : Int × Int × List Int × Bool × Int) (i : Nat) (hi : i < n)
 (next : Ev (fun k => bJ.l0 k ((i + 1 : Nat) : Int) n n l n n (fl (n * n) (fun m => if m < (i + 1) * n then eQ n l m else 0))) V) :
 ∀ (d j : Nat), j + d = n → Ev (fun k => bJ.l1 k i j n n l n n (fl (n * n) (fun m => if m < i * n + j then eQ n l m else 0))) V := by
 intro d
 induction d with
 | zero =>
   intro j hj
   obtain rfl : j = n := by omega
   refine Ev.step (fun k => ?_) next
   unfold bJ.l1
   rw [if_neg (by omega), wu (by omega), Nat.succ_mul]
 | succ d ih =>
   intro j hj
   have hjn : j < n := by omega
   have h1 := kH (c := n) hi hjn
   have h2 := kH (c := n) hjn hi
   have h3 := hr (i * n + j)
   have h4 := hr (j * n + i)
   refine Ev.step (f := fun k => (bP.f k (l.getD (i * n + j) 0 + l.getD (j * n + i) 0) 1).bind fun t => bJ.l1 k i ((j + 1 : Nat) : Int) n n l n n ((fl (n * n) (fun m => if m < i * n + j then eQ n l m else 0)).set (i * n + j) t)) (fun k => ?_) ?_
   · conv => lhs; unfold bJ.l1
     rw [if_pos (by omega), rC h8 hi hjn, rC h8 hjn hi, if_pos (by omega), if_pos (by omega), if_pos (by omega), if_pos (by omega), l7, l7, zZ (by omega) (by omega), wu (by omega), jA]
     congr 1
     funext t
     rw [if_pos (by omega), Int.toNat_natCast]
   · refine Ev.bind (SV _ (by omega) (by omega)) ?_
     have e : (fl (n * n) (fun m => if m < i * n + j then eQ n l m else 0)).set (i * n + j) (hv (l.getD (i * n + j) 0 + l.getD (j * n + i) 0)) = fl (n * n) (fun m => if m < i * n + (j + 1) then eQ n l m else 0) := by
      rw [JF h1]
      refine lF (fun m hm => ?_)
      by_cases e : m = i * n + j
      · subst e
        rw [if_pos rfl, if_pos (by omega), eQ, ac, dv hjn, md hjn]
      · rw [if_neg e]
        by_cases e2 : m < i * n + j
        · rw [if_pos e2, if_pos (by omega)]
        · rw [if_neg e2, if_neg (by omega)]
     rw [e]
     exact ih (j + 1) (by omega)
theorem Rq (n : Nat) (l : List Int) (h8 : n ≤ 8) (hl : l.length = n * n) (hr : Jg l) : ∀ (d i : Nat), i + d = n → Ev (fun k => bJ.l0 k i n n l n n (fl (n * n) (fun m => if m < i * n then eQ n l m else 0))) ((n : Int), (n : Int), fl (n * n) (eQ n l), false, (0 : Int)) := by
 intro d
 induction d with
 | zero =>
   intro i hi
   obtain rfl : i = n := by omega
   refine Ev.step (f := fun _ => some ((i : Int), (i : Int), fl (i * i) (eQ i l), false, (0 : Int))) (fun k => ?_) (Ev.now _)
   conv => lhs; unfold bJ.l0
   rw [if_neg (by omega)]
   congr 3
   rw [lF (Q := fun m => if m < i * i then eQ i l m else 0) (Q' := eQ i l) (fun m hm => by rw [if_pos hm])]
 | succ d ih =>
   intro i hi
   have h := TT n l h8 hl hr _ i (by omega) (ih (i + 1) (by omega)) n 0 (by omega)
   refine Ev.step (fun k => ?_) h
   conv => lhs; unfold bJ.l0
   rw [if_pos (by omega)]
   rfl
theorem SY (n : Nat) (l : List Int) (h8 : n ≤ 8) (hl : l.length = n * n) (hr : Jg l) : Ev (fun k => bJ.f k n n l) ((n : Int), (n : Int), fl (n * n) (eQ n l), false, (0 : Int)) := by
 unfold bJ.f
 simp only [if_true]
 have h2 := Vd h8
 refine Ev.bind (OU n n (n * n) (by omega) (by rw [zZ (by rw [← Int.natCast_mul]; omega) (by rw [← Int.natCast_mul]; omega)]; push_cast; rfl)) ?_
 have h := Rq n l h8 hl hr n 0 (by omega)
 refine Ev.congr (fun k => ?_) h
 show bJ.l0 k 0 n n l n n (fl (n * n) (fun _ => 0)) = _
 rw [lF (Q := fun _ => 0) (Q' := fun m => if m < 0 * n then eQ n l m else 0) (fun m hm => by rw [if_neg (by omega)])]
 rfl
end Go.Proofs.Ytninmcmajbfccaa.PR

namespace Go.Proofs.Ytninmcmajbfccaa.PR
open Go.RowKit Go.Proofs.Ytninmcmajbfccaa.PQ Go.Proofs.aH.bK Go.Proofs.aH.dG Go.Proofs.aH.dJ Go.Proofs.Ytninmcmajbfccaa.KK
set_option linter.unusedVariables false
set_option linter.unusedSimpArgs false
def MC (n : Nat) (l : List Int) (i m : Nat) : Int := if m / n = m % n ∧ m / n < i ∧ eQ n l m < 0 then 0 else eQ n l m
theorem F_ {n : Nat} {l : List Int} {i m : Nat} (hi : i < n) : MC n l (i + 1) m = if m = i * n + i then (if eQ n l m < 0 then 0 else eQ n l m) else MC n l i m := by
 by_cases e : m = i * n + i
 · subst e
   rw [if_pos rfl, MC, dv hi, md hi]
   by_cases h : eQ n l (i * n + i) < 0
   · rw [if_pos ⟨rfl, by omega, h⟩, if_pos h]
   · rw [if_neg (fun x => h x.2.2), if_neg h]
 · rw [if_neg e, MC, MC]
   have hd := Nat.div_add_mod m n
   by_cases h : m / n = m % n ∧ m / n < i ∧ eQ n l m < 0
   · rw [if_pos h, if_pos ⟨h.1, by omega, h.2.2⟩]
   · rw [if_neg h, if_neg]
     rintro ⟨a, b, c⟩
     refine h ⟨a, ?_, c⟩
     rcases Nat.lt_or_ge (m / n) i with h1 | h1
     · exact h1
     · have h2 : m / n = i := by omega
       rw [h2] at a hd
       rw [← a, Nat.mul_comm] at hd
       exact absurd hd.symm e
theorem G6 (n : Nat) (l : List Int) (h8 : n ≤ 8) : ∀ (d i : Nat), i + d = n → Ev (fun k => dU.l0 k i n n (fl (n * n) (MC n l i))) ((n : Int), (n : Int), pg n l) := by
 intro d
 induction d with
 | zero =>
   intro i hi
   obtain rfl : i = n := by omega
   refine Ev.step (f := fun _ => some ((i : Int), (i : Int), pg i l)) (fun k => ?_) (Ev.now _)
   conv => lhs; unfold dU.l0
   rw [if_neg (by omega)]
   unfold pg
   congr 3
   refine lF (fun m hm => ?_)
   have h1 : m / i < i := Nat.div_lt_of_lt_mul hm
   unfold MC gQ
   simp only [h1, true_and]
 | succ d ih =>
   intro i hi
   have hin : i < n := by omega
   have h1 := kH (c := n) hin hin
   have h2 := Vd h8
   have E0 : MC n l i (i * n + i) = eQ n l (i * n + i) := by
    unfold MC
    rw [if_neg (fun x => by have := x.2.1; rw [dv hin] at this; omega)]
   by_cases hx : eQ n l (i * n + i) < 0
   · refine Ev.step (fun k => ?_) (ih (i + 1) (by omega))
     conv => lhs; unfold dU.l0
     rw [if_pos (by omega), rC h8 hin hin, jA, if_pos (by omega), if_pos (by omega), l7, pY h1, E0, if_pos hx, wu (by omega), Int.toNat_natCast, JF h1]
     congr 1
     refine lF (fun m hm => ?_)
     rw [F_ hin]
     by_cases e : m = i * n + i
     · rw [if_pos e, if_pos e, e, if_pos hx]
     · rw [if_neg e, if_neg e]
   · refine Ev.step (fun k => ?_) (ih (i + 1) (by omega))
     conv => lhs; unfold dU.l0
     rw [if_pos (by omega), rC h8 hin hin, jA, if_pos (by omega), if_pos (by omega), l7, pY h1, E0, if_neg hx, wu (by omega)]
     congr 1
     refine lF (fun m hm => ?_)
     rw [F_ hin]
     by_cases e : m = i * n + i
     · rw [if_pos e, e, if_neg hx, E0]
     · rw [if_neg e]
theorem SX (n : Nat) (l : List Int) (h8 : n ≤ 8) (hl : l.length = n * n) (hr : Jg l) : Ev (fun k => dU.f k n n l) ((n : Int), (n : Int), pg n l) := by
 unfold dU.f
 refine Ev.bind (SY n l h8 hl hr) ?_
 refine Ev.congr (fun k => ?_) (G6 n l h8 n 0 (by omega))
 show dU.l0 k 0 n n (fl (n * n) (eQ n l)) = _
 rw [lF (Q := eQ n l) (Q' := MC n l 0) (fun m hm => by unfold MC; rw [if_neg (fun x => by have := x.2.1; omega)])]
 rfl
theorem ab3 {n m : Nat} (h : m < n * n) : ac n m < n * n := by
 have h0 : 0 < n := by rcases Nat.eq_zero_or_pos n with e | e; (subst e; omega); exact e
 exact kH (c := n) (Nat.mod_lt m h0) (Nat.div_lt_of_lt_mul h)
theorem TM {a b : Int} (h0 : -1000000000000000 ≤ a + b) (h1 : a + b ≤ 1000000000000000) : o_ a b = (hv (a + b), false) := by
 unfold o_
 rw [zZ (by omega) (by omega), Td _ h0 h1]
 rfl
theorem SG (n : Nat) (l : List Int) : AY n n l = fl (n * n) (fun m => l.getD (ac n m) 0) := I5 n
theorem TU (n : Nat) (l : List Int) (hl : l.length = n * n) (hr : Jg l) : DL n l = fl (n * n) (eQ n l) := by
 unfold DL mV
 rw [I5]
 refine lF (fun m hm => ?_)
 have e : m / n * n + m % n = m := by rw [Nat.mul_comm]; exact Nat.div_add_mod m n
 have h3 := hr m
 have h4 := hr (ac n m)
 rw [e, SG, pY hm, TM (by omega) (by omega)]
 rfl
theorem Rj (n : Nat) (l : List Int) : ∀ i, i ≤ n → wB n (fl (n * n) (eQ n l)) i = fl (n * n) (MC n l i) := by
 intro i
 induction i with
 | zero =>
   intro _
   unfold wB
   exact lF (fun m hm => by unfold MC; rw [if_neg (fun x => by have := x.2.1; omega)])
 | succ i ih =>
   intro hi
   have hin : i < n := hi
   have h1 := kH (c := n) hin hin
   have E0 : MC n l i (i * n + i) = eQ n l (i * n + i) := by
    unfold MC
    rw [if_neg (fun x => by have := x.2.1; rw [dv hin] at this; omega)]
   unfold wB
   rw [ih (by omega), l7, pY h1, E0, JF h1]
   refine lF (fun m hm => ?_)
   rw [F_ hin]
   by_cases e : m = i * n + i
   · rw [if_pos e, if_pos e, e]
     unfold mx
     repeat' split
     all_goals omega
   · rw [if_neg e, if_neg e]
theorem TQ (n : Nat) (l : List Int) (hl : l.length = n * n) (hr : Jg l) : DK n l = pg n l := by
 unfold DK pg
 rw [TU n l hl hr, Rj n l n (Nat.le_refl _)]
 refine lF (fun m hm => ?_)
 have h1 : m / n < n := Nat.div_lt_of_lt_mul hm
 unfold MC gQ
 simp only [h1, true_and]
theorem Qs {n m : Nat} (h : m < n * n) (e : m / n = m % n) : ac n m = m := by
 unfold ac
 rw [← e]
 have := Nat.div_add_mod m n
 rw [← e, Nat.mul_comm] at this
 exact this
theorem ab4 {n m : Nat} (h : m < n * n) : (ac n m / n = ac n m % n) ↔ m / n = m % n := by
 have h1 : m / n < n := Nat.div_lt_of_lt_mul h
 unfold ac
 rw [dv h1, md h1]
 exact eq_comm
theorem Zb {N : Nat} {Q : Nat → Int} (h : ∀ m, m < N → -70368744177664 ≤ Q m ∧ Q m ≤ 70368744177663) : Jg (fl N Q) := fun j => by
 by_cases hj : j < N
 · rw [pY hj]; exact h j hj
 · rw [List.getD_eq_getElem?_getD, List.getElem?_eq_none (by rw [jA]; omega)]
   simp
def H7 (n : Nat) (l : List Int) : Prop := ∀ m, m < n * n → l.getD m 0 = l.getD (ac n m) 0 ∧ (m / n = m % n → 0 ≤ l.getD m 0)
end Go.Proofs.Ytninmcmajbfccaa.PR

namespace Go.Proofs.Ytninmcmajbfccaa.PR
open Go.RowKit Go.Proofs.Ytninmcmajbfccaa.PQ Go.Proofs.aH.bK Go.Proofs.aH.dG Go.Proofs.aH.dJ Go.Proofs.Ytninmcmajbfccaa.KK
set_option linter.unusedVariables false
set_option linter.unusedSimpArgs false
instance aam (n : Nat) (l : List Int) : Decidable (H7 n l) := by unfold H7; infer_instance
def rowP (n : Nat) (l : List Int) (a : Nat) : Prop := 0 ≤ l.getD (a * n + a) 0 ∧ ∀ b, b < a → l.getD (a * n + b) 0 = l.getD (b * n + a) 0
instance aaH (n : Nat) (l : List Int) (a : Nat) : Decidable (rowP n l a) := by unfold rowP; infer_instance
theorem CV (n : Nat) (l : List Int) : H7 n l ↔ ∀ a, a < n → rowP n l a := by
 constructor
 · intro h a ha
   refine ⟨(h _ (kH (c := n) ha ha)).2 (by rw [dv ha, md ha]), fun b hb => ?_⟩
   have := (h _ (kH (c := n) ha (by omega : b < n))).1
   unfold ac at this
   rw [dv (by omega), md (by omega)] at this
   exact this
 · intro h m hm
   have h0 : 0 < n := by rcases Nat.eq_zero_or_pos n with e | e; (subst e; omega); exact e
   have ha : m / n < n := Nat.div_lt_of_lt_mul hm
   have hb : m % n < n := Nat.mod_lt m h0
   have e : m / n * n + m % n = m := by rw [Nat.mul_comm]; exact Nat.div_add_mod m n
   refine ⟨?_, fun d => ?_⟩
   · rcases Nat.lt_trichotomy (m / n) (m % n) with c | c | c
     · have := (h _ hb).2 _ c
       rw [e] at this
       exact this.symm
     · rw [Qs hm c]
     · have := (h _ ha).2 _ c
       rw [e] at this
       exact this
   · have := (h _ ha).1
     rwa [show m / n * n + m / n = m by rw [← d] at e; exact e] at this
def xK (n : Nat) (l : List Int) (i : Nat) : Prop := ∀ a, a < n → i ≤ a → rowP n l a
instance aal (n : Nat) (l : List Int) (a : Nat) : Decidable (xK n l a) := by unfold xK; infer_instance
theorem Rl (n : Nat) (l : List Int) : xK n l n := fun a h h' => by omega
theorem zD {n : Nat} {l : List Int} {i : Nat} (hi : i < n) : xK n l i ↔ rowP n l i ∧ xK n l (i + 1) := by
 constructor
 · exact fun h => ⟨h i hi (Nat.le_refl _), fun a h1 h2 => h a h1 (by omega)⟩
 · rintro ⟨h1, h2⟩ a ha hia
   rcases Nat.eq_or_lt_of_le hia with e | e
   · exact e ▸ h1
   · exact h2 a ha e
theorem lG {g : Nat → Option Bool} {P : Prop} [Decidable P] (h : ¬ P) (k : Ev g false) : Ev g (decide P) := by rw [decide_eq_false h]; exact k
theorem CW {g : Nat → Option Bool} {P P' : Prop} [Decidable P] [Decidable P'] (h : P ↔ P') (k : Ev g (decide P)) : Ev g (decide P') := by
 have : decide P = decide P' := by simp [h]
 rw [← this]; exact k
theorem G5 (n : Nat) (r c : Int) (x : List Int) (r' c' : Int) (l : List Int) (h8 : n ≤ 8) (hl : l.length = n * n) (i : Nat) (hi : i < n)
 (next : Ev (fun k => aZ.l0 k n ((i + 1 : Nat) : Int) r c x r' c' l) (decide (xK n l (i + 1)))) :
 ∀ (d j : Nat), j + d = i → Ev (fun k => aZ.l1 k n i j r c x r' c' l) (decide ((∀ b, b < i → j ≤ b → l.getD (i * n + b) 0 = l.getD (b * n + i) 0) ∧ xK n l (i + 1))) := by
 intro d
 induction d with
 | zero =>
   intro j hj
   obtain rfl : j = i := by omega
   refine CW (P := xK n l (j + 1)) ⟨fun h => ⟨fun b h1 h2 => by omega, h⟩, fun h => h.2⟩ ?_
   refine Ev.step (fun k => ?_) next
   conv => lhs; unfold aZ.l1
   rw [if_neg (by omega), wu (by omega)]
 | succ d ih =>
   intro j hj
   have hji : j < i := by omega
   have h1 := kH (c := n) hi (by omega : j < n)
   have h2 := kH (c := n) (by omega : j < n) hi
   by_cases hx : l.getD (i * n + j) 0 = l.getD (j * n + i) 0
   · refine CW (P := (∀ b, b < i → j + 1 ≤ b → l.getD (i * n + b) 0 = l.getD (b * n + i) 0) ∧ xK n l (i + 1)) ⟨fun h => ⟨fun b h1 h2 => ?_, h.2⟩, fun h => ⟨fun b h1 h2 => h.1 b h1 (by omega), h.2⟩⟩ ?_
     · rcases Nat.eq_or_lt_of_le h2 with e | e
       · exact e ▸ hx
       · exact h.1 b h1 e
     refine Ev.step (fun k => ?_) (ih (j + 1) (by omega))
     conv => lhs; unfold aZ.l1
     rw [if_pos (by omega), rC h8 hi (by omega), rC h8 (by omega) hi, if_pos (by omega), if_pos (by omega), if_pos (by omega), if_pos (by omega), l7, l7, if_pos hx, wu (by omega)]
   · refine lG (fun h => hx (h.1 j hji (Nat.le_refl _))) ?_
     refine Ev.step (f := fun _ => some false) (fun k => ?_) (Ev.now _)
     conv => lhs; unfold aZ.l1
     rw [if_pos (by omega), rC h8 hi (by omega), rC h8 (by omega) hi, if_pos (by omega), if_pos (by omega), if_pos (by omega), if_pos (by omega), l7, l7, if_neg hx]
theorem E5 (n : Nat) (r c : Int) (x : List Int) (r' c' : Int) (l : List Int) (h8 : n ≤ 8) (hl : l.length = n * n) :
 ∀ (d i : Nat), i + d = n → Ev (fun k => aZ.l0 k n i r c x r' c' l) (decide (xK n l i)) := by
 intro d
 induction d with
 | zero =>
   intro i hi
   obtain rfl : i = n := by omega
   rw [decide_eq_true (Rl i l)]
   refine Ev.step (f := fun _ => some true) (fun k => ?_) (Ev.now _)
   conv => lhs; unfold aZ.l0
   rw [if_neg (by omega)]
 | succ d ih =>
   intro i hi
   have hin : i < n := by omega
   have h1 := kH (c := n) hin hin
   by_cases hx : l.getD (i * n + i) 0 < 0
   · refine lG (fun h => by have := ((zD hin).1 h).1.1; omega) ?_
     refine Ev.step (f := fun _ => some false) (fun k => ?_) (Ev.now _)
     conv => lhs; unfold aZ.l0
     rw [if_pos (by omega), rC h8 hin hin, if_pos (by omega), if_pos (by omega), l7, if_pos hx]
   · have h := G5 n r c x r' c' l h8 hl i hin (ih (i + 1) (by omega)) i 0 (by omega)
     refine CW (P := (∀ b, b < i → 0 ≤ b → l.getD (i * n + b) 0 = l.getD (b * n + i) 0) ∧ xK n l (i + 1)) ⟨fun h => (zD hin).2 ⟨⟨by omega, fun b hb => h.1 b hb (by omega)⟩, h.2⟩, fun h => ⟨fun b hb _ => ((zD hin).1 h).1.2 b hb, ((zD hin).1 h).2⟩⟩ ?_
     refine Ev.step (fun k => ?_) h
     conv => lhs; unfold aZ.l0
     rw [if_pos (by omega), rC h8 hin hin, if_pos (by omega), if_pos (by omega), l7, if_neg hx]
     rfl
def sH (r c : Int) (x : List Int) (r' c' : Int) (l : List Int) : Prop := jO r c x = true ∧ jO r' c' l = true ∧ c = 1 ∧ r' = r ∧ c' = r ∧ H7 r.toNat l
instance YT (r c : Int) (x : List Int) (r' c' : Int) (l : List Int) : Decidable (sH r c x r' c' l) := by unfold sH; infer_instance
theorem mW {r c : Int} {l : List Int} (h : jO r c l = true) : 1 ≤ r ∧ r ≤ 8 ∧ 1 ≤ c ∧ c ≤ 8 ∧ l.length = r.toNat * c.toNat ∧ l.any jV = false := by
 unfold jO at h
 simp only [Bool.and_eq_true, decide_eq_true_eq, Bool.not_eq_true', beq_iff_eq] at h
 obtain ⟨⟨⟨⟨⟨h1, h2⟩, h3⟩, h4⟩, h5⟩, h6⟩ := h
 have b0 : 0 ≤ r * c := Int.mul_nonneg (by omega) (by omega)
 have b1 : r * c ≤ 8 * c := Int.mul_le_mul_of_nonneg_right (by omega) (by omega)
 rw [zZ (by omega) (by omega)] at h5
 exact ⟨by omega, by omega, by omega, by omega, Tu (by omega) (by omega) h5, h6⟩
theorem A_ (r c : Int) (l : List Int) : Ev (fun k => aX.f k r c l) (jO r c l) := by
 obtain ⟨k, hk⟩ := Dw r c l
 exact Ev.of (aX.mono r c l) hk
theorem Ja (r c : Int) (x : List Int) (r' c' : Int) (l : List Int) : Ev (fun k => aZ.f k r c x r' c' l) (decide (sH r c x r' c' l)) := by
 have T : Ev (fun k => aZ.j0 k r true r c x r' c' l) false := Ev.step (f := fun _ => some false) (fun k => rfl) (Ev.now _)
 unfold aZ.f
 refine Ev.bind (A_ r c x) ?_
 refine Ev.bind (A_ r' c' l) ?_
 by_cases h1 : jO r c x = true
 · by_cases h2 : jO r' c' l = true
   · by_cases h3 : c = 1
     · by_cases h4 : r' = r
       · simp only [if_pos h1, if_pos h2, if_pos h3, if_pos h4]
         by_cases h5 : c' = r
         · have e : (c' != r) = false := by simp [h5]
           rw [e]
           obtain ⟨a1, a2, a3, a4, a5, a6⟩ := mW h2
           obtain ⟨n, rfl⟩ : ∃ n : Nat, r = n := ⟨r.toNat, by omega⟩
           subst h4 h5
           rw [Int.toNat_natCast] at a5
           refine CW (P := xK n l 0) ⟨fun h => ⟨h1, h2, h3, rfl, rfl, (CV _ _).2 (fun a ha => h a ha (by omega))⟩, fun h a ha _ => (CV _ _).1 h.2.2.2.2.2 a ha⟩ ?_
           exact Ev.step (fun k => rfl) (E5 n n c x n n l (by omega) a5 n 0 (by omega))
         · have e : (c' != r) = true := by simpa using h5
           rw [e]
           exact lG (fun h => h5 h.2.2.2.2.1) T
       · simp only [if_pos h1, if_pos h2, if_pos h3, if_neg h4]
         exact lG (fun h => h4 h.2.2.2.1) T
     · simp only [if_pos h1, if_pos h2, if_neg h3]
       exact lG (fun h => h3 h.2.2.1) T
   · simp only [if_pos h1, if_neg h2]
     exact lG (fun h => h2 h.2.1) T
 · simp only [if_neg h1]
   exact lG (fun h => h1 h.1) T
end Go.Proofs.Ytninmcmajbfccaa.PR

namespace Go.Proofs.Ytninmcmajbfccaa.PR
open Go.RowKit Go.Proofs.Ytninmcmajbfccaa.PQ Go.Proofs.aH.bK Go.Proofs.aH.dG Go.Proofs.aH.dJ Go.Proofs.Ytninmcmajbfccaa.KK
set_option linter.unusedVariables false
set_option linter.unusedSimpArgs false
theorem Oe (l m : List Int) (hlen : l.length = m.length) (hl : l.length ≤ 1000000) : ∀ (d j : Nat), j + d = l.length → Ev (fun k => jo.l0 k l m l.length j) (decide (l.drop j = m.drop j)) := by
 intro d
 induction d with
 | zero =>
   intro j hj
   refine Ev.step (f := fun _ => some true) (fun k => ?_) ?_
   · unfold jo.l0
     rw [if_neg (by omega)]
   · have : decide (l.drop j = m.drop j) = true := by
      rw [List.drop_eq_nil_of_le (by omega), List.drop_eq_nil_of_le (by omega)]; rfl
     rw [this]
     exact Ev.now _
 | succ d ih =>
   intro j hj
   have h1 : j < l.length := by omega
   have h2 : j < m.length := by omega
   have r1 : rd l (j : Int) = l[j] := by unfold rd; rw [Int.toNat_natCast, List.getD_eq_getElem?_getD, List.getElem?_eq_getElem h1]; rfl
   have r2 : rd m (j : Int) = m[j] := by unfold rd; rw [Int.toNat_natCast, List.getD_eq_getElem?_getD, List.getElem?_eq_getElem h2]; rfl
   have ed : decide (l.drop j = m.drop j) = (decide (l[j] = m[j]) && decide (l.drop (j + 1) = m.drop (j + 1))) := by
    rw [List.drop_eq_getElem_cons h1, List.drop_eq_getElem_cons h2, ← Bool.decide_and]
    congr 1
    rw [List.cons.injEq]
   rw [ed]
   by_cases hx : l[j] = m[j]
   · rw [decide_eq_true hx, Bool.true_and]
     refine Ev.step (fun k => ?_) (ih (j + 1) (by omega))
     conv => lhs; unfold jo.l0
     rw [if_pos (by omega), if_pos (by omega), if_pos (by omega), if_pos (by omega), r1, r2, if_pos hx, wu (by omega)]
   · rw [decide_eq_false hx, Bool.false_and]
     refine Ev.step (f := fun _ => some false) (fun k => ?_) (Ev.now _)
     conv => lhs; unfold jo.l0
     rw [if_pos (by omega), if_pos (by omega), if_pos (by omega), if_pos (by omega), r1, r2, if_neg hx]
theorem rV (r c r' c' : Int) (l m : List Int) (hl : l.length ≤ 1000000) : Ev (fun k => gX.f k r c l r' c' m) (decide (r = r' ∧ c = c' ∧ l = m)) := by
 by_cases h1 : r = r' ∧ c = c'
 · have e : (r == r' && (c == c')) = true := by simp [h1.1, h1.2]
   refine Ev.congr (f := fun k => (jo.f k l m).bind fun t => some t) (fun k => ?_) ?_
   · show (if (r == r' && (c == c')) = true then _ else _) = _
     rw [if_pos e]
   · by_cases h3 : l.length = m.length
     · have ed : decide (r = r' ∧ c = c' ∧ l = m) = decide (l = m) := by simp [h1.1, h1.2]
       rw [ed]
       refine Ev.bind (a := decide (l = m)) ?_ (Ev.now _)
       have := Oe l m h3 hl l.length 0 (by omega)
       simp only [List.drop_zero] at this
       refine Ev.congr (fun k => ?_) this
       unfold jo.f
       rw [if_pos (by omega)]
       rfl
     · have ed : decide (r = r' ∧ c = c' ∧ l = m) = false := decide_eq_false (fun h => h3 (by rw [h.2.2]))
       rw [ed]
       refine Ev.bind (a := false) ?_ (Ev.now _)
       refine Ev.congr (f := fun _ => some false) (fun k => ?_) (Ev.now _)
       unfold jo.f
       rw [if_neg (by omega)]
 · have e : ¬ (r == r' && (c == c')) = true := by simpa using h1
   have ed : decide (r = r' ∧ c = c' ∧ l = m) = false := decide_eq_false (fun h => h1 ⟨h.1, h.2.1⟩)
   rw [ed]
   refine Ev.congr (f := fun _ => some false) (fun k => ?_) (Ev.now _)
   show (if (r == r' && (c == c')) = true then _ else _) = _
   rw [if_neg e]
def Gi (n : Nat) (l : List Int) (i : Nat) : Prop := ∀ a, a < n → i ≤ a → 0 ≤ l.getD (a * n + a) 0
instance aan (n : Nat) (l : List Int) (a : Nat) : Decidable (Gi n l a) := by unfold Gi; infer_instance
theorem Tf (n : Nat) (r c : Int) (x : List Int) (r' c' : Int) (l : List Int) (h8 : n ≤ 8) (hl : l.length = n * n) :
 ∀ (d i : Nat), i + d = n → Ev (fun k => bu.l0 k n n i r c x r' c' l) (decide (Gi n l i)) := by
 intro d
 induction d with
 | zero =>
   intro i hi
   obtain rfl : i = n := by omega
   have hv : Gi i l i := fun a h h' => by omega
   rw [decide_eq_true hv]
   refine Ev.step (f := fun _ => some true) (fun k => ?_) (Ev.now _)
   conv => lhs; unfold bu.l0
   rw [if_neg (by omega)]
 | succ d ih =>
   intro i hi
   have hin : i < n := by omega
   have h1 := kH (c := n) hin hin
   by_cases hx : l.getD (i * n + i) 0 < 0
   · refine lG (fun h => by have := h i hin (Nat.le_refl _); omega) ?_
     refine Ev.step (f := fun _ => some false) (fun k => ?_) (Ev.now _)
     conv => lhs; unfold bu.l0
     rw [if_pos (by omega), rC h8 hin hin, if_pos (by omega), if_pos (by omega), l7, if_pos hx]
   · refine CW (P := Gi n l (i + 1)) ⟨fun h a h1 h2 => ?_, fun h a h1 h2 => h a h1 (by omega)⟩ ?_
     · rcases Nat.eq_or_lt_of_le h2 with e | e
       · rw [← e]; omega
       · exact h a h1 e
     refine Ev.step (fun k => ?_) (ih (i + 1) (by omega))
     conv => lhs; unfold bu.l0
     rw [if_pos (by omega), rC h8 hin hin, if_pos (by omega), if_pos (by omega), l7, if_neg hx, wu (by omega)]
theorem AX (n : Nat) (l : List Int) (hl : l.length = n * n) : (l = AY n n l ∧ Gi n l 0) ↔ H7 n l := by
 rw [SG]
 constructor
 · rintro ⟨h, d⟩ m hm
   refine ⟨?_, fun e => ?_⟩
   · conv => lhs; rw [h]
     rw [pY hm]
   · have ha : m / n < n := Nat.div_lt_of_lt_mul hm
     have h2 := Nat.div_add_mod m n
     have := d (m / n) ha (by omega)
     rwa [show m / n * n + m / n = m by rw [Nat.mul_comm]; rw [← e] at h2; exact h2] at this
 · intro h
   refine ⟨JG hl (fun m hm => (h m hm).1), fun a ha _ => ((CV n l).1 h a ha).1⟩
theorem w_ (r c : Int) (x : List Int) (r' c' : Int) (l : List Int) : Ev (fun k => bu.f k r c x r' c' l) (decide (sH r c x r' c' l)) := by
 have T : Ev (fun k => bu.j0 k r true r c x r' c' l) false := Ev.step (f := fun _ => some false) (fun k => rfl) (Ev.now _)
 unfold bu.f
 refine Ev.bind (a := jO r c x) ⟨0, fun _ _ => rfl⟩ ?_
 by_cases h1 : jO r c x = true
 · simp only [if_pos h1]
   refine Ev.bind (a := jO r' c' l) ⟨0, fun _ _ => rfl⟩ ?_
   by_cases h2 : jO r' c' l = true
   · by_cases h3 : c = 1
     · by_cases h4 : r' = r
       · by_cases h5 : c' = r
         · simp only [if_pos h2, if_pos h3, if_pos h4, if_pos h5]
           obtain ⟨a1, a2, a3, a4, a5, a6⟩ := mW h2
           obtain ⟨n, rfl⟩ : ∃ n : Nat, r = n := ⟨r.toNat, by omega⟩
           subst h4 h5
           rw [Int.toNat_natCast] at a5
           have ht : jy.f n n l = some ((n : Int), (n : Int), AY n n l) := by
            unfold jy.f
            rw [if_pos ⟨by omega, by omega, by omega, by omega, by rw [a5]; push_cast; rfl⟩, Int.toNat_natCast]
           refine Ev.bind (a := ((n : Int), (n : Int), AY n n l)) ⟨0, fun _ _ => ht⟩ ?_
           have h8 : n ≤ 8 := by omega
           have hs := Vd h8
           refine Ev.bind (rV n n n n l (AY n n l) (by omega)) ?_
           by_cases h6 : l = AY n n l
           · rw [decide_eq_true ⟨rfl, rfl, h6⟩]
             refine CW (P := Gi n l 0) ⟨fun h => ⟨h1, h2, h3, rfl, rfl, (AX n l a5).1 ⟨h6, h⟩⟩, fun h => ((AX n l a5).2 h.2.2.2.2.2).2⟩ ?_
             exact Ev.step (fun k => rfl) (Tf n n c x n n l h8 a5 n 0 (by omega))
           · rw [decide_eq_false (fun h => h6 h.2.2)]
             exact lG (fun h => h6 ((AX n l a5).2 h.2.2.2.2.2).1) T
         · simp only [if_pos h2, if_pos h3, if_pos h4, if_neg h5]
           exact lG (fun h => h5 h.2.2.2.2.1) T
       · simp only [if_pos h2, if_pos h3, if_neg h4]
         exact lG (fun h => h4 h.2.2.2.1) T
     · simp only [if_pos h2, if_neg h3]
       exact lG (fun h => h3 h.2.2.1) T
   · simp only [if_neg h2]
     exact lG (fun h => h2 h.2.1) T
 · simp only [if_neg h1]
   exact lG (fun h => h1 h.1) T
end Go.Proofs.Ytninmcmajbfccaa.PR

namespace Go.Proofs.Ytninmcmajbfccaa.PR
open Go.RowKit Go.Proofs.Ytninmcmajbfccaa.PQ Go.Proofs.aH.bK Go.Proofs.aH.dG Go.Proofs.aH.dJ Go.Proofs.Ytninmcmajbfccaa.KK
set_option linter.unusedVariables false
set_option linter.unusedSimpArgs false
theorem Below.oO {B C : Nat} {w0 w : World} (h : Below B w0 w) (hC : B ≤ C) (a b c d e f : Value) : Below B w0 (oO w C a b c d e f) :=
 (((((h.setCell (p := ⟨C, 0, none⟩) hC a).setCell (p := ⟨C, 1, none⟩) hC b).setCell (p := ⟨C, 2, none⟩) hC c).setCell (p := ⟨C, 3, none⟩) hC d).setCell (p := ⟨C, 4, none⟩) hC e).setCell (p := ⟨C, 5, none⟩) hC f
theorem bal {w0 w : World} (h : Below w0.heap.size w0 w) (o : Obj) : Below w0.heap.size w0 (w.alloc o) := h.alloc h.size o
theorem JS {w0 w : World} (h : Below w0.heap.size w0 w) : Below w0.heap.size w0 w.drew := h.drew
theorem EM {w0 w w' : World} (h : Below w0.heap.size w0 w) (hb : Below w.heap.size w w') : Below w0.heap.size w0 w' := h.trans (hb.mono h.size)
theorem Row.gr {w w' : World} {B g : Nat} {t : TypeId} {cs : Array Value} (h : Row w B t cs) (hg : w.grownBy w' (some g)) (hne : B ≠ g) : Row w' B t cs := h.grown hg (fun e => hne (by injection e))
end Go.Proofs.Ytninmcmajbfccaa.PR

namespace Go.Proofs.Ytninmcmajbfccaa.PR
open Go.RowKit Go.Proofs.Ytninmcmajbfccaa.PQ Go.Proofs.aH.bK Go.Proofs.aH.dG Go.Proofs.aH.dJ Go.Proofs.Ytninmcmajbfccaa.KK
set_option linter.unusedVariables false
set_option linter.unusedSimpArgs false
theorem Jc (n : Nat) (A : Option Addr) (cp : Nat) (x : List Int) (A' : Option Addr) (cp' : Nat) (l : List Int) (w : World) (hA : Rd w A x) (kA : x.length ≤ cp) (hA' : Rd w A' l) (kA' : l.length ≤ cp') (ht : sH n 1 x n n l) :
 Calls Try.prog 18 #[.agg #[I n, I 1, .slice A x.length cp, I n, I n, .slice A' l.length cp']] w fun e w' => e = .returned (.bool true) ∧ Below w.heap.size w w' := by
 obtain ⟨p1, p2, _, _, _, p6⟩ := ht
 obtain ⟨a1, a2, _, _, a5, _⟩ := mW p1
 obtain ⟨_, _, _, _, b5, _⟩ := mW p2
 rw [Int.toNat_natCast] at a5 b5 p6
 have h8 : n ≤ 8 := by omega
 have h1 : 1 ≤ n := by omega
 have n64 := Vd h8
 obtain ⟨b, off, hAe, _, hcells⟩ := hA'.cells (by have := Nat.mul_le_mul h1 h1; omega)
 subst hAe
 have et : l = AY n n l := ((AX n l b5).2 p6).1
 have hd := ((AX n l b5).2 p6).2
 have N : Hid (fF w [(28, #[I n, I 1, .slice A x.length cp, I n, I n, .slice (some ⟨b, off, none⟩) l.length cp'])] (w.alloc (.cells #[I n, I 1, .slice A x.length cp, I n, I n, .slice (some ⟨b, off, none⟩) l.length cp'] 28))) := Lib.hid ((fF.none w).push (by simp) _ _)
 obtain ⟨wr, hwr⟩ : ∃ wr, w.alloc (.cells #[I n, I 1, .slice A x.length cp, I n, I n, .slice (some ⟨b, off, none⟩) l.length cp'] 28) = wr := ⟨_, rfl⟩
 have NR : Hid (fF w [(28, #[I n, I 1, .slice A x.length cp, I n, I n, .slice (some ⟨b, off, none⟩) l.length cp'])] wr) := Lib.hid (by rw [← hwr]; exact N.out)
 have T39 : Hid (∀ w', Below wr.heap.size wr w' → Calls Try.prog 39 #[.agg #[I n, I 1, .slice A x.length cp]] w' fun e w'' => e = .returned (.bool true) ∧ Below w'.heap.size w' w'') := Lib.hid (fun w' h => by
  have hh := rP n 1 A cp x w' (hA.below (EM NR.out.be h))
  rw [p1] at hh
  exact hh)
 have ab6 : Hid (∀ w', Below wr.heap.size wr w' → Calls Try.prog 39 #[.agg #[I n, I n, .slice (some ⟨b, off, none⟩) l.length cp']] w' fun e w'' => e = .returned (.bool true) ∧ Below w'.heap.size w' w'') := Lib.hid (fun w' h => by
  have hh := rP n n (some ⟨b, off, none⟩) cp' l w' (hA'.below (EM NR.out.be h))
  rw [p2] at hh
  exact hh)
 have T41 : Hid (∀ w', Below wr.heap.size wr w' → Calls Try.prog 41 #[.agg #[I n, I n, .slice (some ⟨b, off, none⟩) l.length cp']] w' fun e w'' => ∃ Q dq, e = .returned (.agg #[I n, I n, .slice Q l.length dq]) ∧ Own w'' w'.heap.size (.slice Q l.length dq) l ∧ Below w'.heap.size w' w'') := Lib.hid (fun w' h => by
  have hh := rO n n (some ⟨b, off, none⟩) cp' l w' h8 h8 b5 (hA'.below (EM NR.out.be h))
  refine hh.mono ?_
  rintro e w'' ⟨v, rfl, ho, hb⟩
  rw [← et] at ho
  obtain ⟨Q, dq, rfl, _, _⟩ := Own.reads ho
  exact ⟨Q, dq, rfl, ho, hb⟩)
 have T40 : Hid (∀ w' Q dq, Below wr.heap.size wr w' → Rd w' Q l → l.length ≤ dq → Calls Try.prog 40 #[.agg #[I n, I n, .slice (some ⟨b, off, none⟩) l.length cp'], .agg #[I n, I n, .slice Q l.length dq]] w' fun e w'' => e = .returned (.bool true) ∧ Below w'.heap.size w' w'') := Lib.hid (fun w' Q dq h hq dq' => by
  have e1 := rV n n n n l l (by omega)
  rw [decide_eq_true ⟨rfl, rfl, rfl⟩] at e1
  obtain ⟨k, hk⟩ := e1.rounds
  exact gX.calls k n n (some ⟨b, off, none⟩) cp' l n n Q dq l _ w' (hA'.below (EM NR.out.be h)) kA' hq dq' hk)
 have KK : Hid (∀ w', Below wr.heap.size wr w' → (∀ o, w'.cell? ⟨w.heap.size, o, none⟩ = #[I n, I 1, .slice A x.length cp, I n, I n, .slice (some ⟨b, off, none⟩) l.length cp'][o]?) ∧ True) := Lib.hid (fun w' h => ⟨(NR.out.r0.below h NR.out.r0.lt).cell, trivial⟩)
 have CL : Hid (∀ w' (k : Nat), Below wr.heap.size wr w' → k < n → w'.cell? ⟨b, off + (k * n + k), none⟩ = some (I (l.getD (k * n + k) 0)) ∧ 0 ≤ l.getD (k * n + k) 0) := Lib.hid (fun w' k h hk => by
  have hlt := kH hk hk
  have hb := (EM NR.out.be h)
  refine ⟨?_, hd k hk (by omega)⟩
  have hc := hcells (k * n + k) _ (xy (by omega))
  have := hb.cell (p := ⟨b, off + (k * n + k), none⟩) (by have := cell_lt hc; exact this)
  rw [this]
  exact hc)
 have LN : Hid (l.length = n * n ∧ n ≤ 8) := Lib.hid ⟨b5, h8⟩
 have BN := Lib.hid (Below.refl wr.heap.size wr)
 clear p1 p2 p6 a1 a2 a5 b5 h8 h1 n64 et hd hA kA hA' kA' hcells
 have HW := Lib.hid hwr
 clear hwr
 have x0 := N.out.r0.cell
 go_enter Try.func18, Try.ntmps18
 go_wp2_with fail
 change Code.wp Try.prog _ _ _ (w.alloc (.cells #[I n, I 1, .slice A x.length cp, I n, I n, .slice (some ⟨b, off, none⟩) l.length cp'] 28))
 rw [HW.out]
 clear HW N x0
 go_region_held3 (fun w' => (∀ o, w'.cell? ⟨w.heap.size, o, none⟩ = #[I n, I 1, .slice A x.length cp, I n, I n, .slice (some ⟨b, off, none⟩) l.length cp'][o]?) ∧ True)
  (first | with_reducible exact KK.out _ BN.out | with_reducible exact KK.out _ (bal BN.out _) | with_reducible exact KK.out _ (JS BN.out) | with_reducible exact KK.out _ (bal (JS BN.out) _) | with_reducible exact KK.out _ (JS (bal BN.out _)))
  (first
      | (go_at_call 40
         first
          | ((with_reducible refine (T40.out _ _ _ (BN.out) RQ.out DQ.out).mono ?_)
             rintro e w4 ⟨rfl, hb⟩
             have RQ := Lib.hid (Rd.below RQ.out hb)
             have BN := Lib.hid (EM (BN.out) hb)
             have zw4 := BN.out.size
             clear hb))
      | (go_at_call 41
         first
          | ((with_reducible refine (T41.out _ (BN.out)).mono ?_)
             rintro e w3 ⟨Q, dq, rfl, ho, hb⟩
             have RQ := Lib.hid (Own.rd ho).1
             have DQ := Lib.hid (Own.rd ho).2
             have BN := Lib.hid (EM (BN.out) hb)
             have zw3 := BN.out.size
             clear hb ho))
      | (go_at_call 39
         first
          | ((with_reducible refine (ab6.out _ (BN.out)).mono ?_)
             rintro e w2 ⟨rfl, hb⟩
             have BN := Lib.hid (EM (BN.out) hb)
             have zw2 := BN.out.size
             clear hb))
      | (go_at_call 39
         first
          | ((with_reducible refine (T39.out _ (JS BN.out)).mono ?_)
             rintro e w1 ⟨rfl, hb⟩
             have BN := Lib.hid (EM (JS BN.out) hb)
             have zw1 := BN.out.size
             clear hb)))
 have x0 := (KK.out _ BN.out).1
 have BE := Lib.hid (EM NR.out.be BN.out)
 have CM := Lib.hid (fun k (h : k < n) => CL.out w4 k BN.out h)
 clear T39 ab6 T40 T41 KK CL NR BN RQ DQ zw1 zw2 zw3 zw4
 go_wp2_with fail
 go_loop [48] (fun u => ∃ k : Nat, k ≤ n ∧ u = .int .i64 k) (fun u => n - (intOf u).toNat)
 case atStart => exact ⟨0, Nat.zero_le _, rfl⟩
 case round =>
  obtain ⟨k, hk, rfl⟩ := hrel
  by_cases hlt : k < n
  · obtain ⟨c1, c2⟩ := CM.out k hlt
    have hln := LN.out
    have n64 := Vd hln.2
    have hlk := kH hlt hlt
    obtain ⟨q, hq⟩ : ∃ q, l.getD (k * n + k) 0 = q := ⟨_, rfl⟩
    rw [hq] at c1 c2
    have e1 : decide (q < 0) = false := decide_eq_false (by omega)
    obtain ⟨p, hp⟩ : ∃ p : Nat, k * n = p := ⟨_, rfl⟩
    have hp2 : (k : Int) * (n : Int) = (p : Int) := by rw [← hp]; push_cast; rfl
    rw [hp] at c1 hlk
    have hw1 : IntKind.i64.wrap ((k : Int) * (n : Int)) = (p : Int) := by rw [hp2]; simp [IntKind.wrap, IntKind.bits, IntKind.signed]; omega
    have hw2 : IntKind.i64.wrap ((p : Int) + (k : Int)) = ((p + k : Nat) : Int) := by simp [IntKind.wrap, IntKind.bits, IntKind.signed]; omega
    obtain ⟨j, hj⟩ : ∃ j : Nat, p + k = j := ⟨_, rfl⟩
    rw [hj] at c1 hlk hw2
    have hj0 : (0 : Int) ≤ (j : Int) := by omega
    have hj1 : (j : Int) < l.length := by omega
    have hk8 : k + 1 ≤ 8 := by omega
    have HK : Hid (k + 1 ≤ n ∧ n ≤ 8) := Lib.hid ⟨by omega, by omega⟩
    clear hq hp hp2 hj hln n64 hlk c2 CM LN
    go_wp2
    go_round
    case rel => exact ⟨k + 1, HK.out.1, by go_num⟩
    case measure => simp [intOf]; omega
  · go_wp2
    go_ret
    exact ⟨rfl, BE.out⟩
end Go.Proofs.Ytninmcmajbfccaa.PR

namespace Go.Proofs.Ytninmcmajbfccaa.PR
open Go.RowKit Go.Proofs.Ytninmcmajbfccaa.PQ Go.Proofs.aH.bK Go.Proofs.aH.dG Go.Proofs.aH.dJ Go.Proofs.Ytninmcmajbfccaa.KK
set_option linter.unusedVariables false
set_option linter.unusedSimpArgs false
theorem Jf {l : List Int} (h : l.any jV = false) : Jg l := fun j => by
 by_cases hj : j < l.length
 · have h1 := List.any_eq_false.1 h (l.getD j 0) (by rw [List.getD_eq_getElem?_getD, List.getElem?_eq_getElem hj]; exact List.getElem_mem hj)
   unfold jV at h1
   simp only [Bool.or_eq_true, decide_eq_true_eq, not_or, Bool.not_eq_true] at h1
   omega
 · rw [List.getD_eq_getElem?_getD, List.getElem?_eq_none (by omega)]
   simp
theorem aN {l : List Int} (h : Jg l) : l.any jV = false := by
 rw [List.any_eq_false]
 intro a ha
 obtain ⟨j, hj, rfl⟩ := List.getElem_of_mem ha
 have := h j
 rw [List.getD_eq_getElem?_getD, List.getElem?_eq_getElem hj] at this
 simp at this
 unfold jV
 simp
 omega
theorem Ht {r c : Nat} {l : List Int} (h1 : 1 ≤ r) (h2 : r ≤ 8) (h3 : 1 ≤ c) (h4 : c ≤ 8) (hl : l.length = r * c) (h : Jg l) : jO r c l = true := by
 have b1 : r * c ≤ 8 * 8 := Nat.mul_le_mul h2 h4
 have e : wrap64 ((r : Int) * (c : Int)) = ((r * c : Nat) : Int) := by
  have e : (r : Int) * (c : Int) = ((r * c : Nat) : Int) := by push_cast; rfl
  rw [e, zZ (by omega) (by omega)]
 unfold jO
 rw [aN h, e, hl]
 simp
 omega
end Go.Proofs.Ytninmcmajbfccaa.PR

namespace Go.Proofs.Ytninmcmajbfccaa.PR
open Go.RowKit Go.Proofs.Ytninmcmajbfccaa.PQ Go.Proofs.aH.bK Go.Proofs.aH.dG Go.Proofs.aH.dJ Go.Proofs.Ytninmcmajbfccaa.KK
set_option linter.unusedVariables false
set_option linter.unusedSimpArgs false
theorem aaI {w : World} {B : Nat} {a b c d e f : Value} {fn : Func} {k i : Nat} {tmps : Array Value} (h : fn.results = #[.cell k 28, .tmp i]) (hk : tmps.getD k undef = .pointer (some ⟨B, 0, none⟩)) (R : Row w B 28 #[a, b, c, d, e, f]) :
 (results fn tmps).run Try.prog w = .ok (.tuple #[.agg #[a, b, c, d, e, f], tmps.getD i undef]) w := by
 have c := R.cell
 have hk' : tmps[k]?.getD undef = .pointer (some ⟨B, 0, none⟩) := by simpa using hk
 simp only [results, h]
 simp [go_sem, hk', c]
def newP (x v : List Int) : Prop := x.length = v.length ∧ 1 ≤ v.length ∧ v.length ≤ 8 ∧ Jg x ∧ Jg v ∧ ∀ j, 0 ≤ v.getD j 0
theorem Bz (l : List Int) : jf l = fl (l.length * l.length) (fun j => if j / l.length = j % l.length then l.getD (j / l.length) 0 else 0) := by
 unfold jf
 rw [I5]
theorem XB (l : List Int) (h : Jg l) : Jg (jf l) := by
 rw [Bz]
 refine Zb (fun m _ => ?_)
 split
 · exact h _
 · omega
theorem RF (l : List Int) (h : ∀ j, 0 ≤ l.getD j 0) : H7 l.length (jf l) := by
 intro m hm
 rw [Bz, pY hm, pY (ab3 hm)]
 constructor
 · by_cases e : m / l.length = m % l.length
   · rw [if_pos e, if_pos ((ab4 hm).2 e), Qs hm e]
   · rw [if_neg e, if_neg (fun h => e ((ab4 hm).1 h))]
 · intro e
   rw [if_pos e]
   exact h _
theorem Hy {x v : List Int} (h : newP x v) : sH (v.length : Int) 1 x v.length v.length (jf v) := by
 obtain ⟨hl, h1, h8, hx, hv, h0⟩ := h
 refine ⟨Ht (c := 1) h1 h8 (by omega) (by omega) (by omega) hx, Ht h1 h8 h1 h8 (xB v) (XB v hv), rfl, rfl, rfl, ?_⟩
 rw [Int.toNat_natCast]
 exact RF v h0
theorem Vl (n : Nat) (A1 A2 : Option Addr) (c1 c2 : Nat) (x v : List Int) (w : World) (rx : Rd w A1 x) (rv : Rd w A2 v) (h : newP x v) (ex : x.length = n) (ev : v.length = n) :
 Calls Try.prog 12 #[.slice A1 n c1, .slice A2 n c2] w fun e w' => ∃ Ax dx Ap dp, e = .returned (.tuple #[.agg #[I n, I 1, .slice Ax n dx, I n, I n, .slice Ap (jf v).length dp], I 0]) ∧ Rd w' Ax x ∧ n ≤ dx ∧ Rd w' Ap (jf v) ∧ (jf v).length ≤ dp ∧ Below w.heap.size w w' := by
 have N : Hid (fF w [(28, #[I 0, I 0, .slice none 0 0, I 0, I 0, .slice none 0 0])] (w.alloc (.cells #[I 0, I 0, .slice none 0 0, I 0, I 0, .slice none 0 0] 28))) := Lib.hid ((fF.none w).push (by simp) _ _)
 have HT : Hid (sH (n : Int) 1 x n n (jf v)) := Lib.hid (by have := Hy h; rwa [ev] at this)
 obtain ⟨hl, h1, h8, hx, hv, h0⟩ := h
 have EX := Lib.hid ex
 have HC : Hid (∀ w', Rd w' A1 x → Calls Try.prog 31 #[.slice A1 n c1] w' fun e w'' => ∃ C dc, e = .returned (.slice C n dc) ∧ n ≤ dc ∧ Own w'' w'.heap.size (.slice C x.length dc) x ∧ Below w'.heap.size w' w'') := Lib.hid (fun w' h => by
  have hh := DT A1 c1 x w' h (by omega) (fun e => by
   obtain ⟨b, off, e2, _⟩ := Rd.cells h (by omega)
   rw [e] at e2
   cases e2)
  rw [ex] at hh
  refine hh.mono ?_
  rintro e w'' ⟨v', rfl, ho, hb⟩
  obtain ⟨C, dc, rfl, hc, _⟩ := Own.reads ho
  rw [ex] at hc
  exact ⟨C, dc, by rw [ex], hc, ho, hb⟩)
 have HD : Hid (∀ w', Rd w' A2 v → Calls Try.prog 30 #[.slice A2 n c2] w' fun e w'' => ∃ v', e = .returned (.tuple #[.agg #[I n, I n, v'], I 0]) ∧ Own w'' w'.heap.size v' (jf v) ∧ Below w'.heap.size w' w'') := Lib.hid (fun w' h => by
  have hh := CY A2 c2 v w' h h1 h8 (PR.aN hv)
  rw [ev] at hh
  exact hh)
 have RX := Lib.hid rx
 have RV := Lib.hid rv
 clear rx rv hl h1 h8 hx hv h0 ex ev
 go_enter Try.func12, Try.ntmps12
 go_wp2_with fail
 refine (HD.out _ (RV.out.below N.out.be)).mono ?_
 rintro e w1 ⟨v', rfl, ho, hb⟩
 obtain ⟨D, dd, rfl, _, _⟩ := Own.reads ho
 have N1 := Lib.hid ((N.out.below hb).alloc (.cells #[I n, I n, .slice D (jf v).length dd] 26))
 have PB := Lib.hid (Row.new w1 26 #[I n, I n, .slice D (jf v).length dd])
 have DO : Hid (Own (w1.alloc (.cells #[I n, I n, .slice D (jf v).length dd] 26)) (w.heap.size + 1) (.slice D (jf v).length dd) (jf v)) := Lib.hid (Own.lower (Own.alloc ho _) (by simp))
 have DC := Lib.hid (Own.rd ho).2
 clear ho hb N HD RV
 go_wp2_with fail
 rename_i K2 aK2
 generalize w1.alloc (.cells #[I n, I n, .slice D (jf v).length dd] 26) = wr at N1 PB DO ⊢
 generalize w1.heap.size = pb at PB ⊢
 have ZY : Hid (∀ w', Below wr.heap.size wr w' → (∀ o, w'.cell? ⟨pb, o, none⟩ = #[I n, I n, .slice D (jf v).length dd][o]?) ∧ True) := Lib.hid (fun w' h => ⟨(PB.out.below h PB.out.lt).cell, trivial⟩)
 have T31 := Lib.hid (fun w' (h : Below wr.heap.size wr w') => HC.out w' (RX.out.below (EM N1.out.be h)))
 have BN := Lib.hid (Below.refl wr.heap.size wr)
 clear HC RX
 have REST : Hid (∀ (tb : Nat) (w3 : World) (C : Option Addr) (dc : Nat), Below wr.heap.size wr w3 → Row w3 tb 28 #[I n, I 1, .slice C n dc, I n, I n, .slice D (jf v).length dd] → Own w3 (w.heap.size + 1) (.slice C x.length dc) x → n ≤ dc → wr.heap.size ≤ tb → K2 { tmps := #[Value.slice A1 n c1, Value.slice A2 n c2, undef, undef, Value.pointer (some ⟨w.heap.size, 0, none⟩), I 0, Value.pointer (some ⟨pb, 0, none⟩), I 0, Value.pointer (some ⟨tb, 0, none⟩), Value.tuple #[Value.agg #[I n, I n, Value.slice D (jf v).length dd], I 0], Value.slice A2 n c2, Value.tuple #[Value.agg #[I n, I n, Value.slice D (jf v).length dd], I 0], Value.agg #[I n, I n, Value.slice D (jf v).length dd], I 0, Value.slice A1 n c1, I n, Value.slice A1 n c1, Value.slice C n dc, Value.agg #[I n, I 1, Value.slice C n dc], Value.agg #[I n, I n, Value.slice D (jf v).length dd], Value.agg #[I n, I 1, Value.slice C n dc, I n, I n, Value.slice D (jf v).length dd], undef, undef, undef, undef, undef, undef, undef, undef, undef], defers := [] } w3) := Lib.hid (by
  intro tb w3 C dc hB hT hx kx htb
  refine aK2 _ _ ?_
  have N3 := Lib.hid (N1.out.below hB)
  have TB := Lib.hid hT
  have RC := Lib.hid hx
  have KC := Lib.hid kx
  have DO3 := Lib.hid (DO.out.below hB)
  have ZB : Hid (w.heap.size + 1 ≤ wr.heap.size ∧ wr.heap.size ≤ tb) := Lib.hid ⟨by have h := N1.out.rows.le N1.out.be.size; simpa using h, htb⟩
  have T18 : Hid (Calls Try.prog 18 #[.agg #[I n, I 1, .slice C n dc, I n, I n, .slice D (jf v).length dd]] w3 fun e w' => e = .returned (.bool true) ∧ Below w3.heap.size w3 w') := Lib.hid (by
   have hh := Jc n C dc x D dd (jf v) w3 (Own.rd hx).1 (by rw [EX.out]; exact kx) (Own.rd DO3.out).1 DC.out HT.out
   rw [EX.out] at hh
   exact hh)
  clear hB hT hx kx htb T31 ZY BN N1 PB DO aK2
  have xt := TB.out.cell
  go_wp2_with fail
  refine T18.out.mono ?_
  rintro e w4 ⟨rfl, hb⟩
  have N4 := Lib.hid (N3.out.below hb)
  have T4 := Lib.hid (TB.out.below hb TB.out.lt)
  have RC4 := Lib.hid (RC.out.below hb)
  have DO4 := Lib.hid (DO3.out.below hb)
  clear hb xt N3 TB RC DO3 T18
  have xt := T4.out.cell
  have x0 := N4.out.r0.cell
  have g0 := N4.out.r0.free
  have zz := ZB.out
  have hne : tb ≠ w.heap.size := by omega
  have t0 := N4.out.r0.lt
  go_wp2
  refine bodyPost_ret (aaI rfl rfl (Row.oO N4.out.r0 _ _ _ _ _ _)) rfl ⟨_, _, _, _, rfl, ?_, KC.out, ?_, DC.out, ?_⟩
  · exact (Own.rd (Own.oO RC4.out (by omega) _ _ _ _ _ _)).1
  · exact (Own.rd (Own.oO DO4.out (by omega) _ _ _ _ _ _)).1
  · exact Below.oO N4.out.be (Nat.le_refl _) _ _ _ _ _ _)
 go_region_held3 (fun w' => (∀ o, w'.cell? ⟨pb, o, none⟩ = #[I n, I n, .slice D (jf v).length dd][o]?) ∧ True)
  (first | with_reducible exact ZY.out _ BN.out | with_reducible exact ZY.out _ (bal BN.out _) | with_reducible exact ZY.out _ (JS BN.out) | with_reducible exact ZY.out _ (bal (JS BN.out) _) | with_reducible exact ZY.out _ (JS (bal BN.out _)) | ((with_reducible refine ZY.out _ (Below.oO BN.out ?_ _ _ _ _ _ _)); first | omega | (simp; omega)))
  (first
      | (go_at_call 31
         first
          | ((with_reducible refine (T31.out _ (JS BN.out)).mono ?_)
             rintro e w2 ⟨C, dc, rfl, hc, ho, hb⟩
             have OC := Lib.hid ho
             have LC := Lib.hid hc
             have BN := Lib.hid (EM (JS BN.out) hb)
             have zw2 := BN.out.size
             clear hb ho hc)
          | ((with_reducible refine (T31.out _ (bal (JS BN.out) _)).mono ?_)
             rintro e w2 ⟨C, dc, rfl, hc, ho, hb⟩
             have OC := Lib.hid ho
             have LC := Lib.hid hc
             have BN := Lib.hid (EM (bal (JS BN.out) _) hb)
             have zw2 := BN.out.size
             have TB : Hid (Row w2 wr.heap.size 28 #[I 0, I 0, .slice none 0 0, I 0, I 0, .slice none 0 0]) := Lib.hid (Row.below (Row.new wr.drew 28 #[I 0, I 0, .slice none 0 0, I 0, I 0, .slice none 0 0]) hb (by simp))
             have zt := TB.out.lt
             have kc := TB.out.cell
             have kf := TB.out.free
             clear hb ho hc)
          | ((with_reducible refine (T31.out _ (JS (bal BN.out _))).mono ?_)
             rintro e w2 ⟨C, dc, rfl, hc, ho, hb⟩
             have OC := Lib.hid ho
             have LC := Lib.hid hc
             have BN := Lib.hid (EM (JS (bal BN.out _)) hb)
             have zw2 := BN.out.size
             have TB : Hid (Row w2 wr.heap.size 28 #[I 0, I 0, .slice none 0 0, I 0, I 0, .slice none 0 0]) := Lib.hid (Row.below (Row.drew (Row.new wr 28 #[I 0, I 0, .slice none 0 0, I 0, I 0, .slice none 0 0])) hb (by simp))
             have zt := TB.out.lt
             have kc := TB.out.cell
             have kf := TB.out.free
             clear hb ho hc)))
 all_goals
  show K2 _ _
  first
   | ((with_reducible refine REST.out _ _ _ _ (bal BN.out _) (Row.new _ _ _) (Own.lower (OC.out.alloc _) ?_) LC.out (by omega)); have h := N1.out.rows.le N1.out.be.size; simp at h; first | omega | (simp; omega))
   | ((with_reducible refine REST.out _ _ _ _ (Below.oO BN.out ?_ _ _ _ _ _ _) (Row.oO TB.out _ _ _ _ _ _) (Own.lower (Own.oO OC.out ?_ _ _ _ _ _ _) ?_) LC.out ?_)
      all_goals have h := N1.out.rows.le N1.out.be.size
      all_goals simp at h
      all_goals first | omega | (simp; done) | (simp; omega))
theorem QU (A1 A2 : Option Addr) (c1 c2 : Nat) (x v : List Int) (w : World) (rx : Rd w A1 x) (cx : x.length ≤ c1) (rv : Rd w A2 v) (cv : v.length ≤ c2) (h : newP x v) :
 Calls Try.prog 12 #[.slice A1 x.length c1, .slice A2 v.length c2] w fun e w' => ∃ Ax dx Ap dp, e = .returned (.tuple #[.agg #[I x.length, I 1, .slice Ax x.length dx, I v.length, I v.length, .slice Ap (jf v).length dp], I 0]) ∧ Rd w' Ax x ∧ x.length ≤ dx ∧ Rd w' Ap (jf v) ∧ (jf v).length ≤ dp ∧ Below w.heap.size w w' := by
 have hh := Vl v.length A1 A2 c1 c2 x v w rx rv h h.1 rfl
 rw [h.1]
 exact hh
end Go.Proofs.Ytninmcmajbfccaa.PR

namespace Go.Proofs.Ytninmcmajbfccaa.PR
open Go.RowKit Go.Proofs.Ytninmcmajbfccaa.PQ Go.Proofs.aH.bK Go.Proofs.aH.dG Go.Proofs.aH.dJ Go.Proofs.Ytninmcmajbfccaa.KK
set_option linter.unusedVariables false
set_option linter.unusedSimpArgs false
theorem Rd.one {w : World} {b : Nat} {q : Int} {t : TypeId} (h : Row w b t #[I q]) : Rd w (some ⟨b, 0, none⟩) [q] := by
 refine ⟨rfl, by show (1 : Nat) ≤ _; omega, fun _ => ⟨_, rfl, fun j p hj => ?_⟩⟩
 match j, hj with
 | 0, hj =>
   simp at hj
   subst hj
   refine ⟨[I q], rfl, rfl, fun i u hi => ?_⟩
   match i, hi with
   | 0, hi =>
     simp at hi
     subst hi
     have := h.cell 0
     simpa [Addr.add] using this
theorem x_ (w : World) : Calls Try.prog 11 #[] w fun e w' => e = .returned (.bool true) ∧ Below w.heap.size w w' := by
 have hn : newP [0] [16777216] := by
  refine ⟨rfl, by simp, by simp, fun j => ?_, fun j => ?_, fun j => ?_⟩
  all_goals
   match j with
   | 0 => simp
   | j + 1 => simp
 have hm : PQ.jW.f 1000 (1 : Nat) 1 [0] (1 : Nat) (1 : Nat) [16777216] 1 (1 : Nat) [16777216] 16777216 = some 0 := by decide +kernel
 have hi : kE.f false (1 : Nat) 1 [0] (1 : Nat) (1 : Nat) [16777216] 1 (1 : Nat) [16777216] 33554432 16777216 = some (33554432, 33554432, false) := by decide +kernel
 have h2 : xX 33554432 33554432 = (67108864, false) := by decide +kernel
 have h3 : xX 1677721600 33554432 = (3355443200, false) := by decide +kernel
 have hX : tX 1 [0] [16777216] [16777216] 33554432 33554432 = [16777216] := by decide +kernel
 have hP : tP 1 [16777216] [16777216] 33554432 16777216 = [8388608] := by decide +kernel
 have hB : tB 1 [0] [16777216] [16777216] 33554432 33554432 16777216 (false || false || false) = false := by decide +kernel
 have N : Hid (fF w [(22, #[I 0]), (22, #[I 16777216])] ((w.alloc (.cells #[I 0] 22)).alloc (.cells #[I 16777216] 22))) := Lib.hid (((fF.none w).push (by simp) _ _).push (by simp) _ _)
 have HN := Lib.hid hn
 have UPD := Lib.hid (fun A1 A2 A3 c1 c2 c3 w' r1 k1 r2 k2 r3 k3 => QE 1 A1 A2 A3 c1 c2 c3 [0] [16777216] [16777216] 33554432 16777216 1677721600 33554432 33554432 67108864 3355443200 false false false w' (by omega) (by omega) rfl rfl rfl r1 k1 r2 k2 r3 k3 hm hi h2 h3 (by omega) (by omega))
 rw [hX, hP, hB] at UPD
 have eo : ((1 : Nat) : Int) = 1 := rfl
 have el0 : [(0 : Int)].length = 1 := rfl
 have el1 : [(16777216 : Int)].length = 1 := rfl
 have el2 : [(8388608 : Int)].length = 1 := rfl
 simp only [eo, el0, el1, el2] at UPD
 clear hn hm hi h2 h3 hX hP hB
 go_enter Try.func11, Try.ntmps11
 go_wp2_with fail
 refine (QU (some ⟨w.heap.size, 0, none⟩) (some ⟨w.heap.size + 1, 0, none⟩) 1 1 [0] [16777216] _ (Rd.one N.out.r0) (by simp) (Rd.one N.out.r1) (by simp) HN.out).mono ?_
 rintro e w1 ⟨A2, c2, A5, c5, rfl, r2, k2, r5, k5, hb⟩
 have ed : jf [16777216] = [16777216] := rfl
 rw [ed] at r5 k5
 have B1 := Lib.hid (N.out.be.trans (hb.mono N.out.be.size))
 have R2 := Lib.hid r2
 have R5 := Lib.hid r5
 have K2 := Lib.hid k2
 have K5 := Lib.hid k5
 clear hb k2 k5 r2 r5 N ed
 rw [el0] at K2
 rw [el1] at K5
 have hbw : Below w1.heap.size w1 (((w1.alloc (.cells #[I 1, I 1, .slice A2 1 c2, I 1, I 1, .slice A5 1 c5] 28)).alloc (.cells #[I 16777216] 22)).alloc (.cells #[I 1, I 1, .slice (some ⟨w1.heap.size + 1, 0, none⟩) 1 1] 26)) := (((Below.refl _ _).alloc (Nat.le_refl _) _).alloc (by simp) _).alloc (by simp; omega) _
 have HBW := Lib.hid hbw
 have RH : Hid (Row (((w1.alloc (.cells #[I 1, I 1, .slice A2 1 c2, I 1, I 1, .slice A5 1 c5] 28)).alloc (.cells #[I 16777216] 22)).alloc (.cells #[I 1, I 1, .slice (some ⟨w1.heap.size + 1, 0, none⟩) 1 1] 26)) (w1.heap.size + 1) 22 #[I 16777216]) := Lib.hid (by
  have h := Row.new (w1.alloc (.cells #[I 1, I 1, .slice A2 1 c2, I 1, I 1, .slice A5 1 c5] 28)) 22 #[I 16777216]
  have h2 := Row.alloc h (.cells #[I 1, I 1, .slice (some ⟨w1.heap.size + 1, 0, none⟩) 1 1] 26)
  simpa using h2)
 clear hbw
 go_wp2_with fail
 refine (UPD.out A2 A5 (some ⟨w1.heap.size + 1, 0, none⟩) c2 c5 1 _ (Rd.below R2.out HBW.out) K2.out (Rd.below R5.out HBW.out) K5.out (Rd.one RH.out) (by simp)).mono ?_
 rintro e w3 ⟨Ax, dx, Ap, dp, rfl, ox, op, hne, hb⟩
 have B3 := Lib.hid (B1.out.trans ((HBW.out.trans (hb.mono HBW.out.size)).mono B1.out.size))
 obtain ⟨bx, fx, rfl, cx, _⟩ := Own.first (l := [16777216]) ox (by simp)
 obtain ⟨bp, fp, rfl, cp, _⟩ := Own.first (l := [8388608]) op (by simp)
 have cx' : w3.cell? ⟨bx, fx, none⟩ = some (I 16777216) := cx
 have cp' : w3.cell? ⟨bp, fp, none⟩ = some (I 8388608) := cp
 have lx := cell_lt cx'
 have lp := cell_lt cp'
 dsimp only at lx lp
 clear ox op hne hb cx cp UPD R2 R5 RH
 have B4 := Lib.hid (B3.out.alloc B3.out.size (.cells #[I 1, I 1, .slice (some ⟨bx, fx, none⟩) 1 dx, I 1, I 1, .slice (some ⟨bp, fp, none⟩) 1 dp] 28))
 go_wp2
 go_ret
 exact ⟨rfl, B4.out⟩
end Go.Proofs.Ytninmcmajbfccaa.PR

namespace Go.Proofs.Ytninmcmajbfccaa.PR
open Go.RowKit Go.Proofs.Ytninmcmajbfccaa.PQ Go.Proofs.aH.bK Go.Proofs.aH.dG Go.Proofs.aH.dJ Go.Proofs.Ytninmcmajbfccaa.KK
set_option linter.unusedVariables false
set_option linter.unusedSimpArgs false
theorem yg (r c : Int) (A1 : Option Addr) (c1 : Nat) (x : List Int) (r' c' : Int) (A2 : Option Addr) (c2 : Nat) (l : List Int) (w : World) (h1 : Rd w A1 x) (d1 : x.length ≤ c1) (h2 : Rd w A2 l) (d2 : l.length ≤ c2) :
 Calls Try.prog 17 #[.agg #[I r, I c, .slice A1 x.length c1, I r', I c', .slice A2 l.length c2]] w fun e w' => e = .returned (.bool (decide (sH r c x r' c' l))) ∧ Below w.heap.size w w' := by
 obtain ⟨k, hk⟩ := (Ja r c x r' c' l).rounds
 exact aZ.calls k r c A1 c1 x r' c' A2 c2 l _ w h1 d1 h2 d2 hk
theorem G7 (r c : Int) (A1 : Option Addr) (c1 : Nat) (x : List Int) (r' c' : Int) (A2 : Option Addr) (c2 : Nat) (l : List Int) (w : World) (h1 : Rd w A1 x) (d1 : x.length ≤ c1) (h2 : Rd w A2 l) (d2 : l.length ≤ c2) (hl : x.length ≤ 1000000) :
 Calls Try.prog 19 #[.agg #[I r, I c, .slice A1 x.length c1], .agg #[I r', I c', .slice A2 l.length c2]] w fun e w' => e = .returned (.bool (decide (r = r' ∧ c = c' ∧ x = l))) ∧ Below w.heap.size w w' := by
 obtain ⟨k, hk⟩ := (En r c r' c' x l hl).rounds
 exact bU.calls k r c A1 c1 x r' c' A2 c2 l _ w h1 d1 h2 d2 hk
end Go.Proofs.Ytninmcmajbfccaa.PR

namespace Go.Proofs.Ytninmcmajbfccaa.PR
open Go.RowKit Go.Proofs.Ytninmcmajbfccaa.PQ Go.Proofs.aH.bK Go.Proofs.aH.dG Go.Proofs.aH.dJ Go.Proofs.Ytninmcmajbfccaa.KK
set_option linter.unusedVariables false
set_option linter.unusedSimpArgs false
theorem dm (j c : Nat) : j / c * c + j % c = j := by rw [Nat.mul_comm]; exact Nat.div_add_mod j c
theorem div_lt {j n c : Nat} (h : j < n * c) : j / c < n := Nat.div_lt_of_lt_mul (by rwa [Nat.mul_comm])
theorem GV (r c r2 c2 r' c' r2' c2' : Int) (x l x' l' : List Int) (hx : x.length ≤ 1000000) (hl : l.length ≤ 1000000) :
 Ev (fun k => lK.f k r c x r2 c2 l r' c' x' r2' c2' l') (decide ((r = r' ∧ c = c' ∧ x = x') ∧ (r2 = r2' ∧ c2 = c2' ∧ l = l'))) := by
 unfold lK.f
 by_cases h1 : r = r' ∧ c = c' ∧ x = x'
 · have e1 := En r c r' c' x x' hx
   rw [decide_eq_true h1] at e1
   refine Ev.bind e1 ?_
   simp only [if_true]
   have e2 := En r2 c2 r2' c2' l l' hl
   refine Ev.bind e2 ?_
   have e : decide ((r = r' ∧ c = c' ∧ x = x') ∧ (r2 = r2' ∧ c2 = c2' ∧ l = l')) = decide (r2 = r2' ∧ c2 = c2' ∧ l = l') := by simp [h1]
   rw [e]
   exact Ev.now _
 · have e1 := En r c r' c' x x' hx
   rw [decide_eq_false h1] at e1
   refine Ev.bind e1 ?_
   rw [decide_eq_false (fun h => h1 h.1)]
   exact Ev.now _
theorem xI (r c r2 c2 r' c' r2' c2' : Int) (A1 A2 B1 B2 : Option Addr) (c1 d1 c3 d3 : Nat) (x l x' l' : List Int) (w : World) (h1 : Rd w A1 x) (k1 : x.length ≤ c1) (h2 : Rd w A2 l) (k2 : l.length ≤ d1) (h3 : Rd w B1 x') (k3 : x'.length ≤ c3) (h4 : Rd w B2 l') (k4 : l'.length ≤ d3) (hx : x.length ≤ 1000000) (hl : l.length ≤ 1000000) :
 Calls Try.prog 21 #[.agg #[I r, I c, .slice A1 x.length c1, I r2, I c2, .slice A2 l.length d1], .agg #[I r', I c', .slice B1 x'.length c3, I r2', I c2', .slice B2 l'.length d3]] w fun e w' => e = .returned (.bool (decide ((r = r' ∧ c = c' ∧ x = x') ∧ (r2 = r2' ∧ c2 = c2' ∧ l = l')))) ∧ Below w.heap.size w w' := by
 obtain ⟨k, hk⟩ := (GV r c r2 c2 r' c' r2' c2' x l x' l' hx hl).rounds
 exact lK.calls k r c A1 c1 x r2 c2 A2 d1 l r' c' B1 c3 x' r2' c2' B2 d3 l' _ w h1 k1 h2 k2 h3 k3 h4 k4 hk
end Go.Proofs.Ytninmcmajbfccaa.PR

