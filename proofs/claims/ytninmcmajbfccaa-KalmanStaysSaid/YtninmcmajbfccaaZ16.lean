import Derived.Test.YtninmcmajbfccaaZ15
import Derived.Test.YtninmcmajbfccaaZ12
import Derived.Test.YtninmcmajbfccaaZ3
import Derived.Test.YtninmcmajbfccaaZ4
import Derived.Test.YtninmcmajbfccaaZ11
import Derived.Test.YtninmcmajbfccaaZ14
/- Joined by a program of this session's own (wip/pack.py) out of its texts; the parts PQ, PR, PS were laid by its own program (wip/print-patch.py over the kit's print) out of the translation; Lean checks all. -/
/- Layer 5: a track behind a measured number, in the print's form. -/
namespace Go.Proofs.Ytninmcmajbfccaa.PR
open Go.RowKit Go.Proofs.Ytninmcmajbfccaa.PQ Go.Proofs.YtninmcmajbfccaaW.PrintWords Go.Proofs.YtninmcmajbfccaaW.PrintLast Go.Proofs.YtninmcmajbfccaaW.PrintMore Go.Proofs.Ytninmcmajbfccaa.KK
set_option linter.unusedVariables false
set_option linter.unusedSimpArgs false
def tK0 (n : Nat) (lp lh : List Int) : List Int := mulL n n 1 lp (trL 1 n lh)
def tK (n : Nat) (lp lh : List Int) (sv : Int) : List Int := (tK0 n lp lh).map (fun q => (dvs q sv).1)
def tX (n : Nat) (lx lp lh : List Int) (y sv : Int) : List Int := eachL addZ n 1 lx (scaleL n 1 (tK n lp lh sv) y)
def tI (n : Nat) (lp lh : List Int) (sv : Int) : List Int := eachL subZ n n (eyeL n) (mulL n 1 n (tK n lp lh sv) lh)
def tKK (n : Nat) (lp lh : List Int) (sv r : Int) : List Int := mulL n 1 n (scaleL n 1 (tK n lp lh sv) r) (trL n 1 (tK n lp lh sv))
def tP (n : Nat) (lp lh : List Int) (sv r : Int) : List Int := goodL n (eachL addZ n n (betweenL n n (tI n lp lh sv) lp) (tKK n lp lh sv r))
def tB (n : Nat) (lx lp lh : List Int) (y sv r : Int) (s : Bool) : Bool :=
  s || mulB n n 1 lp (trL 1 n lh) || (tK0 n lp lh).any (fun q => (dvs q sv).2) || scaleB n 1 (tK n lp lh sv) y || eachB addZ n 1 lx (scaleL n 1 (tK n lp lh sv) y) || mulB n 1 n (tK n lp lh sv) lh || eachB subZ n n (eyeL n) (mulL n 1 n (tK n lp lh sv) lh) || betweenB n n (tI n lp lh sv) lp || scaleB n 1 (tK n lp lh sv) r || mulB n 1 n (scaleL n 1 (tK n lp lh sv) r) (trL n 1 (tK n lp lh sv)) || eachB addZ n n (betweenL n n (tI n lp lh sv) lp) (tKK n lp lh sv r)
theorem track_of (n : Nat) (lx lp lh : List Int) (s : Bool) (y sv r : Int) : Track n lx lp lh s y sv r (trL 1 n lh) (tK0 n lp lh) (tK n lp lh sv) (scaleL n 1 (tK n lp lh sv) y) (tX n lx lp lh y sv) (mulL n 1 n (tK n lp lh sv) lh) (tI n lp lh sv) (betweenL n n (tI n lp lh sv) lp) (scaleL n 1 (tK n lp lh sv) r) (trL n 1 (tK n lp lh sv)) (tKK n lp lh sv r) (eachL addZ n n (betweenL n n (tI n lp lh sv) lp) (tKK n lp lh sv r)) (tP n lp lh sv r)
    (mulB n n 1 lp (trL 1 n lh)) ((tK0 n lp lh).any (fun q => (dvs q sv).2)) (scaleB n 1 (tK n lp lh sv) y) (eachB addZ n 1 lx (scaleL n 1 (tK n lp lh sv) y)) (mulB n 1 n (tK n lp lh sv) lh) (eachB subZ n n (eyeL n) (mulL n 1 n (tK n lp lh sv) lh)) (betweenB n n (tI n lp lh sv) lp) (scaleB n 1 (tK n lp lh sv) r) (mulB n 1 n (scaleL n 1 (tK n lp lh sv) r) (trL n 1 (tK n lp lh sv))) (eachB addZ n n (betweenL n n (tI n lp lh sv) lp) (tKK n lp lh sv r)) :=
  ⟨rfl, rfl, rfl, rfl, rfl, rfl, rfl, rfl, rfl, rfl, rfl, rfl, rfl, rfl, rfl, rfl, rfl, rfl, rfl, rfl, rfl, rfl, rfl⟩
def kalman_work_taken.f (s0_0 : Bool) (a1_0 : Int) (a1_1 : Int) (l1_2 : List Int) (a1_3 : Int) (a1_4 : Int) (l1_5 : List Int) (a2_0 : Int) (a2_1 : Int) (l2_2 : List Int) (a3 : Int) (a4 : Int) (a5 : Int) : Option (Int × Int × List Int × Int × Int × List Int × Bool) :=
  if 1 ≤ a1_0 ∧ a1_0 ≤ 8 ∧ a1_1 = 1 ∧ a1_3 = a1_0 ∧ a1_4 = a1_0 ∧ a2_0 = 1 ∧ a2_1 = a1_0 ∧ l1_2.length = a1_0.toNat * 1 ∧ l1_5.length = a1_0.toNat * a1_0.toNat ∧ l2_2.length = 1 * a1_0.toNat then
    some (a1_0, 1, tX a1_0.toNat l1_2 l1_5 l2_2 a3 a4, a1_0, a1_0, tP a1_0.toNat l1_5 l2_2 a4 a5, tB a1_0.toNat l1_2 l1_5 l2_2 a3 a4 a5 s0_0) else none
theorem kalman_work_taken.calls (g : Nat) (s0_0 : Bool) (a1_0 : Int) (a1_1 : Int) (A1_2 : Option Addr) (c1_2 : Nat) (l1_2 : List Int) (a1_3 : Int) (a1_4 : Int) (A1_5 : Option Addr) (c1_5 : Nat) (l1_5 : List Int) (a2_0 : Int) (a2_1 : Int) (A2_2 : Option Addr) (c2_2 : Nat) (l2_2 : List Int) (a3 : Int) (a4 : Int) (a5 : Int) (r1 : Int) (r2 : Int) (r3 : List Int) (r4 : Int) (r5 : Int) (r6 : List Int) (r7 : Bool) (w0 w : World) (hI : IsS77 w0 w g s0_0) (hB : Below w0.heap.size w0 w)
    (hr1_2 : Kd.C (Kd.int .i64) w A1_2 l1_2.length l1_2) (hc1_2 : l1_2.length ≤ c1_2) (hf1_2 : ∀ ad, A1_2 = some ad → 0 < l1_2.length → ad.block ≠ g) (hr1_5 : Kd.C (Kd.int .i64) w A1_5 l1_5.length l1_5) (hc1_5 : l1_5.length ≤ c1_5) (hf1_5 : ∀ ad, A1_5 = some ad → 0 < l1_5.length → ad.block ≠ g) (hr2_2 : Kd.C (Kd.int .i64) w A2_2 l2_2.length l2_2) (hc2_2 : l2_2.length ≤ c2_2) (hf2_2 : ∀ ad, A2_2 = some ad → 0 < l2_2.length → ad.block ≠ g)
    (h : kalman_work_taken.f s0_0 a1_0 a1_1 l1_2 a1_3 a1_4 l1_5 a2_0 a2_1 l2_2 a3 a4 a5 = some (r1, r2, r3, r4, r5, r6, r7)) :
    Calls Try.prog 36 #[.pointer (some ⟨g, 0, none⟩), .agg #[.int .i64 a1_0, .int .i64 a1_1, .slice A1_2 l1_2.length c1_2, .int .i64 a1_3, .int .i64 a1_4, .slice A1_5 l1_5.length c1_5], .agg #[.int .i64 a2_0, .int .i64 a2_1, .slice A2_2 l2_2.length c2_2], .int .i64 a3, .int .i64 a4, .int .i64 a5] w fun e w' => ∃ v2_ v5_ : Value, e = .returned (.agg #[.int .i64 r1, .int .i64 r2, v2_, .int .i64 r4, .int .i64 r5, v5_]) ∧ Kd.R (Kd.int .i64) 22 w' w.heap.size (fun k_ => some k_ ≠ (v5_ : Value).ownBlock) v2_ r3 ∧ Kd.R (Kd.int .i64) 22 w' w.heap.size (fun k_ => some k_ ≠ (v2_ : Value).ownBlock) v5_ r6 ∧ IsS77 w0 w' g r7 ∧ Below w0.heap.size w0 w' ∧ KeepBut w w' g none := by
  unfold kalman_work_taken.f at h
  split at h
  case isFalse => cases h
  rename_i hs
  obtain ⟨h1, h8, rfl, h3, h4, rfl, h6, hx, hp, hh⟩ := hs
  obtain ⟨n, rfl⟩ := Int.eq_ofNat_of_zero_le (show 0 ≤ a1_0 by omega)
  subst h3 h4 h6
  simp only [Int.toNat_natCast] at hx hp hh h
  simp only [Option.some.injEq, Prod.mk.injEq] at h
  obtain ⟨rfl, rfl, rfl, rfl, rfl, rfl, rfl⟩ := h
  refine (taken_calls w0 w g n s0_0 a3 a4 a5 A1_2 A1_5 A2_2 c1_2 c1_5 c2_2 l1_2 l1_5 l2_2 _ _ _ _ _ _ _ _ _ _ _ _ _ _ _ _ _ _ _ _ _ _ _ (by omega) (by omega) hx hp hh (track_of n l1_2 l1_5 l2_2 s0_0 a3 a4 a5) hI.1 hI.2 hB hr1_2 hc1_2 hf1_2 hr1_5 hc1_5 hf1_5 hr2_2 hc2_2 hf2_2).mono ?_
  rintro e w' ⟨Ax, dx, Ap, dp, rfl, o1, o2, hne, hR, hgr⟩
  refine ⟨_, _, rfl, Kd.R_of_own (enc := I) o1.row (fun k hk e => hne k hk e.symm), Kd.R_of_own (enc := I) o2.row (fun k hk e => hne k e.symm hk), ⟨hR, hI.2⟩, below_of hB hI.2 hgr, keep_of hgr⟩
end Go.Proofs.Ytninmcmajbfccaa.PR

-- Laid by a program of this session's own (wip/print-patch.py over the kit's print), out of the translation; Lean checks it.
namespace Go.Proofs.Ytninmcmajbfccaa.PR
open Go.RowKit Go.Proofs.Ytninmcmajbfccaa.PQ Go.Proofs.YtninmcmajbfccaaW.PrintWords Go.Proofs.YtninmcmajbfccaaW.PrintLast Go.Proofs.YtninmcmajbfccaaW.PrintMore
attribute [local go_sem] max2_int min2_int max_two min_two max_three min_three max_four min_four   -- for this text's walks alone
set_option linter.unusedVariables false
set_option linter.unusedSimpArgs false

/-! ### kalman_Right: function 18 -/
mutual
def kalman_Right.j0 : Nat → Int → Bool → Int → Int → List Int → Int → Int → List Int → Option (Bool)
  | 0, _, _, _, _, _, _, _, _ => none
  | k + 1, x3, x46, x102000, x102001, x102002, x102003, x102004, x102005 => if x46 = true then (some false) else (kalman_Right.l0 k x3 x3 0 x102000 x102001 x102002 x102003 x102004 x102005)
def kalman_Right.l0 : Nat → Int → Int → Int → Int → Int → List Int → Int → Int → List Int → Option (Bool)
  | 0, _, _, _, _, _, _, _, _, _ => none
  | k + 1, x3, x47, x48, x102000, x102001, x102002, x102003, x102004, x102005 => if x48 < x47 then (if 0 ≤ (wrap64 ((wrap64 (x48 * x3)) + x48)) then (if (wrap64 ((wrap64 (x48 * x3)) + x48)) < (x102005.length : Int) then (if (rd x102005 (wrap64 ((wrap64 (x48 * x3)) + x48))) < 0 then (some false) else (kalman_Right.l0 k x3 x47 (wrap64 (x48 + 1)) x102000 x102001 x102002 x102003 x102004 x102005)) else (none)) else (none)) else (some true)
end
def kalman_Right.f (k : Nat) (a0_0 : Int) (a0_1 : Int) (l0_2 : List Int) (a0_3 : Int) (a0_4 : Int) (l0_5 : List Int) : Option (Bool) := (mat_Right.f a0_0 a0_1 l0_2).bind fun t102 => (if t102 = true then ((mat_Right.f a0_3 a0_4 l0_5).bind fun t103 => (if t103 = true then (if a0_1 = 1 then (if a0_3 = a0_0 then (if a0_4 = a0_0 then ((mat_Trans.f a0_3 a0_4 l0_5).bind fun bt104 => ((mat_Same.f k a0_3 a0_4 l0_5 bt104.1 bt104.2.1 bt104.2.2).bind fun t109 => (kalman_Right.j0 k a0_0 (!t109) a0_0 a0_1 l0_2 a0_3 a0_4 l0_5))) else (kalman_Right.j0 k a0_0 true a0_0 a0_1 l0_2 a0_3 a0_4 l0_5)) else (kalman_Right.j0 k a0_0 true a0_0 a0_1 l0_2 a0_3 a0_4 l0_5)) else (kalman_Right.j0 k a0_0 true a0_0 a0_1 l0_2 a0_3 a0_4 l0_5)) else (kalman_Right.j0 k a0_0 true a0_0 a0_1 l0_2 a0_3 a0_4 l0_5))) else (kalman_Right.j0 k a0_0 true a0_0 a0_1 l0_2 a0_3 a0_4 l0_5))
end Go.Proofs.Ytninmcmajbfccaa.PR

/- Layer 5: a track held against a measured number: what is taken. -/
namespace Go.Proofs.Ytninmcmajbfccaa.PR
open Go.RowKit Go.Proofs.Ytninmcmajbfccaa.PQ Go.Proofs.YtninmcmajbfccaaW.PrintWords Go.Proofs.YtninmcmajbfccaaW.PrintLast Go.Proofs.YtninmcmajbfccaaW.PrintMore Go.Proofs.Ytninmcmajbfccaa.KK
set_option linter.unusedVariables false
set_option linter.unusedSimpArgs false
theorem Rd.blk {w : World} {A : Option Addr} {l : List Int} (h : Rd w A l) : ∀ ad, A = some ad → 0 < l.length → ad.block < w.heap.size := fun ad e hp => by
  obtain ⟨b, off, e2, hb, _⟩ := Rd.cells h hp
  rw [e] at e2
  injection e2 with e2
  subst e2
  exact hb
theorem res6ttt {w : World} {B : Nat} {a b c d e f : Value} {fn : Func} {k i j m : Nat} {tmps : Array Value} (h : fn.results = #[.cell k 28, .tmp i, .tmp j, .tmp m]) (hk : tmps.getD k undef = .pointer (some ⟨B, 0, none⟩)) (R : Row w B 28 #[a, b, c, d, e, f]) :
    (results fn tmps).run Try.prog w = .ok (.tuple #[.agg #[a, b, c, d, e, f], tmps.getD i undef, tmps.getD j undef, tmps.getD m undef]) w := by
  have c := R.cell
  have hk' : tmps[k]?.getD undef = .pointer (some ⟨B, 0, none⟩) := by simpa using hk
  simp only [results, h]
  simp [go_sem, hk', c]
set_option maxRecDepth 100000 in
set_option maxHeartbeats 8000000 in
theorem upd_taken (n : Nat) (A1 A2 A3 : Option Addr) (c1 c2 c3 : Nat) (lx lp lh : List Int) (z r gate y s q1 q2 : Int) (o f1 f2 : Bool) (w : World) (h1 : 1 ≤ n) (h8 : n ≤ 8) (hx : lx.length = n * 1) (hp : lp.length = n * n) (hh : lh.length = 1 * n)
    (rx : Rd w A1 lx) (cx : lx.length ≤ c1) (rp : Rd w A2 lp) (cp : lp.length ≤ c2) (rh : Rd w A3 lh) (ch : lh.length ≤ c3)
    (hm : PQ.kalman_may.f 1000 n 1 lx n n lp 1 n lh r = some 0) (hi : kalman_work_innov.f false n 1 lx n n lp 1 n lh z r = some (y, s, o)) (h2 : mulZ y y = (q1, f1)) (h3 : mulZ gate s = (q2, f2)) (h4 : ¬ q1 > q2) (h5 : ¬ s ≤ 0) :
    Calls Try.prog 13 #[.agg #[I n, I 1, .slice A1 lx.length c1, I n, I n, .slice A2 lp.length c2], .agg #[I 1, I n, .slice A3 lh.length c3], I z, I r, I gate] w fun e w' => ∃ Ax dx Ap dp, e = .returned (.tuple #[.agg #[I n, I 1, .slice Ax (tX n lx lp lh y s).length dx, I n, I n, .slice Ap (tP n lp lh s r).length dp], .bool true, .bool (tB n lx lp lh y s r (o || f1 || f2)), I 0]) ∧ Own w' w.heap.size (.slice Ax (tX n lx lp lh y s).length dx) (tX n lx lp lh y s) ∧ Own w' w.heap.size (.slice Ap (tP n lp lh s r).length dp) (tP n lp lh s r) ∧ (∀ k, (Value.slice Ax (tX n lx lp lh y s).length dx).ownBlock = some k → (Value.slice Ap (tP n lp lh s r).length dp).ownBlock ≠ some k) ∧ Below w.heap.size w w' := by
  have N : Hid (Scene w [(28, #[I n, I 1, .slice A1 lx.length c1, I n, I n, .slice A2 lp.length c2]), (26, #[I 1, I n, .slice A3 lh.length c3]), (28, #[I 0, I 0, .slice none 0 0, I 0, I 0, .slice none 0 0])] (((w.alloc (.cells #[I n, I 1, .slice A1 lx.length c1, I n, I n, .slice A2 lp.length c2] 28)).alloc (.cells #[I 1, I n, .slice A3 lh.length c3] 26)).alloc (.cells #[I 0, I 0, .slice none 0 0, I 0, I 0, .slice none 0 0] 28))) := Lib.hid ((((Scene.none w).push (by simp) _ _).push (by simp) _ _).push (by simp) _ _)
  have RX := Lib.hid rx
  have RP := Lib.hid rp
  have RH := Lib.hid rh
  have CX := Lib.hid cx
  have CP := Lib.hid cp
  have CH := Lib.hid ch
  have HM := Lib.hid hm
  have HI := Lib.hid hi
  have H2 := Lib.hid h2
  have H3 := Lib.hid h3
  have HT := Lib.hid (And.intro (And.intro h1 h8) (And.intro hx (And.intro hp hh)))
  have e4 : decide (q1 > q2) = false := decide_eq_false h4
  have e5 : decide (s ≤ 0) = false := decide_eq_false h5
  clear rx rp rh cx cp ch hm hi h1 h8 hx hp hh h2 h3 h4 h5
  go_enter Try.func13, Try.ntmps13
  go_wp2_with fail
  refine (PQ.kalman_may.calls 1000 n 1 A1 c1 lx n n A2 c2 lp 1 n A3 c3 lh r 0 _ (RX.out.below N.out.be) CX.out (RP.out.below N.out.be) CP.out (RH.out.below N.out.be) CH.out HM.out).mono ?_
  rintro e w1 ⟨rfl, hb⟩
  have N1 := Lib.hid (N.out.below hb)
  have y0 := N1.out.r0.cell
  have y1 := N1.out.r1.cell
  have t0 := N1.out.r0.lt
  have t1 := N1.out.r1.lt
  clear hb N
  have G1 := Lib.hid (Row.new w1 77 #[.bool false])
  have N2 := Lib.hid (N1.out.alloc (.cells #[.bool false] 77))
  have GE : Hid (w.heap.size + 3 ≤ w1.heap.size) := Lib.hid (by have h := N1.out.rows.le N1.out.be.size; simpa using h)
  have FX : Hid (∀ ad, A1 = some ad → 0 < lx.length → ad.block ≠ w1.heap.size) := Lib.hid (fun ad e hp => by have h1 := Rd.blk RX.out ad e hp; have h2 := GE.out; omega)
  have FP : Hid (∀ ad, A2 = some ad → 0 < lp.length → ad.block ≠ w1.heap.size) := Lib.hid (fun ad e hp => by have h1 := Rd.blk RP.out ad e hp; have h2 := GE.out; omega)
  have FH : Hid (∀ ad, A3 = some ad → 0 < lh.length → ad.block ≠ w1.heap.size) := Lib.hid (fun ad e hp => by have h1 := Rd.blk RH.out ad e hp; have h2 := GE.out; omega)
  go_wp2_with fail
  refine (kalman_work_innov.calls w1.heap.size false n 1 A1 c1 lx n n A2 c2 lp 1 n A3 c3 lh z r y s o w _ ⟨G1.out, by have h := GE.out; omega⟩ N2.out.be (RX.out.below N2.out.be) CX.out FX.out (RP.out.below N2.out.be) CP.out FP.out (RH.out.below N2.out.be) CH.out FH.out HI.out).mono ?_
  rintro e w2 ⟨rfl, hs, hb, hk⟩
  have R2 : Hid (Row w2 w1.heap.size 77 #[.bool o]) := Lib.hid hs.1
  have N3 := Lib.hid (N2.out.app (grown_of N2.out.be hb hk) (fun g e => by injection e with e; have h := GE.out; simp; omega))
  clear hs hb hk y0 y1 t0 t1
  go_wp2_with fail
  refine (mul_calls y y w2).mono ?_
  rw [H2.out]
  rintro e w3 ⟨rfl, hb⟩
  have R3 := Lib.hid (Row.below R2.out hb R2.out.lt)
  have N4 := Lib.hid (N3.out.below hb)
  clear hb
  go_wp2_with fail
  refine (one34 w1.heap.size o f1 q1 w3 R3.out).mono ?_
  rintro e w4 ⟨rfl, hr, hg⟩
  have R4 := Lib.hid hr
  have N5 := Lib.hid (N4.out.app hg (fun g e => by injection e with e; have h := GE.out; simp; omega))
  clear hr hg
  go_wp2_with fail
  refine (mul_calls gate s w4).mono ?_
  rw [H3.out]
  rintro e w5 ⟨rfl, hb⟩
  have R5 := Lib.hid (Row.below R4.out hb R4.out.lt)
  have N6 := Lib.hid (N5.out.below hb)
  clear hb
  go_wp2_with fail
  refine (one34 w1.heap.size (o || f1) f2 q2 w5 R5.out).mono ?_
  rintro e w6 ⟨rfl, hr, hg⟩
  have R6 := Lib.hid hr
  have N7 := Lib.hid (N6.out.app hg (fun g e => by injection e with e; have h := GE.out; simp; omega))
  clear hr hg
  have y0 := N7.out.r0.cell
  have y1 := N7.out.r1.cell
  go_wp2_with fail
  refine (taken_calls w w6 w1.heap.size n (o || f1 || f2) y s r A1 A2 A3 c1 c2 c3 lx lp lh _ _ _ _ _ _ _ _ _ _ _ _ _ _ _ _ _ _ _ _ _ _ _ HT.out.1.1 HT.out.1.2 HT.out.2.1 HT.out.2.2.1 HT.out.2.2.2 (track_of n lx lp lh (o || f1 || f2) y s r) R6.out (by have h := GE.out; omega) N7.out.be (RX.out.below N7.out.be) CX.out FX.out (RP.out.below N7.out.be) CP.out FP.out (RH.out.below N7.out.be) CH.out FH.out).mono ?_
  rintro e w7 ⟨Ax, dx, Ap, dp, rfl, ox, op, hne, hr, hg⟩
  have N8 := Lib.hid (N7.out.app hg (fun g e => by injection e with e; have h := GE.out; simp; omega))
  have R8 := Lib.hid hr
  have OX := Lib.hid ox
  have OP := Lib.hid op
  have NE := Lib.hid hne
  have BE : Hid (w.heap.size + 3 ≤ w6.heap.size) := Lib.hid (by have h := N7.out.rows.le N7.out.be.size; simpa using h)
  obtain ⟨X, hX⟩ : ∃ X, tX n lx lp lh y s = X := ⟨_, rfl⟩
  obtain ⟨P, hP⟩ : ∃ P, tP n lp lh s r = P := ⟨_, rfl⟩
  obtain ⟨fl, hfl⟩ : ∃ fl, tB n lx lp lh y s r (o || f1 || f2) = fl := ⟨_, rfl⟩
  have R8' : Hid (Row w7 w1.heap.size 77 #[.bool fl]) := Lib.hid (by rw [← hfl]; exact R8.out)
  have HX := Lib.hid hX
  have HP := Lib.hid hP
  have HFL := Lib.hid hfl
  rw [hX] at OX NE ⊢
  rw [hP] at OP NE ⊢
  clear hX hP hfl R8 ox op hne hr hg y0 y1 N1 N2 N3 N4 N5 N6 N7 R2 R3 R4 R5 R6
  have N9 := Lib.hid (N8.out.alloc (.cells #[I n, I 1, .slice Ax X.length dx, I n, I n, .slice Ap P.length dp] 28))
  have R9 := Lib.hid (Row.alloc R8'.out (.cells #[I n, I 1, .slice Ax X.length dx, I n, I n, .slice Ap P.length dp] 28))
  have T9 := Lib.hid (Row.new w7 28 #[I n, I 1, .slice Ax X.length dx, I n, I n, .slice Ap P.length dp])
  have OX9 := Lib.hid (OX.out.alloc (.cells #[I n, I 1, .slice Ax X.length dx, I n, I n, .slice Ap P.length dp] 28))
  have OP9 := Lib.hid (OP.out.alloc (.cells #[I n, I 1, .slice Ax X.length dx, I n, I n, .slice Ap P.length dp] 28))
  have BF : Hid (w.heap.size + 3 ≤ w7.heap.size ∧ w.heap.size + 3 ≤ w1.heap.size) := Lib.hid ⟨by have h := N8.out.rows.le N8.out.be.size; simpa using h, GE.out⟩
  go_wp2_with fail
  obtain ⟨w8, hw8⟩ : ∃ w8, w7.alloc (.cells #[I n, I 1, .slice Ax X.length dx, I n, I n, .slice Ap P.length dp] 28) = w8 := ⟨_, rfl⟩
  rw [hw8] at N9 R9 T9 OX9 OP9
  change Code.wp Try.prog _ _ _ (w7.alloc (.cells #[I n, I 1, .slice Ax X.length dx, I n, I n, .slice Ap P.length dp] 28))
  rw [hw8]
  clear hw8
  have x2 := N9.out.r2.cell
  have g2 := N9.out.r2.free
  have KS : Hid (∀ w', Row w' w7.heap.size 28 #[I n, I 1, .slice Ax X.length dx, I n, I n, .slice Ap P.length dp] → Row w' w1.heap.size 77 #[.bool fl] → (∀ o, w'.cell? ⟨w7.heap.size, o, none⟩ = #[I n, I 1, .slice Ax X.length dx, I n, I n, .slice Ap P.length dp][o]?) ∧ (∀ o, w'.cell? ⟨w1.heap.size, o, none⟩ = #[.bool fl][o]?)) := Lib.hid (fun w' a b => ⟨a.cell, b.cell⟩)
  go_region_held3 (fun w' => (∀ o, w'.cell? ⟨w7.heap.size, o, none⟩ = #[I n, I 1, .slice Ax X.length dx, I n, I n, .slice Ap P.length dp][o]?) ∧ (∀ o, w'.cell? ⟨w1.heap.size, o, none⟩ = #[.bool fl][o]?))
    (first | with_reducible exact KS.out _ T9.out.drew R9.out.drew | with_reducible exact KS.out _ (Row.drew (Row.far6 T9.out (C := w.heap.size + 1 + 1) (by have h := BF.out; omega) _ _ _ _ _ _)) (Row.drew (Row.far6 R9.out (C := w.heap.size + 1 + 1) (by have h := BF.out; omega) _ _ _ _ _ _)))
    (fail)
  go_wp2
  have zb := BF.out
  have zc := BE.out
  refine bodyPost_ret (res6ttt rfl rfl (Row.drew (Row.fill6 N9.out.r2 _ _ _ _ _ _))) rfl ?_
  rw [HX.out, HP.out, HFL.out]
  refine ⟨_, _, _, _, rfl, ?_, ?_, NE.out, ?_⟩
  · exact ((Own.fill6 OX9.out (by omega) _ _ _ _ _ _).drew).lower (by omega)
  · exact ((Own.fill6 OP9.out (by omega) _ _ _ _ _ _).drew).lower (by omega)
  · have hbb := N9.out.be
    exact ((((((hbb.setCell (p := ⟨w.heap.size + 1 + 1, 0, none⟩) (by dsimp only; omega) _).setCell (p := ⟨w.heap.size + 1 + 1, 1, none⟩) (by dsimp only; omega) _).setCell (p := ⟨w.heap.size + 1 + 1, 2, none⟩) (by dsimp only; omega) _).setCell (p := ⟨w.heap.size + 1 + 1, 3, none⟩) (by dsimp only; omega) _).setCell (p := ⟨w.heap.size + 1 + 1, 4, none⟩) (by dsimp only; omega) _).setCell (p := ⟨w.heap.size + 1 + 1, 5, none⟩) (by dsimp only; omega) _).drew
end Go.Proofs.Ytninmcmajbfccaa.PR

/- Layers 3 and 5: what the document's functions say, plainly. -/
namespace Go.Proofs.Ytninmcmajbfccaa.PR
open Go.RowKit Go.Proofs.Ytninmcmajbfccaa.PQ Go.Proofs.YtninmcmajbfccaaW.PrintWords Go.Proofs.YtninmcmajbfccaaW.PrintLast Go.Proofs.YtninmcmajbfccaaW.PrintMore Go.Proofs.Ytninmcmajbfccaa.KK
set_option linter.unusedVariables false
set_option linter.unusedSimpArgs false
theorem in_odd (a : Int) : alidaderef01_In.f a = some (!oddQ a) := by
  rw [in_f]
  unfold oddQ
  congr 1
  by_cases h1 : a < -70368744177664
  · simp [h1]
    try omega
  · by_cases h2 : a > 70368744177663
    · simp [h1, h2]
      try omega
    · simp [h1, h2]
      try omega
theorem drop_any {l : List Int} {j : Nat} (h : j < l.length) : (l.drop j).any oddQ = (oddQ (l.getD j 0) || (l.drop (j + 1)).any oddQ) := by
  rw [List.drop_eq_getElem_cons h, List.any_cons]
  congr 2
  rw [List.getD_eq_getElem?_getD, List.getElem?_eq_getElem h]; rfl
theorem refRight_loop (r c : Int) (l : List Int) (hl : l.length ≤ 1000000) : ∀ (d j : Nat), j + d = l.length → alidaderef03_Right.l0 (d + 1) j r c l = some (!(l.drop j).any oddQ) := by
  intro d
  induction d with
  | zero =>
    intro j hj
    obtain rfl : j = l.length := by omega
    unfold alidaderef03_Right.l0
    rw [if_neg (by omega)]
    simp
  | succ d ih =>
    intro j hj
    have hlt : j < l.length := by omega
    have e1 : wrap64 ((j : Int) + 1) = ((j + 1 : Nat) : Int) := by rw [w64 (by omega) (by omega)]; push_cast; rfl
    have e2 : rd l (j : Int) = l.getD j 0 := by unfold rd; rw [Int.toNat_natCast]
    unfold alidaderef03_Right.l0
    rw [if_pos (by omega), if_pos (by omega), e2, in_odd, drop_any hlt]
    simp only [Option.bind_some]
    cases ho : oddQ (l.getD j 0)
    · simp only [Bool.not_false, if_true, e1, ih (j + 1) (by omega), Bool.false_or]
    · simp
theorem refRight_ev (r c : Int) (l : List Int) : ∃ k, alidaderef03_Right.f k r c l = some (rightM r c l) := by
  unfold alidaderef03_Right.f rightM
  by_cases h0 : r < 1
  · exact ⟨1, by rw [if_pos h0]; unfold alidaderef03_Right.j0; (try simp); (try omega)⟩
  simp only [if_neg h0]
  by_cases h1 : r > 8
  · exact ⟨1, by rw [if_pos h1]; unfold alidaderef03_Right.j0; (try simp); (try omega)⟩
  simp only [if_neg h1]
  by_cases h2 : c < 1
  · exact ⟨1, by rw [if_pos h2]; unfold alidaderef03_Right.j0; (try simp); (try omega)⟩
  simp only [if_neg h2]
  by_cases h3 : c > 8
  · exact ⟨1, by rw [if_pos h3]; unfold alidaderef03_Right.j0; (try simp); (try omega)⟩
  simp only [if_neg h3]
  by_cases h4 : (l.length : Int) = wrap64 (r * c)
  · have b0 : 0 ≤ r * c := Int.mul_nonneg (by omega) (by omega)
    have b1 : r * c ≤ 8 * c := Int.mul_le_mul_of_nonneg_right (by omega) (by omega)
    have hl : l.length ≤ 1000000 := by
      rw [w64 (by omega) (by omega)] at h4
      omega
    refine ⟨l.length + 2, ?_⟩
    have e : ((l.length : Int) != wrap64 (r * c)) = false := by simp [h4]
    unfold alidaderef03_Right.j0
    rw [e]
    simp only [Bool.false_eq_true, if_false]
    have := refRight_loop r c l hl l.length 0 (by omega)
    simp only [List.drop_zero] at this
    rw [show ((0 : Nat) : Int) = 0 from rfl] at this
    rw [this]
    have d0 : decide (r ≥ 1) = true := decide_eq_true (by omega)
    have d1 : decide (r ≤ 8) = true := decide_eq_true (by omega)
    have d2 : decide (c ≥ 1) = true := decide_eq_true (by omega)
    have d3 : decide (c ≤ 8) = true := decide_eq_true (by omega)
    have d4 : ((l.length : Int) == wrap64 (r * c)) = true := by simpa using h4
    simp [d0, d1, d2, d3, d4]
  · refine ⟨1, ?_⟩
    have e : ((l.length : Int) != wrap64 (r * c)) = true := by simpa using h4
    have e2 : ((l.length : Int) == wrap64 (r * c)) = false := by simpa using h4
    unfold alidaderef03_Right.j0
    simp [e, e2]
theorem refRight_calls (r c : Int) (A : Option Addr) (cp : Nat) (l : List Int) (w : World) (hA : Rd w A l) (hc : l.length ≤ cp) : Calls Try.prog 14 #[.agg #[I r, I c, .slice A l.length cp]] w fun e w' => e = .returned (.bool (rightM r c l)) ∧ Below w.heap.size w w' := by
  obtain ⟨k, hk⟩ := refRight_ev r c l
  exact alidaderef03_Right.calls k r c A cp l _ w hA hc hk
end Go.Proofs.Ytninmcmajbfccaa.PR

/- Layers 3 and 5: what the document's Even, Good, None and Same say, plainly. -/
namespace Go.Proofs.Ytninmcmajbfccaa.PR
open Go.RowKit Go.Proofs.Ytninmcmajbfccaa.PQ Go.Proofs.YtninmcmajbfccaaW.PrintWords Go.Proofs.YtninmcmajbfccaaW.PrintLast Go.Proofs.YtninmcmajbfccaaW.PrintMore Go.Proofs.Ytninmcmajbfccaa.KK
set_option linter.unusedVariables false
set_option linter.unusedSimpArgs false
theorem i64_and1 (n : Int) : Go.bits .and .i64 n 1 = n % 2 := by
  have h1 : (BitVec.ofInt 64 1).toNat = 2 ^ 1 - 1 := by decide
  have key : (BitVec.ofInt 64 n &&& BitVec.ofInt 64 1).toNat = (n % ((2 ^ 64 : Nat) : Int)).toNat % 2 ^ 1 := by
    rw [BitVec.toNat_and, BitVec.toNat_ofInt, h1, Nat.and_two_pow_sub_one_eq_mod]
  show IntKind.i64.wrap ((BitVec.ofInt 64 n &&& BitVec.ofInt 64 1).toNat : Nat) = n % 2
  rw [key, IntKind.wrap_i64]
  omega
/-- Half of a number, ties to even. -/
def hv (a : Int) : Int := if a % 2 = 0 then a / 2 else if a / 2 % 2 = 0 then a / 2 else a / 2 + 1
theorem tdiv2 (a : Int) : Int.tdiv a 2 = if 0 ≤ a then a / 2 else -((-a) / 2) := by
  split
  · exact Int.tdiv_eq_ediv_of_nonneg ‹_›
  · rw [show a = -(-a) by omega, Int.neg_tdiv, Int.tdiv_eq_ediv_of_nonneg (by omega), Int.neg_neg]
theorem tmod2 (a : Int) : Int.tmod a 2 = if 0 ≤ a then a % 2 else -((-a) % 2) := by
  split
  · exact Int.tmod_eq_emod_of_nonneg ‹_›
  · rw [show a = -(-a) by omega, Int.neg_tmod, Int.tmod_eq_emod_of_nonneg (by omega), Int.neg_neg]
theorem ref_half (a : Int) (h0 : -1000000000000000 ≤ a) (h1 : a ≤ 1000000000000000) : Ev (fun k => alidaderef01_Half.f k a 1) (hv a) := by
  refine Ev.of (alidaderef01_Half.mono a 1) (k := 3) ?_
  unfold alidaderef01_Half.f
  rw [if_neg (by omega), if_neg (by omega)]
  show alidaderef01_Half.l0 2 a 1 1 0 = _
  unfold alidaderef01_Half.l0
  rw [if_pos (by omega), show wrap64 (1 * 2) = 2 from w64 (n := 2) (by omega) (by omega), show wrap64 (0 + 1) = 1 from w64 (n := 1) (by omega) (by omega)]
  unfold alidaderef01_Half.l0
  rw [if_neg (by omega), if_neg (by omega)]
  have e1 := tdiv2 a
  have e2 := tmod2 a
  have e3 : wrap64 (Int.tdiv 2 2) = 1 := w64 (n := 1) (by omega) (by omega)
  have e4 : wrap64 (Int.tdiv a 2) = Int.tdiv a 2 := w64 (by rw [e1]; split <;> omega) (by rw [e1]; split <;> omega)
  have e5 : wrap64 (Int.tdiv a 2 - 1) = Int.tdiv a 2 - 1 := w64 (by rw [e1]; split <;> omega) (by rw [e1]; split <;> omega)
  have e6 : wrap64 (Int.tdiv a 2 + 1) = Int.tdiv a 2 + 1 := w64 (by rw [e1]; split <;> omega) (by rw [e1]; split <;> omega)
  have e7 : wrap64 (Int.tmod a 2 + 2) = Int.tmod a 2 + 2 := w64 (by rw [e2]; split <;> omega) (by rw [e2]; split <;> omega)
  have e8 : wrap64 (Int.tdiv a 2 - 1 + 1) = Int.tdiv a 2 - 1 + 1 := w64 (by rw [e1]; split <;> omega) (by rw [e1]; split <;> omega)
  rw [e3, e4, e5, e6, e7, e8, tmod2 (Int.tdiv a 2 - 1), tmod2 (Int.tdiv a 2), e1, e2]
  unfold hv
  by_cases hp : 0 ≤ a
  · simp only [if_pos hp]
    repeat' split
    all_goals first | rfl | (congr 1; omega) | omega
  · simp only [if_neg hp]
    repeat' split
    all_goals first | rfl | (congr 1; omega) | omega
theorem own_half (a : Int) (h0 : -1000000000000000 ≤ a) (h1 : a ≤ 1000000000000000) : qfix_Half.f a 1 = some (hv a) := by
  have e1 : mn (mx 1 0) 62 = 1 := by decide
  unfold qfix_Half.f
  rw [e1]
  have b1 : (2 : Int) ^ (1 : Int).toNat = 2 := by decide
  have b2 : IntKind.u64.wrap (IntKind.u64.wrap 2 - 1) = 1 := by decide
  have b3 : IntKind.u64.wrap ((2 : Int) ^ ((1 : Int) - 1).toNat) = 1 := by decide
  have m : Go.bits .and .u64 (IntKind.u64.wrap a) 1 = a % 2 := by
    rw [mask1 _ (by rw [u64_wrap]; omega) (by rw [u64_wrap]; omega), u64_wrap]; omega
  rw [b1, b2, b3, m]
  rw [if_pos (by omega), if_pos (by omega), if_neg (by omega)]
  have w : wrap64 (a / 2 + 1) = a / 2 + 1 := w64 (by omega) (by omega)
  rw [w]
  have n := i64_and1 (a / 2)
  rw [n]
  unfold hv
  repeat' split
  all_goals first | rfl | (congr 1; omega) | omega
/-! ### Lists by one index -/
/-- N numbers, one by one. -/
def fl (N : Nat) (Q : Nat → Int) : List Int := (List.range N).map Q
variable {N j c : Nat} {Q Q' : Nat → Int} {q : Nat → Nat → Int} {x : Int}
theorem fl_length : (fl N Q).length = N := by simp [fl]
theorem fl_getD (h : j < N) : (fl N Q).getD j 0 = Q j := by simp [fl, List.getD_eq_getElem?_getD, h]
theorem fl_ext {l : List Int} (hl : l.length = N) (h : ∀ j, j < N → l.getD j 0 = Q j) : l = fl N Q := by
  apply List.ext_getElem?
  intro j
  by_cases hj : j < N
  · have h1 := h j hj
    rw [List.getD_eq_getElem?_getD, List.getElem?_eq_getElem (by omega)] at h1
    rw [List.getElem?_eq_getElem (by omega), List.getElem?_eq_getElem (by rw [fl_length]; exact hj)]
    simp only [Option.getD_some] at h1
    rw [h1]
    simp [fl]
  · rw [List.getElem?_eq_none (by omega), List.getElem?_eq_none (by rw [fl_length]; omega)]
theorem fl_congr (h : ∀ j, j < N → Q j = Q' j) : fl N Q = fl N Q' := fl_ext fl_length (fun j hj => by rw [fl_getD hj, h j hj])
theorem fl_set (h : j < N) : (fl N Q).set j x = fl N (fun i => if i = j then x else Q i) := by
  refine fl_ext (by rw [List.length_set, fl_length]) (fun i hi => ?_)
  rw [List.getD_eq_getElem?_getD, List.getElem?_set]
  by_cases e : i = j
  · subst e
    simp [fl_length, h]
  · rw [if_neg (by omega), if_neg e, ← List.getD_eq_getElem?_getD, fl_getD hi]
theorem dv {n i k : Nat} (hk : k < n) : (i * n + k) / n = i := by
  rw [Nat.mul_comm, Nat.mul_add_div (by omega), Nat.div_eq_of_lt hk, Nat.add_zero]
theorem md {n i k : Nat} (hk : k < n) : (i * n + k) % n = k := by
  rw [Nat.mul_comm, Nat.mul_add_mod, Nat.mod_eq_of_lt hk]
theorem upto_fl : ∀ r, upto c q r = fl (r * c) (fun j => q (j / c) (j % c)) := by
  intro r
  induction r with
  | zero => simp [upto, fl]
  | succ r ih =>
    rw [upto_succ, ih]
    refine fl_ext (by simp [fl_length, Nat.succ_mul]) (fun j hj => ?_)
    rw [Nat.succ_mul] at hj
    by_cases h : j < r * c
    · rw [List.getD_eq_getElem?_getD, List.getElem?_append_left (by rw [fl_length]; exact h), ← List.getD_eq_getElem?_getD, fl_getD h]
    · obtain ⟨k, rfl⟩ : ∃ k, j = r * c + k := ⟨j - r * c, by omega⟩
      have hk : k < c := by omega
      rw [List.getD_eq_getElem?_getD, List.getElem?_append_right (by rw [fl_length]; omega), fl_length, Nat.add_sub_cancel_left, dv hk, md hk]
      simp [hk]
/-! ### None -/
theorem none_loop (r c : Int) (N : Nat) (hN : N ≤ 1000000) (e : wrap64 (r * c) = N) : ∀ (d j : Nat), j + d = N → Ev (fun k => alidaderef03_None.l0 k r c (fl j (fun _ => 0)) j) (r, c, fl N (fun _ => 0)) := by
  intro d
  induction d with
  | zero =>
    intro j hj
    obtain rfl : j = N := by omega
    refine Ev.step (f := fun _ => some (r, c, fl j (fun _ => 0))) (fun k => ?_) (Ev.now _)
    unfold alidaderef03_None.l0
    rw [if_neg (by omega)]
  | succ d ih =>
    intro j hj
    refine Ev.step (fun k => ?_) (ih (j + 1) (by omega))
    have e1 : wrap64 ((j : Int) + 1) = ((j + 1 : Nat) : Int) := by rw [w64 (by omega) (by omega)]; push_cast; rfl
    show (if (j : Int) < wrap64 (r * c) then (if (fl j (fun _ => 0)).length < 17592186044416 then (alidaderef03_None.l0 k r c (fl j (fun _ => 0) ++ [0]) (wrap64 ((j : Int) + 1))) else (none)) else (some (r, c, fl j (fun _ => 0)))) = _
    rw [if_pos (by omega), if_pos (by rw [fl_length]; omega), e1]
    congr 1
    simp [fl, List.range_succ]
theorem none_ev (r c : Int) (N : Nat) (hN : N ≤ 1000000) (e : wrap64 (r * c) = N) : Ev (fun k => alidaderef03_None.f k r c) (r, c, fl N (fun _ => 0)) := none_loop r c N hN e N 0 (by omega)
/-! ### Same -/
theorem same_loop (r c r' c' : Int) (l m : List Int) (hlen : l.length = m.length) (hl : l.length ≤ 1000000) : ∀ (d j : Nat), j + d = l.length → Ev (fun k => alidaderef03_Same.l0 k j r c l r' c' m) (decide (l.drop j = m.drop j)) := by
  intro d
  induction d with
  | zero =>
    intro j hj
    refine Ev.step (f := fun _ => some true) (fun k => ?_) ?_
    · unfold alidaderef03_Same.l0
      rw [if_neg (by omega)]
    · have : decide (l.drop j = m.drop j) = true := by
        rw [List.drop_eq_nil_of_le (by omega), List.drop_eq_nil_of_le (by omega)]; rfl
      rw [this]
      exact Ev.now _
  | succ d ih =>
    intro j hj
    have e1 : wrap64 ((j : Int) + 1) = ((j + 1 : Nat) : Int) := by rw [w64 (by omega) (by omega)]; push_cast; rfl
    have h1 : j < l.length := by omega
    have h2 : j < m.length := by omega
    have r1 : rd l (j : Int) = l[j] := by unfold rd; rw [Int.toNat_natCast, List.getD_eq_getElem?_getD, List.getElem?_eq_getElem h1]; rfl
    have r2 : rd m (j : Int) = m[j] := by unfold rd; rw [Int.toNat_natCast, List.getD_eq_getElem?_getD, List.getElem?_eq_getElem h2]; rfl
    have ed : decide (l.drop j = m.drop j) = (decide (l[j] = m[j]) && decide (l.drop (j + 1) = m.drop (j + 1))) := by
      rw [List.drop_eq_getElem_cons h1, List.drop_eq_getElem_cons h2, ← Bool.decide_and]
      congr 1
      rw [List.cons.injEq]
    rw [ed]
    by_cases hx : l[j] = m[j]
    · rw [decide_eq_true hx, Bool.true_and]
      refine Ev.step (fun k => ?_) (ih (j + 1) (by omega))
      show (if (j : Int) < (l.length : Int) then (if 0 ≤ (j : Int) then (if (j : Int) < (m.length : Int) then (if (rd l j) = (rd m j) then (alidaderef03_Same.l0 k (wrap64 ((j : Int) + 1)) r c l r' c' m) else (some false)) else (none)) else (none)) else (some true)) = _
      rw [if_pos (by omega), if_pos (by omega), if_pos (by omega), r1, r2, if_pos hx, e1]
    · rw [decide_eq_false hx, Bool.false_and]
      refine Ev.step (f := fun _ => some false) (fun k => ?_) (Ev.now _)
      show (if (j : Int) < (l.length : Int) then (if 0 ≤ (j : Int) then (if (j : Int) < (m.length : Int) then (if (rd l j) = (rd m j) then (alidaderef03_Same.l0 k (wrap64 ((j : Int) + 1)) r c l r' c' m) else (some false)) else (none)) else (none)) else (some true)) = _
      rw [if_pos (by omega), if_pos (by omega), if_pos (by omega), r1, r2, if_neg hx]
theorem same_ev (r c r' c' : Int) (l m : List Int) (hl : l.length ≤ 1000000) : Ev (fun k => alidaderef03_Same.f k r c l r' c' m) (decide (r = r' ∧ c = c' ∧ l = m)) := by
  have T : ∀ v : Bool, Ev (fun k => alidaderef03_Same.j0 k true r c l r' c' m) false := fun _ => by
    exact Ev.step (f := fun _ => some false) (fun k => rfl) (Ev.now _)
  unfold alidaderef03_Same.f
  by_cases h1 : r = r'
  · by_cases h2 : c = c'
    · simp only [if_pos h1, if_pos h2]
      by_cases h3 : l.length = m.length
      · have e : ((l.length : Int) != (m.length : Int)) = false := by simp [h3]
        rw [e]
        have := same_loop r c r' c' l m h3 hl l.length 0 (by omega)
        simp only [List.drop_zero] at this
        have ed : decide (r = r' ∧ c = c' ∧ l = m) = decide (l = m) := by simp [h1, h2]
        rw [ed]
        exact Ev.step (fun k => rfl) this
      · have e : ((l.length : Int) != (m.length : Int)) = true := by simp; omega
        rw [e]
        have ed : decide (r = r' ∧ c = c' ∧ l = m) = false := by
          refine decide_eq_false (fun h => h3 (by rw [h.2.2]))
        rw [ed]
        exact T true
    · simp only [if_pos h1, if_neg h2]
      have ed : decide (r = r' ∧ c = c' ∧ l = m) = false := decide_eq_false (fun h => h2 h.2.1)
      rw [ed]
      exact T true
  · simp only [if_neg h1]
    have ed : decide (r = r' ∧ c = c' ∧ l = m) = false := decide_eq_false (fun h => h1 h.1)
    rw [ed]
    exact T true
end Go.Proofs.Ytninmcmajbfccaa.PR

/- Layers 3 and 5: what the document's Even and Good say, plainly. -/
namespace Go.Proofs.Ytninmcmajbfccaa.PR
open Go.RowKit Go.Proofs.Ytninmcmajbfccaa.PQ Go.Proofs.YtninmcmajbfccaaW.PrintWords Go.Proofs.YtninmcmajbfccaaW.PrintLast Go.Proofs.YtninmcmajbfccaaW.PrintMore Go.Proofs.Ytninmcmajbfccaa.KK
set_option linter.unusedVariables false
set_option linter.unusedSimpArgs false
/-- The place across. -/
def ac (n m : Nat) : Nat := (m % n) * n + m / n
/-- A number of what is even. -/
def eQ (n : Nat) (l : List Int) (m : Nat) : Int := hv (l.getD m 0 + l.getD (ac n m) 0)
/-- A number of what is good. -/
def gQ (n : Nat) (l : List Int) (m : Nat) : Int := if m / n = m % n ∧ eQ n l m < 0 then 0 else eQ n l m
def goodF (n : Nat) (l : List Int) : List Int := fl (n * n) (gQ n l)
/-- All numbers are in range. -/
def inR (l : List Int) : Prop := ∀ j, -70368744177664 ≤ l.getD j 0 ∧ l.getD j 0 ≤ 70368744177663
theorem sq8 {n : Nat} (h : n ≤ 8) : n * n ≤ 64 := Nat.mul_le_mul h h
theorem at_idx {n i j : Nat} (h8 : n ≤ 8) (hi : i < n) (hj : j < n) : wrap64 (wrap64 ((i : Int) * (n : Int)) + (j : Int)) = ((i * n + j : Nat) : Int) := by
  have h1 := idx_lt (c := n) hi hj
  have h2 := sq8 h8
  have e : (i : Int) * (n : Int) = ((i * n : Nat) : Int) := by push_cast; rfl
  rw [e, w64 (n := ((i * n : Nat) : Int)) (by omega) (by omega), w64 (by omega) (by omega)]
  push_cast; rfl
theorem w_succ {i : Nat} (h : i ≤ 1000000) : wrap64 ((i : Int) + 1) = ((i + 1 : Nat) : Int) := by rw [w64 (by omega) (by omega)]; push_cast; rfl
theorem rd_nat {l : List Int} {j : Nat} : rd l (j : Int) = l.getD j 0 := by unfold rd; rw [Int.toNat_natCast]
theorem even_row (n : Nat) (l : List Int) (h8 : n ≤ 8) (hl : l.length = n * n) (hr : inR l) (V : Int × Int × List Int × Bool × Int) (i : Nat) (hi : i < n)
    (next : Ev (fun k => alidaderef03_Even.l0 k ((i + 1 : Nat) : Int) n n l n n (fl (n * n) (fun m => if m < (i + 1) * n then eQ n l m else 0))) V) :
    ∀ (d j : Nat), j + d = n → Ev (fun k => alidaderef03_Even.l1 k i j n n l n n (fl (n * n) (fun m => if m < i * n + j then eQ n l m else 0))) V := by
  intro d
  induction d with
  | zero =>
    intro j hj
    obtain rfl : j = n := by omega
    refine Ev.step (fun k => ?_) next
    unfold alidaderef03_Even.l1
    rw [if_neg (by omega), w_succ (by omega), Nat.succ_mul]
  | succ d ih =>
    intro j hj
    have hjn : j < n := by omega
    have h1 := idx_lt (c := n) hi hjn
    have h2 := idx_lt (c := n) hjn hi
    have h3 := hr (i * n + j)
    have h4 := hr (j * n + i)
    refine Ev.step (f := fun k => (alidaderef01_Half.f k (l.getD (i * n + j) 0 + l.getD (j * n + i) 0) 1).bind fun t => alidaderef03_Even.l1 k i ((j + 1 : Nat) : Int) n n l n n ((fl (n * n) (fun m => if m < i * n + j then eQ n l m else 0)).set (i * n + j) t)) (fun k => ?_) ?_
    · conv => lhs; unfold alidaderef03_Even.l1
      rw [if_pos (by omega), at_idx h8 hi hjn, at_idx h8 hjn hi, if_pos (by omega), if_pos (by omega), if_pos (by omega), if_pos (by omega), rd_nat, rd_nat, w64 (by omega) (by omega), w_succ (by omega), fl_length]
      congr 1
      funext t
      rw [if_pos (by omega), Int.toNat_natCast]
    · refine Ev.bind (ref_half _ (by omega) (by omega)) ?_
      have e : (fl (n * n) (fun m => if m < i * n + j then eQ n l m else 0)).set (i * n + j) (hv (l.getD (i * n + j) 0 + l.getD (j * n + i) 0)) = fl (n * n) (fun m => if m < i * n + (j + 1) then eQ n l m else 0) := by
        rw [fl_set h1]
        refine fl_congr (fun m hm => ?_)
        by_cases e : m = i * n + j
        · subst e
          rw [if_pos rfl, if_pos (by omega), eQ, ac, dv hjn, md hjn]
        · rw [if_neg e]
          by_cases e2 : m < i * n + j
          · rw [if_pos e2, if_pos (by omega)]
          · rw [if_neg e2, if_neg (by omega)]
      rw [e]
      exact ih (j + 1) (by omega)
theorem even_loop (n : Nat) (l : List Int) (h8 : n ≤ 8) (hl : l.length = n * n) (hr : inR l) : ∀ (d i : Nat), i + d = n → Ev (fun k => alidaderef03_Even.l0 k i n n l n n (fl (n * n) (fun m => if m < i * n then eQ n l m else 0))) ((n : Int), (n : Int), fl (n * n) (eQ n l), false, (0 : Int)) := by
  intro d
  induction d with
  | zero =>
    intro i hi
    obtain rfl : i = n := by omega
    refine Ev.step (f := fun _ => some ((i : Int), (i : Int), fl (i * i) (eQ i l), false, (0 : Int))) (fun k => ?_) (Ev.now _)
    conv => lhs; unfold alidaderef03_Even.l0
    rw [if_neg (by omega)]
    congr 3
    rw [fl_congr (Q := fun m => if m < i * i then eQ i l m else 0) (Q' := eQ i l) (fun m hm => by rw [if_pos hm])]
  | succ d ih =>
    intro i hi
    have h := even_row n l h8 hl hr _ i (by omega) (ih (i + 1) (by omega)) n 0 (by omega)
    refine Ev.step (fun k => ?_) h
    conv => lhs; unfold alidaderef03_Even.l0
    rw [if_pos (by omega)]
    rfl
theorem ref_even (n : Nat) (l : List Int) (h8 : n ≤ 8) (hl : l.length = n * n) (hr : inR l) : Ev (fun k => alidaderef03_Even.f k n n l) ((n : Int), (n : Int), fl (n * n) (eQ n l), false, (0 : Int)) := by
  unfold alidaderef03_Even.f
  simp only [if_true]
  have h2 := sq8 h8
  refine Ev.bind (none_ev n n (n * n) (by omega) (by rw [w64 (by rw [← Int.natCast_mul]; omega) (by rw [← Int.natCast_mul]; omega)]; push_cast; rfl)) ?_
  have h := even_loop n l h8 hl hr n 0 (by omega)
  refine Ev.congr (fun k => ?_) h
  show alidaderef03_Even.l0 k 0 n n l n n (fl (n * n) (fun _ => 0)) = _
  rw [fl_congr (Q := fun _ => 0) (Q' := fun m => if m < 0 * n then eQ n l m else 0) (fun m hm => by rw [if_neg (by omega)])]
  rfl
end Go.Proofs.Ytninmcmajbfccaa.PR

/- Layers 3 and 5: what is good, plainly, of the document and of the program. -/
namespace Go.Proofs.Ytninmcmajbfccaa.PR
open Go.RowKit Go.Proofs.Ytninmcmajbfccaa.PQ Go.Proofs.YtninmcmajbfccaaW.PrintWords Go.Proofs.YtninmcmajbfccaaW.PrintLast Go.Proofs.YtninmcmajbfccaaW.PrintMore Go.Proofs.Ytninmcmajbfccaa.KK
set_option linter.unusedVariables false
set_option linter.unusedSimpArgs false
/-- Good up to a row. -/
def gTo (n : Nat) (l : List Int) (i m : Nat) : Int := if m / n = m % n ∧ m / n < i ∧ eQ n l m < 0 then 0 else eQ n l m
theorem gTo_succ {n : Nat} {l : List Int} {i m : Nat} (hi : i < n) : gTo n l (i + 1) m = if m = i * n + i then (if eQ n l m < 0 then 0 else eQ n l m) else gTo n l i m := by
  by_cases e : m = i * n + i
  · subst e
    rw [if_pos rfl, gTo, dv hi, md hi]
    by_cases h : eQ n l (i * n + i) < 0
    · rw [if_pos ⟨rfl, by omega, h⟩, if_pos h]
    · rw [if_neg (fun x => h x.2.2), if_neg h]
  · rw [if_neg e, gTo, gTo]
    have hd := Nat.div_add_mod m n
    by_cases h : m / n = m % n ∧ m / n < i ∧ eQ n l m < 0
    · rw [if_pos h, if_pos ⟨h.1, by omega, h.2.2⟩]
    · rw [if_neg h, if_neg]
      rintro ⟨a, b, c⟩
      refine h ⟨a, ?_, c⟩
      rcases Nat.lt_or_ge (m / n) i with h1 | h1
      · exact h1
      · have h2 : m / n = i := by omega
        rw [h2] at a hd
        rw [← a, Nat.mul_comm] at hd
        exact absurd hd.symm e
theorem ref_good_loop (n : Nat) (l : List Int) (h8 : n ≤ 8) : ∀ (d i : Nat), i + d = n → Ev (fun k => alidaderef05_Good.l0 k i n n (fl (n * n) (gTo n l i))) ((n : Int), (n : Int), goodF n l) := by
  intro d
  induction d with
  | zero =>
    intro i hi
    obtain rfl : i = n := by omega
    refine Ev.step (f := fun _ => some ((i : Int), (i : Int), goodF i l)) (fun k => ?_) (Ev.now _)
    conv => lhs; unfold alidaderef05_Good.l0
    rw [if_neg (by omega)]
    unfold goodF
    congr 3
    refine fl_congr (fun m hm => ?_)
    have h1 : m / i < i := Nat.div_lt_of_lt_mul hm
    unfold gTo gQ
    simp only [h1, true_and]
  | succ d ih =>
    intro i hi
    have hin : i < n := by omega
    have h1 := idx_lt (c := n) hin hin
    have h2 := sq8 h8
    have E0 : gTo n l i (i * n + i) = eQ n l (i * n + i) := by
      unfold gTo
      rw [if_neg (fun x => by have := x.2.1; rw [dv hin] at this; omega)]
    by_cases hx : eQ n l (i * n + i) < 0
    · refine Ev.step (fun k => ?_) (ih (i + 1) (by omega))
      conv => lhs; unfold alidaderef05_Good.l0
      rw [if_pos (by omega), at_idx h8 hin hin, fl_length, if_pos (by omega), if_pos (by omega), rd_nat, fl_getD h1, E0, if_pos hx, w_succ (by omega), Int.toNat_natCast, fl_set h1]
      congr 1
      refine fl_congr (fun m hm => ?_)
      rw [gTo_succ hin]
      by_cases e : m = i * n + i
      · rw [if_pos e, if_pos e, e, if_pos hx]
      · rw [if_neg e, if_neg e]
    · refine Ev.step (fun k => ?_) (ih (i + 1) (by omega))
      conv => lhs; unfold alidaderef05_Good.l0
      rw [if_pos (by omega), at_idx h8 hin hin, fl_length, if_pos (by omega), if_pos (by omega), rd_nat, fl_getD h1, E0, if_neg hx, w_succ (by omega)]
      congr 1
      refine fl_congr (fun m hm => ?_)
      rw [gTo_succ hin]
      by_cases e : m = i * n + i
      · rw [if_pos e, e, if_neg hx, E0]
      · rw [if_neg e]
theorem ref_good (n : Nat) (l : List Int) (h8 : n ≤ 8) (hl : l.length = n * n) (hr : inR l) : Ev (fun k => alidaderef05_Good.f k n n l) ((n : Int), (n : Int), goodF n l) := by
  unfold alidaderef05_Good.f
  refine Ev.bind (ref_even n l h8 hl hr) ?_
  refine Ev.congr (fun k => ?_) (ref_good_loop n l h8 n 0 (by omega))
  show alidaderef05_Good.l0 k 0 n n (fl (n * n) (eQ n l)) = _
  rw [fl_congr (Q := eQ n l) (Q' := gTo n l 0) (fun m hm => by unfold gTo; rw [if_neg (fun x => by have := x.2.1; omega)])]
  rfl
/-! ### The program's -/
theorem ac_lt {n m : Nat} (h : m < n * n) : ac n m < n * n := by
  have h0 : 0 < n := by rcases Nat.eq_zero_or_pos n with e | e; (subst e; omega); exact e
  exact idx_lt (c := n) (Nat.mod_lt m h0) (Nat.div_lt_of_lt_mul h)
theorem ac_ac {n m : Nat} (h : m < n * n) : ac n (ac n m) = m := by
  have h1 : m / n < n := Nat.div_lt_of_lt_mul h
  have h2 := Nat.div_add_mod m n
  unfold ac
  rw [dv h1, md h1, Nat.mul_comm]
  exact h2
theorem halfZ_hv {a b : Int} (h0 : -1000000000000000 ≤ a + b) (h1 : a + b ≤ 1000000000000000) : halfZ a b = (hv (a + b), false) := by
  unfold halfZ
  rw [w64 (by omega) (by omega), own_half _ h0 h1]
  rfl
theorem trL_fl (n : Nat) (l : List Int) : trL n n l = fl (n * n) (fun m => l.getD (ac n m) 0) := upto_fl n
theorem evenL_fl (n : Nat) (l : List Int) (hl : l.length = n * n) (hr : inR l) : evenL n l = fl (n * n) (eQ n l) := by
  unfold evenL eachL
  rw [upto_fl]
  refine fl_congr (fun m hm => ?_)
  have e : m / n * n + m % n = m := by rw [Nat.mul_comm]; exact Nat.div_add_mod m n
  have h3 := hr m
  have h4 := hr (ac n m)
  rw [e, trL_fl, fl_getD hm, halfZ_hv (by omega) (by omega)]
  rfl
theorem goodTo_fl (n : Nat) (l : List Int) : ∀ i, i ≤ n → goodTo n (fl (n * n) (eQ n l)) i = fl (n * n) (gTo n l i) := by
  intro i
  induction i with
  | zero =>
    intro _
    unfold goodTo
    exact fl_congr (fun m hm => by unfold gTo; rw [if_neg (fun x => by have := x.2.1; omega)])
  | succ i ih =>
    intro hi
    have hin : i < n := hi
    have h1 := idx_lt (c := n) hin hin
    have E0 : gTo n l i (i * n + i) = eQ n l (i * n + i) := by
      unfold gTo
      rw [if_neg (fun x => by have := x.2.1; rw [dv hin] at this; omega)]
    unfold goodTo
    rw [ih (by omega), rd_nat, fl_getD h1, E0, fl_set h1]
    refine fl_congr (fun m hm => ?_)
    rw [gTo_succ hin]
    by_cases e : m = i * n + i
    · rw [if_pos e, if_pos e, e]
      unfold mx
      repeat' split
      all_goals omega
    · rw [if_neg e, if_neg e]
theorem goodL_fl (n : Nat) (l : List Int) (hl : l.length = n * n) (hr : inR l) : goodL n l = goodF n l := by
  unfold goodL goodF
  rw [evenL_fl n l hl hr, goodTo_fl n l n (Nat.le_refl _)]
  refine fl_congr (fun m hm => ?_)
  have h1 : m / n < n := Nat.div_lt_of_lt_mul hm
  unfold gTo gQ
  simp only [h1, true_and]
/-! ### What is good stays -/
theorem hv_two (a : Int) : hv (a + a) = a := by unfold hv; rw [if_pos (by omega)]; omega
theorem hv_in {a : Int} (h0 : -140737488355328 ≤ a) (h1 : a ≤ 140737488355326) : -70368744177664 ≤ hv a ∧ hv a ≤ 70368744177663 := by unfold hv; repeat' split <;> omega
theorem eQ_ac {n m : Nat} {l : List Int} (h : m < n * n) : eQ n l (ac n m) = eQ n l m := by unfold eQ; rw [ac_ac h, Int.add_comm]
theorem ac_diag {n m : Nat} (h : m < n * n) (e : m / n = m % n) : ac n m = m := by
  unfold ac
  rw [← e]
  have := Nat.div_add_mod m n
  rw [← e, Nat.mul_comm] at this
  exact this
theorem ac_d {n m : Nat} (h : m < n * n) : (ac n m / n = ac n m % n) ↔ m / n = m % n := by
  have h1 : m / n < n := Nat.div_lt_of_lt_mul h
  unfold ac
  rw [dv h1, md h1]
  exact eq_comm
theorem gQ_ac {n m : Nat} {l : List Int} (h : m < n * n) : gQ n l (ac n m) = gQ n l m := by
  unfold gQ
  rw [eQ_ac h]
  by_cases e : m / n = m % n
  · rw [ac_diag h e]
  · rw [if_neg (fun x => e ((ac_d h).1 x.1)), if_neg (fun x => e x.1)]
theorem inR_fl {N : Nat} {Q : Nat → Int} (h : ∀ m, m < N → -70368744177664 ≤ Q m ∧ Q m ≤ 70368744177663) : inR (fl N Q) := fun j => by
  by_cases hj : j < N
  · rw [fl_getD hj]; exact h j hj
  · rw [List.getD_eq_getElem?_getD, List.getElem?_eq_none (by rw [fl_length]; omega)]
    simp
theorem gQ_in {n m : Nat} {l : List Int} (hr : inR l) : -70368744177664 ≤ gQ n l m ∧ gQ n l m ≤ 70368744177663 := by
  have h := hv_in (a := l.getD m 0 + l.getD (ac n m) 0) (by have := hr m; have := hr (ac n m); omega) (by have := hr m; have := hr (ac n m); omega)
  unfold gQ
  split
  · omega
  · exact h
/-- Even, and not below 0 on the diagonal. -/
def evenP (n : Nat) (l : List Int) : Prop := ∀ m, m < n * n → l.getD m 0 = l.getD (ac n m) 0 ∧ (m / n = m % n → 0 ≤ l.getD m 0)
theorem good_even (n : Nat) (l : List Int) : evenP n (goodF n l) := fun m hm => by
  unfold goodF
  rw [fl_getD hm, fl_getD (ac_lt hm), gQ_ac hm]
  refine ⟨rfl, fun e => ?_⟩
  unfold gQ
  by_cases h : eQ n l m < 0
  · rw [if_pos ⟨e, h⟩]; omega
  · rw [if_neg (fun x => h x.2)]; omega
theorem good_stays (n : Nat) (l : List Int) (hl : l.length = n * n) (h : evenP n l) : goodF n l = l := by
  refine (fl_ext hl (fun m hm => ?_)).symm
  obtain ⟨e, d⟩ := h m hm
  unfold gQ eQ
  rw [← e, hv_two, if_neg]
  rintro ⟨a, b⟩
  have := d a
  omega
theorem good_good (n : Nat) (l : List Int) : goodF n (goodF n l) = goodF n l := good_stays n _ fl_length (good_even n l)
end Go.Proofs.Ytninmcmajbfccaa.PR

/- Layer 5: which tracks are right, plainly, of the document and of the program. -/
namespace Go.Proofs.Ytninmcmajbfccaa.PR
open Go.RowKit Go.Proofs.Ytninmcmajbfccaa.PQ Go.Proofs.YtninmcmajbfccaaW.PrintWords Go.Proofs.YtninmcmajbfccaaW.PrintLast Go.Proofs.YtninmcmajbfccaaW.PrintMore Go.Proofs.Ytninmcmajbfccaa.KK
set_option linter.unusedVariables false
set_option linter.unusedSimpArgs false
instance evenP_dec (n : Nat) (l : List Int) : Decidable (evenP n l) := by unfold evenP; infer_instance
/-- A row is as its column, and doesn't begin below 0. -/
def rowP (n : Nat) (l : List Int) (a : Nat) : Prop := 0 ≤ l.getD (a * n + a) 0 ∧ ∀ b, b < a → l.getD (a * n + b) 0 = l.getD (b * n + a) 0
instance rowP_dec (n : Nat) (l : List Int) (a : Nat) : Decidable (rowP n l a) := by unfold rowP; infer_instance
theorem even_rows (n : Nat) (l : List Int) : evenP n l ↔ ∀ a, a < n → rowP n l a := by
  constructor
  · intro h a ha
    refine ⟨(h _ (idx_lt (c := n) ha ha)).2 (by rw [dv ha, md ha]), fun b hb => ?_⟩
    have := (h _ (idx_lt (c := n) ha (by omega : b < n))).1
    unfold ac at this
    rw [dv (by omega), md (by omega)] at this
    exact this
  · intro h m hm
    have h0 : 0 < n := by rcases Nat.eq_zero_or_pos n with e | e; (subst e; omega); exact e
    have ha : m / n < n := Nat.div_lt_of_lt_mul hm
    have hb : m % n < n := Nat.mod_lt m h0
    have e : m / n * n + m % n = m := by rw [Nat.mul_comm]; exact Nat.div_add_mod m n
    refine ⟨?_, fun d => ?_⟩
    · rcases Nat.lt_trichotomy (m / n) (m % n) with c | c | c
      · have := (h _ hb).2 _ c
        rw [e] at this
        exact this.symm
      · rw [ac_diag hm c]
      · have := (h _ ha).2 _ c
        rw [e] at this
        exact this
    · have := (h _ ha).1
      rwa [show m / n * n + m / n = m by rw [← d] at e; exact e] at this
/-- From a row on. -/
def fromP (n : Nat) (l : List Int) (i : Nat) : Prop := ∀ a, a < n → i ≤ a → rowP n l a
instance fromP_dec (n : Nat) (l : List Int) (a : Nat) : Decidable (fromP n l a) := by unfold fromP; infer_instance
theorem from_last (n : Nat) (l : List Int) : fromP n l n := fun a h h' => by omega
theorem from_step {n : Nat} {l : List Int} {i : Nat} (hi : i < n) : fromP n l i ↔ rowP n l i ∧ fromP n l (i + 1) := by
  constructor
  · exact fun h => ⟨h i hi (Nat.le_refl _), fun a h1 h2 => h a h1 (by omega)⟩
  · rintro ⟨h1, h2⟩ a ha hia
    rcases Nat.eq_or_lt_of_le hia with e | e
    · exact e ▸ h1
    · exact h2 a ha e
theorem ev_false {g : Nat → Option Bool} {P : Prop} [Decidable P] (h : ¬ P) (k : Ev g false) : Ev g (decide P) := by rw [decide_eq_false h]; exact k
theorem ev_iff {g : Nat → Option Bool} {P P' : Prop} [Decidable P] [Decidable P'] (h : P ↔ P') (k : Ev g (decide P)) : Ev g (decide P') := by
  have : decide P = decide P' := by simp [h]
  rw [← this]; exact k
theorem ref_right_row (n : Nat) (r c : Int) (x : List Int) (r' c' : Int) (l : List Int) (h8 : n ≤ 8) (hl : l.length = n * n) (i : Nat) (hi : i < n)
    (next : Ev (fun k => alidaderef05_Right.l0 k n ((i + 1 : Nat) : Int) r c x r' c' l) (decide (fromP n l (i + 1)))) :
    ∀ (d j : Nat), j + d = i → Ev (fun k => alidaderef05_Right.l1 k n i j r c x r' c' l) (decide ((∀ b, b < i → j ≤ b → l.getD (i * n + b) 0 = l.getD (b * n + i) 0) ∧ fromP n l (i + 1))) := by
  intro d
  induction d with
  | zero =>
    intro j hj
    obtain rfl : j = i := by omega
    refine ev_iff (P := fromP n l (j + 1)) ⟨fun h => ⟨fun b h1 h2 => by omega, h⟩, fun h => h.2⟩ ?_
    refine Ev.step (fun k => ?_) next
    conv => lhs; unfold alidaderef05_Right.l1
    rw [if_neg (by omega), w_succ (by omega)]
  | succ d ih =>
    intro j hj
    have hji : j < i := by omega
    have h1 := idx_lt (c := n) hi (by omega : j < n)
    have h2 := idx_lt (c := n) (by omega : j < n) hi
    by_cases hx : l.getD (i * n + j) 0 = l.getD (j * n + i) 0
    · refine ev_iff (P := (∀ b, b < i → j + 1 ≤ b → l.getD (i * n + b) 0 = l.getD (b * n + i) 0) ∧ fromP n l (i + 1)) ⟨fun h => ⟨fun b h1 h2 => ?_, h.2⟩, fun h => ⟨fun b h1 h2 => h.1 b h1 (by omega), h.2⟩⟩ ?_
      · rcases Nat.eq_or_lt_of_le h2 with e | e
        · exact e ▸ hx
        · exact h.1 b h1 e
      refine Ev.step (fun k => ?_) (ih (j + 1) (by omega))
      conv => lhs; unfold alidaderef05_Right.l1
      rw [if_pos (by omega), at_idx h8 hi (by omega), at_idx h8 (by omega) hi, if_pos (by omega), if_pos (by omega), if_pos (by omega), if_pos (by omega), rd_nat, rd_nat, if_pos hx, w_succ (by omega)]
    · refine ev_false (fun h => hx (h.1 j hji (Nat.le_refl _))) ?_
      refine Ev.step (f := fun _ => some false) (fun k => ?_) (Ev.now _)
      conv => lhs; unfold alidaderef05_Right.l1
      rw [if_pos (by omega), at_idx h8 hi (by omega), at_idx h8 (by omega) hi, if_pos (by omega), if_pos (by omega), if_pos (by omega), if_pos (by omega), rd_nat, rd_nat, if_neg hx]
theorem ref_right_rows (n : Nat) (r c : Int) (x : List Int) (r' c' : Int) (l : List Int) (h8 : n ≤ 8) (hl : l.length = n * n) :
    ∀ (d i : Nat), i + d = n → Ev (fun k => alidaderef05_Right.l0 k n i r c x r' c' l) (decide (fromP n l i)) := by
  intro d
  induction d with
  | zero =>
    intro i hi
    obtain rfl : i = n := by omega
    rw [decide_eq_true (from_last i l)]
    refine Ev.step (f := fun _ => some true) (fun k => ?_) (Ev.now _)
    conv => lhs; unfold alidaderef05_Right.l0
    rw [if_neg (by omega)]
  | succ d ih =>
    intro i hi
    have hin : i < n := by omega
    have h1 := idx_lt (c := n) hin hin
    by_cases hx : l.getD (i * n + i) 0 < 0
    · refine ev_false (fun h => by have := ((from_step hin).1 h).1.1; omega) ?_
      refine Ev.step (f := fun _ => some false) (fun k => ?_) (Ev.now _)
      conv => lhs; unfold alidaderef05_Right.l0
      rw [if_pos (by omega), at_idx h8 hin hin, if_pos (by omega), if_pos (by omega), rd_nat, if_pos hx]
    · have h := ref_right_row n r c x r' c' l h8 hl i hin (ih (i + 1) (by omega)) i 0 (by omega)
      refine ev_iff (P := (∀ b, b < i → 0 ≤ b → l.getD (i * n + b) 0 = l.getD (b * n + i) 0) ∧ fromP n l (i + 1)) ⟨fun h => (from_step hin).2 ⟨⟨by omega, fun b hb => h.1 b hb (by omega)⟩, h.2⟩, fun h => ⟨fun b hb _ => ((from_step hin).1 h).1.2 b hb, ((from_step hin).1 h).2⟩⟩ ?_
      refine Ev.step (fun k => ?_) h
      conv => lhs; unfold alidaderef05_Right.l0
      rw [if_pos (by omega), at_idx h8 hin hin, if_pos (by omega), if_pos (by omega), rd_nat, if_neg hx]
      rfl
/-- A track is right. -/
def trackP (r c : Int) (x : List Int) (r' c' : Int) (l : List Int) : Prop := rightM r c x = true ∧ rightM r' c' l = true ∧ c = 1 ∧ r' = r ∧ c' = r ∧ evenP r.toNat l
instance trackP_dec (r c : Int) (x : List Int) (r' c' : Int) (l : List Int) : Decidable (trackP r c x r' c' l) := by unfold trackP; infer_instance
theorem rightM_parts {r c : Int} {l : List Int} (h : rightM r c l = true) : 1 ≤ r ∧ r ≤ 8 ∧ 1 ≤ c ∧ c ≤ 8 ∧ l.length = r.toNat * c.toNat ∧ l.any oddQ = false := by
  unfold rightM at h
  simp only [Bool.and_eq_true, decide_eq_true_eq, Bool.not_eq_true', beq_iff_eq] at h
  obtain ⟨⟨⟨⟨⟨h1, h2⟩, h3⟩, h4⟩, h5⟩, h6⟩ := h
  have b0 : 0 ≤ r * c := Int.mul_nonneg (by omega) (by omega)
  have b1 : r * c ≤ 8 * c := Int.mul_le_mul_of_nonneg_right (by omega) (by omega)
  rw [w64 (by omega) (by omega)] at h5
  exact ⟨by omega, by omega, by omega, by omega, nat2 (by omega) (by omega) h5, h6⟩
theorem refRight_ev' (r c : Int) (l : List Int) : Ev (fun k => alidaderef03_Right.f k r c l) (rightM r c l) := by
  obtain ⟨k, hk⟩ := refRight_ev r c l
  exact Ev.of (alidaderef03_Right.mono r c l) hk
theorem ref_right_ev (r c : Int) (x : List Int) (r' c' : Int) (l : List Int) : Ev (fun k => alidaderef05_Right.f k r c x r' c' l) (decide (trackP r c x r' c' l)) := by
  have T : Ev (fun k => alidaderef05_Right.j0 k r true r c x r' c' l) false := Ev.step (f := fun _ => some false) (fun k => rfl) (Ev.now _)
  unfold alidaderef05_Right.f
  refine Ev.bind (refRight_ev' r c x) ?_
  refine Ev.bind (refRight_ev' r' c' l) ?_
  by_cases h1 : rightM r c x = true
  · by_cases h2 : rightM r' c' l = true
    · by_cases h3 : c = 1
      · by_cases h4 : r' = r
        · simp only [if_pos h1, if_pos h2, if_pos h3, if_pos h4]
          by_cases h5 : c' = r
          · have e : (c' != r) = false := by simp [h5]
            rw [e]
            obtain ⟨a1, a2, a3, a4, a5, a6⟩ := rightM_parts h2
            obtain ⟨n, rfl⟩ : ∃ n : Nat, r = n := ⟨r.toNat, by omega⟩
            subst h4 h5
            rw [Int.toNat_natCast] at a5
            refine ev_iff (P := fromP n l 0) ⟨fun h => ⟨h1, h2, h3, rfl, rfl, (even_rows _ _).2 (fun a ha => h a ha (by omega))⟩, fun h a ha _ => (even_rows _ _).1 h.2.2.2.2.2 a ha⟩ ?_
            exact Ev.step (fun k => rfl) (ref_right_rows n n c x n n l (by omega) a5 n 0 (by omega))
          · have e : (c' != r) = true := by simpa using h5
            rw [e]
            exact ev_false (fun h => h5 h.2.2.2.2.1) T
        · simp only [if_pos h1, if_pos h2, if_pos h3, if_neg h4]
          exact ev_false (fun h => h4 h.2.2.2.1) T
      · simp only [if_pos h1, if_pos h2, if_neg h3]
        exact ev_false (fun h => h3 h.2.2.1) T
    · simp only [if_pos h1, if_neg h2]
      exact ev_false (fun h => h2 h.2.1) T
  · simp only [if_neg h1]
    exact ev_false (fun h => h1 h.1) T
end Go.Proofs.Ytninmcmajbfccaa.PR

/- Layer 5: which tracks are right, plainly, of the program; the contracts, plainly. -/
namespace Go.Proofs.Ytninmcmajbfccaa.PR
open Go.RowKit Go.Proofs.Ytninmcmajbfccaa.PQ Go.Proofs.YtninmcmajbfccaaW.PrintWords Go.Proofs.YtninmcmajbfccaaW.PrintLast Go.Proofs.YtninmcmajbfccaaW.PrintMore Go.Proofs.Ytninmcmajbfccaa.KK
set_option linter.unusedVariables false
set_option linter.unusedSimpArgs false
theorem equal_loop (l m : List Int) (hlen : l.length = m.length) (hl : l.length ≤ 1000000) : ∀ (d j : Nat), j + d = l.length → Ev (fun k => api_Q_78.l0 k l m l.length j) (decide (l.drop j = m.drop j)) := by
  intro d
  induction d with
  | zero =>
    intro j hj
    refine Ev.step (f := fun _ => some true) (fun k => ?_) ?_
    · unfold api_Q_78.l0
      rw [if_neg (by omega)]
    · have : decide (l.drop j = m.drop j) = true := by
        rw [List.drop_eq_nil_of_le (by omega), List.drop_eq_nil_of_le (by omega)]; rfl
      rw [this]
      exact Ev.now _
  | succ d ih =>
    intro j hj
    have h1 : j < l.length := by omega
    have h2 : j < m.length := by omega
    have r1 : rd l (j : Int) = l[j] := by unfold rd; rw [Int.toNat_natCast, List.getD_eq_getElem?_getD, List.getElem?_eq_getElem h1]; rfl
    have r2 : rd m (j : Int) = m[j] := by unfold rd; rw [Int.toNat_natCast, List.getD_eq_getElem?_getD, List.getElem?_eq_getElem h2]; rfl
    have ed : decide (l.drop j = m.drop j) = (decide (l[j] = m[j]) && decide (l.drop (j + 1) = m.drop (j + 1))) := by
      rw [List.drop_eq_getElem_cons h1, List.drop_eq_getElem_cons h2, ← Bool.decide_and]
      congr 1
      rw [List.cons.injEq]
    rw [ed]
    by_cases hx : l[j] = m[j]
    · rw [decide_eq_true hx, Bool.true_and]
      refine Ev.step (fun k => ?_) (ih (j + 1) (by omega))
      conv => lhs; unfold api_Q_78.l0
      rw [if_pos (by omega), if_pos (by omega), if_pos (by omega), if_pos (by omega), r1, r2, if_pos hx, w_succ (by omega)]
    · rw [decide_eq_false hx, Bool.false_and]
      refine Ev.step (f := fun _ => some false) (fun k => ?_) (Ev.now _)
      conv => lhs; unfold api_Q_78.l0
      rw [if_pos (by omega), if_pos (by omega), if_pos (by omega), if_pos (by omega), r1, r2, if_neg hx]
theorem mat_same_ev (r c r' c' : Int) (l m : List Int) (hl : l.length ≤ 1000000) : Ev (fun k => mat_Same.f k r c l r' c' m) (decide (r = r' ∧ c = c' ∧ l = m)) := by
  by_cases h1 : r = r' ∧ c = c'
  · have e : (r == r' && (c == c')) = true := by simp [h1.1, h1.2]
    refine Ev.congr (f := fun k => (api_Q_78.f k l m).bind fun t => some t) (fun k => ?_) ?_
    · show (if (r == r' && (c == c')) = true then _ else _) = _
      rw [if_pos e]
    · by_cases h3 : l.length = m.length
      · have ed : decide (r = r' ∧ c = c' ∧ l = m) = decide (l = m) := by simp [h1.1, h1.2]
        rw [ed]
        refine Ev.bind (a := decide (l = m)) ?_ (Ev.now _)
        have := equal_loop l m h3 hl l.length 0 (by omega)
        simp only [List.drop_zero] at this
        refine Ev.congr (fun k => ?_) this
        unfold api_Q_78.f
        rw [if_pos (by omega)]
        rfl
      · have ed : decide (r = r' ∧ c = c' ∧ l = m) = false := decide_eq_false (fun h => h3 (by rw [h.2.2]))
        rw [ed]
        refine Ev.bind (a := false) ?_ (Ev.now _)
        refine Ev.congr (f := fun _ => some false) (fun k => ?_) (Ev.now _)
        unfold api_Q_78.f
        rw [if_neg (by omega)]
  · have e : ¬ (r == r' && (c == c')) = true := by simpa using h1
    have ed : decide (r = r' ∧ c = c' ∧ l = m) = false := decide_eq_false (fun h => h1 ⟨h.1, h.2.1⟩)
    rw [ed]
    refine Ev.congr (f := fun _ => some false) (fun k => ?_) (Ev.now _)
    show (if (r == r' && (c == c')) = true then _ else _) = _
    rw [if_neg e]
/-- The diagonal isn't below 0 from a row on. -/
def diagP (n : Nat) (l : List Int) (i : Nat) : Prop := ∀ a, a < n → i ≤ a → 0 ≤ l.getD (a * n + a) 0
instance diagP_dec (n : Nat) (l : List Int) (a : Nat) : Decidable (diagP n l a) := by unfold diagP; infer_instance
theorem own_diag (n : Nat) (r c : Int) (x : List Int) (r' c' : Int) (l : List Int) (h8 : n ≤ 8) (hl : l.length = n * n) :
    ∀ (d i : Nat), i + d = n → Ev (fun k => kalman_Right.l0 k n n i r c x r' c' l) (decide (diagP n l i)) := by
  intro d
  induction d with
  | zero =>
    intro i hi
    obtain rfl : i = n := by omega
    have hv : diagP i l i := fun a h h' => by omega
    rw [decide_eq_true hv]
    refine Ev.step (f := fun _ => some true) (fun k => ?_) (Ev.now _)
    conv => lhs; unfold kalman_Right.l0
    rw [if_neg (by omega)]
  | succ d ih =>
    intro i hi
    have hin : i < n := by omega
    have h1 := idx_lt (c := n) hin hin
    by_cases hx : l.getD (i * n + i) 0 < 0
    · refine ev_false (fun h => by have := h i hin (Nat.le_refl _); omega) ?_
      refine Ev.step (f := fun _ => some false) (fun k => ?_) (Ev.now _)
      conv => lhs; unfold kalman_Right.l0
      rw [if_pos (by omega), at_idx h8 hin hin, if_pos (by omega), if_pos (by omega), rd_nat, if_pos hx]
    · refine ev_iff (P := diagP n l (i + 1)) ⟨fun h a h1 h2 => ?_, fun h a h1 h2 => h a h1 (by omega)⟩ ?_
      · rcases Nat.eq_or_lt_of_le h2 with e | e
        · rw [← e]; omega
        · exact h a h1 e
      refine Ev.step (fun k => ?_) (ih (i + 1) (by omega))
      conv => lhs; unfold kalman_Right.l0
      rw [if_pos (by omega), at_idx h8 hin hin, if_pos (by omega), if_pos (by omega), rd_nat, if_neg hx, w_succ (by omega)]
theorem tr_even (n : Nat) (l : List Int) (hl : l.length = n * n) : (l = trL n n l ∧ diagP n l 0) ↔ evenP n l := by
  rw [trL_fl]
  constructor
  · rintro ⟨h, d⟩ m hm
    refine ⟨?_, fun e => ?_⟩
    · conv => lhs; rw [h]
      rw [fl_getD hm]
    · have ha : m / n < n := Nat.div_lt_of_lt_mul hm
      have h2 := Nat.div_add_mod m n
      have := d (m / n) ha (by omega)
      rwa [show m / n * n + m / n = m by rw [Nat.mul_comm]; rw [← e] at h2; exact h2] at this
  · intro h
    refine ⟨fl_ext hl (fun m hm => (h m hm).1), fun a ha _ => ((even_rows n l).1 h a ha).1⟩
theorem own_right_ev (r c : Int) (x : List Int) (r' c' : Int) (l : List Int) : Ev (fun k => kalman_Right.f k r c x r' c' l) (decide (trackP r c x r' c' l)) := by
  have T : Ev (fun k => kalman_Right.j0 k r true r c x r' c' l) false := Ev.step (f := fun _ => some false) (fun k => rfl) (Ev.now _)
  unfold kalman_Right.f
  refine Ev.bind (a := rightM r c x) ⟨0, fun _ _ => rfl⟩ ?_
  by_cases h1 : rightM r c x = true
  · simp only [if_pos h1]
    refine Ev.bind (a := rightM r' c' l) ⟨0, fun _ _ => rfl⟩ ?_
    by_cases h2 : rightM r' c' l = true
    · by_cases h3 : c = 1
      · by_cases h4 : r' = r
        · by_cases h5 : c' = r
          · simp only [if_pos h2, if_pos h3, if_pos h4, if_pos h5]
            obtain ⟨a1, a2, a3, a4, a5, a6⟩ := rightM_parts h2
            obtain ⟨n, rfl⟩ : ∃ n : Nat, r = n := ⟨r.toNat, by omega⟩
            subst h4 h5
            rw [Int.toNat_natCast] at a5
            have ht : mat_Trans.f n n l = some ((n : Int), (n : Int), trL n n l) := by
              unfold mat_Trans.f
              rw [if_pos ⟨by omega, by omega, by omega, by omega, by rw [a5]; push_cast; rfl⟩, Int.toNat_natCast]
            refine Ev.bind (a := ((n : Int), (n : Int), trL n n l)) ⟨0, fun _ _ => ht⟩ ?_
            have h8 : n ≤ 8 := by omega
            have hs := sq8 h8
            refine Ev.bind (mat_same_ev n n n n l (trL n n l) (by omega)) ?_
            by_cases h6 : l = trL n n l
            · rw [decide_eq_true ⟨rfl, rfl, h6⟩]
              refine ev_iff (P := diagP n l 0) ⟨fun h => ⟨h1, h2, h3, rfl, rfl, (tr_even n l a5).1 ⟨h6, h⟩⟩, fun h => ((tr_even n l a5).2 h.2.2.2.2.2).2⟩ ?_
              exact Ev.step (fun k => rfl) (own_diag n n c x n n l h8 a5 n 0 (by omega))
            · rw [decide_eq_false (fun h => h6 h.2.2)]
              exact ev_false (fun h => h6 ((tr_even n l a5).2 h.2.2.2.2.2).1) T
          · simp only [if_pos h2, if_pos h3, if_pos h4, if_neg h5]
            exact ev_false (fun h => h5 h.2.2.2.2.1) T
        · simp only [if_pos h2, if_pos h3, if_neg h4]
          exact ev_false (fun h => h4 h.2.2.2.1) T
      · simp only [if_pos h2, if_neg h3]
        exact ev_false (fun h => h3 h.2.2.1) T
    · simp only [if_neg h2]
      exact ev_false (fun h => h2 h.2.1) T
  · simp only [if_neg h1]
    exact ev_false (fun h => h1 h.1) T
end Go.Proofs.Ytninmcmajbfccaa.PR

/- Layer 5: does a matrix fit (the closure in Predict); a world that has grown. -/
namespace Go.Proofs.Ytninmcmajbfccaa.PR
open Go.RowKit Go.Proofs.Ytninmcmajbfccaa.PQ Go.Proofs.YtninmcmajbfccaaW.PrintWords Go.Proofs.YtninmcmajbfccaaW.PrintLast Go.Proofs.YtninmcmajbfccaaW.PrintMore Go.Proofs.Ytninmcmajbfccaa.KK
set_option linter.unusedVariables false
set_option linter.unusedSimpArgs false
theorem Below.fill6 {B C : Nat} {w0 w : World} (h : Below B w0 w) (hC : B ≤ C) (a b c d e f : Value) : Below B w0 (fill6 w C a b c d e f) :=
  (((((h.setCell (p := ⟨C, 0, none⟩) hC a).setCell (p := ⟨C, 1, none⟩) hC b).setCell (p := ⟨C, 2, none⟩) hC c).setCell (p := ⟨C, 3, none⟩) hC d).setCell (p := ⟨C, 4, none⟩) hC e).setCell (p := ⟨C, 5, none⟩) hC f
theorem bal {w0 w : World} (h : Below w0.heap.size w0 w) (o : Obj) : Below w0.heap.size w0 (w.alloc o) := h.alloc h.size o
theorem bdr {w0 w : World} (h : Below w0.heap.size w0 w) : Below w0.heap.size w0 w.drew := h.drew
theorem bgo {w0 w w' : World} (h : Below w0.heap.size w0 w) (hb : Below w.heap.size w w') : Below w0.heap.size w0 w' := h.trans (hb.mono h.size)
theorem gr_refl (w : World) (r : Option Nat) : w.grownBy w r := KK.grown_of_below (Below.refl _ _) r
theorem gr_alloc {w w' : World} {r : Option Nat} (h : w.grownBy w' r) (o : Obj) : w.grownBy (w'.alloc o) r := KK.grown_trans h (KK.grown_of_below ((Below.refl _ _).alloc (Nat.le_refl _) o) r)
theorem gr_drew {w w' : World} {r : Option Nat} (h : w.grownBy w' r) : w.grownBy w'.drew r := KK.grown_trans h (KK.grown_of_below (Below.refl _ _).drew r)
theorem gr_below {w w' w'' : World} {r : Option Nat} (h : w.grownBy w' r) (hb : Below w'.heap.size w' w'') : w.grownBy w'' r := KK.grown_trans h (KK.grown_of_below hb r)
theorem Row.gr {w w' : World} {B g : Nat} {t : TypeId} {cs : Array Value} (h : Row w B t cs) (hg : w.grownBy w' (some g)) (hne : B ≠ g) : Row w' B t cs := h.grown hg (fun e => hne (by injection e))
theorem res6tt {w : World} {B : Nat} {a b c d e f : Value} {fn : Func} {k i j : Nat} {tmps : Array Value} (h : fn.results = #[.cell k 28, .tmp i, .tmp j]) (hk : tmps.getD k undef = .pointer (some ⟨B, 0, none⟩)) (R : Row w B 28 #[a, b, c, d, e, f]) :
    (results fn tmps).run Try.prog w = .ok (.tuple #[.agg #[a, b, c, d, e, f], tmps.getD i undef, tmps.getD j undef]) w := by
  have c := R.cell
  have hk' : tmps[k]?.getD undef = .pointer (some ⟨B, 0, none⟩) := by simpa using hk
  simp only [results, h]
  simp [go_sem, hk', c]
def fitB (r c n : Int) : Bool := decide (r = n ∧ c = n)
set_option maxRecDepth 100000 in
set_option maxHeartbeats 4000000 in
theorem fits_calls (r c n : Int) (A : Option Addr) (m cp nb : Nat) (w : World) (R : Row w nb 3 #[I n]) :
    Calls Try.prog 44 #[.agg #[I r, I c, .slice A m cp], .pointer (some ⟨nb, 0, none⟩)] w fun e w' => e = .returned (.bool (fitB r c n)) ∧ Below w.heap.size w w' := by
  have hlt := R.lt
  have x := (R.alloc (.cells #[I r, I c, .slice A m cp] 26)).cell
  have HB : Hid (Below w.heap.size w (w.alloc (.cells #[I r, I c, .slice A m cp] 26))) := Lib.hid ((Below.refl _ _).alloc (Nat.le_refl _) _)
  have x2 := (Row.new w 26 #[I r, I c, .slice A m cp]).cell
  unfold fitB
  clear R
  by_cases h1 : r = n
  · by_cases h2 : c = n
    · subst h1
      subst h2
      go_enter Try.func44, Try.ntmps44
      go_wp2
      go_ret
      exact ⟨by simp, HB.out⟩
    · subst h1
      have e2 : (c == r) = false := by simpa using h2
      have HD : Hid (decide (r = r ∧ c = r) = false) := Lib.hid (by simp [h2])
      clear h2
      go_enter Try.func44, Try.ntmps44
      go_wp2
      go_ret
      exact ⟨by have h := HD.out; simp at h; simp [h], HB.out⟩
  · have e1 : (r == n) = false := by simpa using h1
    have HD : Hid (decide (r = n ∧ c = n) = false) := Lib.hid (by simp [h1])
    clear h1
    go_enter Try.func44, Try.ntmps44
    go_wp2
    go_ret
    exact ⟨by first | rfl | (rw [HD.out]; rfl), HB.out⟩
end Go.Proofs.Ytninmcmajbfccaa.PR
