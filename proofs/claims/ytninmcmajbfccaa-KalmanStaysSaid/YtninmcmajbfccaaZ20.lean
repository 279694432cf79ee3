import Derived.Test.YtninmcmajbfccaaZ16
import Derived.Test.YtninmcmajbfccaaZ19
import Derived.Test.YtninmcmajbfccaaZ17
import Derived.Test.YtninmcmajbfccaaZ18
/- Joined by a program of this session's own (wip/pack.py) out of its texts; the parts PQ, PR, PS were laid by its own program (wip/print-patch.py over the kit's print) out of the translation; Lean checks all. -/
/- Layer 5: a track held against a measured number: what isn't taken; what is wrong. -/
namespace Go.Proofs.Ytninmcmajbfccaa.PR
open Go.RowKit Go.Proofs.Ytninmcmajbfccaa.PQ Go.Proofs.YtninmcmajbfccaaW.PrintWords Go.Proofs.YtninmcmajbfccaaW.PrintLast Go.Proofs.YtninmcmajbfccaaW.PrintMore Go.Proofs.Ytninmcmajbfccaa.KK
set_option linter.unusedVariables false
set_option linter.unusedSimpArgs false
set_option maxRecDepth 100000 in
set_option maxHeartbeats 8000000 in
theorem upd_off (n : Nat) (A1 A2 A3 : Option Addr) (c1 c2 c3 : Nat) (lx lp lh : List Int) (z r gate y s q1 q2 : Int) (o f1 f2 : Bool) (w : World) (h1 : 1 ≤ n) (h8 : n ≤ 8) (hx : lx.length = n * 1) (hp : lp.length = n * n) (hh : lh.length = 1 * n)
    (rx : Rd w A1 lx) (cx : lx.length ≤ c1) (rp : Rd w A2 lp) (cp : lp.length ≤ c2) (rh : Rd w A3 lh) (ch : lh.length ≤ c3)
    (hm : PQ.kalman_may.f 1000 n 1 lx n n lp 1 n lh r = some 0) (hi : kalman_work_innov.f false n 1 lx n n lp 1 n lh z r = some (y, s, o)) (h2 : mulZ y y = (q1, f1)) (h3 : mulZ gate s = (q2, f2)) (h4 : q1 > q2) :
    Calls Try.prog 13 #[.agg #[I n, I 1, .slice A1 lx.length c1, I n, I n, .slice A2 lp.length c2], .agg #[I 1, I n, .slice A3 lh.length c3], I z, I r, I gate] w fun e w' => e = .returned (.tuple #[.agg #[I n, I 1, .slice A1 lx.length c1, I n, I n, .slice A2 lp.length c2], .bool false, .bool (o || f1 || f2), I 0]) ∧ Below w.heap.size w w' := by
  have N : Hid (Scene w [(28, #[I n, I 1, .slice A1 lx.length c1, I n, I n, .slice A2 lp.length c2]), (26, #[I 1, I n, .slice A3 lh.length c3]), (28, #[I 0, I 0, .slice none 0 0, I 0, I 0, .slice none 0 0])] (((w.alloc (.cells #[I n, I 1, .slice A1 lx.length c1, I n, I n, .slice A2 lp.length c2] 28)).alloc (.cells #[I 1, I n, .slice A3 lh.length c3] 26)).alloc (.cells #[I 0, I 0, .slice none 0 0, I 0, I 0, .slice none 0 0] 28))) := Lib.hid ((((Scene.none w).push (by simp) _ _).push (by simp) _ _).push (by simp) _ _)
  have RX := Lib.hid rx
  have RP := Lib.hid rp
  have RH := Lib.hid rh
  have CX := Lib.hid cx
  have CP := Lib.hid cp
  have CH := Lib.hid ch
  have HM := Lib.hid hm
  have HI := Lib.hid hi
  have H2 := Lib.hid h2
  have H3 := Lib.hid h3
  have HT := Lib.hid (And.intro (And.intro h1 h8) (And.intro hx (And.intro hp hh)))
  have e4 : decide (q1 > q2) = true := decide_eq_true h4
  clear rx rp rh cx cp ch hm hi h1 h8 hx hp hh h2 h3 h4
  go_enter Try.func13, Try.ntmps13
  go_wp2_with fail
  refine (PQ.kalman_may.calls 1000 n 1 A1 c1 lx n n A2 c2 lp 1 n A3 c3 lh r 0 _ (RX.out.below N.out.be) CX.out (RP.out.below N.out.be) CP.out (RH.out.below N.out.be) CH.out HM.out).mono ?_
  rintro e w1 ⟨rfl, hb⟩
  have N1 := Lib.hid (N.out.below hb)
  have y0 := N1.out.r0.cell
  have y1 := N1.out.r1.cell
  have t0 := N1.out.r0.lt
  have t1 := N1.out.r1.lt
  clear hb N
  have G1 := Lib.hid (Row.new w1 77 #[.bool false])
  have N2 := Lib.hid (N1.out.alloc (.cells #[.bool false] 77))
  have GE : Hid (w.heap.size + 3 ≤ w1.heap.size) := Lib.hid (by have h := N1.out.rows.le N1.out.be.size; simpa using h)
  have FX : Hid (∀ ad, A1 = some ad → 0 < lx.length → ad.block ≠ w1.heap.size) := Lib.hid (fun ad e hp => by have h1 := Rd.blk RX.out ad e hp; have h2 := GE.out; omega)
  have FP : Hid (∀ ad, A2 = some ad → 0 < lp.length → ad.block ≠ w1.heap.size) := Lib.hid (fun ad e hp => by have h1 := Rd.blk RP.out ad e hp; have h2 := GE.out; omega)
  have FH : Hid (∀ ad, A3 = some ad → 0 < lh.length → ad.block ≠ w1.heap.size) := Lib.hid (fun ad e hp => by have h1 := Rd.blk RH.out ad e hp; have h2 := GE.out; omega)
  go_wp2_with fail
  refine (kalman_work_innov.calls w1.heap.size false n 1 A1 c1 lx n n A2 c2 lp 1 n A3 c3 lh z r y s o w _ ⟨G1.out, by have h := GE.out; omega⟩ N2.out.be (RX.out.below N2.out.be) CX.out FX.out (RP.out.below N2.out.be) CP.out FP.out (RH.out.below N2.out.be) CH.out FH.out HI.out).mono ?_
  rintro e w2 ⟨rfl, hs, hb, hk⟩
  have R2 : Hid (Row w2 w1.heap.size 77 #[.bool o]) := Lib.hid hs.1
  have N3 := Lib.hid (N2.out.app (grown_of N2.out.be hb hk) (fun g e => by injection e with e; have h := GE.out; simp; omega))
  clear hs hb hk y0 y1 t0 t1
  go_wp2_with fail
  refine (mul_calls y y w2).mono ?_
  rw [H2.out]
  rintro e w3 ⟨rfl, hb⟩
  have R3 := Lib.hid (Row.below R2.out hb R2.out.lt)
  have N4 := Lib.hid (N3.out.below hb)
  clear hb
  go_wp2_with fail
  refine (one34 w1.heap.size o f1 q1 w3 R3.out).mono ?_
  rintro e w4 ⟨rfl, hr, hg⟩
  have R4 := Lib.hid hr
  have N5 := Lib.hid (N4.out.app hg (fun g e => by injection e with e; have h := GE.out; simp; omega))
  clear hr hg
  go_wp2_with fail
  refine (mul_calls gate s w4).mono ?_
  rw [H3.out]
  rintro e w5 ⟨rfl, hb⟩
  have R5 := Lib.hid (Row.below R4.out hb R4.out.lt)
  have N6 := Lib.hid (N5.out.below hb)
  clear hb
  go_wp2_with fail
  refine (one34 w1.heap.size (o || f1) f2 q2 w5 R5.out).mono ?_
  rintro e w6 ⟨rfl, hr, hg⟩
  have R6 := Lib.hid hr
  have N7 := Lib.hid (N6.out.app hg (fun g e => by injection e with e; have h := GE.out; simp; omega))
  clear hr hg
  have y0 := N7.out.r0.cell
  have x2 := N7.out.r2.cell
  have g2 := N7.out.r2.free
  have KS : Hid (∀ w', Row w' w.heap.size 28 #[I n, I 1, .slice A1 lx.length c1, I n, I n, .slice A2 lp.length c2] → Row w' w1.heap.size 77 #[.bool (o || f1 || f2)] → (∀ o, w'.cell? ⟨w.heap.size, o, none⟩ = #[I n, I 1, .slice A1 lx.length c1, I n, I n, .slice A2 lp.length c2][o]?) ∧ (∀ o', w'.cell? ⟨w1.heap.size, o', none⟩ = #[.bool (o || f1 || f2)][o']?)) := Lib.hid (fun w' a b => ⟨a.cell, b.cell⟩)
  have T7 := Lib.hid N7.out.r0
  obtain ⟨fl, hfl⟩ : ∃ fl, (o || f1 || f2) = fl := ⟨_, rfl⟩
  have HFL := Lib.hid hfl
  rw [hfl] at KS R6
  clear hfl
  have BE : Hid (w.heap.size + 3 ≤ w6.heap.size) := Lib.hid (by have h := N7.out.rows.le N7.out.be.size; simpa using h)
  go_wp2_with fail
  go_region_held3 (fun w' => (∀ o, w'.cell? ⟨w.heap.size, o, none⟩ = #[I n, I 1, .slice A1 lx.length c1, I n, I n, .slice A2 lp.length c2][o]?) ∧ (∀ o, w'.cell? ⟨w1.heap.size, o, none⟩ = #[.bool fl][o]?))
    (first | with_reducible exact KS.out _ T7.out.drew R6.out.drew | with_reducible exact KS.out _ (Row.drew (Row.far6 T7.out (C := w.heap.size + 1 + 1) (by omega) _ _ _ _ _ _)) (Row.drew (Row.far6 R6.out (C := w.heap.size + 1 + 1) (by have h := GE.out; omega) _ _ _ _ _ _)))
    (fail)
  go_wp2
  refine bodyPost_ret (res6ttt rfl rfl (Row.drew (Row.fill6 N7.out.r2 _ _ _ _ _ _))) rfl ?_
  rw [HFL.out]
  refine ⟨rfl, ?_⟩
  have hbb := N7.out.be
  exact (Below.fill6 hbb (by omega) _ _ _ _ _ _).drew
set_option maxRecDepth 100000 in
set_option maxHeartbeats 8000000 in
theorem upd_low (n : Nat) (A1 A2 A3 : Option Addr) (c1 c2 c3 : Nat) (lx lp lh : List Int) (z r gate y s q1 q2 : Int) (o f1 f2 : Bool) (w : World) (h1 : 1 ≤ n) (h8 : n ≤ 8) (hx : lx.length = n * 1) (hp : lp.length = n * n) (hh : lh.length = 1 * n)
    (rx : Rd w A1 lx) (cx : lx.length ≤ c1) (rp : Rd w A2 lp) (cp : lp.length ≤ c2) (rh : Rd w A3 lh) (ch : lh.length ≤ c3)
    (hm : PQ.kalman_may.f 1000 n 1 lx n n lp 1 n lh r = some 0) (hi : kalman_work_innov.f false n 1 lx n n lp 1 n lh z r = some (y, s, o)) (h2 : mulZ y y = (q1, f1)) (h3 : mulZ gate s = (q2, f2)) (h4 : ¬ q1 > q2) (h5 : s ≤ 0) :
    Calls Try.prog 13 #[.agg #[I n, I 1, .slice A1 lx.length c1, I n, I n, .slice A2 lp.length c2], .agg #[I 1, I n, .slice A3 lh.length c3], I z, I r, I gate] w fun e w' => e = .returned (.tuple #[.agg #[I n, I 1, .slice A1 lx.length c1, I n, I n, .slice A2 lp.length c2], .bool false, .bool (o || f1 || f2), I 0]) ∧ Below w.heap.size w w' := by
  have N : Hid (Scene w [(28, #[I n, I 1, .slice A1 lx.length c1, I n, I n, .slice A2 lp.length c2]), (26, #[I 1, I n, .slice A3 lh.length c3]), (28, #[I 0, I 0, .slice none 0 0, I 0, I 0, .slice none 0 0])] (((w.alloc (.cells #[I n, I 1, .slice A1 lx.length c1, I n, I n, .slice A2 lp.length c2] 28)).alloc (.cells #[I 1, I n, .slice A3 lh.length c3] 26)).alloc (.cells #[I 0, I 0, .slice none 0 0, I 0, I 0, .slice none 0 0] 28))) := Lib.hid ((((Scene.none w).push (by simp) _ _).push (by simp) _ _).push (by simp) _ _)
  have RX := Lib.hid rx
  have RP := Lib.hid rp
  have RH := Lib.hid rh
  have CX := Lib.hid cx
  have CP := Lib.hid cp
  have CH := Lib.hid ch
  have HM := Lib.hid hm
  have HI := Lib.hid hi
  have H2 := Lib.hid h2
  have H3 := Lib.hid h3
  have HT := Lib.hid (And.intro (And.intro h1 h8) (And.intro hx (And.intro hp hh)))
  have e4 : decide (q1 > q2) = false := decide_eq_false h4
  have e5 : decide (s ≤ 0) = true := decide_eq_true h5
  clear rx rp rh cx cp ch hm hi h1 h8 hx hp hh h2 h3 h4 h5
  go_enter Try.func13, Try.ntmps13
  go_wp2_with fail
  refine (PQ.kalman_may.calls 1000 n 1 A1 c1 lx n n A2 c2 lp 1 n A3 c3 lh r 0 _ (RX.out.below N.out.be) CX.out (RP.out.below N.out.be) CP.out (RH.out.below N.out.be) CH.out HM.out).mono ?_
  rintro e w1 ⟨rfl, hb⟩
  have N1 := Lib.hid (N.out.below hb)
  have y0 := N1.out.r0.cell
  have y1 := N1.out.r1.cell
  have t0 := N1.out.r0.lt
  have t1 := N1.out.r1.lt
  clear hb N
  have G1 := Lib.hid (Row.new w1 77 #[.bool false])
  have N2 := Lib.hid (N1.out.alloc (.cells #[.bool false] 77))
  have GE : Hid (w.heap.size + 3 ≤ w1.heap.size) := Lib.hid (by have h := N1.out.rows.le N1.out.be.size; simpa using h)
  have FX : Hid (∀ ad, A1 = some ad → 0 < lx.length → ad.block ≠ w1.heap.size) := Lib.hid (fun ad e hp => by have h1 := Rd.blk RX.out ad e hp; have h2 := GE.out; omega)
  have FP : Hid (∀ ad, A2 = some ad → 0 < lp.length → ad.block ≠ w1.heap.size) := Lib.hid (fun ad e hp => by have h1 := Rd.blk RP.out ad e hp; have h2 := GE.out; omega)
  have FH : Hid (∀ ad, A3 = some ad → 0 < lh.length → ad.block ≠ w1.heap.size) := Lib.hid (fun ad e hp => by have h1 := Rd.blk RH.out ad e hp; have h2 := GE.out; omega)
  go_wp2_with fail
  refine (kalman_work_innov.calls w1.heap.size false n 1 A1 c1 lx n n A2 c2 lp 1 n A3 c3 lh z r y s o w _ ⟨G1.out, by have h := GE.out; omega⟩ N2.out.be (RX.out.below N2.out.be) CX.out FX.out (RP.out.below N2.out.be) CP.out FP.out (RH.out.below N2.out.be) CH.out FH.out HI.out).mono ?_
  rintro e w2 ⟨rfl, hs, hb, hk⟩
  have R2 : Hid (Row w2 w1.heap.size 77 #[.bool o]) := Lib.hid hs.1
  have N3 := Lib.hid (N2.out.app (grown_of N2.out.be hb hk) (fun g e => by injection e with e; have h := GE.out; simp; omega))
  clear hs hb hk y0 y1 t0 t1
  go_wp2_with fail
  refine (mul_calls y y w2).mono ?_
  rw [H2.out]
  rintro e w3 ⟨rfl, hb⟩
  have R3 := Lib.hid (Row.below R2.out hb R2.out.lt)
  have N4 := Lib.hid (N3.out.below hb)
  clear hb
  go_wp2_with fail
  refine (one34 w1.heap.size o f1 q1 w3 R3.out).mono ?_
  rintro e w4 ⟨rfl, hr, hg⟩
  have R4 := Lib.hid hr
  have N5 := Lib.hid (N4.out.app hg (fun g e => by injection e with e; have h := GE.out; simp; omega))
  clear hr hg
  go_wp2_with fail
  refine (mul_calls gate s w4).mono ?_
  rw [H3.out]
  rintro e w5 ⟨rfl, hb⟩
  have R5 := Lib.hid (Row.below R4.out hb R4.out.lt)
  have N6 := Lib.hid (N5.out.below hb)
  clear hb
  go_wp2_with fail
  refine (one34 w1.heap.size (o || f1) f2 q2 w5 R5.out).mono ?_
  rintro e w6 ⟨rfl, hr, hg⟩
  have R6 := Lib.hid hr
  have N7 := Lib.hid (N6.out.app hg (fun g e => by injection e with e; have h := GE.out; simp; omega))
  clear hr hg
  have y0 := N7.out.r0.cell
  have x2 := N7.out.r2.cell
  have g2 := N7.out.r2.free
  have KS : Hid (∀ w', Row w' w.heap.size 28 #[I n, I 1, .slice A1 lx.length c1, I n, I n, .slice A2 lp.length c2] → Row w' w1.heap.size 77 #[.bool (o || f1 || f2)] → (∀ o, w'.cell? ⟨w.heap.size, o, none⟩ = #[I n, I 1, .slice A1 lx.length c1, I n, I n, .slice A2 lp.length c2][o]?) ∧ (∀ o', w'.cell? ⟨w1.heap.size, o', none⟩ = #[.bool (o || f1 || f2)][o']?)) := Lib.hid (fun w' a b => ⟨a.cell, b.cell⟩)
  have T7 := Lib.hid N7.out.r0
  obtain ⟨fl, hfl⟩ : ∃ fl, (o || f1 || f2) = fl := ⟨_, rfl⟩
  have HFL := Lib.hid hfl
  rw [hfl] at KS R6
  clear hfl
  have BE : Hid (w.heap.size + 3 ≤ w6.heap.size) := Lib.hid (by have h := N7.out.rows.le N7.out.be.size; simpa using h)
  go_wp2_with fail
  go_region_held3 (fun w' => (∀ o, w'.cell? ⟨w.heap.size, o, none⟩ = #[I n, I 1, .slice A1 lx.length c1, I n, I n, .slice A2 lp.length c2][o]?) ∧ (∀ o, w'.cell? ⟨w1.heap.size, o, none⟩ = #[.bool fl][o]?))
    (first | with_reducible exact KS.out _ T7.out.drew R6.out.drew | with_reducible exact KS.out _ (Row.drew (Row.far6 T7.out (C := w.heap.size + 1 + 1) (by omega) _ _ _ _ _ _)) (Row.drew (Row.far6 R6.out (C := w.heap.size + 1 + 1) (by have h := GE.out; omega) _ _ _ _ _ _)))
    (fail)
  go_wp2
  refine bodyPost_ret (res6ttt rfl rfl (Row.drew (Row.fill6 N7.out.r2 _ _ _ _ _ _))) rfl ?_
  rw [HFL.out]
  refine ⟨rfl, ?_⟩
  have hbb := N7.out.be
  exact (Below.fill6 hbb (by omega) _ _ _ _ _ _).drew
set_option maxRecDepth 100000 in
set_option maxHeartbeats 8000000 in
theorem upd_bad (n m rh ch : Int) (A1 A2 A3 : Option Addr) (c1 c2 c3 : Nat) (lx lp lh : List Int) (z r gate er : Int) (w : World) (he : (er != 0) = true)
    (rx : Rd w A1 lx) (cx : lx.length ≤ c1) (rp : Rd w A2 lp) (cp : lp.length ≤ c2) (rh' : Rd w A3 lh) (ch' : lh.length ≤ c3)
    (hm : PQ.kalman_may.f 1000 n m lx n n lp rh ch lh r = some er) :
    Calls Try.prog 13 #[.agg #[I n, I m, .slice A1 lx.length c1, I n, I n, .slice A2 lp.length c2], .agg #[I rh, I ch, .slice A3 lh.length c3], I z, I r, I gate] w fun e w' => e = .returned (.tuple #[.agg #[I 0, I 0, .slice none 0 0, I 0, I 0, .slice none 0 0], .bool false, .bool false, I er]) ∧ Below w.heap.size w w' := by
  have N : Hid (Scene w [(28, #[I n, I m, .slice A1 lx.length c1, I n, I n, .slice A2 lp.length c2]), (26, #[I rh, I ch, .slice A3 lh.length c3]), (28, #[I 0, I 0, .slice none 0 0, I 0, I 0, .slice none 0 0])] (((w.alloc (.cells #[I n, I m, .slice A1 lx.length c1, I n, I n, .slice A2 lp.length c2] 28)).alloc (.cells #[I rh, I ch, .slice A3 lh.length c3] 26)).alloc (.cells #[I 0, I 0, .slice none 0 0, I 0, I 0, .slice none 0 0] 28))) := Lib.hid ((((Scene.none w).push (by simp) _ _).push (by simp) _ _).push (by simp) _ _)
  have RX := Lib.hid rx
  have RP := Lib.hid rp
  have RH := Lib.hid rh'
  have CX := Lib.hid cx
  have CP := Lib.hid cp
  have CH := Lib.hid ch'
  have HM := Lib.hid hm
  clear rx rp rh' cx cp ch' hm
  go_enter Try.func13, Try.ntmps13
  go_wp2_with fail
  refine (PQ.kalman_may.calls 1000 n m A1 c1 lx n n A2 c2 lp rh ch A3 c3 lh r er _ (RX.out.below N.out.be) CX.out (RP.out.below N.out.be) CP.out (RH.out.below N.out.be) CH.out HM.out).mono ?_
  rintro e w1 ⟨rfl, hb⟩
  have N1 := Lib.hid (N.out.below hb)
  clear hb N
  have x2 := N1.out.r2.cell
  have g2 := N1.out.r2.free
  go_wp2
  refine bodyPost_ret (res6ttt rfl rfl (Row.fill6 N1.out.r2 _ _ _ _ _ _)) rfl ⟨rfl, ?_⟩
  exact Below.fill6 N1.out.be (by omega) _ _ _ _ _ _
end Go.Proofs.Ytninmcmajbfccaa.PR

/- Layer 5: Update, all ways in one; Innov; a new track. -/
namespace Go.Proofs.Ytninmcmajbfccaa.PR
open Go.RowKit Go.Proofs.Ytninmcmajbfccaa.PQ Go.Proofs.YtninmcmajbfccaaW.PrintWords Go.Proofs.YtninmcmajbfccaaW.PrintLast Go.Proofs.YtninmcmajbfccaaW.PrintMore Go.Proofs.Ytninmcmajbfccaa.KK
set_option linter.unusedVariables false
set_option linter.unusedSimpArgs false
def iY (n : Nat) (lx lh : List Int) (z : Int) : Int := (subZ z ((mulL 1 n 1 lh lx).getD 0 0)).1
def iS (n : Nat) (lp lh : List Int) (r : Int) : Int := (addZ ((betweenL 1 n lh lp).getD 0 0) r).1
def iO (n : Nat) (lx lp lh : List Int) (z r : Int) : Bool := ((false || mulB 1 n 1 lh lx || (subZ z ((mulL 1 n 1 lh lx).getD 0 0)).2) || betweenB 1 n lh lp) || (addZ ((betweenL 1 n lh lp).getD 0 0) r).2
theorem innov_some (n : Nat) (lx lp lh : List Int) (z r : Int) (h8 : n ≤ 8) (hx : lx.length = n * 1) (hp : lp.length = n * n) (hh : lh.length = 1 * n) :
    kalman_work_innov.f false n 1 lx n n lp 1 n lh z r = some (iY n lx lh z, iS n lp lh r, iO n lx lp lh z r) := by
  have e1 := mul_some (r := 1) (c1 := n) (c2 := 1) (l := lh) (m := lx) (by omega) h8 (by omega) hh hx
  have eo : ((1 : Nat) : Int) = 1 := rfl
  rw [eo] at e1
  unfold kalman_work_innov.f
  rw [e1]
  simp only [Option.bind_some]
  rw [if_pos (by rw [mulL_length]; omega)]
  have e2 := between_some (false || mulB 1 n 1 lh lx || (subZ z ((mulL 1 n 1 lh lx).getD 0 0)).2) 1 n lh lp (by omega) h8 hh hp
  rw [eo] at e2
  rw [e2]
  simp only [Option.bind_some]
  rw [if_pos (by unfold betweenL; rw [mulL_length]; omega)]
  rfl
theorem may_good (n : Nat) (lx lp lh : List Int) (r : Int) (hr : 0 < r) : PQ.kalman_may.f 1000 n 1 lx n n lp 1 n lh r = some 0 := by
  unfold PQ.kalman_may.f
  rw [if_pos rfl, show (1000 : Nat) = 999 + 1 from rfl]
  unfold PQ.kalman_may.j0
  simp
  omega
theorem may_low (n m : Int) (lx lp lh : List Int) (r : Int) (hr : r ≤ 0) : PQ.kalman_may.f 1000 n m lx n n lp 1 n lh r = some 1 := by
  unfold PQ.kalman_may.f
  rw [if_pos rfl, show (1000 : Nat) = 999 + 1 from rfl]
  unfold PQ.kalman_may.j0
  simp
  omega
theorem may_size (n m rh ch : Int) (lx lp lh : List Int) (r : Int) (h : ¬ (rh = 1 ∧ ch = n)) : PQ.kalman_may.f 1000 n m lx n n lp rh ch lh r = some 9 := by
  unfold PQ.kalman_may.f
  by_cases h1 : rh = 1
  · rw [if_pos h1, show (1000 : Nat) = 999 + 1 from rfl]
    have e : (ch != n) = true := by simpa using fun e => h ⟨h1, e⟩
    rw [e]
    rfl
  · rw [if_neg h1]
    rfl
/-- what comes of a measured number -/
def Upd (n : Nat) (lx lp lh : List Int) (z r gate : Int) (X P : List Int) (tk fl : Bool) : Prop :=
  if (mulZ (iY n lx lh z) (iY n lx lh z)).1 > (mulZ gate (iS n lp lh r)).1 ∨ iS n lp lh r ≤ 0 then
    X = lx ∧ P = lp ∧ tk = false ∧ fl = (iO n lx lp lh z r || (mulZ (iY n lx lh z) (iY n lx lh z)).2 || (mulZ gate (iS n lp lh r)).2)
  else X = tX n lx lp lh (iY n lx lh z) (iS n lp lh r) ∧ P = tP n lp lh (iS n lp lh r) r ∧ tk = true ∧ fl = tB n lx lp lh (iY n lx lh z) (iS n lp lh r) r (iO n lx lp lh z r || (mulZ (iY n lx lh z) (iY n lx lh z)).2 || (mulZ gate (iS n lp lh r)).2)
theorem upd_some (n : Nat) (lx lp lh : List Int) (z r gate : Int) : ∃ X P tk fl, Upd n lx lp lh z r gate X P tk fl := by
  unfold Upd
  split
  · exact ⟨_, _, _, _, rfl, rfl, rfl, rfl⟩
  · exact ⟨_, _, _, _, rfl, rfl, rfl, rfl⟩
theorem upd_all (n : Nat) (A1 A2 A3 : Option Addr) (c1 c2 c3 : Nat) (lx lp lh : List Int) (z r gate : Int) (X P : List Int) (tk fl : Bool) (w : World) (h1 : 1 ≤ n) (h8 : n ≤ 8) (hx : lx.length = n * 1) (hp : lp.length = n * n) (hh : lh.length = 1 * n)
    (rx : Rd w A1 lx) (cx : lx.length ≤ c1) (rp : Rd w A2 lp) (cp : lp.length ≤ c2) (rh : Rd w A3 lh) (ch : lh.length ≤ c3) (hr : 0 < r) (H : Upd n lx lp lh z r gate X P tk fl) :
    Calls Try.prog 13 #[.agg #[I n, I 1, .slice A1 lx.length c1, I n, I n, .slice A2 lp.length c2], .agg #[I 1, I n, .slice A3 lh.length c3], I z, I r, I gate] w fun e w' => ∃ Ax dx Ap dp, e = .returned (.tuple #[.agg #[I n, I 1, .slice Ax X.length dx, I n, I n, .slice Ap P.length dp], .bool tk, .bool fl, I 0]) ∧ Rd w' Ax X ∧ X.length ≤ dx ∧ Rd w' Ap P ∧ P.length ≤ dp ∧ Below w.heap.size w w' := by
  have hm := may_good n lx lp lh r hr
  have hi := innov_some n lx lp lh z r h8 hx hp hh
  unfold Upd at H
  split at H
  · rename_i hc
    obtain ⟨rfl, rfl, rfl, rfl⟩ := H
    have key : Calls Try.prog 13 #[.agg #[I n, I 1, .slice A1 X.length c1, I n, I n, .slice A2 P.length c2], .agg #[I 1, I n, .slice A3 lh.length c3], I z, I r, I gate] w fun e w' => e = .returned (.tuple #[.agg #[I n, I 1, .slice A1 X.length c1, I n, I n, .slice A2 P.length c2], .bool false, .bool (iO n X P lh z r || (mulZ (iY n X lh z) (iY n X lh z)).2 || (mulZ gate (iS n P lh r)).2), I 0]) ∧ Below w.heap.size w w' := by
      by_cases h4 : (mulZ (iY n X lh z) (iY n X lh z)).1 > (mulZ gate (iS n P lh r)).1
      · exact upd_off n A1 A2 A3 c1 c2 c3 X P lh z r gate _ _ _ _ _ _ _ w h1 h8 hx hp hh rx cx rp cp rh ch hm hi (Prod.eta _).symm (Prod.eta _).symm h4
      · exact upd_low n A1 A2 A3 c1 c2 c3 X P lh z r gate _ _ _ _ _ _ _ w h1 h8 hx hp hh rx cx rp cp rh ch hm hi (Prod.eta _).symm (Prod.eta _).symm h4 (hc.resolve_left h4)
    refine key.mono ?_
    rintro e w' ⟨rfl, hb⟩
    exact ⟨_, _, _, _, rfl, rx.below hb, cx, rp.below hb, cp, hb⟩
  · rename_i hc
    obtain ⟨rfl, rfl, rfl, rfl⟩ := H
    refine (upd_taken n A1 A2 A3 c1 c2 c3 lx lp lh z r gate _ _ _ _ _ _ _ w h1 h8 hx hp hh rx cx rp cp rh ch hm hi (Prod.eta _).symm (Prod.eta _).symm (fun h => hc (.inl h)) (fun h => hc (.inr h))).mono ?_
    rintro e w' ⟨Ax, dx, Ap, dp, rfl, ox, op, _, hb⟩
    exact ⟨_, _, _, _, rfl, (Own.rd ox).1, (Own.rd ox).2, (Own.rd op).1, (Own.rd op).2, hb⟩
end Go.Proofs.Ytninmcmajbfccaa.PR

/- Layer 5: what doesn't vary isn't changed, plainly. -/
namespace Go.Proofs.Ytninmcmajbfccaa.PR
open Go.RowKit Go.Proofs.Ytninmcmajbfccaa.PQ Go.Proofs.YtninmcmajbfccaaW.PrintWords Go.Proofs.YtninmcmajbfccaaW.PrintLast Go.Proofs.YtninmcmajbfccaaW.PrintMore Go.Proofs.Ytninmcmajbfccaa.KK
set_option linter.unusedVariables false
set_option linter.unusedSimpArgs false
theorem mulZ_z (y : Int) : (mulZ 0 y).1 = 0 := by
  have e1 : cl 0 = 0 := by decide
  have e3 : sz (0 : Int) = 0 := by decide
  unfold mulZ flag
  rw [e1, e3, Int.zero_mul]
  cases (decide ((0 : Int) < 0) != decide (cl y < 0)) <;> (dsimp only; decide)
theorem dvs_z {s : Int} (hs : 0 < s) : (dvs 0 s).1 = 0 := by
  have e1 : cl 0 = 0 := by decide
  have e3 : sz (0 : Int) = 0 := by decide
  have c1 : 0 < cl s := by unfold cl; repeat' split <;> omega
  have c2 : sz (cl s) = cl s := by unfold sz; rw [if_neg (by omega)]
  have e5 : rn (0 * 16777216) (cl s) = 0 := by
    unfold rn
    rw [Int.zero_mul, Int.zero_emod, Int.zero_ediv, if_neg (by omega), if_neg (by omega)]
  unfold dvs
  rw [if_neg (by omega), e1, e3, c2, Int.zero_ediv, if_neg (by omega), e5]
  unfold flag
  cases (decide ((0 : Int) < 0) != decide (cl s < 0)) <;> (dsimp only; decide)
theorem addZ_right {a : Int} (a0 : -70368744177664 ≤ a) (a1 : a ≤ 70368744177663) : (addZ a 0).1 = a := by
  rw [addZ_in a0 a1 (by omega) (by omega) (by omega) (by omega)]
  simp
theorem subZ_right {a : Int} (a0 : -70368744177664 ≤ a) (a1 : a ≤ 70368744177663) : (subZ a 0).1 = a := by
  unfold subZ
  rw [cl_in a0 a1, cl_in (a := 0) (by omega) (by omega), Int.sub_zero, cl_in a0 a1]
theorem zr_at (n j : Nat) : (zr n).getD j 0 = 0 := by
  by_cases h : j < n * 1
  · exact fl_getD h
  · rw [List.getD_eq_getElem?_getD, List.getElem?_eq_none (by rw [zr_length]; omega)]; rfl
theorem scale_z (n : Nat) (y : Int) : scaleL n 1 (zr n) y = zr n := by
  unfold scaleL
  rw [upto_fl]
  refine fl_congr (fun j _ => ?_)
  rw [zr_at, mulZ_z]
theorem mul_z (n : Nat) (m : List Int) : mulL n 1 n (zr n) m = zsq n := by
  unfold mulL
  rw [upto_fl]
  refine fl_congr (fun j _ => ?_)
  simp only [dotZ, zr_at, mulZ_z]
  decide
theorem eyeL_F (n : Nat) : eyeL n = eyeF n := by
  unfold eyeL eyeF
  rw [diagL_fl]
  simp only [List.length_replicate]
  refine fl_congr (fun j hj => ?_)
  split
  · rw [List.getD_eq_getElem?_getD, List.getElem?_replicate, if_pos (div_lt hj)]; rfl
  · rfl
theorem eyeF_in (n : Nat) : inR (eyeF n) := inR_fl (fun m _ => by split <;> omega)
theorem taken_nil (n : Nat) (lx lp lh : List Int) (y s r : Int) (hx : inR lx) (hp : inR lp) (lx1 : lx.length = n * 1) (lp1 : lp.length = n * n) (he : evenP n lp) (hs : 0 < s) (hK : tK0 n lp lh = zr n) :
    tX n lx lp lh y s = lx ∧ tP n lp lh s r = lp := by
  have ek : tK n lp lh s = zr n := by
    unfold tK
    rw [hK]
    unfold zr fl
    rw [List.map_map]
    refine List.map_congr_left (fun a _ => ?_)
    simp only [Function.comp]
    exact dvs_z hs
  have ei : tI n lp lh s = eyeF n := by
    unfold tI
    rw [ek, mul_z, eyeL_F]
    unfold eachL
    rw [upto_fl]
    refine (fl_ext fl_length (fun j hj => ?_)).symm
    rw [zsq_at, dm, subZ_right (eyeF_in n j).1 (eyeF_in n j).2]
    unfold eyeF
    rfl
  constructor
  · unfold tX
    rw [ek, scale_z]
    unfold eachL
    rw [upto_fl]
    refine (fl_ext lx1 (fun j hj => ?_)).symm
    rw [zr_at, dm, addZ_right (hx j).1 (hx j).2]
  · unfold tP tKK
    rw [ek, ei, scale_z, mul_z]
    unfold betweenL
    rw [(mul_left n n lp hp lp1).1, tr_eye, (mul_right n lp hp lp1).1, (add_none n lp hp lp1).1, goodL_fl n lp lp1 hp, good_stays n lp lp1 he]
theorem two_in {x : Int} (h0 : -1099511627776 ≤ x) (h1 : x ≤ 1099511627776) : inR [x, 5] := fun j => by
  match j with
  | 0 => simp; omega
  | 1 => simp
  | j + 2 => simp
theorem sure_plain (x z r : Int) (h0 : -1099511627776 ≤ x) (h1 : x ≤ 1099511627776) (X P : List Int) (tk fl : Bool) (H : Upd 2 [x, 5] (diagL [0, 16777216]) [16777216, 0] z r 16777216 X P tk fl) : X = [x, 5] ∧ P = diagL [0, 16777216] := by
  unfold Upd at H
  split at H
  · exact ⟨H.1, H.2.1⟩
  · rename_i hc
    obtain ⟨rfl, rfl, _, _⟩ := H
    have hv : ∀ j, 0 ≤ ([0, 16777216] : List Int).getD j 0 := fun j => by
      match j with
      | 0 => simp
      | 1 => simp
      | j + 2 => simp
    have hi : inR [0, 16777216] := fun j => by
      match j with
      | 0 => simp
      | 1 => simp
      | j + 2 => simp
    exact taken_nil 2 [x, 5] (diagL [0, 16777216]) [16777216, 0] _ _ r (two_in h0 h1) (diag_in _ hi) rfl (by decide +kernel) (diag_even _ hv) (by omega) (by decide +kernel)
theorem sure_new (x : Int) (h0 : -1099511627776 ≤ x) (h1 : x ≤ 1099511627776) : newP [x, 5] [0, 16777216] := by
  refine ⟨rfl, by simp, by simp, two_in h0 h1, fun j => ?_, fun j => ?_⟩
  all_goals
    match j with
    | 0 => simp
    | 1 => simp
    | j + 2 => simp
end Go.Proofs.Ytninmcmajbfccaa.PR

/- Layer 5: KalmanSure. -/
namespace Go.Proofs.Ytninmcmajbfccaa.PR
open Go.RowKit Go.Proofs.Ytninmcmajbfccaa.PQ Go.Proofs.YtninmcmajbfccaaW.PrintWords Go.Proofs.YtninmcmajbfccaaW.PrintLast Go.Proofs.YtninmcmajbfccaaW.PrintMore Go.Proofs.Ytninmcmajbfccaa.KK
set_option linter.unusedVariables false
set_option linter.unusedSimpArgs false
theorem Rd.two {w : World} {b : Nat} {q p : Int} {t : TypeId} (h : Row w b t #[I q, I p]) : Rd w (some ⟨b, 0, none⟩) [q, p] := by
  refine ⟨rfl, by show (2 : Nat) ≤ _; omega, fun _ => ⟨_, rfl, fun j x hj => ?_⟩⟩
  have key : w.cell? ⟨b, j, none⟩ = some (I x) := by
    rw [h.cell]
    match j, hj with
    | 0, hj => simp at hj; subst hj; rfl
    | 1, hj => simp at hj; subst hj; rfl
  refine ⟨[I x], rfl, rfl, fun i u hi => ?_⟩
  match i, hi with
  | 0, hi =>
    simp at hi
    subst hi
    have h1 : (Kd.int .i64).sz = 1 := rfl
    rw [h1]
    have e : ((⟨b, 0, none⟩ : Addr).add (j * 1 + 0)) = ⟨b, j, none⟩ := by
      simp [Addr.add]
      intro h; simp [h]
    rw [e]
    exact key
set_option maxRecDepth 100000 in
set_option maxHeartbeats 8000000 in
theorem sure_walk (x z r : Int) (w : World) : Calls Try.prog 3 #[I x, I z, I r] w fun e w' => e = .returned (.bool true) ∧ Below w.heap.size w w' := by
  by_cases hb : x > 1099511627776 ∨ x < -1099511627776 ∨ z > 1099511627776 ∨ z < -1099511627776 ∨ r < 16777216 ∨ r > 1099511627776
  · have key : ∀ (b1 b2 b3 b4 b5 b6 : Bool), decide (x > 1099511627776) = b1 → decide (x < -1099511627776) = b2 → decide (z > 1099511627776) = b3 → decide (z < -1099511627776) = b4 → decide (r < 16777216) = b5 → decide (r > 1099511627776) = b6 → (b1 || b2 || b3 || b4 || b5 || b6) = true → Calls Try.prog 3 #[I x, I z, I r] w fun e w' => e = .returned (.bool true) ∧ Below w.heap.size w w' := by
      intro b1 b2 b3 b4 b5 b6 e1 e2 e3 e4 e5 e6 hor
      clear hb
      go_enter Try.func3, Try.ntmps3
      go_wp2_with fail
      refine (shown_calls _).mono ?_
      rintro e w1 ⟨rfl, hb⟩
      have B1 := Lib.hid hb
      clear hb
      cases b1 with
      | true =>
        clear e2 e3 e4 e5 e6 hor
        go_wp2
        go_ret
        exact ⟨rfl, B1.out⟩
      | false =>
        cases b2 with
        | true =>
          clear e3 e4 e5 e6 hor
          go_wp2
          go_ret
          exact ⟨rfl, B1.out⟩
        | false =>
          cases b3 with
          | true =>
            clear e4 e5 e6 hor
            go_wp2
            go_ret
            exact ⟨rfl, B1.out⟩
          | false =>
            cases b4 with
            | true =>
              clear e5 e6 hor
              go_wp2
              go_ret
              exact ⟨rfl, B1.out⟩
            | false =>
              cases b5 with
              | true =>
                clear e6 hor
                go_wp2
                go_ret
                exact ⟨rfl, B1.out⟩
              | false =>
                cases b6 with
                | true =>
                  clear hor
                  go_wp2
                  go_ret
                  exact ⟨rfl, B1.out⟩
                | false => cases hor
    exact key _ _ _ _ _ _ rfl rfl rfl rfl rfl rfl (by simp; omega)
  · have e1 : decide (x > 1099511627776) = false := by simp; omega
    have e2 : decide (x < -1099511627776) = false := by simp; omega
    have e3 : decide (z > 1099511627776) = false := by simp; omega
    have e4 : decide (z < -1099511627776) = false := by simp; omega
    have e5 : decide (r < 16777216) = false := by simp; omega
    have e6 : decide (r > 1099511627776) = false := by simp; omega
    have HX : Hid (-1099511627776 ≤ x ∧ x ≤ 1099511627776 ∧ 0 < r) := Lib.hid ⟨by omega, by omega, by omega⟩
    clear hb
    obtain ⟨X, P, tk, fl, hu⟩ := upd_some 2 [x, 5] (diagL [0, 16777216]) [16777216, 0] z r 16777216
    obtain ⟨eX, eP⟩ := sure_plain x z r HX.out.1 HX.out.2.1 X P tk fl hu
    subst eX eP
    have HU := Lib.hid hu
    have HN := Lib.hid (sure_new x HX.out.1 HX.out.2.1)
    have ed : diagL [0, 16777216] = [0, 0, 0, 16777216] := by decide +kernel
    rw [ed] at HU
    have ED := Lib.hid ed
    clear hu ed
    go_enter Try.func3, Try.ntmps3
    go_wp2_with fail
    refine (shown_calls _).mono ?_
    rintro e w1 ⟨rfl, hb⟩
    have B1 := Lib.hid hb
    clear hb
    have TN : Hid (∀ A1 A2 w', Rd w' A1 [x, 5] → Rd w' A2 [0, 16777216] → Calls Try.prog 12 #[.slice A1 2 2, .slice A2 2 2] w' fun e w'' => ∃ Ax dx Ap dp, e = .returned (.tuple #[.agg #[I 2, I 1, .slice Ax 2 dx, I 2, I 2, .slice Ap 4 dp], I 0]) ∧ Rd w'' Ax [x, 5] ∧ 2 ≤ dx ∧ Rd w'' Ap [0, 0, 0, 16777216] ∧ 4 ≤ dp ∧ Below w'.heap.size w' w'') := Lib.hid (fun A1 A2 w' h1 h2 => by
      have h := new_calls A1 A2 2 2 [x, 5] [0, 16777216] w' h1 (by simp) h2 (by simp) HN.out
      rw [ED.out] at h
      exact h)
    have TU : Hid (∀ A1 A2 A3 c1 c2 c3 w', Rd w' A1 [x, 5] → 2 ≤ c1 → Rd w' A2 [0, 0, 0, 16777216] → 4 ≤ c2 → Rd w' A3 [16777216, 0] → 2 ≤ c3 → Calls Try.prog 13 #[.agg #[I 2, I 1, .slice A1 2 c1, I 2, I 2, .slice A2 4 c2], .agg #[I 1, I 2, .slice A3 2 c3], I z, I r, I 16777216] w' fun e w'' => ∃ Ax dx Ap dp, e = .returned (.tuple #[.agg #[I 2, I 1, .slice Ax 2 dx, I 2, I 2, .slice Ap 4 dp], .bool tk, .bool fl, I 0]) ∧ Rd w'' Ax [x, 5] ∧ 2 ≤ dx ∧ Rd w'' Ap [0, 0, 0, 16777216] ∧ 4 ≤ dp ∧ Below w'.heap.size w' w'') := Lib.hid (fun A1 A2 A3 c1 c2 c3 w' r1 k1 r2 k2 r3 k3 =>
      upd_all 2 A1 A2 A3 c1 c2 c3 [x, 5] [0, 0, 0, 16777216] [16777216, 0] z r 16777216 [x, 5] [0, 0, 0, 16777216] tk fl w' (by omega) (by omega) rfl rfl rfl r1 k1 r2 k2 r3 k3 HX.out.2.2 HU.out)
    have N1 : Hid (Scene w1 [(22, #[I x, I 5]), (22, #[I 0, I 16777216])] ((w1.alloc (.cells #[I x, I 5] 22)).alloc (.cells #[I 0, I 16777216] 22))) := Lib.hid (((Scene.none w1).push (by simp) 22 #[I x, I 5]).push (by simp) 22 #[I 0, I 16777216])
    go_wp2_with fail
    refine (TN.out _ _ _ (Rd.two N1.out.r0) (Rd.two N1.out.r1)).mono ?_
    rintro e w2 ⟨Ax, dx, Ap, dp, rfl, rx, kx, rp, kp, hb⟩
    have B2 := Lib.hid (bgo B1.out (bgo N1.out.be hb))
    have RX := Lib.hid rx
    have RP := Lib.hid rp
    have KX := Lib.hid kx
    have KP := Lib.hid kp
    clear rx rp kx kp hb N1 TN
    have HBW : Hid (Below w2.heap.size w2 (((w2.alloc (.cells #[I 2, I 1, .slice Ax 2 dx, I 2, I 2, .slice Ap 4 dp] 28)).alloc (.cells #[I 16777216, I 0] 22)).alloc (.cells #[I 1, I 2, .slice (some ⟨w2.heap.size + 1, 0, none⟩) 2 2] 26))) := Lib.hid (bal (bal (bal (Below.refl _ _) _) _) _)
    have RH : Hid (Row (((w2.alloc (.cells #[I 2, I 1, .slice Ax 2 dx, I 2, I 2, .slice Ap 4 dp] 28)).alloc (.cells #[I 16777216, I 0] 22)).alloc (.cells #[I 1, I 2, .slice (some ⟨w2.heap.size + 1, 0, none⟩) 2 2] 26)) (w2.heap.size + 1) 22 #[I 16777216, I 0]) := Lib.hid (by
      have h := Row.new (w2.alloc (.cells #[I 2, I 1, .slice Ax 2 dx, I 2, I 2, .slice Ap 4 dp] 28)) 22 #[I 16777216, I 0]
      have h2 := Row.alloc h (.cells #[I 1, I 2, .slice (some ⟨w2.heap.size + 1, 0, none⟩) 2 2] 26)
      simpa using h2)
    go_wp2_with fail
    refine (TU.out Ax Ap (some ⟨w2.heap.size + 1, 0, none⟩) dx dp 2 _ (Rd.below RX.out HBW.out) KX.out (Rd.below RP.out HBW.out) KP.out (Rd.two RH.out) (by simp)).mono ?_
    rintro e w3 ⟨Bx, fx, Bp, fp, rfl, rx, kx, rp, kp, hb⟩
    have B3 := Lib.hid (bgo B2.out (bgo HBW.out hb))
    obtain ⟨bx, ox, rfl, lx, cx⟩ := Rd.cells rx (by simp)
    obtain ⟨bp, op, rfl, lp, cp⟩ := Rd.cells rp (by simp)
    have x0 : w3.cell? ⟨bx, ox, none⟩ = some (I x) := cx 0 x rfl
    have x1 := cx 1 5 rfl
    have p0 : w3.cell? ⟨bp, op, none⟩ = some (I 0) := cp 0 0 rfl
    have p3 := cp 3 16777216 rfl
    clear rx rp kx kp hb RX RP KX KP HBW RH TU cx cp HU HN ED HX e1 e2 e3 e4 e5 e6
    have B4 := Lib.hid (bal B3.out (.cells #[I 2, I 1, .slice (some ⟨bx, ox, none⟩) 2 fx, I 2, I 2, .slice (some ⟨bp, op, none⟩) 4 fp] 28))
    go_wp2
    go_ret
    exact ⟨rfl, B4.out⟩
end Go.Proofs.Ytninmcmajbfccaa.PR

/- Layer 5: what is measured of a number alone, plainly. -/
namespace Go.Proofs.Ytninmcmajbfccaa.PR
open Go.RowKit Go.Proofs.Ytninmcmajbfccaa.PQ Go.Proofs.YtninmcmajbfccaaW.PrintWords Go.Proofs.YtninmcmajbfccaaW.PrintLast Go.Proofs.YtninmcmajbfccaaW.PrintMore Go.Proofs.Ytninmcmajbfccaa.KK
set_option linter.unusedVariables false
set_option linter.unusedSimpArgs false
/-- the quotient, and what comes of how it varies -/
def kF (v s : Int) : Int := (dvs v s).1
def p1F (v s : Int) : Int := (mulZ (mulZ (16777216 - kF v s) v).1 (16777216 - kF v s)).1
def p2F (v s r : Int) : Int := (mulZ (mulZ (kF v s) r).1 (kF v s)).1
def chk (v s r : Int) : Bool := decide (0 ≤ kF v s) && decide (kF v s ≤ 16777216) && decide (0 ≤ p1F v s) && decide (0 ≤ p2F v s r) && decide (p1F v s + p2F v s r ≤ v + 1024)
theorem chk_of {v s r : Int} (h : chk v s r = true) : ∃ k p1 p2, (dvs v s).1 = k ∧ (mulZ (mulZ (16777216 - k) v).1 (16777216 - k)).1 = p1 ∧ (mulZ (mulZ k r).1 k).1 = p2 ∧ 0 ≤ k ∧ k ≤ 16777216 ∧ 0 ≤ p1 ∧ 0 ≤ p2 ∧ p1 + p2 ≤ v + 1024 := by
  unfold chk at h
  simp only [Bool.and_eq_true, decide_eq_true_eq] at h
  obtain ⟨⟨⟨⟨a, b⟩, c⟩, d⟩, e⟩ := h
  exact ⟨kF v s, p1F v s, p2F v s r, rfl, rfl, rfl, a, b, c, d, e⟩
set_option maxRecDepth 100000
def row (V : Nat) : Bool := (List.range 100).all (fun R => chk ((V : Int) * 16777216) (((V : Int) + R + 1) * 16777216) (((R : Int) + 1) * 16777216))
theorem row0 : row 0 = true := by decide +kernel
theorem row1 : row 1 = true := by decide +kernel
theorem row2 : row 2 = true := by decide +kernel
theorem row3 : row 3 = true := by decide +kernel
theorem row4 : row 4 = true := by decide +kernel
theorem row5 : row 5 = true := by decide +kernel
theorem row6 : row 6 = true := by decide +kernel
theorem row7 : row 7 = true := by decide +kernel
theorem row8 : row 8 = true := by decide +kernel
theorem row9 : row 9 = true := by decide +kernel
theorem row10 : row 10 = true := by decide +kernel
theorem row11 : row 11 = true := by decide +kernel
theorem row12 : row 12 = true := by decide +kernel
theorem row13 : row 13 = true := by decide +kernel
theorem row14 : row 14 = true := by decide +kernel
theorem row15 : row 15 = true := by decide +kernel
theorem row16 : row 16 = true := by decide +kernel
theorem row17 : row 17 = true := by decide +kernel
theorem row18 : row 18 = true := by decide +kernel
theorem row19 : row 19 = true := by decide +kernel
theorem row20 : row 20 = true := by decide +kernel
theorem row21 : row 21 = true := by decide +kernel
theorem row22 : row 22 = true := by decide +kernel
theorem row23 : row 23 = true := by decide +kernel
theorem row24 : row 24 = true := by decide +kernel
theorem row25 : row 25 = true := by decide +kernel
theorem row26 : row 26 = true := by decide +kernel
theorem row27 : row 27 = true := by decide +kernel
theorem row28 : row 28 = true := by decide +kernel
theorem row29 : row 29 = true := by decide +kernel
theorem row30 : row 30 = true := by decide +kernel
theorem row31 : row 31 = true := by decide +kernel
theorem row32 : row 32 = true := by decide +kernel
theorem row33 : row 33 = true := by decide +kernel
theorem row34 : row 34 = true := by decide +kernel
theorem row35 : row 35 = true := by decide +kernel
theorem row36 : row 36 = true := by decide +kernel
theorem row37 : row 37 = true := by decide +kernel
theorem row38 : row 38 = true := by decide +kernel
theorem row39 : row 39 = true := by decide +kernel
theorem row40 : row 40 = true := by decide +kernel
theorem row41 : row 41 = true := by decide +kernel
theorem row42 : row 42 = true := by decide +kernel
theorem row43 : row 43 = true := by decide +kernel
theorem row44 : row 44 = true := by decide +kernel
theorem row45 : row 45 = true := by decide +kernel
theorem row46 : row 46 = true := by decide +kernel
theorem row47 : row 47 = true := by decide +kernel
theorem row48 : row 48 = true := by decide +kernel
theorem row49 : row 49 = true := by decide +kernel
theorem row50 : row 50 = true := by decide +kernel
theorem row51 : row 51 = true := by decide +kernel
theorem row52 : row 52 = true := by decide +kernel
theorem row53 : row 53 = true := by decide +kernel
theorem row54 : row 54 = true := by decide +kernel
theorem row55 : row 55 = true := by decide +kernel
theorem row56 : row 56 = true := by decide +kernel
theorem row57 : row 57 = true := by decide +kernel
theorem row58 : row 58 = true := by decide +kernel
theorem row59 : row 59 = true := by decide +kernel
theorem row60 : row 60 = true := by decide +kernel
theorem row61 : row 61 = true := by decide +kernel
theorem row62 : row 62 = true := by decide +kernel
theorem row63 : row 63 = true := by decide +kernel
theorem row64 : row 64 = true := by decide +kernel
theorem row65 : row 65 = true := by decide +kernel
theorem row66 : row 66 = true := by decide +kernel
theorem row67 : row 67 = true := by decide +kernel
theorem row68 : row 68 = true := by decide +kernel
theorem row69 : row 69 = true := by decide +kernel
theorem row70 : row 70 = true := by decide +kernel
theorem row71 : row 71 = true := by decide +kernel
theorem row72 : row 72 = true := by decide +kernel
theorem row73 : row 73 = true := by decide +kernel
theorem row74 : row 74 = true := by decide +kernel
theorem row75 : row 75 = true := by decide +kernel
theorem row76 : row 76 = true := by decide +kernel
theorem row77 : row 77 = true := by decide +kernel
theorem row78 : row 78 = true := by decide +kernel
theorem row79 : row 79 = true := by decide +kernel
theorem row80 : row 80 = true := by decide +kernel
theorem row81 : row 81 = true := by decide +kernel
theorem row82 : row 82 = true := by decide +kernel
theorem row83 : row 83 = true := by decide +kernel
theorem row84 : row 84 = true := by decide +kernel
theorem row85 : row 85 = true := by decide +kernel
theorem row86 : row 86 = true := by decide +kernel
theorem row87 : row 87 = true := by decide +kernel
theorem row88 : row 88 = true := by decide +kernel
theorem row89 : row 89 = true := by decide +kernel
theorem row90 : row 90 = true := by decide +kernel
theorem row91 : row 91 = true := by decide +kernel
theorem row92 : row 92 = true := by decide +kernel
theorem row93 : row 93 = true := by decide +kernel
theorem row94 : row 94 = true := by decide +kernel
theorem row95 : row 95 = true := by decide +kernel
theorem row96 : row 96 = true := by decide +kernel
theorem row97 : row 97 = true := by decide +kernel
theorem row98 : row 98 = true := by decide +kernel
theorem row99 : row 99 = true := by decide +kernel
theorem small_all : ∀ V, V < 100 → row V = true := by
  intro V hV
  match V, hV with
  | 0, _ => exact row0
  | 1, _ => exact row1
  | 2, _ => exact row2
  | 3, _ => exact row3
  | 4, _ => exact row4
  | 5, _ => exact row5
  | 6, _ => exact row6
  | 7, _ => exact row7
  | 8, _ => exact row8
  | 9, _ => exact row9
  | 10, _ => exact row10
  | 11, _ => exact row11
  | 12, _ => exact row12
  | 13, _ => exact row13
  | 14, _ => exact row14
  | 15, _ => exact row15
  | 16, _ => exact row16
  | 17, _ => exact row17
  | 18, _ => exact row18
  | 19, _ => exact row19
  | 20, _ => exact row20
  | 21, _ => exact row21
  | 22, _ => exact row22
  | 23, _ => exact row23
  | 24, _ => exact row24
  | 25, _ => exact row25
  | 26, _ => exact row26
  | 27, _ => exact row27
  | 28, _ => exact row28
  | 29, _ => exact row29
  | 30, _ => exact row30
  | 31, _ => exact row31
  | 32, _ => exact row32
  | 33, _ => exact row33
  | 34, _ => exact row34
  | 35, _ => exact row35
  | 36, _ => exact row36
  | 37, _ => exact row37
  | 38, _ => exact row38
  | 39, _ => exact row39
  | 40, _ => exact row40
  | 41, _ => exact row41
  | 42, _ => exact row42
  | 43, _ => exact row43
  | 44, _ => exact row44
  | 45, _ => exact row45
  | 46, _ => exact row46
  | 47, _ => exact row47
  | 48, _ => exact row48
  | 49, _ => exact row49
  | 50, _ => exact row50
  | 51, _ => exact row51
  | 52, _ => exact row52
  | 53, _ => exact row53
  | 54, _ => exact row54
  | 55, _ => exact row55
  | 56, _ => exact row56
  | 57, _ => exact row57
  | 58, _ => exact row58
  | 59, _ => exact row59
  | 60, _ => exact row60
  | 61, _ => exact row61
  | 62, _ => exact row62
  | 63, _ => exact row63
  | 64, _ => exact row64
  | 65, _ => exact row65
  | 66, _ => exact row66
  | 67, _ => exact row67
  | 68, _ => exact row68
  | 69, _ => exact row69
  | 70, _ => exact row70
  | 71, _ => exact row71
  | 72, _ => exact row72
  | 73, _ => exact row73
  | 74, _ => exact row74
  | 75, _ => exact row75
  | 76, _ => exact row76
  | 77, _ => exact row77
  | 78, _ => exact row78
  | 79, _ => exact row79
  | 80, _ => exact row80
  | 81, _ => exact row81
  | 82, _ => exact row82
  | 83, _ => exact row83
  | 84, _ => exact row84
  | 85, _ => exact row85
  | 86, _ => exact row86
  | 87, _ => exact row87
  | 88, _ => exact row88
  | 89, _ => exact row89
  | 90, _ => exact row90
  | 91, _ => exact row91
  | 92, _ => exact row92
  | 93, _ => exact row93
  | 94, _ => exact row94
  | 95, _ => exact row95
  | 96, _ => exact row96
  | 97, _ => exact row97
  | 98, _ => exact row98
  | 99, _ => exact row99
  | n + 100, h => exact absurd h (by omega)
theorem small_of {V R : Nat} (hV : V < 100) (hR : R < 100) : chk ((V : Int) * 16777216) (((V : Int) + R + 1) * 16777216) (((R : Int) + 1) * 16777216) = true :=
  List.all_eq_true.1 (small_all V hV) R (List.mem_range.2 hR)
end Go.Proofs.Ytninmcmajbfccaa.PR

/- Layer 5: what is measured of a number alone, plainly: what it comes to. -/
namespace Go.Proofs.Ytninmcmajbfccaa.PR
open Go.RowKit Go.Proofs.Ytninmcmajbfccaa.PQ Go.Proofs.YtninmcmajbfccaaW.PrintWords Go.Proofs.YtninmcmajbfccaaW.PrintLast Go.Proofs.YtninmcmajbfccaaW.PrintMore Go.Proofs.Ytninmcmajbfccaa.KK
set_option linter.unusedVariables false
set_option linter.unusedSimpArgs false
theorem mulZ_in (a b : Int) : -70368744177664 ≤ (mulZ a b).1 ∧ (mulZ a b).1 ≤ 70368744177663 := by
  unfold mulZ flag sg
  split
  · split
    · exact ⟨cl_lo _, cl_hi _⟩
    · exact ⟨cl_lo _, cl_hi _⟩
  · exact ⟨cl_lo _, cl_hi _⟩
theorem addZ_left {q : Int} (h0 : -70368744177664 ≤ q) (h1 : q ≤ 70368744177663) : (addZ 0 q).1 = q := by
  rw [addZ_in (by omega) (by omega) h0 h1 (by omega) (by omega)]
  simp
/-- a product that is exact -/
theorem mulZ_exact {k Y : Int} (k0 : 0 ≤ k) (k1 : k ≤ 16777216) (y0 : -1000 ≤ Y) (y1 : Y ≤ 1000) : (mulZ k (Y * 16777216)).1 = k * Y := by
  have e1 : cl k = k := cl_in (by omega) (by omega)
  have e2 : cl (Y * 16777216) = Y * 16777216 := cl_in (by omega) (by omega)
  have e3 : sz k = k := by unfold sz; rw [if_neg (by omega)]
  have e4 : decide (k < 0) = false := decide_eq_false (by omega)
  unfold mulZ flag
  rw [e1, e2, e3, e4]
  dsimp only
  by_cases hY : Y < 0
  · have es : sz (Y * 16777216) = -Y * 16777216 := by unfold sz; rw [if_pos (by omega)]; omega
    have ed : decide (Y * 16777216 < 0) = true := decide_eq_true (by omega)
    obtain ⟨M, hM⟩ : ∃ M, k * -Y = M := ⟨_, rfl⟩
    have m0 : 0 ≤ M := by rw [← hM]; exact Int.mul_nonneg k0 (by omega)
    have m1 : M ≤ 16777216 * 1000 := by rw [← hM]; exact Int.mul_le_mul k1 (by omega) (by omega) (by omega)
    have e5 : k * (-Y * 16777216) = M * 16777216 := by rw [← hM]; grind
    have e6 : lw (M * 16777216) = M := by
      unfold lw
      dsimp only
      rw [if_neg (by omega), if_neg (by omega)]
      omega
    have e7 : M * 16777216 / 309485009821345068724781056 = 0 := by omega
    rw [es, ed, e5, e6, e7]
    unfold sg
    rw [if_pos rfl, if_neg (by omega)]
    simp only [Bool.false_bne, if_true]
    rw [cl_in (by omega) (by omega), ← hM]
    grind
  · have es : sz (Y * 16777216) = Y * 16777216 := by unfold sz; rw [if_neg (by omega)]
    have ed : decide (Y * 16777216 < 0) = false := decide_eq_false (by omega)
    obtain ⟨M, hM⟩ : ∃ M, k * Y = M := ⟨_, rfl⟩
    have m0 : 0 ≤ M := by rw [← hM]; exact Int.mul_nonneg k0 (by omega)
    have m1 : M ≤ 16777216 * 1000 := by rw [← hM]; exact Int.mul_le_mul k1 (by omega) (by omega) (by omega)
    have e5 : k * (Y * 16777216) = M * 16777216 := by rw [← hM]; grind
    have e6 : lw (M * 16777216) = M := by
      unfold lw
      dsimp only
      rw [if_neg (by omega), if_neg (by omega)]
      omega
    have e7 : M * 16777216 / 309485009821345068724781056 = 0 := by omega
    rw [es, ed, e5, e6, e7]
    unfold sg
    rw [if_pos rfl, if_neg (by omega)]
    simp only [bne_self_eq_false, Bool.false_eq_true, if_false]
    rw [cl_in (by omega) (by omega)]
    exact hM.symm
theorem mul11 (a b : Int) : mulL 1 1 1 [a] [b] = [(mulZ a b).1] := by
  have : mulL 1 1 1 [a] [b] = [(addZ 0 (mulZ a b).1).1] := rfl
  rw [this, addZ_left (mulZ_in a b).1 (mulZ_in a b).2]
theorem mul_by1 {a : Int} (h0 : -70368744177664 ≤ a) (h1 : a ≤ 70368744177663) : (mulZ a 16777216).1 = a := by rw [mulZ_comm, mulZ_one h0 h1]
theorem tr11 (a : Int) : trL 1 1 [a] = [a] := rfl
theorem good11 {p : Int} (h0 : 0 ≤ p) (h1 : p ≤ 70368744177663) : goodL 1 [p] = [p] := by
  have hr : inR [p] := fun j => by
    match j with
    | 0 => simp; omega
    | j + 1 => simp
  have he : evenP 1 [p] := fun m hm => by
    obtain rfl : m = 0 := by omega
    refine ⟨rfl, fun _ => ?_⟩
    simpa using h0
  rw [goodL_fl 1 [p] rfl hr, good_stays 1 [p] rfl he]
theorem subZ_in {a b : Int} (a0 : -70368744177664 ≤ a) (a1 : a ≤ 70368744177663) (b0 : -70368744177664 ≤ b) (b1 : b ≤ 70368744177663) (s0 : -70368744177664 ≤ a - b) (s1 : a - b ≤ 70368744177663) : (subZ a b).1 = a - b := by
  unfold subZ
  rw [cl_in a0 a1, cl_in b0 b1, cl_in s0 s1]
theorem add11 (a b : Int) : eachL addZ 1 1 [a] [b] = [(addZ a b).1] := rfl
theorem sub11 (a b : Int) : eachL subZ 1 1 [a] [b] = [(subZ a b).1] := rfl
theorem scale11 (a b : Int) : scaleL 1 1 [a] b = [(mulZ a b).1] := rfl
theorem eye1 : eyeF 1 = [16777216] := by decide
theorem one_calc (v y s r k p1 p2 : Int) (hv0 : 0 ≤ v) (hv1 : v ≤ 70368744177663) (hk : (dvs v s).1 = k) (h1 : (mulZ (mulZ (16777216 - k) v).1 (16777216 - k)).1 = p1) (h2 : (mulZ (mulZ k r).1 k).1 = p2) (k0 : 0 ≤ k) (k1 : k ≤ 16777216) (q1 : 0 ≤ p1) (q2 : 0 ≤ p2) (hs : p1 + p2 ≤ 70368744177663) (a : Int) :
    tX 1 [a] [v] [16777216] y s = [(addZ a (mulZ k y).1).1] ∧ tP 1 [v] [16777216] s r = [p1 + p2] := by
  have eK : tK 1 [v] [16777216] s = [k] := by
    unfold tK tK0
    rw [tr11, mul11, mul_by1 (by omega) (by omega), ← hk]
    rfl
  have eI : tI 1 [v] [16777216] s = [16777216 - k] := by
    unfold tI
    rw [eK, mul11, mul_by1 (by omega) (by omega), eyeL_F, eye1, sub11, subZ_in (by omega) (by omega) (by omega) (by omega) (by omega) (by omega)]
  constructor
  · unfold tX
    rw [eK, scale11, add11]
  · unfold tP tKK betweenL
    rw [eK, eI, tr11, mul11, mul11, scale11, tr11, mul11, h1, h2, add11, addZ_in (by omega) (by omega) (by omega) (by omega) (by omega) (by omega)]
    exact good11 (by omega) (by omega)
theorem between_num {k A B : Int} (k0 : 0 ≤ k) (k1 : k ≤ 16777216) (a0 : 0 ≤ A) (a1 : A ≤ 1000) (b0 : 0 ≤ B) (b1 : B ≤ 1000) :
    mn (A * 16777216) (B * 16777216) - 1024 ≤ (addZ (A * 16777216) (mulZ k ((B - A) * 16777216)).1).1 ∧ (addZ (A * 16777216) (mulZ k ((B - A) * 16777216)).1).1 ≤ mx (A * 16777216) (B * 16777216) + 1024 := by
  rw [mulZ_exact k0 k1 (by omega) (by omega)]
  have hlo : (0 ≤ B - A → 0 ≤ k * (B - A) ∧ k * (B - A) ≤ 16777216 * (B - A)) ∧ (B - A < 0 → 16777216 * (B - A) ≤ k * (B - A) ∧ k * (B - A) ≤ 0) := by
    constructor
    · intro h
      exact ⟨Int.mul_nonneg k0 h, Int.mul_le_mul_of_nonneg_right k1 h⟩
    · intro h
      have h1 := Int.mul_nonneg k0 (show 0 ≤ A - B by omega)
      have h2 := Int.mul_le_mul_of_nonneg_right k1 (show 0 ≤ A - B by omega)
      have e : k * (A - B) = -(k * (B - A)) := by grind
      omega
  obtain ⟨M, hM⟩ : ∃ M, k * (B - A) = M := ⟨_, rfl⟩
  rw [hM] at hlo ⊢
  have hs : -70368744177664 ≤ A * 16777216 + M ∧ A * 16777216 + M ≤ 70368744177663 := by omega
  rw [addZ_in (by omega) (by omega) (by omega) (by omega) hs.1 hs.2]
  dsimp only
  unfold mn mx
  constructor <;> (repeat' split) <;> omega
theorem iY_one {a b : Int} (a0 : -70368744177664 ≤ a) (a1 : a ≤ 70368744177663) (b0 : -70368744177664 ≤ b) (b1 : b ≤ 70368744177663) (s0 : -70368744177664 ≤ b - a) (s1 : b - a ≤ 70368744177663) : iY 1 [a] [16777216] b = b - a := by
  unfold iY
  rw [mul11, mulZ_one a0 a1]
  exact subZ_in b0 b1 a0 a1 s0 s1
theorem iS_one {v r : Int} (a0 : -70368744177664 ≤ v) (a1 : v ≤ 70368744177663) (b0 : -70368744177664 ≤ r) (b1 : r ≤ 70368744177663) (s0 : -70368744177664 ≤ v + r) (s1 : v + r ≤ 70368744177663) : iS 1 [v] [16777216] r = v + r := by
  unfold iS betweenL
  rw [mul11, mulZ_one a0 a1, tr11, mul11, mul_by1 a0 a1]
  show (addZ v r).1 = _
  rw [addZ_in a0 a1 b0 b1 s0 s1]
theorem shrinks_num (A B v s r : Int) (a0 : 0 ≤ A) (a1 : A ≤ 1000) (b0 : 0 ≤ B) (b1 : B ≤ 1000) (v0 : 0 ≤ v) (v1 : v ≤ 1660944384) (r0 : 0 ≤ r) (r1 : r ≤ 1677721600) (es : s = v + r) (hc : chk v s r = true) (X P : List Int) (tk fl : Bool)
    (H : Upd 1 [A * 16777216] [v] [16777216] (B * 16777216) r 67108864000 X P tk fl) :
    ∃ x p, X = [x] ∧ P = [p] ∧ p ≤ v + 1024 ∧ (tk = true → mn (A * 16777216) (B * 16777216) - 1024 ≤ x ∧ x ≤ mx (A * 16777216) (B * 16777216) + 1024) := by
  unfold Upd at H
  split at H
  · obtain ⟨rfl, rfl, rfl, _⟩ := H
    exact ⟨_, _, rfl, rfl, by omega, fun h => by cases h⟩
  · rename_i hcc
    clear hcc
    obtain ⟨rfl, rfl, _, _⟩ := H
    obtain ⟨k, p1, p2, hk, h1, h2, k0, k1, q1, q2, hq⟩ := chk_of hc
    have eS : iS 1 [v] [16777216] r = s := by
      rw [iS_one (by omega) (by omega) (by omega) (by omega) (by omega) (by omega)]
      omega
    have eY : iY 1 [A * 16777216] [16777216] (B * 16777216) = (B - A) * 16777216 := by
      rw [iY_one (by omega) (by omega) (by omega) (by omega) (by omega) (by omega)]
      omega
    rw [eS, eY]
    obtain ⟨c1, c2⟩ := one_calc v ((B - A) * 16777216) s r k p1 p2 (by omega) (by omega) hk h1 h2 k0 k1 q1 q2 (by omega) (A * 16777216)
    exact ⟨_, _, c1, c2, hq, fun _ => between_num k0 k1 (by omega) (by omega) (by omega) (by omega)⟩
theorem shrinks_plain (A B V R : Nat) (hA : A < 1000) (hB : B < 1000) (hV : V < 100) (hR : R < 100) (v r : Int) (ev : (V : Int) * 16777216 = v) (er : ((R : Int) + 1) * 16777216 = r) (X P : List Int) (tk fl : Bool)
    (H : Upd 1 [(A : Int) * 16777216] [v] [16777216] ((B : Int) * 16777216) r 67108864000 X P tk fl) :
    ∃ x p, X = [x] ∧ P = [p] ∧ p ≤ v + 1024 ∧ (tk = true → mn ((A : Int) * 16777216) ((B : Int) * 16777216) - 1024 ≤ x ∧ x ≤ mx ((A : Int) * 16777216) ((B : Int) * 16777216) + 1024) := by
  have h := small_of hV hR
  rw [ev, er] at h
  exact shrinks_num A B v _ r (by omega) (by omega) (by omega) (by omega) (by omega) (by omega) (by omega) (by omega) (by omega) h X P tk fl H
end Go.Proofs.Ytninmcmajbfccaa.PR

/- Layer 5: KalmanShrinks. -/
namespace Go.Proofs.Ytninmcmajbfccaa.PR
open Go.RowKit Go.Proofs.Ytninmcmajbfccaa.PQ Go.Proofs.YtninmcmajbfccaaW.PrintWords Go.Proofs.YtninmcmajbfccaaW.PrintLast Go.Proofs.YtninmcmajbfccaaW.PrintMore Go.Proofs.Ytninmcmajbfccaa.KK
set_option linter.unusedVariables false
set_option linter.unusedSimpArgs false
theorem one_in {a : Int} (h0 : -70368744177664 ≤ a) (h1 : a ≤ 70368744177663) : inR [a] := fun j => by
  match j with
  | 0 => simp; omega
  | j + 1 => simp
theorem diag11 (v : Int) : diagL [v] = [v] := rfl
set_option maxRecDepth 100000 in
set_option maxHeartbeats 8000000 in
theorem shrinks_walk (x z v r : Int) (w : World) (x0 : 0 ≤ x) (x1 : x ≤ 65535) (z0 : 0 ≤ z) (z1 : z ≤ 65535) (v0 : 0 ≤ v) (v1 : v ≤ 255) (r0 : 0 ≤ r) (r1 : r ≤ 255) : Calls Try.prog 4 #[.agg #[.int .u16 x, .int .u16 z, .int .u8 v, .int .u8 r]] w fun e w' => e = .returned (.bool true) ∧ Below w.heap.size w w' := by
  have N : Hid (Scene w [(37, #[.int .u16 x, .int .u16 z, .int .u8 v, .int .u8 r])] (w.alloc (.cells #[.int .u16 x, .int .u16 z, .int .u8 v, .int .u8 r] 37))) := Lib.hid ((Scene.none w).push (by simp) _ _)
  have q0 := N.out.r0.cell
  obtain ⟨X, P, tk, fl, hu⟩ := upd_some 1 [x % 1000 * 16777216] [v % 100 * 16777216] [16777216] (z % 1000 * 16777216) ((r % 100 + 1) * 16777216) 67108864000
  have hpl := shrinks_plain (x % 1000).toNat (z % 1000).toNat (v % 100).toNat (r % 100).toNat (by omega) (by omega) (by omega) (by omega) (v % 100 * 16777216) ((r % 100 + 1) * 16777216) (by omega) (by omega) X P tk fl
  have ea : (((x % 1000).toNat : Nat) : Int) = x % 1000 := by omega
  have eb : (((z % 1000).toNat : Nat) : Int) = z % 1000 := by omega
  rw [ea, eb] at hpl
  clear ea eb
  obtain ⟨n, p, eX, eP, hp, hn⟩ := hpl hu
  subst eX eP
  clear hpl
  have HU := Lib.hid hu
  have HP := Lib.hid hp
  have HN := Lib.hid hn
  have HB : Hid (0 < (r % 100 + 1) * 16777216) := Lib.hid (by omega)
  have HW : Hid (newP [x % 1000 * 16777216] [v % 100 * 16777216]) := Lib.hid ⟨rfl, by simp, by simp, one_in (by omega) (by omega), one_in (by omega) (by omega), fun j => by
    match j with
    | 0 => simp; omega
    | j + 1 => simp⟩
  clear hu hp hn
  have TN : Hid (∀ A1 A2 w', Rd w' A1 [x % 1000 * 16777216] → Rd w' A2 [v % 100 * 16777216] → Calls Try.prog 12 #[.slice A1 1 1, .slice A2 1 1] w' fun e w'' => ∃ Ax dx Ap dp, e = .returned (.tuple #[.agg #[I 1, I 1, .slice Ax 1 dx, I 1, I 1, .slice Ap 1 dp], I 0]) ∧ Rd w'' Ax [x % 1000 * 16777216] ∧ 1 ≤ dx ∧ Rd w'' Ap [v % 100 * 16777216] ∧ 1 ≤ dp ∧ Below w'.heap.size w' w'') := Lib.hid (fun A1 A2 w' h1 h2 => by
    have h := new_calls A1 A2 1 1 [x % 1000 * 16777216] [v % 100 * 16777216] w' h1 (by simp) h2 (by simp) HW.out
    rw [diag11] at h
    exact h)
  have TU : Hid (∀ A1 A2 A3 c1 c2 c3 w', Rd w' A1 [x % 1000 * 16777216] → 1 ≤ c1 → Rd w' A2 [v % 100 * 16777216] → 1 ≤ c2 → Rd w' A3 [16777216] → 1 ≤ c3 → Calls Try.prog 13 #[.agg #[I 1, I 1, .slice A1 1 c1, I 1, I 1, .slice A2 1 c2], .agg #[I 1, I 1, .slice A3 1 c3], I (z % 1000 * 16777216), I ((r % 100 + 1) * 16777216), I 67108864000] w' fun e w'' => ∃ Ax dx Ap dp, e = .returned (.tuple #[.agg #[I 1, I 1, .slice Ax 1 dx, I 1, I 1, .slice Ap 1 dp], .bool tk, .bool fl, I 0]) ∧ Rd w'' Ax [n] ∧ 1 ≤ dx ∧ Rd w'' Ap [p] ∧ 1 ≤ dp ∧ Below w'.heap.size w' w'') := Lib.hid (fun A1 A2 A3 c1 c2 c3 w' r1 k1 r2 k2 r3 k3 =>
    upd_all 1 A1 A2 A3 c1 c2 c3 [x % 1000 * 16777216] [v % 100 * 16777216] [16777216] (z % 1000 * 16777216) ((r % 100 + 1) * 16777216) 67108864000 [n] [p] tk fl w' (by omega) (by omega) rfl rfl rfl r1 k1 r2 k2 r3 k3 HB.out HU.out)
  go_enter Try.func4, Try.ntmps4
  go_wp2_with fail
  refine (shown_calls _).mono ?_
  rintro e w1 ⟨rfl, hb⟩
  have B1 := Lib.hid (N.out.below hb).be
  clear hb N q0
  have N1 : Hid (Scene w1 [(22, #[I (x % 1000 * 16777216)]), (22, #[I (v % 100 * 16777216)])] ((w1.alloc (.cells #[I (x % 1000 * 16777216)] 22)).alloc (.cells #[I (v % 100 * 16777216)] 22))) := Lib.hid (((Scene.none w1).push (by simp) 22 #[I (x % 1000 * 16777216)]).push (by simp) 22 #[I (v % 100 * 16777216)])
  go_wp2_with fail
  refine (TN.out _ _ _ (Rd.one N1.out.r0) (Rd.one N1.out.r1)).mono ?_
  rintro e w2 ⟨Ax, dx, Ap, dp, rfl, rx, kx, rp, kp, hb⟩
  have B2 := Lib.hid (bgo B1.out (bgo N1.out.be hb))
  have RX := Lib.hid rx
  have RP := Lib.hid rp
  have KX := Lib.hid kx
  have KP := Lib.hid kp
  clear rx rp kx kp hb N1 TN
  have HBW : Hid (Below w2.heap.size w2 (((w2.alloc (.cells #[I 1, I 1, .slice Ax 1 dx, I 1, I 1, .slice Ap 1 dp] 28)).alloc (.cells #[I 16777216] 22)).alloc (.cells #[I 1, I 1, .slice (some ⟨w2.heap.size + 1, 0, none⟩) 1 1] 26))) := Lib.hid (bal (bal (bal (Below.refl _ _) _) _) _)
  have RH : Hid (Row (((w2.alloc (.cells #[I 1, I 1, .slice Ax 1 dx, I 1, I 1, .slice Ap 1 dp] 28)).alloc (.cells #[I 16777216] 22)).alloc (.cells #[I 1, I 1, .slice (some ⟨w2.heap.size + 1, 0, none⟩) 1 1] 26)) (w2.heap.size + 1) 22 #[I 16777216]) := Lib.hid (by
    have h := Row.new (w2.alloc (.cells #[I 1, I 1, .slice Ax 1 dx, I 1, I 1, .slice Ap 1 dp] 28)) 22 #[I 16777216]
    have h2 := Row.alloc h (.cells #[I 1, I 1, .slice (some ⟨w2.heap.size + 1, 0, none⟩) 1 1] 26)
    simpa using h2)
  go_wp2_with fail
  refine (TU.out Ax Ap (some ⟨w2.heap.size + 1, 0, none⟩) dx dp 1 _ (Rd.below RX.out HBW.out) KX.out (Rd.below RP.out HBW.out) KP.out (Rd.one RH.out) (by simp)).mono ?_
  rintro e w3 ⟨Bx, fx, Bp, fp, rfl, rx, kx, rp, kp, hb⟩
  have B3 := Lib.hid (bgo B2.out (bgo HBW.out hb))
  obtain ⟨bx, ox, rfl, lx, cx⟩ := Rd.cells rx (by simp)
  obtain ⟨bp, op, rfl, lp, cp⟩ := Rd.cells rp (by simp)
  have c0 : w3.cell? ⟨bx, ox, none⟩ = some (I n) := cx 0 n rfl
  have c1 : w3.cell? ⟨bp, op, none⟩ = some (I p) := cp 0 p rfl
  have B4 := Lib.hid (bal B3.out (.cells #[I 1, I 1, .slice (some ⟨bx, ox, none⟩) 1 fx, I 1, I 1, .slice (some ⟨bp, op, none⟩) 1 fp] 28))
  clear rx rp kx kp hb RX RP KX KP HBW RH TU cx cp HU HW HB
  have n1 : p ≤ v % 100 * 16777216 + 1024 := HP.out
  by_cases ht : tk = true
  · subst ht
    cases fl with
    | true =>
      go_wp2
      go_ret
      exact ⟨rfl, B4.out⟩
    | false =>
      have n2 : min (x % 1000 * 16777216) (z % 1000 * 16777216) - 1024 ≤ n := by have h := HN.out rfl; unfold mn mx at h; omega
      have n3 : n ≤ max (x % 1000 * 16777216) (z % 1000 * 16777216) + 1024 := by have h := HN.out rfl; unfold mn mx at h; omega
      clear HN HP
      go_wp2
      go_ret
      exact ⟨by first | rfl | simp [n3], B4.out⟩
  · obtain rfl : tk = false := by simpa using ht
    clear ht HN HP
    go_wp2
    go_ret
    exact ⟨rfl, B4.out⟩
end Go.Proofs.Ytninmcmajbfccaa.PR

/- Layer 5: four small numbers as an argument. -/
namespace Go.Proofs.Ytninmcmajbfccaa.KK
open Go.ChangeShapes Go.WideShapes Go.ChangeAt Go.RowKit Go.Deep Go.Proofs.YtninmcmajbfccaaW.PrintWords
set_option linter.unusedVariables false
set_option linter.unusedSimpArgs false
theorem k35 : Try.prog.cellsOf 35 = 1 := by kernel_rfl
theorem k5 : Try.prog.cellsOf 5 = 1 := by kernel_rfl
theorem k37 : Try.prog.cellsOf 37 = 4 := by kernel_rfl
theorem len4 {α : Type} {l : List α} (h : l.length = 4) : ∃ a b c d, l = [a, b, c, d] := by
  match l, h with
  | [a, b, c, d], _ => exact ⟨a, b, c, d, rfl⟩
theorem open_small {H : Type} {enc : TypeId × Value → H} {W : World} {base : Nat} {sp : Nat → Bool} {held : Bool} {fuel : Nat} {cs : List Value} {x : DataW H × List MemPlace} (h : DataW.trod enc Try.prog W base sp held fuel 37 cs = some x) :
    ∃ a b c d, cs = [.int .u16 a, .int .u16 b, .int .u8 c, .int .u8 d] ∧ 0 ≤ a ∧ a ≤ 65535 ∧ 0 ≤ b ∧ b ≤ 65535 ∧ 0 ≤ c ∧ c ≤ 255 ∧ 0 ≤ d ∧ d ≤ 255 := by
  obtain ⟨xs, n, _, _, hl, hlen, hf⟩ := DataW.trod_struct Try.underlying37 h
  rw [k37] at hl
  obtain ⟨c0, c1, c2, c3, rfl⟩ := len4 hl
  have hl3 : xs.length = 4 := hlen
  have get : ∀ i (h : i < 4), xs[i]? = some (xs[i]'(by omega)) := fun i h => List.getElem?_eq_getElem (by omega)
  have h0 := (fld hf 0 35 0 1 rfl k35).trans (get 0 (by omega))
  have h1 := (fld hf 1 35 1 1 rfl k35).trans (get 1 (by omega))
  have h2 := (fld hf 2 5 2 1 rfl k5).trans (get 2 (by omega))
  have h3 := (fld hf 3 5 3 1 rfl k5).trans (get 3 (by omega))
  obtain ⟨a, e0, _, w0⟩ := DataW.trod_int Try.underlying35 h0
  obtain ⟨b, e1, _, w1⟩ := DataW.trod_int Try.underlying35 h1
  obtain ⟨c, e2, _, w2⟩ := DataW.trod_int Try.underlying5 h2
  obtain ⟨d, e3, _, w3⟩ := DataW.trod_int Try.underlying5 h3
  simp at e0 e1 e2 e3
  subst e0 e1 e2 e3
  simp [Lit.wf, IntKind.wrap, IntKind.bits, IntKind.signed] at w0 w1 w2 w3
  have m1 : IntKind.u16.min = 0 := by decide
  have m2 : IntKind.u16.max = 65535 := by decide
  have m3 : IntKind.u8.min = 0 := by decide
  have m4 : IntKind.u8.max = 255 := by decide
  exact ⟨a, b, c, d, rfl, by omega, by omega, by omega, by omega, by omega, by omega, by omega, by omega⟩
end Go.Proofs.Ytninmcmajbfccaa.KK

/- Layer 5: how far a measured number is off (the public one). -/
namespace Go.Proofs.Ytninmcmajbfccaa.PR
open Go.RowKit Go.Proofs.Ytninmcmajbfccaa.PQ Go.Proofs.YtninmcmajbfccaaW.PrintWords Go.Proofs.YtninmcmajbfccaaW.PrintLast Go.Proofs.YtninmcmajbfccaaW.PrintMore Go.Proofs.Ytninmcmajbfccaa.KK
set_option linter.unusedVariables false
set_option linter.unusedSimpArgs false
set_option maxRecDepth 100000 in
set_option maxHeartbeats 8000000 in
theorem innov_raw (n : Nat) (A1 A2 A3 : Option Addr) (c1 c2 c3 : Nat) (lx lp lh : List Int) (z r y s : Int) (o : Bool) (w : World)
    (rx : Rd w A1 lx) (cx : lx.length ≤ c1) (rp : Rd w A2 lp) (cp : lp.length ≤ c2) (rh : Rd w A3 lh) (ch : lh.length ≤ c3)
    (hm : PQ.kalman_may.f 1000 n 1 lx n n lp 1 n lh r = some 0) (hi : kalman_work_innov.f false n 1 lx n n lp 1 n lh z r = some (y, s, o)) :
    Calls Try.prog 24 #[.agg #[I n, I 1, .slice A1 lx.length c1, I n, I n, .slice A2 lp.length c2], .agg #[I 1, I n, .slice A3 lh.length c3], I z, I r] w fun e w' => e = .returned (.tuple #[I y, I s, .bool o, I 0]) ∧ Below w.heap.size w w' := by
  have N : Hid (Scene w [(28, #[I n, I 1, .slice A1 lx.length c1, I n, I n, .slice A2 lp.length c2]), (26, #[I 1, I n, .slice A3 lh.length c3])] ((w.alloc (.cells #[I n, I 1, .slice A1 lx.length c1, I n, I n, .slice A2 lp.length c2] 28)).alloc (.cells #[I 1, I n, .slice A3 lh.length c3] 26))) := Lib.hid (((Scene.none w).push (by simp) _ _).push (by simp) _ _)
  have RX := Lib.hid rx
  have RP := Lib.hid rp
  have RH := Lib.hid rh
  have CX := Lib.hid cx
  have CP := Lib.hid cp
  have CH := Lib.hid ch
  have HM := Lib.hid hm
  have HI := Lib.hid hi
  clear rx rp rh cx cp ch hm hi
  go_enter Try.func24, Try.ntmps24
  go_wp2_with fail
  refine (PQ.kalman_may.calls 1000 n 1 A1 c1 lx n n A2 c2 lp 1 n A3 c3 lh r 0 _ (RX.out.below N.out.be) CX.out (RP.out.below N.out.be) CP.out (RH.out.below N.out.be) CH.out HM.out).mono ?_
  rintro e w1 ⟨rfl, hb⟩
  have N1 := Lib.hid (N.out.below hb)
  have y0 := N1.out.r0.cell
  have y1 := N1.out.r1.cell
  have t0 := N1.out.r0.lt
  have t1 := N1.out.r1.lt
  clear hb N
  have G1 := Lib.hid (Row.new w1 77 #[.bool false])
  have N2 := Lib.hid (N1.out.alloc (.cells #[.bool false] 77))
  have GE : Hid (w.heap.size + 2 ≤ w1.heap.size) := Lib.hid (by have h := N1.out.rows.le N1.out.be.size; simpa using h)
  have FX : Hid (∀ ad, A1 = some ad → 0 < lx.length → ad.block ≠ w1.heap.size) := Lib.hid (fun ad e hp => by have h1 := Rd.blk RX.out ad e hp; have h2 := GE.out; omega)
  have FP : Hid (∀ ad, A2 = some ad → 0 < lp.length → ad.block ≠ w1.heap.size) := Lib.hid (fun ad e hp => by have h1 := Rd.blk RP.out ad e hp; have h2 := GE.out; omega)
  have FH : Hid (∀ ad, A3 = some ad → 0 < lh.length → ad.block ≠ w1.heap.size) := Lib.hid (fun ad e hp => by have h1 := Rd.blk RH.out ad e hp; have h2 := GE.out; omega)
  go_wp2_with fail
  refine (kalman_work_innov.calls w1.heap.size false n 1 A1 c1 lx n n A2 c2 lp 1 n A3 c3 lh z r y s o w _ ⟨G1.out, by have h := GE.out; omega⟩ N2.out.be (RX.out.below N2.out.be) CX.out FX.out (RP.out.below N2.out.be) CP.out FP.out (RH.out.below N2.out.be) CH.out FH.out HI.out).mono ?_
  rintro e w2 ⟨rfl, hs, hb, hk⟩
  have R2 : Hid (Row w2 w1.heap.size 77 #[.bool o]) := Lib.hid hs.1
  have N3 := Lib.hid (N2.out.app (grown_of N2.out.be hb hk) (fun g e => by injection e with e; have h := GE.out; simp; omega))
  clear hs hb hk y0 y1 t0 t1
  have x0 := R2.out.cell
  have KS : Hid (∀ w', Row w' w1.heap.size 77 #[.bool o] → (∀ o', w'.cell? ⟨w1.heap.size, o', none⟩ = #[.bool o][o']?) ∧ True) := Lib.hid (fun w' a => ⟨a.cell, trivial⟩)
  go_wp2_with fail
  go_region_held3 (fun w' => (∀ o', w'.cell? ⟨w1.heap.size, o', none⟩ = #[.bool o][o']?) ∧ True)
    (first | with_reducible exact KS.out _ R2.out.drew | with_reducible exact KS.out _ R2.out)
    (fail)
  go_wp2
  refine bodyPost_ret (v := .tuple #[I y, I s, .bool o, I 0]) (by simp [results, Try.results24, go_sem]) rfl ⟨rfl, ?_⟩
  exact N3.out.be.drew
theorem innov_calls (n : Nat) (A1 A2 A3 : Option Addr) (c1 c2 c3 : Nat) (lx lp lh : List Int) (z r : Int) (w : World) (h8 : n ≤ 8) (hx : lx.length = n * 1) (hp : lp.length = n * n) (hh : lh.length = 1 * n)
    (rx : Rd w A1 lx) (cx : lx.length ≤ c1) (rp : Rd w A2 lp) (cp : lp.length ≤ c2) (rh : Rd w A3 lh) (ch : lh.length ≤ c3) (hr : 0 < r) :
    Calls Try.prog 24 #[.agg #[I n, I 1, .slice A1 lx.length c1, I n, I n, .slice A2 lp.length c2], .agg #[I 1, I n, .slice A3 lh.length c3], I z, I r] w fun e w' => e = .returned (.tuple #[I (iY n lx lh z), I (iS n lp lh r), .bool (iO n lx lp lh z r), I 0]) ∧ Below w.heap.size w w' :=
  innov_raw n A1 A2 A3 c1 c2 c3 lx lp lh z r _ _ _ w rx cx rp cp rh ch (may_good n lx lp lh r hr) (innov_some n lx lp lh z r h8 hx hp hh)
end Go.Proofs.Ytninmcmajbfccaa.PR

/- Layer 5: KalmanGates, plainly. -/
namespace Go.Proofs.Ytninmcmajbfccaa.PR
open Go.RowKit Go.Proofs.Ytninmcmajbfccaa.PQ Go.Proofs.YtninmcmajbfccaaW.PrintWords Go.Proofs.YtninmcmajbfccaaW.PrintLast Go.Proofs.YtninmcmajbfccaaW.PrintMore Go.Proofs.Ytninmcmajbfccaa.KK
set_option linter.unusedVariables false
set_option linter.unusedSimpArgs false
theorem subZ_bd (a b : Int) : -70368744177664 ≤ (subZ a b).1 ∧ (subZ a b).1 ≤ 70368744177663 := ⟨cl_lo _, cl_hi _⟩
theorem addZ_bd (a b : Int) : -70368744177664 ≤ (addZ a b).1 ∧ (addZ a b).1 ≤ 70368744177663 := ⟨cl_lo _, cl_hi _⟩
theorem lw_nn (X : Int) : 0 ≤ lw X := by
  unfold lw
  dsimp only
  repeat' split
  all_goals omega
theorem mulZ_sq (d : Int) : 0 ≤ (mulZ d d).1 := by
  have hl := lw_nn (sz (cl d) * sz (cl d))
  have e : (decide (cl d < 0) != decide (cl d < 0)) = false := by simp
  unfold mulZ flag sg
  rw [e]
  dsimp only
  have c1 : ∀ a : Int, 0 ≤ a → 0 ≤ cl a := fun a h => by unfold cl; repeat' split <;> omega
  split
  · split
    · decide
    · exact c1 _ hl
  · decide
theorem mulZ_neg {q : Int} (h0 : 0 < q) (h1 : q ≤ 70368744177663) : (mulZ (-16777216) q).1 = -q := by
  have e1 : cl (-16777216) = -16777216 := by decide
  have e3 : sz (-16777216 : Int) = 16777216 := by decide
  have es : sz q = q := by unfold sz; rw [if_neg (by omega)]
  have hx : lw (16777216 * q) = q := by
    unfold lw
    dsimp only
    rw [if_neg (by omega), if_neg (by omega)]
    omega
  have hh : 16777216 * q / 309485009821345068724781056 = 0 := by omega
  have e4 : (decide ((-16777216 : Int) < 0) != decide (q < 0)) = true := by rw [decide_eq_false (show ¬ q < 0 by omega)]; decide
  unfold mulZ flag
  rw [e1, cl_in (by omega) h1, e3, es, hx, hh, e4]
  unfold sg
  rw [if_pos rfl, if_neg (by omega)]
  simp only [if_true]
  exact cl_in (by omega) (by omega)
theorem scale_nil (n : Nat) (l : List Int) : scaleL n 1 l 0 = zr n := by
  unfold scaleL
  rw [upto_fl]
  refine fl_congr (fun j _ => ?_)
  rw [mulZ_comm, mulZ_z]
theorem tX_nil (n : Nat) (lx lp lh : List Int) (s : Int) (hx : inR lx) (lx1 : lx.length = n * 1) : tX n lx lp lh 0 s = lx := by
  unfold tX
  rw [scale_nil]
  unfold eachL
  rw [upto_fl]
  refine (fl_ext lx1 (fun j hj => ?_)).symm
  rw [zr_at, dm, addZ_right (hx j).1 (hx j).2]
theorem iY_bd (n : Nat) (lx lh : List Int) (z : Int) : -70368744177664 ≤ iY n lx lh z ∧ iY n lx lh z ≤ 70368744177663 := subZ_bd _ _
theorem iS_bd (n : Nat) (lp lh : List Int) (r : Int) : -70368744177664 ≤ iS n lp lh r ∧ iS n lp lh r ≤ 70368744177663 := addZ_bd _ _
/-- what is right off, with a gate above 0, is taken, and leaves the numbers -/
theorem gates_taken (n : Nat) (lx lp lh : List Int) (z r : Int) (hx : inR lx) (lx1 : lx.length = n * 1) (hv : iY n lx lh z = 0) (hs : 16777216 ≤ iS n lp lh r) (X P : List Int) (tk fl : Bool) (H : Upd n lx lp lh z r 16777216 X P tk fl) : tk = true ∧ X = lx := by
  have hb := iS_bd n lp lh r
  have e0 : mulZ 0 0 = (0, false) := by decide
  unfold Upd at H
  rw [hv, e0, mulZ_one (by omega) (by omega), if_neg (by rintro (h | h) <;> omega)] at H
  obtain ⟨rfl, _, rfl, _⟩ := H
  exact ⟨rfl, tX_nil n lx lp lh _ hx lx1⟩
/-- with a gate below 0 nothing is taken -/
theorem gates_none (n : Nat) (lx lp lh : List Int) (z r : Int) (hs : 16777216 ≤ iS n lp lh r) (X P : List Int) (tk fl : Bool) (H : Upd n lx lp lh z r (-16777216) X P tk fl) : tk = false := by
  have hb := iS_bd n lp lh r
  have hq := mulZ_sq (iY n lx lh z)
  unfold Upd at H
  rw [if_pos (by left; rw [mulZ_neg (by omega) hb.2]; omega)] at H
  exact H.2.2.1
end Go.Proofs.Ytninmcmajbfccaa.PR
