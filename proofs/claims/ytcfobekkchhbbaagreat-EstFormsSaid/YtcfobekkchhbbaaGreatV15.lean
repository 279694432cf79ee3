import Derived.Test.YtcfobekkchhbbaaGreatV14
import Derived.Test.YtcfobekkchhbbaaGreatV10
import Derived.SizedLaws
/- Joined and thinned by a program of this session's own (wip/pack2.py) out of its texts (wip/ of its repo); parts were laid by its own program (wip/print-patch.py over the kit's print) out of the translation; Lean checks all. -/
set_option maxRecDepth 100000
set_option maxHeartbeats 4000000
namespace Go.Proofs.YtcfobekkchhbbaaGreat.EE
open Go.RowKit Go.Proofs.YtcfobekkchhbbaaGreat.KK Go.Proofs.af.aU Go.Proofs.af.a_ Go.Proofs.af.bf
set_option linter.unusedVariables false
set_option linter.unusedSimpArgs false
theorem Fz (a b : Tg) (w : World) (ha : yx w a) (hb : yx w b) (hx : a.x.length ≤ 1000000) (hl : a.p.length ≤ 1000000) : Calls Tryz.prog 43 #[.agg a.row, .agg b.row] w fun e w' => e = .returned (.bool (a.same b)) ∧ Below w.heap.size w w' := by
 obtain ⟨k1, hk1⟩ := (PR.rP a.r a.c b.r b.c a.x b.x hx).rounds; obtain ⟨k2, hk2⟩ := (PR.rP a.r' a.c' b.r' b.c' a.p b.p hl).rounds; have L : Hid (bD w [(31, a.row), (31, b.row)] ((w.alloc (.cells a.row 31)).alloc (.cells b.row 31))) := Lib.hid (((bD.none w).push (by simp) _ _).push (by simp) _ _)
 have M1 : Hid (∀ w', Below w.heap.size w w' → Calls Tryz.prog 81 #[.agg #[I a.r, I a.c, .slice a.A a.x.length a.cx], .agg #[I b.r, I b.c, .slice b.A b.x.length b.cx]] w' fun e w'' => e = .returned (.bool (decide (a.r = b.r ∧ a.c = b.c ∧ a.x = b.x))) ∧ Below w'.heap.size w' w'') :=
  Lib.hid (fun w' h => PQ.iI.calls k1 a.r a.c a.A a.cx a.x b.r b.c b.A b.cx b.x _ w' (ha.x.below h) ha.xc (hb.x.below h) hb.xc hk1)
 have M2 : Hid (∀ w', Below w.heap.size w w' → Calls Tryz.prog 81 #[.agg #[I a.r', I a.c', .slice a.B a.p.length a.cp], .agg #[I b.r', I b.c', .slice b.B b.p.length b.cp]] w' fun e w'' => e = .returned (.bool (decide (a.r' = b.r' ∧ a.c' = b.c' ∧ a.p = b.p))) ∧ Below w'.heap.size w' w'') :=
  Lib.hid (fun w' h => PQ.iI.calls k2 a.r' a.c' a.B a.cp a.p b.r' b.c' b.B b.cp b.p _ w' (ha.p.below h) ha.pd (hb.p.below h) hb.pd hk2)
 have S : Hid (a.same b = (decide (a.r = b.r ∧ a.c = b.c ∧ a.x = b.x) && decide (a.r' = b.r' ∧ a.c' = b.c' ∧ a.p = b.p))) := Lib.hid (by unfold Tg.same; rw [Bool.decide_and]); clear ha hb hx hl hk1 hk2
 go_enter Tryz.func43, Tryz.ntmps43
 go_upto_region 1 with fail
 generalize (w.alloc (.cells a.row 31)).alloc (.cells b.row 31) = w1 at L ⊢; have hc : ∀ i, w1.cell? ⟨w.heap.size, i, none⟩ = a.row[i]? := L.out.r0.cell; have hd : ∀ i, w1.cell? ⟨w.heap.size + 1, i, none⟩ = b.row[i]? := L.out.r1.cell
 go_wp2_with fail
 refine (M1.out _ L.out.be).mono ?_
 rintro x w2 ⟨rfl, hb⟩; have L2 := Lib.hid (L.out.below hb); clear hb hc hd L M1; generalize decide (a.r = b.r ∧ a.c = b.c ∧ a.x = b.x) = s1 at S ⊢; have hc : ∀ i, w2.cell? ⟨w.heap.size, i, none⟩ = a.row[i]? := L2.out.r0.cell; have hd : ∀ i, w2.cell? ⟨w.heap.size + 1, i, none⟩ = b.row[i]? := L2.out.r1.cell
 cases s1
 · go_wp2
   exact bodyPost_ret (results_tmp rfl _ _ _) rfl ⟨by rw [S.out]; rfl, L2.out.be⟩
 go_wp2_with fail
 refine (M2.out _ L2.out.be).mono ?_
 rintro x w3 ⟨rfl, hb⟩; have L3 := Lib.hid (L2.out.below hb); clear hb hc hd L2 M2; generalize decide (a.r' = b.r' ∧ a.c' = b.c' ∧ a.p = b.p) = s2 at S ⊢; go_wp2
 exact bodyPost_ret (results_tmp rfl _ _ _) rfl ⟨by rw [S.out]; rfl, L3.out.be⟩
theorem DL (a b : Eg) (k : Nat) (hk : k < 3) (h : (a.t k).same (b.t k) = false) : a.same b = false := by
 have e : a.ts b = false := by
  unfold Eg.ts
  obtain rfl | rfl | rfl : k = 0 ∨ k = 1 ∨ k = 2 := by omega
  · rw [show a.t0.same b.t0 = false from h]; rfl
  · rw [show a.t1.same b.t1 = false from h]; cases a.t0.same b.t0 <;> rfl
  · rw [show a.t2.same b.t2 = false from h]; cases a.t0.same b.t0 <;> cases a.t1.same b.t1 <;> rfl
 unfold Eg.same
 rw [e]; rfl
theorem FO (a b : Eg) (w : World) (ha : ∀ j, j < 3 → yx w (a.t j)) (hb : ∀ j, j < 3 → yx w (b.t j)) (hl : ∀ j, j < 3 → (a.t j).x.length ≤ 1000000 ∧ (a.t j).p.length ≤ 1000000) : Calls Tryz.prog 16 #[.agg a.R, .agg b.R] w fun x w' => x = .returned (.bool (a.same b)) ∧ Below w.heap.size w w' := by
 have T : Hid (∀ j, j < 3 → ∀ w', Below w.heap.size w w' → Calls Tryz.prog 43 #[.agg (a.t j).row, .agg (b.t j).row] w' fun e w'' => e = .returned (.bool ((a.t j).same (b.t j))) ∧ Below w'.heap.size w' w'') := Lib.hid (fun j hj w' h => Fz _ _ w' ((ha j hj).below h) ((hb j hj).below h) (hl j hj).1 (hl j hj).2); have L : Hid (bD w [(35, a.R), (35, b.R)] ((w.alloc (.cells a.R 35)).alloc (.cells b.R 35))) := Lib.hid (((bD.none w).push (by simp) _ _).push (by simp) _ _); have KK : Hid (∀ w', bD w [(35, a.R), (35, b.R)] w' → (∀ o, w'.cell? ⟨w.heap.size, o, none⟩ = a.row[o]?) ∧ (∀ o, w'.cell? ⟨w.heap.size + 1, o, none⟩ = b.row[o]?)) := Lib.hid (fun w' h => ⟨h.r0.cell, h.r1.cell⟩); clear ha hb hl
 go_enter Tryz.func16, Tryz.ntmps16
 go_upto_region 1 with fail
 generalize (w.alloc (.cells a.R 35)).alloc (.cells b.R 35) = w1 at L ⊢
 go_wp2_with fail
 go_loopw [6] (fun i wl => ∃ k : Nat, k ≤ 3 ∧ i = .int .i64 k ∧ Hid (bD w [(35, a.R), (35, b.R)] wl) ∧ Hid (∀ j, j < k → (a.t j).same (b.t j) = true)) (fun i _ => 3 - (intOf i).toNat)
 case atStart => exact ⟨0, by omega, rfl, L, Lib.hid (fun j hj => by omega)⟩
 case round =>
  clear L; obtain ⟨k, hk, rfl, L, FV⟩ := hrel; have hc : ∀ i, wr.cell? ⟨w.heap.size, i, none⟩ = a.row[i]? := L.out.r0.cell; have hd : ∀ i, wr.cell? ⟨w.heap.size + 1, i, none⟩ = b.row[i]? := L.out.r1.cell
  obtain rfl | rfl | rfl | rfl : k = 3 ∨ k = 0 ∨ k = 1 ∨ k = 2 := by omega
  · have h1 : a.ts b = true := by unfold Eg.ts; rw [show a.t0.same b.t0 = true from FV.out 0 (by decide), show a.t1.same b.t1 = true from FV.out 1 (by decide), show a.t2.same b.t2 = true from FV.out 2 (by decide)]; rfl
    clear FV T; have E1 : (Op.equalIn 10000 26 (.agg #[.int .i64 a.q0, .int .i64 a.q1, .int .i64 a.q2, .int .i64 a.q3]) (.agg #[.int .i64 b.q0, .int .i64 b.q1, .int .i64 b.q2, .int .i64 b.q3])).run Tryz.prog wr = .ok (a.qs b) wr := PQ.abe a.q0 a.q1 a.q2 a.q3 b.q0 b.q1 b.q2 b.q3 wr; have E2 : (Op.equalIn 10000 33 (.agg #[.int .i64 a.f0, .int .i64 a.f1, .int .i64 a.f2, .int .i64 a.f3]) (.agg #[.int .i64 b.f0, .int .i64 b.f1, .int .i64 b.f2, .int .i64 b.f3])).run Tryz.prog wr = .ok (a.os b) wr := XV a.f0 a.f1 a.f2 a.f3 b.f0 b.f1 b.f2 b.f3 wr
    cases h2 : a.qs b
    case false =>
     have F : Hid (a.same b = false) := Lib.hid (by simp only [Eg.same, h1, h2]; simp); rw [h2] at E1; go_wp2
     go_ret
     exact ⟨by rw [F.out]; rfl, L.out.be⟩
    cases h3 : (a.steps == b.steps)
    case false =>
     have F : Hid (a.same b = false) := Lib.hid (by simp only [Eg.same, h1, h2, h3]; simp); rw [h2] at E1; go_wp2
     go_ret
     exact ⟨by rw [F.out]; rfl, L.out.be⟩
    cases h4 : (a.fZ == b.fZ)
    case false =>
     have F : Hid (a.same b = false) := Lib.hid (by simp only [Eg.same, h1, h2, h3, h4]; simp); rw [h2] at E1; go_wp2
     go_ret
     exact ⟨by rw [F.out]; rfl, L.out.be⟩
    cases h5 : a.os b
    case false =>
     have F : Hid (a.same b = false) := Lib.hid (by simp only [Eg.same, h1, h2, h3, h4, h5]; simp); rw [h2] at E1; rw [h5] at E2; go_wp2
     go_ret
     exact ⟨by rw [F.out]; rfl, L.out.be⟩
    have F : Hid (a.same b = (a.sat == b.sat)) := Lib.hid (by simp only [Eg.same, h1, h2, h3, h4, h5]; simp); rw [h2] at E1; rw [h5] at E2; go_wp2
    go_ret
    exact ⟨by rw [F.out]; rfl, L.out.be⟩
  · clear hc hd
    go_wp2_with fail
    go_region_held3 (fun w' => (∀ o, w'.cell? ⟨w.heap.size, o, none⟩ = a.row[o]?) ∧ (∀ o, w'.cell? ⟨w.heap.size + 1, o, none⟩ = b.row[o]?))
     (first | with_reducible exact KK.out _ L5.out | with_reducible exact KK.out _ L.out.drew | with_reducible exact KK.out _ L.out)
     (first | (go_at_call 43
               refine (T.out 0 (by decide) _ L.out.drew.be).mono ?_
               rintro x w5 ⟨rfl, hb⟩; have L5 := Lib.hid (L.out.drew.below hb)
               clear hb))
    cases h1 : (a.t 0).same (b.t 0)
    case false =>
     have F : Hid (a.same b = false) := Lib.hid (DL a b 0 (by decide) h1); clear h1; go_wp2
     exact bodyPost_ret (results_tmp rfl _ _ _) rfl ⟨by rw [F.out]; rfl, L5.out.be⟩
    have Qe : Hid (∀ j, j < 0 + 1 → (a.t j).same (b.t j) = true) := Lib.hid (fun j hj => by
     obtain rfl | h : j = 0 ∨ j < 0 := by omega
     · exact h1
     · exact FV.out j h)
    clear h1 FV; go_wp2
    go_roundw
    case rel => exact ⟨0 + 1, by omega, by go_num, L5, Qe⟩
    case measure => simp [intOf]
  · clear hc hd
    go_wp2_with fail
    go_region_held3 (fun w' => (∀ o, w'.cell? ⟨w.heap.size, o, none⟩ = a.row[o]?) ∧ (∀ o, w'.cell? ⟨w.heap.size + 1, o, none⟩ = b.row[o]?))
     (first | with_reducible exact KK.out _ L5.out | with_reducible exact KK.out _ L.out.drew | with_reducible exact KK.out _ L.out)
     (first | (go_at_call 43
               refine (T.out 1 (by decide) _ L.out.drew.be).mono ?_
               rintro x w5 ⟨rfl, hb⟩; have L5 := Lib.hid (L.out.drew.below hb)
               clear hb))
    cases h1 : (a.t 1).same (b.t 1)
    case false =>
     have F : Hid (a.same b = false) := Lib.hid (DL a b 1 (by decide) h1); clear h1; go_wp2
     exact bodyPost_ret (results_tmp rfl _ _ _) rfl ⟨by rw [F.out]; rfl, L5.out.be⟩
    have Qe : Hid (∀ j, j < 1 + 1 → (a.t j).same (b.t j) = true) := Lib.hid (fun j hj => by
     obtain rfl | h : j = 1 ∨ j < 1 := by omega
     · exact h1
     · exact FV.out j h)
    clear h1 FV; go_wp2
    go_roundw
    case rel => exact ⟨1 + 1, by omega, by go_num, L5, Qe⟩
    case measure => simp [intOf]
  · clear hc hd
    go_wp2_with fail
    go_region_held3 (fun w' => (∀ o, w'.cell? ⟨w.heap.size, o, none⟩ = a.row[o]?) ∧ (∀ o, w'.cell? ⟨w.heap.size + 1, o, none⟩ = b.row[o]?))
     (first | with_reducible exact KK.out _ L5.out | with_reducible exact KK.out _ L.out.drew | with_reducible exact KK.out _ L.out)
     (first | (go_at_call 43
               refine (T.out 2 (by decide) _ L.out.drew.be).mono ?_
               rintro x w5 ⟨rfl, hb⟩; have L5 := Lib.hid (L.out.drew.below hb)
               clear hb))
    cases h1 : (a.t 2).same (b.t 2)
    case false =>
     have F : Hid (a.same b = false) := Lib.hid (DL a b 2 (by decide) h1); clear h1; go_wp2
     exact bodyPost_ret (results_tmp rfl _ _ _) rfl ⟨by rw [F.out]; rfl, L5.out.be⟩
    have Qe : Hid (∀ j, j < 2 + 1 → (a.t j).same (b.t j) = true) := Lib.hid (fun j hj => by
     obtain rfl | h : j = 2 ∨ j < 2 := by omega
     · exact h1
     · exact FV.out j h)
    clear h1 FV; go_wp2
    go_roundw
    case rel => exact ⟨2 + 1, by omega, by go_num, L5, Qe⟩
    case measure => simp [intOf]
end Go.Proofs.YtcfobekkchhbbaaGreat.EE

namespace Go.Proofs.YtcfobekkchhbbaaGreat.EE
open Go.RowKit Go.Proofs.YtcfobekkchhbbaaGreat.KK Go.Proofs.af.aU Go.Proofs.af.a_ Go.Proofs.af.bf
set_option linter.unusedVariables false
set_option linter.unusedSimpArgs false
def many (e f : Eg) (j : Nat) : Int := ((((e.t j).x.length : Int) + (e.t j).p.length) + (f.t j).x.length) + (f.t j).p.length
theorem TD (e f : Eg) (j : Nat) : many e f j = ((((e.t j).x.length : Int) + (e.t j).p.length) + (f.t j).x.length) + (f.t j).p.length := rfl
theorem NI (c : Cf) (e f : Eg) (w0 : World) (hr : ∀ j, j < 3 → yx w0 (e.t j)) (hf : ∀ j, j < 3 → yx w0 (f.t j)) (hx : ∀ j, j < 3 → (e.t j).x.length ≤ 100000000000000 ∧ (e.t j).p.length ≤ 100000000000000) (hy : ∀ j, j < 3 → (f.t j).x.length ≤ 100000000000000 ∧ (f.t j).p.length ≤ 100000000000000) :
 Calls Tryz.prog 3 #[.agg c.row, .agg e.R, .agg f.R] w0 fun x w' => x = .returned (.bool true) ∧ Below w0.heap.size w0 w' := by
 have HR := Lib.hid hr; have HF := Lib.hid hf; have HX := Lib.hid hx; have HY := Lib.hid hy; have L : Hid (bD w0 [(24, c.row), (35, e.R), (35, f.R)] (((w0.alloc (.cells c.row 24)).alloc (.cells e.R 35)).alloc (.cells f.R 35))) := Lib.hid ((((bD.none w0).push (by simp) _ _).push (by simp) _ _).push (by simp) _ _); clear hr hf hx hy
 go_enter Tryz.func3, Tryz.ntmps3
 go_upto_region 1 with fail
 generalize ((w0.alloc (.cells c.row 24)).alloc (.cells e.R 35)).alloc (.cells f.R 35) = w1 at L ⊢
 go_wp2_with fail
 refine (JK _).mono ?_
 rintro x w2 ⟨rfl, hb⟩; have L2 := Lib.hid (L.out.below hb); clear hb L
 go_wp2_with fail
 go_loopw [8] (fun i wl => ∃ k : Nat, k ≤ 3 ∧ i = .int .i64 k ∧ Hid (∀ j, j < k → many e f j ≤ 40) ∧ Hid (bD w0 [(24, c.row), (35, e.R), (35, f.R)] wl)) (fun i _ => 3 - (intOf i).toNat)
 case atStart => exact ⟨0, by omega, rfl, Lib.hid (fun j hj => by omega), L2⟩
 case round =>
  clear L2; obtain ⟨k, hk, rfl, S, L⟩ := hrel
  obtain rfl | hlt : k = 3 ∨ k < 3 := by omega
  case inr =>
   have Vk := Lib.hid hlt; have d1 : decide ((k : Int) < 3) = true := decide_eq_true (by omega)
   have hw : IntKind.i64.wrap ((k : Int) + 1) = ((k + 1 : Nat) : Int) := by rw [IntWalk.i64_in _ (by omega)]; omega
   clear hk hlt
   go_upto_region 5 with fail
   go_cut [50] (fun v wc => v = .bool (decide (many e f k > 40)) ∧ Hid (Below wr.heap.size wr wc))
   case first =>
    obtain ⟨hx1, hx2⟩ := HX.out k Vk.out; obtain ⟨hy1, hy2⟩ := HY.out k Vk.out; have E := TD e f k; have hE : ∀ i, wr.cell? ⟨w0.heap.size + 1, i, none⟩ = e.row[i]? := L.out.r1.cell; have hF : ∀ i, wr.cell? ⟨w0.heap.size + 2, i, none⟩ = f.row[i]? := L.out.r2.cell; have HLL := Vk.out; clear L S d1 hw HX HY HR HF
    obtain rfl | rfl | rfl : k = 0 ∨ k = 1 ∨ k = 2 := by omega
    all_goals simp only [Eg.t] at hx1 hx2 hy1 hy2 E
    · obtain ⟨s1, h1⟩ : ∃ s1 : Int, s1 = (e.t0.x.length : Int) + (e.t0.p.length : Int) := ⟨_, rfl⟩
      obtain ⟨s2, h2⟩ : ∃ s2 : Int, s2 = s1 + (f.t0.x.length : Int) := ⟨_, rfl⟩
      obtain ⟨s3, h3⟩ : ∃ s3 : Int, s3 = s2 + (f.t0.p.length : Int) := ⟨_, rfl⟩
      have k1 : IntKind.i64.wrap ((e.t0.x.length : Int) + (e.t0.p.length : Int)) = s1 := by rw [h1]; exact IntWalk.i64_in _ (by omega)
      have k2 : IntKind.i64.wrap (s1 + (f.t0.x.length : Int)) = s2 := by rw [h2]; exact IntWalk.i64_in _ (by omega)
      have k3 : IntKind.i64.wrap (s2 + (f.t0.p.length : Int)) = s3 := by rw [h3]; exact IntWalk.i64_in _ (by omega)
      have E3 : Hid (many e f 0 = s3) := Lib.hid (by rw [E, h3, h2, h1]); clear h1 h2 h3 hx1 hx2 hy1 hy2 E HLL
      go_quiet (fail)
      go_wp2_with fail
      go_meet
      exact ⟨by rw [E3.out], Lib.hid (MM (Below.refl _ _) _)⟩
    · obtain ⟨s1, h1⟩ : ∃ s1 : Int, s1 = (e.t1.x.length : Int) + (e.t1.p.length : Int) := ⟨_, rfl⟩
      obtain ⟨s2, h2⟩ : ∃ s2 : Int, s2 = s1 + (f.t1.x.length : Int) := ⟨_, rfl⟩
      obtain ⟨s3, h3⟩ : ∃ s3 : Int, s3 = s2 + (f.t1.p.length : Int) := ⟨_, rfl⟩
      have k1 : IntKind.i64.wrap ((e.t1.x.length : Int) + (e.t1.p.length : Int)) = s1 := by rw [h1]; exact IntWalk.i64_in _ (by omega)
      have k2 : IntKind.i64.wrap (s1 + (f.t1.x.length : Int)) = s2 := by rw [h2]; exact IntWalk.i64_in _ (by omega)
      have k3 : IntKind.i64.wrap (s2 + (f.t1.p.length : Int)) = s3 := by rw [h3]; exact IntWalk.i64_in _ (by omega)
      have E3 : Hid (many e f 1 = s3) := Lib.hid (by rw [E, h3, h2, h1]); clear h1 h2 h3 hx1 hx2 hy1 hy2 E HLL
      go_quiet (fail)
      go_wp2_with fail
      go_meet
      exact ⟨by rw [E3.out], Lib.hid (MM (Below.refl _ _) _)⟩
    · obtain ⟨s1, h1⟩ : ∃ s1 : Int, s1 = (e.t2.x.length : Int) + (e.t2.p.length : Int) := ⟨_, rfl⟩
      obtain ⟨s2, h2⟩ : ∃ s2 : Int, s2 = s1 + (f.t2.x.length : Int) := ⟨_, rfl⟩
      obtain ⟨s3, h3⟩ : ∃ s3 : Int, s3 = s2 + (f.t2.p.length : Int) := ⟨_, rfl⟩
      have k1 : IntKind.i64.wrap ((e.t2.x.length : Int) + (e.t2.p.length : Int)) = s1 := by rw [h1]; exact IntWalk.i64_in _ (by omega)
      have k2 : IntKind.i64.wrap (s1 + (f.t2.x.length : Int)) = s2 := by rw [h2]; exact IntWalk.i64_in _ (by omega)
      have k3 : IntKind.i64.wrap (s2 + (f.t2.p.length : Int)) = s3 := by rw [h3]; exact IntWalk.i64_in _ (by omega)
      have E3 : Hid (many e f 2 = s3) := Lib.hid (by rw [E, h3, h2, h1]); clear h1 h2 h3 hx1 hx2 hy1 hy2 E HLL
      go_quiet (fail)
      go_wp2_with fail
      go_meet
      exact ⟨by rw [E3.out], Lib.hid (MM (Below.refl _ _) _)⟩
   case rest =>
    obtain ⟨rfl, B⟩ := hcut; have L4 := Lib.hid (L.out.below B.out)
    by_cases h40 : many e f k > 40
    case pos =>
     have d2 : decide (many e f k > 40) = true := decide_eq_true h40; rw [d2]; clear d1 hw h40 L B; go_wp2
     go_ret
     exact ⟨rfl, L4.out.be⟩
    case neg =>
     have d2 : decide (many e f k > 40) = false := decide_eq_false h40
     have S2 : Hid (∀ j, j < k + 1 → many e f j ≤ 40) := Lib.hid (fun j hj => by
      by_cases hjk : j = k
      · subst hjk; omega
      · exact S.out j (by omega))
     rw [d2]; clear h40 L B S; go_wp2
     go_roundw
     case rel => exact ⟨k + 1, Vk.out, by first | rfl | (simp [hw]) | (rw [hw]), S2, L4⟩
     case measure =>
      have := Vk.out
      simp [intOf, hw]
      omega
  case inl =>
  have LX : Hid (∀ j, j < 3 → (e.t j).x.length ≤ 1000000 ∧ (e.t j).p.length ≤ 1000000) := Lib.hid (fun j hj => by
   have h := S.out j hj
   unfold many at h
   omega)
  clear S HX HY; have hc : ∀ i, wr.cell? ⟨w0.heap.size, i, none⟩ = c.row[i]? := L.out.r0.cell
  go_upto_region 7 with fail
  generalize Value.int IntKind.i64 ((3 : Nat) : Int) = z8
  go_wp2_with fail
  refine (TJ c _).mono ?_
  rintro x w3 ⟨⟨ea, na, rfl, hia, hra⟩, hb⟩; have L3 := Lib.hid (L.out.below hb); have IA := Lib.hid hia; have RA := Lib.hid hra; clear hb hia hra L hc; have i35 : Hid ((Tryz.prog.info? 35).map (·.size) = some ea.R.size) := Lib.hid (by kernel_rfl); have one : Hid (ea.R.all (·.oneCell') = true) := Lib.hid (by kernel_rfl); have TN := Lib.hid (TG w3 #[.int .i64 0, .int .i64 0, .int .i64 0, .int .i64 0, .int .i64 0, .int .i64 0, .slice none 0 0, .int .i64 0, .int .i64 0, .slice none 0 0, .int .i64 0, .int .i64 0, .slice none 0 0, .int .i64 0, .int .i64 0, .slice none 0 0, .int .i64 0, .int .i64 0, .slice none 0 0, .int .i64 0, .int .i64 0, .slice none 0 0, .int .i64 0, .int .i64 0, .int .i64 0, .int .i64 0, .int .i64 0, .int .i64 0, .bool false] ea.R 35 rfl); have TH : Hid ((w3.alloc (.cells #[.int .i64 0, .int .i64 0, .int .i64 0, .int .i64 0, .int .i64 0, .int .i64 0, .slice none 0 0, .int .i64 0, .int .i64 0, .slice none 0 0, .int .i64 0, .int .i64 0, .slice none 0 0, .int .i64 0, .int .i64 0, .slice none 0 0, .int .i64 0, .int .i64 0, .slice none 0 0, .int .i64 0, .int .i64 0, .slice none 0 0, .int .i64 0, .int .i64 0, .int .i64 0, .int .i64 0, .int .i64 0, .int .i64 0, .bool false] 35)).there w3.heap.size 0 ea.R.size) := Lib.hid (show (w3.alloc (.cells #[.int .i64 0, .int .i64 0, .int .i64 0, .int .i64 0, .int .i64 0, .int .i64 0, .slice none 0 0, .int .i64 0, .int .i64 0, .slice none 0 0, .int .i64 0, .int .i64 0, .slice none 0 0, .int .i64 0, .int .i64 0, .slice none 0 0, .int .i64 0, .int .i64 0, .slice none 0 0, .int .i64 0, .int .i64 0, .slice none 0 0, .int .i64 0, .int .i64 0, .int .i64 0, .int .i64 0, .int .i64 0, .int .i64 0, .bool false] 35)).there w3.heap.size 0 (#[.int .i64 0, .int .i64 0, .int .i64 0, .int .i64 0, .int .i64 0, .int .i64 0, .slice none 0 0, .int .i64 0, .int .i64 0, .slice none 0 0, .int .i64 0, .int .i64 0, .slice none 0 0, .int .i64 0, .int .i64 0, .slice none 0 0, .int .i64 0, .int .i64 0, .slice none 0 0, .int .i64 0, .int .i64 0, .slice none 0 0, .int .i64 0, .int .i64 0, .int .i64 0, .int .i64 0, .int .i64 0, .int .i64 0, .bool false] : Array Value).size from Row.there (Row.new w3 35 #[.int .i64 0, .int .i64 0, .int .i64 0, .int .i64 0, .int .i64 0, .int .i64 0, .slice none 0 0, .int .i64 0, .int .i64 0, .slice none 0 0, .int .i64 0, .int .i64 0, .slice none 0 0, .int .i64 0, .int .i64 0, .slice none 0 0, .int .i64 0, .int .i64 0, .slice none 0 0, .int .i64 0, .int .i64 0, .slice none 0 0, .int .i64 0, .int .i64 0, .int .i64 0, .int .i64 0, .int .i64 0, .int .i64 0, .bool false]))
  go_upto_region 8 with (with_reducible refine wpList_store_mid rfl 35 (.tmp 9) (.tmp 55) rfl w3.heap.size 0 ea.R rfl rfl TH.out i35.out one.out ?_)
  generalize (w3.alloc (.cells #[.int .i64 0, .int .i64 0, .int .i64 0, .int .i64 0, .int .i64 0, .int .i64 0, .slice none 0 0, .int .i64 0, .int .i64 0, .slice none 0 0, .int .i64 0, .int .i64 0, .slice none 0 0, .int .i64 0, .int .i64 0, .slice none 0 0, .int .i64 0, .int .i64 0, .slice none 0 0, .int .i64 0, .int .i64 0, .slice none 0 0, .int .i64 0, .int .i64 0, .int .i64 0, .int .i64 0, .int .i64 0, .int .i64 0, .bool false] 35)).setCells w3.heap.size 0 ea.R.toList = w4 at TN ⊢; have L4 := Lib.hid (L3.out.below TN.out.2); have R9 := Lib.hid TN.out.1; have RA4 : Hid (∀ j, j < 3 → yx w4 (ea.t j)) := Lib.hid (fun j hj => (RA.out j hj).below TN.out.2); clear TN TH i35 one L3 RA; generalize w3.heap.size = b9 at R9 ⊢
  try simp only [Act.put]
  have hc : ∀ i, w4.cell? ⟨w0.heap.size, i, none⟩ = c.row[i]? := L4.out.r0.cell
  go_wp2_with fail
  refine (LY c _).mono ?_
  rintro x w5 ⟨⟨eb, nb, rfl, hib, hrb⟩, hb⟩; have L5 := Lib.hid (L4.out.below hb); have ZH := Lib.hid (R9.out.below hb R9.out.lt); have RA5 : Hid (∀ j, j < 3 → yx w5 (ea.t j)) := Lib.hid (fun j hj => (RA4.out j hj).below hb); have SAM := Lib.hid (IA.out.same hib).2; have hn := (IA.out.same hib).1; have RB := Lib.hid hrb; have LA := Lib.hid IA.out.lens; clear hb hib hrb L4 R9 RA4 IA hc; subst hn; have i35 : Hid ((Tryz.prog.info? 35).map (·.size) = some eb.R.size) := Lib.hid (by kernel_rfl); have one : Hid (eb.R.all (·.oneCell') = true) := Lib.hid (by kernel_rfl); have TN := Lib.hid (TG w5 #[.int .i64 0, .int .i64 0, .int .i64 0, .int .i64 0, .int .i64 0, .int .i64 0, .slice none 0 0, .int .i64 0, .int .i64 0, .slice none 0 0, .int .i64 0, .int .i64 0, .slice none 0 0, .int .i64 0, .int .i64 0, .slice none 0 0, .int .i64 0, .int .i64 0, .slice none 0 0, .int .i64 0, .int .i64 0, .slice none 0 0, .int .i64 0, .int .i64 0, .int .i64 0, .int .i64 0, .int .i64 0, .int .i64 0, .bool false] eb.R 35 rfl); have TH : Hid ((w5.alloc (.cells #[.int .i64 0, .int .i64 0, .int .i64 0, .int .i64 0, .int .i64 0, .int .i64 0, .slice none 0 0, .int .i64 0, .int .i64 0, .slice none 0 0, .int .i64 0, .int .i64 0, .slice none 0 0, .int .i64 0, .int .i64 0, .slice none 0 0, .int .i64 0, .int .i64 0, .slice none 0 0, .int .i64 0, .int .i64 0, .slice none 0 0, .int .i64 0, .int .i64 0, .int .i64 0, .int .i64 0, .int .i64 0, .int .i64 0, .bool false] 35)).there w5.heap.size 0 eb.R.size) := Lib.hid (show (w5.alloc (.cells #[.int .i64 0, .int .i64 0, .int .i64 0, .int .i64 0, .int .i64 0, .int .i64 0, .slice none 0 0, .int .i64 0, .int .i64 0, .slice none 0 0, .int .i64 0, .int .i64 0, .slice none 0 0, .int .i64 0, .int .i64 0, .slice none 0 0, .int .i64 0, .int .i64 0, .slice none 0 0, .int .i64 0, .int .i64 0, .slice none 0 0, .int .i64 0, .int .i64 0, .int .i64 0, .int .i64 0, .int .i64 0, .int .i64 0, .bool false] 35)).there w5.heap.size 0 (#[.int .i64 0, .int .i64 0, .int .i64 0, .int .i64 0, .int .i64 0, .int .i64 0, .slice none 0 0, .int .i64 0, .int .i64 0, .slice none 0 0, .int .i64 0, .int .i64 0, .slice none 0 0, .int .i64 0, .int .i64 0, .slice none 0 0, .int .i64 0, .int .i64 0, .slice none 0 0, .int .i64 0, .int .i64 0, .slice none 0 0, .int .i64 0, .int .i64 0, .int .i64 0, .int .i64 0, .int .i64 0, .int .i64 0, .bool false] : Array Value).size from Row.there (Row.new w5 35 #[.int .i64 0, .int .i64 0, .int .i64 0, .int .i64 0, .int .i64 0, .int .i64 0, .slice none 0 0, .int .i64 0, .int .i64 0, .slice none 0 0, .int .i64 0, .int .i64 0, .slice none 0 0, .int .i64 0, .int .i64 0, .slice none 0 0, .int .i64 0, .int .i64 0, .slice none 0 0, .int .i64 0, .int .i64 0, .slice none 0 0, .int .i64 0, .int .i64 0, .int .i64 0, .int .i64 0, .int .i64 0, .int .i64 0, .bool false]))
  go_upto_region 9 with (with_reducible refine wpList_store_mid rfl 35 (.tmp 11) (.tmp 60) rfl w5.heap.size 0 eb.R rfl rfl TH.out i35.out one.out ?_)
  generalize (w5.alloc (.cells #[.int .i64 0, .int .i64 0, .int .i64 0, .int .i64 0, .int .i64 0, .int .i64 0, .slice none 0 0, .int .i64 0, .int .i64 0, .slice none 0 0, .int .i64 0, .int .i64 0, .slice none 0 0, .int .i64 0, .int .i64 0, .slice none 0 0, .int .i64 0, .int .i64 0, .slice none 0 0, .int .i64 0, .int .i64 0, .slice none 0 0, .int .i64 0, .int .i64 0, .int .i64 0, .int .i64 0, .int .i64 0, .int .i64 0, .bool false] 35)).setCells w5.heap.size 0 eb.R.toList = w6 at TN ⊢; have L6 := Lib.hid (L5.out.below TN.out.2); have R9 := Lib.hid (ZH.out.below TN.out.2 ZH.out.lt); have R11 := Lib.hid TN.out.1; have RA6 : Hid (∀ j, j < 3 → yx w6 (ea.t j)) := Lib.hid (fun j hj => (RA5.out j hj).below TN.out.2); have RB6 : Hid (∀ j, j < 3 → yx w6 (eb.t j)) := Lib.hid (fun j hj => (RB.out j hj).below TN.out.2); clear TN TH i35 one L5 RA5 RB ZH; generalize w5.heap.size = b11 at R11 ⊢
  try simp only [Act.put]
  obtain ⟨g, hg0⟩ : ∃ g, e.ok = g := ⟨_, rfl⟩
  have RC : Hid (∀ w', Below w0.heap.size w0 w' → Calls Tryz.prog 11 #[.agg e.R] w' fun x w'' => x = .returned (.bool g) ∧ Below w'.heap.size w' w'') := Lib.hid (fun w' hb => by
   have h := yS e w' (fun j hj => (HR.out j hj).below hb); rw [hg0] at h; exact h)
  have EC : Hid (∀ w', Below w0.heap.size w0 w' → Calls Tryz.prog 15 #[.agg e.R] w' fun x w'' => x = .returned (.bool g) ∧ Below w'.heap.size w' w'') := Lib.hid (fun w' hb => by
   have h := Ej e w' (fun j hj => (HR.out j hj).below hb); rw [hg0] at h; exact h)
  clear hg0; have RL := Lib.hid (Row.whole L6.out.r1); have i35 : Hid ((Tryz.prog.info? 35).map (·.size) = some e.R.toList.length) := Lib.hid (by kernel_rfl)
  go_wp2_with (with_reducible refine OG.sQ rfl 35 (.tmp 4) rfl (w0.heap.size + 1) 0 rfl e.R.toList _ RL.out Tryz.underlying35 rfl i35.out ?_)
  refine (RC.out _ L6.out.be).mono ?_
  rintro x w7 ⟨rfl, hb⟩; have L7 := Lib.hid (L6.out.below hb); have ZH := Lib.hid (R9.out.below hb R9.out.lt); have ZI := Lib.hid (R11.out.below hb R11.out.lt); have RA7 : Hid (∀ j, j < 3 → yx w7 (ea.t j)) := Lib.hid (fun j hj => (RA6.out j hj).below hb); have RB7 : Hid (∀ j, j < 3 → yx w7 (eb.t j)) := Lib.hid (fun j hj => (RB6.out j hj).below hb); clear hb RL L6 R9 R11 RA6 RB6
  have SC : Hid (∀ w', Below w7.heap.size w7 w' → Calls Tryz.prog 14 #[.agg ea.R, .agg eb.R] w' fun x w'' => x = .returned (.bool true) ∧ Below w'.heap.size w' w'') := Lib.hid (fun w' hb => by
   have h := xZ ea eb w' (fun j hj => (RA7.out j hj).below hb) (fun j hj => (RB7.out j hj).below hb) LA.out; rw [SAM.out] at h; exact h)
  have ia : Hid ((Tryz.prog.info? 35).map (·.size) = some ea.R.toList.length) := Lib.hid (by kernel_rfl); have ib : Hid ((Tryz.prog.info? 35).map (·.size) = some eb.R.toList.length) := Lib.hid (by kernel_rfl); have i_f : Hid ((Tryz.prog.info? 35).map (·.size) = some f.R.toList.length) := Lib.hid (by kernel_rfl); have ic : Hid ((Tryz.prog.info? 24).map (·.size) = some c.row.toList.length) := Lib.hid (by kernel_rfl); clear RA7 RB7 LA SAM
  obtain ⟨m, hm⟩ : ∃ m, c.may = m := ⟨_, rfl⟩
  have MC : Hid (∀ w', Calls Tryz.prog 12 #[.agg c.row] w' fun x w'' => x = .returned (.bool m) ∧ Below w'.heap.size w' w'') := Lib.hid (fun w' => by rw [← hm]; exact Ad c w'); have RM : Hid (∀ w', Calls Tryz.prog 13 #[.agg c.row] w' fun x w'' => x = .returned (.bool m) ∧ Below w'.heap.size w' w'') := Lib.hid (fun w' => by rw [← hm]; exact yR c w'); have B7 := Lib.hid L7.out.be; have R0 := Lib.hid L7.out.r0; have R1 := Lib.hid L7.out.r1; have R2 := Lib.hid L7.out.r2
  have dm : (m != m) = false := by simp
  have dg : (g != g) = false := by simp
  have dn : (na != na) = false := by simp
  clear hm L7
  go_upto_region 10 with fail
  refine OG.uw (by kernel_rfl) (fun l a w => a = { tmps := List.toArray (Value.agg c.row :: Value.agg e.R :: Value.agg f.R :: Value.pointer (some ⟨w0.heap.size, 0, none⟩) :: Value.pointer (some ⟨w0.heap.size + 1, 0, none⟩) :: Value.pointer (some ⟨w0.heap.size + 1 + 1, 0, none⟩) :: u6 :: Value.bool true :: z8 :: Value.pointer (some ⟨b9, 0, none⟩) :: I na :: Value.pointer (some ⟨b11, 0, none⟩) :: I na :: Value.bool g :: Value.bool true :: z8 :: Value.bool false :: u17 :: u18 :: u19 :: u20 :: u21 :: u22 :: u23 :: u24 :: u25 :: u26 :: u27 :: u28 :: u29 :: u30 :: u31 :: u32 :: u33 :: u34 :: u35 :: u36 :: u37 :: u38 :: u39 :: u40 :: u41 :: u42 :: u43 :: u44 :: u45 :: u46 :: u47 :: u48 :: u49 :: u50 :: u51 :: Value.tuple #[Value.agg ea.R, I na] :: Value.agg #[I c.dt, I c.acc, I c.bias, I c.kL, I c.pF, I c.gate] :: Value.tuple #[Value.agg ea.R, I na] :: Value.agg ea.R :: I na :: Value.tuple #[Value.agg eb.R, I na] :: Value.agg #[I c.dt, I c.acc, I c.bias, I c.kL, I c.pF, I c.gate] :: Value.tuple #[Value.agg eb.R, I na] :: Value.agg eb.R :: I na :: Value.agg e.R :: Value.bool g :: (bif l 0 then .agg c.row else undef) :: (bif l 1 then .bool m else undef) :: (bif l 2 then .agg c.row else undef) :: (bif l 3 then .bool m else undef) :: (bif l 4 then .bool false else undef) :: (bif l 5 then .bool false else undef) :: (bif l 6 then .agg ea.R else undef) :: (bif l 7 then .agg eb.R else undef) :: (bif l 8 then .bool true else undef) :: (bif l 9 then .bool false else undef) :: (bif l 10 then .bool false else undef) :: (bif l 11 then .bool false else undef) :: (bif l 12 then I na else undef) :: (bif l 13 then I na else undef) :: (bif l 14 then .bool false else undef) :: (bif l 15 then .bool false else undef) :: (bif l 16 then .bool false else undef) :: (bif l 17 then .agg e.R else undef) :: (bif l 18 then .bool g else undef) :: (bif l 19 then .bool g else undef) :: (bif l 20 then .bool false else undef) :: (bif l 21 then .bool false else undef) :: undef :: undef :: undef :: undef :: undef :: undef :: undef :: undef :: undef :: undef :: undef :: undef :: undef :: undef :: undef :: undef :: undef :: undef :: undef :: []), defers := [] } ∧ (Below w7.heap.size w7 w)) (by kernel_rfl) ?s0 ?ss ?se
  case s0 => exact ⟨rfl, (Below.refl _ _).drew⟩
  case ss =>
   refine OG.Steps.cons rfl (fun l a w K hK hJ hcl h0 hd => ?_) (OG.Steps.cons rfl (fun l a w K hK hJ hcl h0 hd => ?_) (OG.Steps.cons rfl (fun l a w K hK hJ hcl h0 hd => ?_) (OG.Steps.cons rfl (fun l a w K hK hJ hcl h0 hd => ?_) (OG.Steps.cons rfl (fun l a w K hK hJ hcl h0 hd => ?_) (OG.Steps.cons rfl (fun l a w K hK hJ hcl h0 hd => ?_) (OG.Steps.yes (gi := 5) (dst := 69) rfl rfl (fun l a w hJ hd => by obtain ⟨rfl, hP0⟩ := hJ; have dg := hd.get 5 (by rfl); show (some (bif l 5 then .bool false else undef) : Option Value) = some _; rw [dg]; rfl) (fun l a w K hK hJ hcl h0 hd => ?_) (OG.Steps.yes (gi := 5) (dst := 69) rfl rfl (fun l a w hJ hd => by obtain ⟨rfl, hP0⟩ := hJ; have dg := hd.get 5 (by rfl); show (some (bif l 5 then .bool false else undef) : Option Value) = some _; rw [dg]; rfl) (fun l a w K hK hJ hcl h0 hd => ?_) (OG.Steps.yes (gi := 5) (dst := 69) rfl rfl (fun l a w hJ hd => by obtain ⟨rfl, hP0⟩ := hJ; have dg := hd.get 5 (by rfl); show (some (bif l 5 then .bool false else undef) : Option Value) = some _; rw [dg]; rfl) (fun l a w K hK hJ hcl h0 hd => ?_) (OG.Steps.yes (gi := 5) (dst := 69) rfl rfl (fun l a w hJ hd => by obtain ⟨rfl, hP0⟩ := hJ; have dg := hd.get 5 (by rfl); show (some (bif l 5 then .bool false else undef) : Option Value) = some _; rw [dg]; rfl) (fun l a w K hK hJ hcl h0 hd => ?_) (OG.Steps.cons rfl (fun l a w K hK hJ hcl h0 hd => ?_) (OG.Steps.cons rfl (fun l a w K hK hJ hcl h0 hd => ?_) (OG.Steps.yes (gi := 11) (dst := 75) rfl rfl (fun l a w hJ hd => by obtain ⟨rfl, hP0⟩ := hJ; have dg := hd.get 11 (by rfl); show (some (bif l 11 then .bool false else undef) : Option Value) = some _; rw [dg]; rfl) (fun l a w K hK hJ hcl h0 hd => ?_) (OG.Steps.yes (gi := 11) (dst := 75) rfl rfl (fun l a w hJ hd => by obtain ⟨rfl, hP0⟩ := hJ; have dg := hd.get 11 (by rfl); show (some (bif l 11 then .bool false else undef) : Option Value) = some _; rw [dg]; rfl) (fun l a w K hK hJ hcl h0 hd => ?_) (OG.Steps.yes (gi := 11) (dst := 75) rfl rfl (fun l a w hJ hd => by obtain ⟨rfl, hP0⟩ := hJ; have dg := hd.get 11 (by rfl); show (some (bif l 11 then .bool false else undef) : Option Value) = some _; rw [dg]; rfl) (fun l a w K hK hJ hcl h0 hd => ?_) (OG.Steps.cons rfl (fun l a w K hK hJ hcl h0 hd => ?_) (OG.Steps.cons rfl (fun l a w K hK hJ hcl h0 hd => ?_) (OG.Steps.yes (gi := 16) (dst := 80) rfl rfl (fun l a w hJ hd => by obtain ⟨rfl, hP0⟩ := hJ; have dg := hd.get 16 (by rfl); show (some (bif l 16 then .bool false else undef) : Option Value) = some _; rw [dg]; rfl) (fun l a w K hK hJ hcl h0 hd => ?_) (OG.Steps.yes (gi := 16) (dst := 80) rfl rfl (fun l a w hJ hd => by obtain ⟨rfl, hP0⟩ := hJ; have dg := hd.get 16 (by rfl); show (some (bif l 16 then .bool false else undef) : Option Value) = some _; rw [dg]; rfl) (fun l a w K hK hJ hcl h0 hd => ?_) (OG.Steps.yes (gi := 16) (dst := 80) rfl rfl (fun l a w hJ hd => by obtain ⟨rfl, hP0⟩ := hJ; have dg := hd.get 16 (by rfl); show (some (bif l 16 then .bool false else undef) : Option Value) = some _; rw [dg]; rfl) (fun l a w K hK hJ hcl h0 hd => ?_) (OG.Steps.yes (gi := 16) (dst := 80) rfl rfl (fun l a w hJ hd => by obtain ⟨rfl, hP0⟩ := hJ; have dg := hd.get 16 (by rfl); show (some (bif l 16 then .bool false else undef) : Option Value) = some _; rw [dg]; rfl) (fun l a w K hK hJ hcl h0 hd => ?_) (OG.Steps.cons rfl (fun l a w K hK hJ hcl h0 hd => ?_) OG.Steps.nil)))))))))))))))))))))
   · obtain ⟨rfl, hP0⟩ := hJ
     have HJ := Lib.hid (hP0); clear hP0 hd hcl h0; refine wp_load_mid 24 (.tmp 3) rfl w0.heap.size 0 rfl c.row.toList _ (Row.whole (R0.out.below HJ.out R0.out.lt)) Tryz.underlying24 rfl ic.out ?_
     exact hK.out _ _ ⟨(rfl), (HJ.out)⟩
   · obtain ⟨rfl, hP0⟩ := hJ
     have d0 := hd.get 0 (by rfl); have HJ := Lib.hid (hP0); clear hP0 hd hcl h0
     go_simp
     refine (MC.out _).mono ?_
     rintro x w' ⟨rfl, hb⟩; exact hK.out _ _ ⟨(by simp only [OG.upd, d0]; rfl), (HJ.out.trans (hb.mono HJ.out.size))⟩
   · obtain ⟨rfl, hP0⟩ := hJ
     have HJ := Lib.hid (hP0); clear hP0 hd hcl h0; refine wp_load_mid 24 (.tmp 3) rfl w0.heap.size 0 rfl c.row.toList _ (Row.whole (R0.out.below HJ.out R0.out.lt)) Tryz.underlying24 rfl ic.out ?_
     exact hK.out _ _ ⟨(rfl), (HJ.out)⟩
   · obtain ⟨rfl, hP0⟩ := hJ
     have d2 := hd.get 2 (by rfl); have HJ := Lib.hid (hP0); clear hP0 hd hcl h0
     go_simp
     refine (RM.out _).mono ?_
     rintro x w' ⟨rfl, hb⟩; exact hK.out _ _ ⟨(by simp only [OG.upd, d2]; rfl), (HJ.out.trans (hb.mono HJ.out.size))⟩
   · obtain ⟨rfl, hP0⟩ := hJ
     have d1 := hd.get 1 (by rfl); have d3 := hd.get 3 (by rfl); have HJ := Lib.hid (hP0); clear hP0 hd hcl h0
     go_simp
     exact hK.out _ _ ⟨(by simp only [OG.upd, d1, d3]; rfl), (HJ.out)⟩
   · obtain ⟨rfl, hP0⟩ := hJ
     have d4 := hd.get 4 (by rfl); have HJ := Lib.hid (hP0); clear hP0 hd hcl h0
     go_simp
     exact hK.out _ _ ⟨(by simp only [OG.upd, d4]; rfl), (HJ.out)⟩
   · obtain ⟨rfl, hP0⟩ := hJ
     have HJ := Lib.hid (hP0); clear hP0 hd hcl h0; refine wp_load_mid 35 (.tmp 9) rfl b9 0 rfl ea.R.toList _ (Row.whole (ZH.out.below HJ.out ZH.out.lt)) Tryz.underlying35 rfl ia.out ?_
     exact hK.out _ _ ⟨(rfl), (HJ.out)⟩
   · obtain ⟨rfl, hP0⟩ := hJ
     have HJ := Lib.hid (hP0); clear hP0 hd hcl h0; refine wp_load_mid 35 (.tmp 11) rfl b11 0 rfl eb.R.toList _ (Row.whole (ZI.out.below HJ.out ZI.out.lt)) Tryz.underlying35 rfl ib.out ?_
     exact hK.out _ _ ⟨(rfl), (HJ.out)⟩
   · obtain ⟨rfl, hP0⟩ := hJ
     have d6 := hd.get 6 (by rfl); have d7 := hd.get 7 (by rfl); have HJ := Lib.hid (hP0); clear hP0 hd hcl h0
     go_simp
     refine (SC.out _ HJ.out).mono ?_
     rintro x w' ⟨rfl, hb⟩; exact hK.out _ _ ⟨(by simp only [OG.upd, d6, d7]; rfl), (HJ.out.trans (hb.mono HJ.out.size))⟩
   · obtain ⟨rfl, hP0⟩ := hJ
     have d8 := hd.get 8 (by rfl); have HJ := Lib.hid (hP0); clear hP0 hd hcl h0
     go_simp
     exact hK.out _ _ ⟨(by simp only [OG.upd, d8]; rfl), (HJ.out)⟩
   · obtain ⟨rfl, hP0⟩ := hJ
     have d5 := hd.get 5 (by rfl); have d9 := hd.get 9 (by rfl); have HJ := Lib.hid (hP0); clear hP0 hd hcl h0
     go_simp
     exact hK.out _ _ ⟨(by simp only [OG.upd, d5, d9]; rfl), (HJ.out)⟩
   · obtain ⟨rfl, hP0⟩ := hJ
     have d10 := hd.get 10 (by rfl); have HJ := Lib.hid (hP0); clear hP0 hd hcl h0
     go_simp
     exact hK.out _ _ ⟨(by simp only [OG.upd, d10]; rfl), (HJ.out)⟩
   · obtain ⟨rfl, hP0⟩ := hJ
     have HJ := Lib.hid (hP0); clear hP0 hd hcl h0
     go_simp
     exact hK.out _ _ ⟨(rfl), (HJ.out)⟩
   · obtain ⟨rfl, hP0⟩ := hJ
     have HJ := Lib.hid (hP0); clear hP0 hd hcl h0
     go_simp
     exact hK.out _ _ ⟨(rfl), (HJ.out)⟩
   · obtain ⟨rfl, hP0⟩ := hJ
     have d12 := hd.get 12 (by rfl); have d13 := hd.get 13 (by rfl); have HJ := Lib.hid (hP0); clear hP0 hd hcl h0
     go_simp
     exact hK.out _ _ ⟨(by simp only [OG.upd, d12, d13]; rfl), (HJ.out)⟩
   · obtain ⟨rfl, hP0⟩ := hJ
     have d11 := hd.get 11 (by rfl); have d14 := hd.get 14 (by rfl); have HJ := Lib.hid (hP0); clear hP0 hd hcl h0
     go_simp
     exact hK.out _ _ ⟨(by simp only [OG.upd, d11, d14]; rfl), (HJ.out)⟩
   · obtain ⟨rfl, hP0⟩ := hJ
     have d15 := hd.get 15 (by rfl); have HJ := Lib.hid (hP0); clear hP0 hd hcl h0
     go_simp
     exact hK.out _ _ ⟨(by simp only [OG.upd, d15]; rfl), (HJ.out)⟩
   · obtain ⟨rfl, hP0⟩ := hJ
     have HJ := Lib.hid (hP0); clear hP0 hd hcl h0; refine wp_load_mid 35 (.tmp 4) rfl (w0.heap.size + 1) 0 rfl e.R.toList _ (Row.whole (R1.out.below HJ.out R1.out.lt)) Tryz.underlying35 rfl i35.out ?_
     exact hK.out _ _ ⟨(rfl), (HJ.out)⟩
   · obtain ⟨rfl, hP0⟩ := hJ
     have d17 := hd.get 17 (by rfl); have HJ := Lib.hid (hP0); clear hP0 hd hcl h0
     go_simp
     refine (EC.out _ (B7.out.trans (HJ.out.mono B7.out.size))).mono ?_
     rintro x w' ⟨rfl, hb⟩; exact hK.out _ _ ⟨(by simp only [OG.upd, d17]; rfl), (HJ.out.trans (hb.mono HJ.out.size))⟩
   · obtain ⟨rfl, hP0⟩ := hJ
     have HJ := Lib.hid (hP0); clear hP0 hd hcl h0
     go_simp
     exact hK.out _ _ ⟨(rfl), (HJ.out)⟩
   · obtain ⟨rfl, hP0⟩ := hJ
     have d18 := hd.get 18 (by rfl); have d19 := hd.get 19 (by rfl); have HJ := Lib.hid (hP0); clear hP0 hd hcl h0
     go_simp
     exact hK.out _ _ ⟨(by simp only [OG.upd, d18, d19]; rfl), (HJ.out)⟩
   · obtain ⟨rfl, hP0⟩ := hJ
     have d16 := hd.get 16 (by rfl); have d20 := hd.get 20 (by rfl); have HJ := Lib.hid (hP0); clear hP0 hd hcl h0
     go_simp
     exact hK.out _ _ ⟨(by simp only [OG.upd, d16, d20]; rfl), (HJ.out)⟩
  case se =>
   intro l a w hJ he; obtain ⟨rfl, hP0⟩ := hJ; rw [he 0 (by decide), he 1 (by decide), he 2 (by decide), he 3 (by decide), he 4 (by decide), he 5 (by decide), he 6 (by decide), he 7 (by decide), he 8 (by decide), he 9 (by decide), he 10 (by decide), he 11 (by decide), he 12 (by decide), he 13 (by decide), he 14 (by decide), he 15 (by decide), he 16 (by decide), he 17 (by decide), he 18 (by decide), he 19 (by decide), he 20 (by decide), he 21 (by decide)]
   obtain ⟨w8, h8⟩ : ∃ x, x = w := ⟨_, rfl⟩
   subst h8; have B8 := Lib.hid (B7.out.trans (hP0.mono B7.out.size)); have R18 := Lib.hid (R1.out.below hP0 R1.out.lt); have X8 := Lib.hid (R2.out.below hP0 R2.out.lt); clear hP0 he B7 R0 R1 R2 ZH ZI SC MC RM EC ia ib ic dm dg dn; (try clear l)
   obtain ⟨b, hb⟩ : ∃ b, (g && f.ok) = b := ⟨_, rfl⟩
   have FB : Hid (g = false → b = false) := Lib.hid (fun hg => by rw [← hb, hg]; rfl)
   have RF : Hid (g = true → ∀ w', Below w0.heap.size w0 w' → Calls Tryz.prog 11 #[.agg f.R] w' fun x w'' => x = .returned (.bool b) ∧ Below w'.heap.size w' w'') := Lib.hid (fun hg w' h => by
    have hh := yS f w' (fun j hj => (HF.out j hj).below h); rw [show f.ok = b by rw [← hb, hg]; rfl] at hh; exact hh)
   obtain ⟨r, hr⟩ : ∃ r, e.same f = r := ⟨_, rfl⟩
   have S16 : Hid (∀ w', Below w0.heap.size w0 w' → Calls Tryz.prog 16 #[.agg e.R, .agg f.R] w' fun x w'' => x = .returned (.bool r) ∧ Below w'.heap.size w' w'') := Lib.hid (fun w' h => by
    rw [← hr]; exact FO e f w' (fun j hj => (HR.out j hj).below h) (fun j hj => (HF.out j hj).below h) LX.out)
   have S14 : Hid (∀ w', Below w0.heap.size w0 w' → Calls Tryz.prog 14 #[.agg e.R, .agg f.R] w' fun x w'' => x = .returned (.bool r) ∧ Below w'.heap.size w' w'') := Lib.hid (fun w' h => by
    rw [← hr]; exact xZ e f w' (fun j hj => (HR.out j hj).below h) (fun j hj => (HF.out j hj).below h) LX.out)
   have dr : (r == r) = true := by simp
   clear hb hr RC HR HF LX
   go_upto_region 12 with fail
   refine OG.uw (by kernel_rfl) (fun l a w => a = { tmps := List.toArray (Value.agg c.row :: Value.agg e.R :: Value.agg f.R :: Value.pointer (some ⟨w0.heap.size, 0, none⟩) :: Value.pointer (some ⟨w0.heap.size + 1, 0, none⟩) :: Value.pointer (some ⟨w0.heap.size + 1 + 1, 0, none⟩) :: (bif l 19 then .bool true else u6) :: Value.bool true :: z8 :: Value.pointer (some ⟨b9, 0, none⟩) :: I na :: Value.pointer (some ⟨b11, 0, none⟩) :: I na :: Value.bool g :: Value.bool true :: z8 :: Value.bool false :: u17 :: u18 :: u19 :: u20 :: u21 :: u22 :: u23 :: u24 :: u25 :: u26 :: u27 :: u28 :: u29 :: u30 :: u31 :: u32 :: u33 :: u34 :: u35 :: u36 :: u37 :: u38 :: u39 :: u40 :: u41 :: u42 :: u43 :: u44 :: u45 :: u46 :: u47 :: u48 :: u49 :: u50 :: u51 :: Value.tuple #[Value.agg ea.R, I na] :: Value.agg #[I c.dt, I c.acc, I c.bias, I c.kL, I c.pF, I c.gate] :: Value.tuple #[Value.agg ea.R, I na] :: Value.agg ea.R :: I na :: Value.tuple #[Value.agg eb.R, I na] :: Value.agg #[I c.dt, I c.acc, I c.bias, I c.kL, I c.pF, I c.gate] :: Value.tuple #[Value.agg eb.R, I na] :: Value.agg eb.R :: I na :: Value.agg e.R :: Value.bool g :: Value.agg c.row :: Value.bool m :: Value.agg c.row :: Value.bool m :: Value.bool false :: Value.bool false :: Value.agg ea.R :: Value.agg eb.R :: Value.bool true :: Value.bool false :: Value.bool false :: Value.bool false :: I na :: I na :: Value.bool false :: Value.bool false :: Value.bool false :: Value.agg e.R :: Value.bool g :: Value.bool g :: Value.bool false :: Value.bool false :: (bif l 0 then .bool true else undef) :: (bif l 1 then .bool true else undef) :: (bif l 2 then .bool g else undef) :: (bif l 3 then .bool (!g) else undef) :: (bif l 4 then .bool (!g) else undef) :: (bif l 5 then (bif g then .agg f.R else undef) else undef) :: (bif l 6 then (bif g then .bool b else undef) else undef) :: (bif l 7 then (bif g then .bool (!b) else undef) else undef) :: (bif l 8 then .bool (!b) else undef) :: (bif l 9 then .bool (!b) else undef) :: (bif l 10 then (bif b then .agg e.R else undef) else undef) :: (bif l 11 then (bif b then .agg f.R else undef) else undef) :: (bif l 12 then (bif b then .bool r else undef) else undef) :: (bif l 13 then (bif b then .agg e.R else undef) else undef) :: (bif l 14 then (bif b then .agg f.R else undef) else undef) :: (bif l 15 then (bif b then .bool r else undef) else undef) :: (bif l 16 then (bif b then .bool true else undef) else undef) :: (bif l 17 then .bool true else undef) :: (bif l 18 then .bool true else undef) :: []), defers := [] } ∧ (Below w8.heap.size w8 w)) (by kernel_rfl) ?s0 ?ss ?se
   case s0 => exact ⟨rfl, (Below.refl _ _).drew⟩
   case ss =>
    refine OG.Steps.cons rfl (fun l a w K hK hJ hcl h0 hd => ?_) (OG.Steps.cons rfl (fun l a w K hK hJ hcl h0 hd => ?_) (OG.Steps.yes (gi := 1) (dst := 87) rfl rfl (fun l a w hJ hd => by obtain ⟨rfl, hP0⟩ := hJ; have dg := hd.get 1 (by rfl); show (some (bif l 1 then .bool true else undef) : Option Value) = some _; rw [dg]; rfl) (fun l a w K hK hJ hcl h0 hd => ?_) (OG.Steps.yes (gi := 1) (dst := 87) rfl rfl (fun l a w hJ hd => by obtain ⟨rfl, hP0⟩ := hJ; have dg := hd.get 1 (by rfl); show (some (bif l 1 then .bool true else undef) : Option Value) = some _; rw [dg]; rfl) (fun l a w K hK hJ hcl h0 hd => ?_) (OG.Steps.yes (gi := 1) (dst := 87) rfl rfl (fun l a w hJ hd => by obtain ⟨rfl, hP0⟩ := hJ; have dg := hd.get 1 (by rfl); show (some (bif l 1 then .bool true else undef) : Option Value) = some _; rw [dg]; rfl) (fun l a w K hK hJ hcl h0 hd => ?_) (OG.Steps.opt (gi := 4) (dst := 90) g rfl rfl (fun l a w hJ hd => by obtain ⟨rfl, hP0⟩ := hJ; have dg := hd.get 4 (by rfl); show (some (bif l 4 then .bool (!g) else undef) : Option Value) = some _; rw [dg]; cases g <;> rfl) (fun l a w K hK hJ hcl h0 hd => ⟨fun hg => ?_, fun hg => ?_⟩) (OG.Steps.opt (gi := 4) (dst := 90) g rfl rfl (fun l a w hJ hd => by obtain ⟨rfl, hP0⟩ := hJ; have dg := hd.get 4 (by rfl); show (some (bif l 4 then .bool (!g) else undef) : Option Value) = some _; rw [dg]; cases g <;> rfl) (fun l a w K hK hJ hcl h0 hd => ⟨fun hg => ?_, fun hg => ?_⟩) (OG.Steps.opt (gi := 4) (dst := 90) g rfl rfl (fun l a w hJ hd => by obtain ⟨rfl, hP0⟩ := hJ; have dg := hd.get 4 (by rfl); show (some (bif l 4 then .bool (!g) else undef) : Option Value) = some _; rw [dg]; cases g <;> rfl) (fun l a w K hK hJ hcl h0 hd => ⟨fun hg => ?_, fun hg => ?_⟩) (OG.Steps.yes (gi := 1) (dst := 87) rfl rfl (fun l a w hJ hd => by obtain ⟨rfl, hP0⟩ := hJ; have dg := hd.get 1 (by rfl); show (some (bif l 1 then .bool true else undef) : Option Value) = some _; rw [dg]; rfl) (fun l a w K hK hJ hcl h0 hd => ?_) (OG.Steps.yes (gi := 1) (dst := 87) rfl rfl (fun l a w hJ hd => by obtain ⟨rfl, hP0⟩ := hJ; have dg := hd.get 1 (by rfl); show (some (bif l 1 then .bool true else undef) : Option Value) = some _; rw [dg]; rfl) (fun l a w K hK hJ hcl h0 hd => ?_) (OG.Steps.opt (gi := 9) (dst := 95) b rfl rfl (fun l a w hJ hd => by obtain ⟨rfl, hP0⟩ := hJ; have dg := hd.get 9 (by rfl); show (some (bif l 9 then .bool (!b) else undef) : Option Value) = some _; rw [dg]; cases b <;> rfl) (fun l a w K hK hJ hcl h0 hd => ⟨fun hg => ?_, fun hg => ?_⟩) (OG.Steps.opt (gi := 9) (dst := 95) b rfl rfl (fun l a w hJ hd => by obtain ⟨rfl, hP0⟩ := hJ; have dg := hd.get 9 (by rfl); show (some (bif l 9 then .bool (!b) else undef) : Option Value) = some _; rw [dg]; cases b <;> rfl) (fun l a w K hK hJ hcl h0 hd => ⟨fun hg => ?_, fun hg => ?_⟩) (OG.Steps.opt (gi := 9) (dst := 95) b rfl rfl (fun l a w hJ hd => by obtain ⟨rfl, hP0⟩ := hJ; have dg := hd.get 9 (by rfl); show (some (bif l 9 then .bool (!b) else undef) : Option Value) = some _; rw [dg]; cases b <;> rfl) (fun l a w K hK hJ hcl h0 hd => ⟨fun hg => ?_, fun hg => ?_⟩) (OG.Steps.opt (gi := 9) (dst := 95) b rfl rfl (fun l a w hJ hd => by obtain ⟨rfl, hP0⟩ := hJ; have dg := hd.get 9 (by rfl); show (some (bif l 9 then .bool (!b) else undef) : Option Value) = some _; rw [dg]; cases b <;> rfl) (fun l a w K hK hJ hcl h0 hd => ⟨fun hg => ?_, fun hg => ?_⟩) (OG.Steps.opt (gi := 9) (dst := 95) b rfl rfl (fun l a w hJ hd => by obtain ⟨rfl, hP0⟩ := hJ; have dg := hd.get 9 (by rfl); show (some (bif l 9 then .bool (!b) else undef) : Option Value) = some _; rw [dg]; cases b <;> rfl) (fun l a w K hK hJ hcl h0 hd => ⟨fun hg => ?_, fun hg => ?_⟩) (OG.Steps.opt (gi := 9) (dst := 95) b rfl rfl (fun l a w hJ hd => by obtain ⟨rfl, hP0⟩ := hJ; have dg := hd.get 9 (by rfl); show (some (bif l 9 then .bool (!b) else undef) : Option Value) = some _; rw [dg]; cases b <;> rfl) (fun l a w K hK hJ hcl h0 hd => ⟨fun hg => ?_, fun hg => ?_⟩) (OG.Steps.opt (gi := 9) (dst := 95) b rfl rfl (fun l a w hJ hd => by obtain ⟨rfl, hP0⟩ := hJ; have dg := hd.get 9 (by rfl); show (some (bif l 9 then .bool (!b) else undef) : Option Value) = some _; rw [dg]; cases b <;> rfl) (fun l a w K hK hJ hcl h0 hd => ⟨fun hg => ?_, fun hg => ?_⟩) (OG.Steps.yes (gi := 1) (dst := 87) rfl rfl (fun l a w hJ hd => by obtain ⟨rfl, hP0⟩ := hJ; have dg := hd.get 1 (by rfl); show (some (bif l 1 then .bool true else undef) : Option Value) = some _; rw [dg]; rfl) (fun l a w K hK hJ hcl h0 hd => ?_) (OG.Steps.cons rfl (fun l a w K hK hJ hcl h0 hd => ?_) (OG.Steps.cons rfl (fun l a w K hK hJ hcl h0 hd => ?_) OG.Steps.nil)))))))))))))))))))
    · obtain ⟨rfl, hP0⟩ := hJ
      have HJ := Lib.hid (hP0); clear hP0 hd hcl h0
      go_simp
      exact hK.out _ _ ⟨(rfl), (HJ.out)⟩
    · obtain ⟨rfl, hP0⟩ := hJ
      have d0 := hd.get 0 (by rfl); have HJ := Lib.hid (hP0); clear hP0 hd hcl h0
      go_simp
      exact hK.out _ _ ⟨(by simp only [OG.upd, d0]; rfl), (HJ.out)⟩
    · obtain ⟨rfl, hP0⟩ := hJ
      have HJ := Lib.hid (hP0); clear hP0 hd hcl h0
      go_simp
      exact hK.out _ _ ⟨(rfl), (HJ.out)⟩
    · obtain ⟨rfl, hP0⟩ := hJ
      have d2 := hd.get 2 (by rfl); have HJ := Lib.hid (hP0); clear hP0 hd hcl h0
      go_simp
      exact hK.out _ _ ⟨(by simp only [OG.upd, d2]; rfl), (HJ.out)⟩
    · obtain ⟨rfl, hP0⟩ := hJ
      have d3 := hd.get 3 (by rfl); have HJ := Lib.hid (hP0); clear hP0 hd hcl h0
      go_simp
      exact hK.out _ _ ⟨(by simp only [OG.upd, d3]; rfl), (HJ.out)⟩
    · obtain ⟨rfl, hP0⟩ := hJ
      have HJ := Lib.hid (hP0); clear hP0 hd hcl h0; refine wp_load_mid 35 (.tmp 5) rfl (w0.heap.size + 1 + 1) 0 rfl f.R.toList _ (Row.whole (X8.out.below HJ.out X8.out.lt)) Tryz.underlying35 rfl i_f.out ?_
      exact hK.out _ _ ⟨(by simp only [OG.upd, hg]; rfl), (HJ.out)⟩
    · obtain ⟨rfl, hP0⟩ := hJ
      have HJ := Lib.hid (hP0); clear hP0 hd hcl h0; exact hK.out _ _ ⟨(by simp only [OG.upd, hg, cond_false, Bool.cond_self]; rfl), (HJ.out)⟩
    · obtain ⟨rfl, hP0⟩ := hJ
      have d5 := hd.get 5 (by rfl); have HJ := Lib.hid (hP0); clear hP0 hd hcl h0
      go_simp
      refine (RF.out hg _ (B8.out.trans (HJ.out.mono B8.out.size))).mono ?_
      rintro x w' ⟨rfl, hb⟩; exact hK.out _ _ ⟨(by simp only [OG.upd, d5, hg]; rfl), (HJ.out.trans (hb.mono HJ.out.size))⟩
    · obtain ⟨rfl, hP0⟩ := hJ
      have d5 := hd.get 5 (by rfl); have HJ := Lib.hid (hP0); clear hP0 hd hcl h0; exact hK.out _ _ ⟨(by simp only [OG.upd, d5, hg, cond_false, Bool.cond_self]; rfl), (HJ.out)⟩
    · obtain ⟨rfl, hP0⟩ := hJ
      have d6 := hd.get 6 (by rfl); have HJ := Lib.hid (hP0); clear hP0 hd hcl h0
      go_simp
      exact hK.out _ _ ⟨(by simp only [OG.upd, d6, hg]; rfl), (HJ.out)⟩
    · obtain ⟨rfl, hP0⟩ := hJ
      have d6 := hd.get 6 (by rfl); have HJ := Lib.hid (hP0); clear hP0 hd hcl h0; exact hK.out _ _ ⟨(by simp only [OG.upd, d6, hg, cond_false, Bool.cond_self]; rfl), (HJ.out)⟩
    · obtain ⟨rfl, hP0⟩ := hJ
      have d4 := hd.get 4 (by rfl); have d7 := hd.get 7 (by rfl); have HJ := Lib.hid (hP0); clear hP0 hd hcl h0
      rcases Bool.eq_false_or_eq_true g with hg | hg
      · go_simp
        exact hK.out _ _ ⟨(by simp only [OG.upd, d4, d7, hg, cond_false, cond_true, Bool.cond_self]; rfl), (HJ.out)⟩
      · have h2 := FB.out hg
        go_simp
        exact hK.out _ _ ⟨(by simp only [OG.upd, d4, d7, hg, h2, cond_false, cond_true, Bool.cond_self]; rfl), (HJ.out)⟩
    · obtain ⟨rfl, hP0⟩ := hJ
      have d8 := hd.get 8 (by rfl); have HJ := Lib.hid (hP0); clear hP0 hd hcl h0
      go_simp
      exact hK.out _ _ ⟨(by simp only [OG.upd, d8]; rfl), (HJ.out)⟩
    · obtain ⟨rfl, hP0⟩ := hJ
      have HJ := Lib.hid (hP0); clear hP0 hd hcl h0; refine wp_load_mid 35 (.tmp 4) rfl (w0.heap.size + 1) 0 rfl e.R.toList _ (Row.whole (R18.out.below HJ.out R18.out.lt)) Tryz.underlying35 rfl i35.out ?_
      exact hK.out _ _ ⟨(by simp only [OG.upd, hg]; rfl), (HJ.out)⟩
    · obtain ⟨rfl, hP0⟩ := hJ
      have HJ := Lib.hid (hP0); clear hP0 hd hcl h0; exact hK.out _ _ ⟨(by simp only [OG.upd, hg, cond_false, Bool.cond_self]; rfl), (HJ.out)⟩
    · obtain ⟨rfl, hP0⟩ := hJ
      have HJ := Lib.hid (hP0); clear hP0 hd hcl h0; refine wp_load_mid 35 (.tmp 5) rfl (w0.heap.size + 1 + 1) 0 rfl f.R.toList _ (Row.whole (X8.out.below HJ.out X8.out.lt)) Tryz.underlying35 rfl i_f.out ?_
      exact hK.out _ _ ⟨(by simp only [OG.upd, hg]; rfl), (HJ.out)⟩
    · obtain ⟨rfl, hP0⟩ := hJ
      have HJ := Lib.hid (hP0); clear hP0 hd hcl h0; exact hK.out _ _ ⟨(by simp only [OG.upd, hg, cond_false, Bool.cond_self]; rfl), (HJ.out)⟩
    · obtain ⟨rfl, hP0⟩ := hJ
      have d10 := hd.get 10 (by rfl); have d11 := hd.get 11 (by rfl); have HJ := Lib.hid (hP0); clear hP0 hd hcl h0
      go_simp
      refine (S16.out _ (B8.out.trans (HJ.out.mono B8.out.size))).mono ?_
      rintro x w' ⟨rfl, hb⟩; exact hK.out _ _ ⟨(by simp only [OG.upd, d10, d11, hg]; rfl), (HJ.out.trans (hb.mono HJ.out.size))⟩
    · obtain ⟨rfl, hP0⟩ := hJ
      have d10 := hd.get 10 (by rfl); have d11 := hd.get 11 (by rfl); have HJ := Lib.hid (hP0); clear hP0 hd hcl h0; exact hK.out _ _ ⟨(by simp only [OG.upd, d10, d11, hg, cond_false, Bool.cond_self]; rfl), (HJ.out)⟩
    · obtain ⟨rfl, hP0⟩ := hJ
      have HJ := Lib.hid (hP0); clear hP0 hd hcl h0; refine wp_load_mid 35 (.tmp 4) rfl (w0.heap.size + 1) 0 rfl e.R.toList _ (Row.whole (R18.out.below HJ.out R18.out.lt)) Tryz.underlying35 rfl i35.out ?_
      exact hK.out _ _ ⟨(by simp only [OG.upd, hg]; rfl), (HJ.out)⟩
    · obtain ⟨rfl, hP0⟩ := hJ
      have HJ := Lib.hid (hP0); clear hP0 hd hcl h0; exact hK.out _ _ ⟨(by simp only [OG.upd, hg, cond_false, Bool.cond_self]; rfl), (HJ.out)⟩
    · obtain ⟨rfl, hP0⟩ := hJ
      have HJ := Lib.hid (hP0); clear hP0 hd hcl h0; refine wp_load_mid 35 (.tmp 5) rfl (w0.heap.size + 1 + 1) 0 rfl f.R.toList _ (Row.whole (X8.out.below HJ.out X8.out.lt)) Tryz.underlying35 rfl i_f.out ?_
      exact hK.out _ _ ⟨(by simp only [OG.upd, hg]; rfl), (HJ.out)⟩
    · obtain ⟨rfl, hP0⟩ := hJ
      have HJ := Lib.hid (hP0); clear hP0 hd hcl h0; exact hK.out _ _ ⟨(by simp only [OG.upd, hg, cond_false, Bool.cond_self]; rfl), (HJ.out)⟩
    · obtain ⟨rfl, hP0⟩ := hJ
      have d13 := hd.get 13 (by rfl); have d14 := hd.get 14 (by rfl); have HJ := Lib.hid (hP0); clear hP0 hd hcl h0
      go_simp
      refine (S14.out _ (B8.out.trans (HJ.out.mono B8.out.size))).mono ?_
      rintro x w' ⟨rfl, hb⟩; exact hK.out _ _ ⟨(by simp only [OG.upd, d13, d14, hg]; rfl), (HJ.out.trans (hb.mono HJ.out.size))⟩
    · obtain ⟨rfl, hP0⟩ := hJ
      have d13 := hd.get 13 (by rfl); have d14 := hd.get 14 (by rfl); have HJ := Lib.hid (hP0); clear hP0 hd hcl h0; exact hK.out _ _ ⟨(by simp only [OG.upd, d13, d14, hg, cond_false, Bool.cond_self]; rfl), (HJ.out)⟩
    · obtain ⟨rfl, hP0⟩ := hJ
      have d12 := hd.get 12 (by rfl); have d15 := hd.get 15 (by rfl); have HJ := Lib.hid (hP0); clear hP0 hd hcl h0
      go_simp
      exact hK.out _ _ ⟨(by simp only [OG.upd, d12, d15, hg]; rfl), (HJ.out)⟩
    · obtain ⟨rfl, hP0⟩ := hJ
      have d12 := hd.get 12 (by rfl); have d15 := hd.get 15 (by rfl); have HJ := Lib.hid (hP0); clear hP0 hd hcl h0; exact hK.out _ _ ⟨(by simp only [OG.upd, d12, d15, hg, cond_false, Bool.cond_self]; rfl), (HJ.out)⟩
    · obtain ⟨rfl, hP0⟩ := hJ
      have d9 := hd.get 9 (by rfl); have d16 := hd.get 16 (by rfl); have HJ := Lib.hid (hP0); clear hP0 hd hcl h0
      rcases Bool.eq_false_or_eq_true b with hg | hg
      · go_simp
        exact hK.out _ _ ⟨(by simp only [OG.upd, d9, d16, hg, cond_false, cond_true, Bool.cond_self]; rfl), (HJ.out)⟩
      · go_simp
        exact hK.out _ _ ⟨(by simp only [OG.upd, d9, d16, hg, cond_false, cond_true, Bool.cond_self]; rfl), (HJ.out)⟩
    · obtain ⟨rfl, hP0⟩ := hJ
      have d1 := hd.get 1 (by rfl); have d17 := hd.get 17 (by rfl); have HJ := Lib.hid (hP0); clear hP0 hd hcl h0
      go_simp
      exact hK.out _ _ ⟨(by simp only [OG.upd, d1, d17]; rfl), (HJ.out)⟩
    · obtain ⟨rfl, hP0⟩ := hJ
      have d18 := hd.get 18 (by rfl); have HJ := Lib.hid (hP0); clear hP0 hd hcl h0
      go_simp
      exact hK.out _ _ ⟨(by simp only [OG.upd, d18]; rfl), (HJ.out)⟩
   case se =>
    intro l a w hJ he; obtain ⟨rfl, hP0⟩ := hJ; rw [he 0 (by decide), he 1 (by decide), he 2 (by decide), he 3 (by decide), he 4 (by decide), he 5 (by decide), he 6 (by decide), he 7 (by decide), he 8 (by decide), he 9 (by decide), he 10 (by decide), he 11 (by decide), he 12 (by decide), he 13 (by decide), he 14 (by decide), he 15 (by decide), he 16 (by decide), he 17 (by decide), he 18 (by decide), he 19 (by decide)]; have BE := Lib.hid (B8.out.trans (hP0.mono B8.out.size)); clear hP0 he; go_wp2
    go_ret
    exact ⟨rfl, BE.out⟩
end Go.Proofs.YtcfobekkchhbbaaGreat.EE

namespace Go.Proofs.YtcfobekkchhbbaaGreat.EE
open Go.ChangeShapes Go.WideShapes Go.ChangeAt Go.RowKit Go.Deep Go.Proofs.YtcfobekkchhbbaaGreat.KK Go.Proofs.af.aU
set_option linter.unusedVariables false
set_option linter.unusedSimpArgs false
theorem z22 : Tryz.prog.cellsOf 22 = 1 := by kernel_rfl
theorem z24 : Tryz.prog.cellsOf 24 = 6 := by kernel_rfl
theorem z3 : Tryz.prog.cellsOf 3 = 1 := by kernel_rfl
theorem z4 : Tryz.prog.cellsOf 4 = 1 := by kernel_rfl
theorem z28 : Tryz.prog.cellsOf 26 = 4 := by kernel_rfl
theorem z33 : Tryz.prog.cellsOf 31 = 6 := by kernel_rfl
theorem z34 : Tryz.prog.cellsOf 32 = 18 := by kernel_rfl
theorem z35 : Tryz.prog.cellsOf 33 = 4 := by kernel_rfl
theorem z37 : Tryz.prog.cellsOf 35 = 29 := by kernel_rfl
theorem z46 : Tryz.prog.cellsOf 55 = 13 := by kernel_rfl
theorem aaP {α : Type} {l : List α} (h : l.length = 6) : ∃ c0 c1 c2 c3 c4 c5, l = [c0, c1, c2, c3, c4, c5] := by
 match l, h with
 | [c0, c1, c2, c3, c4, c5], _ => exact ⟨c0, c1, c2, c3, c4, c5, rfl⟩
theorem aaQ {α : Type} {l : List α} (h : l.length = 4) : ∃ c0 c1 c2 c3, l = [c0, c1, c2, c3] := by
 match l, h with
 | [c0, c1, c2, c3], _ => exact ⟨c0, c1, c2, c3, rfl⟩
theorem YI {α : Type} {l : List α} (h : l.length = 29) : ∃ c0 c1 c2 c3 c4 c5 c6 c7 c8 c9 c10 c11 c12 c13 c14 c15 c16 c17 c18 c19 c20 c21 Jv c23 c24 c25 Jo PN c28, l = [c0, c1, c2, c3, c4, c5, c6, c7, c8, c9, c10, c11, c12, c13, c14, c15, c16, c17, c18, c19, c20, c21, Jv, c23, c24, c25, Jo, PN, c28] := by
 match l, h with
 | [c0, c1, c2, c3, c4, c5, c6, c7, c8, c9, c10, c11, c12, c13, c14, c15, c16, c17, c18, c19, c20, c21, Jv, c23, c24, c25, Jo, PN, c28], _ => exact ⟨c0, c1, c2, c3, c4, c5, c6, c7, c8, c9, c10, c11, c12, c13, c14, c15, c16, c17, c18, c19, c20, c21, Jv, c23, c24, c25, Jo, PN, c28, rfl⟩
theorem YJ {α : Type} {l : List α} (h : l.length = 18) : ∃ c0 c1 c2 c3 c4 c5 c6 c7 c8 c9 c10 c11 c12 c13 c14 c15 c16 c17, l = [c0, c1, c2, c3, c4, c5, c6, c7, c8, c9, c10, c11, c12, c13, c14, c15, c16, c17] := by
 match l, h with
 | [c0, c1, c2, c3, c4, c5, c6, c7, c8, c9, c10, c11, c12, c13, c14, c15, c16, c17], _ => exact ⟨c0, c1, c2, c3, c4, c5, c6, c7, c8, c9, c10, c11, c12, c13, c14, c15, c16, c17, rfl⟩
section
variable {H : Type} {enc : TypeId × Value → H} {W : World} {base : Nat} {sp : Nat → Bool} {held : Bool} {fuel : Nat} {cs : List Value} {x : DataW H × List MemPlace}
theorem QI (h : DataW.trod enc Tryz.prog W base sp held fuel 24 cs = some x) : ∃ c : Cf, cs = c.row.toList := by
 obtain ⟨xs, n, _, _, hl, hlen, hf⟩ := DataW.trod_struct Tryz.underlying24 h; rw [z24] at hl; obtain ⟨c0, c1, c2, c3, c4, c5, rfl⟩ := aaP hl; have hl2 : xs.length = 6 := hlen
 have get : ∀ i (h : i < 6), xs[i]? = some (xs[i]'(by omega)) := fun i h => List.getElem?_eq_getElem (by omega)
 obtain ⟨v0, e0, _, _⟩ := DataW.trod_int Tryz.underlying22 ((FM hf 0 22 0 1 rfl z22).trans (get 0 (by omega))); obtain ⟨v1, e1, _, _⟩ := DataW.trod_int Tryz.underlying22 ((FM hf 1 22 1 1 rfl z22).trans (get 1 (by omega))); obtain ⟨v2, e2, _, _⟩ := DataW.trod_int Tryz.underlying22 ((FM hf 2 22 2 1 rfl z22).trans (get 2 (by omega))); obtain ⟨v3, e3, _, _⟩ := DataW.trod_int Tryz.underlying22 ((FM hf 3 22 3 1 rfl z22).trans (get 3 (by omega))); obtain ⟨v4, e4, _, _⟩ := DataW.trod_int Tryz.underlying22 ((FM hf 4 22 4 1 rfl z22).trans (get 4 (by omega))); obtain ⟨v5, e5, _, _⟩ := DataW.trod_int Tryz.underlying22 ((FM hf 5 22 5 1 rfl z22).trans (get 5 (by omega)))
 simp at e0 e1 e2 e3 e4 e5
 subst e0 e1 e2 e3 e4 e5; exact ⟨⟨v0, v1, v2, v3, v4, v5⟩, rfl⟩
theorem open_ints {n : Nat} {t e : TypeId} (ht : Tryz.prog.underlying t = some (.array n e)) (he : Tryz.prog.underlying e = some (.int .i64)) (hc : Tryz.prog.cellsOf e = 1) (hn : Tryz.prog.cellsOf t = n) (h : DataW.trod enc Tryz.prog W base sp held fuel t cs = some x) :
 cs.length = n ∧ ∀ i, i < n → ∃ q : Int, cs[i]? = some (I q) := by
 obtain ⟨xs, m, _, _, hl, hlen, hf⟩ := DataW.trod_array ht h; rw [hn] at hl; refine ⟨hl, fun i hi => ?_⟩
 have h1 := (hf i hi).trans (List.getElem?_eq_getElem (by omega)); rw [hc, Nat.mul_one] at h1; obtain ⟨q, e1, _, _⟩ := DataW.trod_int he h1; refine ⟨q, ?_⟩
 have h2 : (List.take 1 (List.drop i cs))[0]? = some (I q) := by rw [e1]; rfl
 simpa using h2
theorem Gf {t e : TypeId} (ht : Tryz.prog.underlying t = some (.array 4 e)) (he : Tryz.prog.underlying e = some (.int .i64)) (hc : Tryz.prog.cellsOf e = 1) (hn : Tryz.prog.cellsOf t = 4) (h : DataW.trod enc Tryz.prog W base sp held fuel t cs = some x) : ∃ a b c d : Int, cs = [I a, I b, I c, I d] := by
 obtain ⟨hl, hk⟩ := open_ints ht he hc hn h; obtain ⟨c0, c1, c2, c3, rfl⟩ := aaQ hl; obtain ⟨a, ha⟩ := hk 0 (by decide); obtain ⟨b, hb⟩ := hk 1 (by decide); obtain ⟨c, hc⟩ := hk 2 (by decide); obtain ⟨d, hd⟩ := hk 3 (by decide)
 simp at ha hb hc hd
 subst ha hb hc hd; exact ⟨a, b, c, d, rfl⟩
theorem Ij (h : DataW.trod enc Tryz.prog W base sp held fuel 31 cs = some x) : ∃ t : Tg, cs = t.row.toList ∧ yx W t := by
 obtain ⟨r, c, A, cp, l, r', c', A', cp', l', rfl, ⟨h1, h2⟩, ⟨h3, h4⟩⟩ := Nc h; exact ⟨⟨r, c, A, cp, l, r', c', A', cp', l'⟩, rfl, h2, h1, h4, h3⟩
theorem QJ (h : DataW.trod enc Tryz.prog W base sp held fuel 32 cs = some x) : ∃ t0 t1 t2 : Tg, cs = t0.row.toList ++ (t1.row.toList ++ t2.row.toList) ∧ yx W t0 ∧ yx W t1 ∧ yx W t2 := by
 obtain ⟨xs, m, _, _, hl, hlen, hf⟩ := DataW.trod_array Tryz.underlying32 h; rw [z34] at hl; have h0 := (hf 0 (by decide)).trans (List.getElem?_eq_getElem (by omega)); have h1 := (hf 1 (by decide)).trans (List.getElem?_eq_getElem (by omega)); have h2 := (hf 2 (by decide)).trans (List.getElem?_eq_getElem (by omega)); rw [z33] at h0 h1 h2; obtain ⟨t0, e0, r0⟩ := Ij h0; obtain ⟨t1, e1, r1⟩ := Ij h1; obtain ⟨t2, e2, r2⟩ := Ij h2; refine ⟨t0, t1, t2, ?_, r0, r1, r2⟩
 rw [← e0, ← e1, ← e2]; obtain ⟨c0, c1, c2, c3, c4, c5, c6, c7, c8, c9, c10, c11, c12, c13, c14, c15, c16, c17, rfl⟩ := YJ hl; rfl
theorem JU (h : DataW.trod enc Tryz.prog W base sp held fuel 35 cs = some x) : ∃ e : Eg, cs = e.row.toList ∧ ∀ j, j < 3 → yx W (e.t j) := by
 obtain ⟨xs, n, _, _, hl, hlen, hf⟩ := DataW.trod_struct Tryz.underlying35 h; rw [z37] at hl; have hl2 : xs.length = 6 := hlen
 have get : ∀ i (h : i < 6), xs[i]? = some (xs[i]'(by omega)) := fun i h => List.getElem?_eq_getElem (by omega)
 obtain ⟨q0, q1, q2, q3, e0⟩ := Gf Tryz.underlying26 Tryz.underlying22 z22 z28 ((FM hf 0 26 0 4 rfl z28).trans (get 0 (by omega))); obtain ⟨t0, t1, t2, e1, r0, r1, r2⟩ := QJ ((FM hf 1 32 4 18 rfl z34).trans (get 1 (by omega))); obtain ⟨st, e2, _, _⟩ := DataW.trod_int Tryz.underlying3 ((FM hf 2 3 22 1 rfl z3).trans (get 2 (by omega))); obtain ⟨co, e3, _, _⟩ := DataW.trod_int Tryz.underlying3 ((FM hf 3 3 23 1 rfl z3).trans (get 3 (by omega))); obtain ⟨f0, f1, f2, f3, e4⟩ := Gf Tryz.underlying33 Tryz.underlying3 z3 z35 ((FM hf 4 33 24 4 rfl z35).trans (get 4 (by omega))); obtain ⟨sat, e5, _⟩ := DataW.trod_bool Tryz.underlying4 ((FM hf 5 4 28 1 rfl z4).trans (get 5 (by omega))); refine ⟨⟨q0, q1, q2, q3, t0, t1, t2, st, co, f0, f1, f2, f3, sat⟩, ?_, fun j hj => ?_⟩
 · have : cs = (cs.drop 0).take 4 ++ ((cs.drop 4).take 18 ++ ((cs.drop 22).take 1 ++ ((cs.drop 23).take 1 ++ ((cs.drop 24).take 4 ++ (cs.drop 28).take 1)))) := by
    obtain ⟨c0, c1, c2, c3, c4, c5, c6, c7, c8, c9, c10, c11, c12, c13, c14, c15, c16, c17, c18, c19, c20, c21, Jv, c23, c24, c25, Jo, PN, c28, rfl⟩ := YI hl; rfl
   rw [this, e0, e1, e2, e3, e4, e5]; rfl
 · obtain rfl | rfl | rfl : j = 0 ∨ j = 1 ∨ j = 2 := by omega
   · exact r0
   · exact r1
   · exact r2
end
end Go.Proofs.YtcfobekkchhbbaaGreat.EE

namespace Go.Proofs.YtcfobekkchhbbaaGreat.EE
open Go.ChangeShapes Go.WideShapes Go.ChangeAt Go.RowKit Go.Deep Go.Proofs.YtcfobekkchhbbaaGreat.KK Go.Proofs.af.aU
set_option linter.unusedVariables false
set_option linter.unusedSimpArgs false
theorem bq : Tryz.prog.bytesOf 22 = 8 := by kernel_rfl
theorem afV : Tryz.prog.cellsOf 27 = 1 := by kernel_rfl
theorem aav : Tryz.prog.cellsOf 29 = 3 := by kernel_rfl
theorem uT {H : Type} {P : Program} {t : TypeId} : ∀ {ds : List (DataW H)} {j : Nat} {d : DataW H}, ds[j]? = some d → ∀ n ∈ d.weights P t, n ∈ DataW.weightsAll P t ds
 | d0 :: ds, 0, d, hd, n, hn => by
   simp only [List.getElem?_cons_zero, Option.some.injEq] at hd; subst hd; simp only [DataW.weightsAll, List.mem_append]; exact Or.inl hn
 | d0 :: ds, j + 1, d, hd, n, hn => by
   simp only [List.getElem?_cons_succ] at hd; simp only [DataW.weightsAll, List.mem_append]; exact Or.inr (uT hd n hn)
section
variable {H : Type} {enc : TypeId × Value → H} {W : World} {base : Nat} {sp : Nat → Bool} {held : Bool} {fuel : Nat} {cs : List Value} {x : DataW H × List MemPlace}
theorem Vs {A : Option Addr} {n c : Nat} (h : DataW.trod enc Tryz.prog W base sp held fuel 27 [.slice A n c] = some x) (hw : ∀ k ∈ x.1.weights Tryz.prog 27, k ≤ reachBytes) : n ≤ 100000000000000 := by
 rcases DataW.trod_slice Tryz.underlying27 h with ⟨h, _⟩ | ⟨a, len, cap, elems, rest, m, _, hq, rfl, _, _, _, hl, _⟩
 · simp at h; omega
 · simp at hq
   obtain ⟨_, hn, _⟩ := hq; have := hw ((elems.length + rest.length) * 8) (by simp [DataW.weights, Tryz.underlying27, bq]); simp only [reachBytes] at this; subst hn; omega
theorem JH {r c : Int} {A : Option Addr} {n cp : Nat} (h : DataW.trod enc Tryz.prog W base sp held fuel 29 [I r, I c, .slice A n cp] = some x) (hw : ∀ k ∈ x.1.weights Tryz.prog 29, k ≤ reachBytes) : n ≤ 100000000000000 := by
 obtain ⟨xs, m, _, rfl, hl, hlen, hf⟩ := DataW.trod_struct Tryz.underlying29 h; have hl7 : xs.length = 3 := hlen; have h2 := (FM hf 2 27 2 1 rfl afV).trans (List.getElem?_eq_getElem (show 2 < xs.length by omega)); refine Vs (A := A) (c := cp) h2 fun k hk => hw k ?_
 simp only [DataW.weights, Tryz.underlying29]; exact DataW.weights_mem_each (j := 2) (t := 27) rfl (by rw [List.getElem?_map, List.getElem?_eq_getElem (show 2 < xs.length by omega)]; rfl) k hk
theorem Ia {t : Tg} (h : DataW.trod enc Tryz.prog W base sp held fuel 31 t.row.toList = some x) (hw : ∀ k ∈ x.1.weights Tryz.prog 31, k ≤ reachBytes) : t.x.length ≤ 100000000000000 ∧ t.p.length ≤ 100000000000000 := by
 obtain ⟨xs, m, _, rfl, hl, hlen, hf⟩ := DataW.trod_struct Tryz.underlying31 h; have hl7 : xs.length = 2 := hlen; have h0 := (FM hf 0 29 0 3 rfl aav).trans (List.getElem?_eq_getElem (show 0 < xs.length by omega)); have h1 := (FM hf 1 29 3 3 rfl aav).trans (List.getElem?_eq_getElem (show 1 < xs.length by omega))
 constructor
 · refine JH (r := t.r) (c := t.c) (A := t.A) (cp := t.cx) h0 fun k hk => hw k ?_
   simp only [DataW.weights, Tryz.underlying31]; exact DataW.weights_mem_each (j := 0) (t := 29) rfl (by rw [List.getElem?_map, List.getElem?_eq_getElem (show 0 < xs.length by omega)]; rfl) k hk
 · refine JH (r := t.r') (c := t.c') (A := t.B) (cp := t.cp) h1 fun k hk => hw k ?_
   simp only [DataW.weights, Tryz.underlying31]; exact DataW.weights_mem_each (j := 1) (t := 29) rfl (by rw [List.getElem?_map, List.getElem?_eq_getElem (show 1 < xs.length by omega)]; rfl) k hk
theorem Qy {t0 t1 t2 : Tg} (h : DataW.trod enc Tryz.prog W base sp held fuel 32 (t0.row.toList ++ (t1.row.toList ++ t2.row.toList)) = some x) (hw : ∀ k ∈ x.1.weights Tryz.prog 32, k ≤ reachBytes) : (t0.x.length ≤ 100000000000000 ∧ t0.p.length ≤ 100000000000000) ∧ (t1.x.length ≤ 100000000000000 ∧ t1.p.length ≤ 100000000000000) ∧ (t2.x.length ≤ 100000000000000 ∧ t2.p.length ≤ 100000000000000) := by
 obtain ⟨xs, m, _, rfl, hl, hlen, hf⟩ := DataW.trod_array Tryz.underlying32 h; have h0 := (hf 0 (by decide)).trans (List.getElem?_eq_getElem (by omega)); have h1 := (hf 1 (by decide)).trans (List.getElem?_eq_getElem (by omega)); have h2 := (hf 2 (by decide)).trans (List.getElem?_eq_getElem (by omega)); rw [z33] at h0 h1 h2
 have ww : ∀ j (hj : j < xs.length), ∀ k ∈ (xs[j]).1.weights Tryz.prog 31, k ≤ reachBytes := fun j hj k hk => hw k (by
  simp only [DataW.weights, Tryz.underlying32]; exact uT (j := j) (by rw [List.getElem?_map, List.getElem?_eq_getElem hj]; rfl) k hk)
 exact ⟨Ia (t := t0) h0 (ww 0 (by omega)), Ia (t := t1) h1 (ww 1 (by omega)), Ia (t := t2) h2 (ww 2 (by omega))⟩
theorem JI {e : Eg} (h : DataW.trod enc Tryz.prog W base sp held fuel 35 e.row.toList = some x) (hw : ∀ k ∈ x.1.weights Tryz.prog 35, k ≤ reachBytes) : ∀ j, j < 3 → (e.t j).x.length ≤ 100000000000000 ∧ (e.t j).p.length ≤ 100000000000000 := by
 obtain ⟨xs, n, _, rfl, hl, hlen, hf⟩ := DataW.trod_struct Tryz.underlying35 h; have hl2 : xs.length = 6 := hlen; have h1 := (FM hf 1 32 4 18 rfl z34).trans (List.getElem?_eq_getElem (show 1 < xs.length by omega))
 have k := Qy (t0 := e.t0) (t1 := e.t1) (t2 := e.t2) h1 fun k hk => hw k (by
  simp only [DataW.weights, Tryz.underlying35]; exact DataW.weights_mem_each (j := 1) (t := 32) rfl (by rw [List.getElem?_map, List.getElem?_eq_getElem (show 1 < xs.length by omega)]; rfl) k hk)
 intro j hj
 obtain rfl | rfl | rfl : j = 0 ∨ j = 1 ∨ j = 2 := by omega
 · exact k.1
 · exact k.2.1
 · exact k.2.2
end
end Go.Proofs.YtcfobekkchhbbaaGreat.EE

