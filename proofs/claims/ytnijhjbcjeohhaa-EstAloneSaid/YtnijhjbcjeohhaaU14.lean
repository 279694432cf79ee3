import Derived.Test.YtnijhjbcjeohhaaU13
import Derived.Test.YtnijhjbcjeohhaaU5
/- Joined and thinned by a program of this session's own (wip/pack2.py) out of its texts (wip/ of its repo); parts were laid by its own program (wip/print-patch.py over the kit's print) out of the translation; Lean checks all. -/
set_option maxRecDepth 100000
set_option maxHeartbeats 4000000
namespace Go.Proofs.Ytnijhjbcjeohhaa.PR
open Go.RowKit Go.Proofs.Ytnijhjbcjeohhaa.PQ Go.Proofs.af.aO Go.Proofs.af.aV Go.Proofs.af.aX Go.Proofs.Ytnijhjbcjeohhaa.KK
set_option linter.unusedVariables false
set_option linter.unusedSimpArgs false
theorem Fa (r c r2 c2 r' c' r2' c2' : Int) (x l x' l' : List Int) (hx : x.length ≤ 1000000) (hl : l.length ≤ 1000000) :
 Ev (fun k => jf.f k r c x r2 c2 l r' c' x' r2' c2' l') (decide ((r = r' ∧ c = c' ∧ x = x') ∧ (r2 = r2' ∧ c2 = c2' ∧ l = l'))) := by
 unfold jf.f
 by_cases h1 : r = r' ∧ c = c' ∧ x = x'
 · have e1 := Ho r c r' c' x x' hx
   rw [decide_eq_true h1] at e1
   refine Ev.bind e1 ?_
   simp only [if_true]
   have e2 := Ho r2 c2 r2' c2' l l' hl
   refine Ev.bind e2 ?_
   have e : decide ((r = r' ∧ c = c' ∧ x = x') ∧ (r2 = r2' ∧ c2 = c2' ∧ l = l')) = decide (r2 = r2' ∧ c2 = c2' ∧ l = l') := by simp [h1]
   rw [e]
   exact Ev.now _
 · have e1 := Ho r c r' c' x x' hx
   rw [decide_eq_false h1] at e1
   refine Ev.bind e1 ?_
   rw [decide_eq_false (fun h => h1 h.1)]
   exact Ev.now _
end Go.Proofs.Ytnijhjbcjeohhaa.PR
namespace Go.Proofs.Ytnijhjbcjeohhaa.EE
open Go.RowKit Go.Proofs.Ytnijhjbcjeohhaa.KK Go.Proofs.af.aO Go.Proofs.af.aV Go.Proofs.af.aX
set_option linter.unusedVariables false
set_option linter.unusedSimpArgs false
def Tg.same (a b : Tg) : Bool := decide ((a.r = b.r ∧ a.c = b.c ∧ a.x = b.x) ∧ (a.r' = b.r' ∧ a.c' = b.c' ∧ a.p = b.p))
theorem BI (a b : Tg) (w : World) (ha : BO w a) (hb : BO w b) (hx : a.x.length ≤ 1000000) (hl : a.p.length ≤ 1000000) : Calls Try.prog 43 #[.agg a.row, .agg b.row] w fun e w' => e = .returned (.bool (a.same b)) ∧ Below w.heap.size w w' := by
 obtain ⟨k, hk⟩ := (PR.Fa a.r a.c a.r' a.c' b.r b.c b.r' b.c' a.x a.p b.x b.p hx hl).rounds
 exact PQ.jf.calls k a.r a.c a.A a.cx a.x a.r' a.c' a.B a.cp a.p b.r b.c b.A b.cx b.x b.r' b.c' b.B b.cp b.p _ w ha.x ha.xc ha.p ha.pd hb.x hb.xc hb.p hb.pd hk
def Eg.qs (a b : Eg) : Bool := (a.q0 == b.q0) && ((a.q1 == b.q1) && ((a.q2 == b.q2) && ((a.q3 == b.q3) && true)))
def Eg.os (a b : Eg) : Bool := (a.f0 == b.f0) && ((a.f1 == b.f1) && ((a.f2 == b.f2) && ((a.f3 == b.f3) && true)))
def Eg.ts (a b : Eg) : Bool := a.t0.same b.t0 && (a.t1.same b.t1 && a.t2.same b.t2)
def Eg.same (a b : Eg) : Bool := a.ts b && (a.qs b && ((a.steps == b.steps) && ((a.dD == b.dD) && (a.os b && (a.sat == b.sat)))))
theorem Ff (a b : Eg) (w : World) (ha : ∀ j, j < 3 → BO w (a.t j)) (hb : ∀ j, j < 3 → BO w (b.t j)) (hl : ∀ j, j < 3 → (a.t j).x.length ≤ 1000000 ∧ (a.t j).p.length ≤ 1000000) : Calls Try.prog 18 #[.agg a.R, .agg b.R] w fun x w' => x = .returned (.bool (a.same b)) ∧ Below w.heap.size w w' := by
 have T : Hid (∀ j, j < 3 → ∀ w', Below w.heap.size w w' → Calls Try.prog 43 #[.agg (a.t j).row, .agg (b.t j).row] w' fun e w'' => e = .returned (.bool ((a.t j).same (b.t j))) ∧ Below w'.heap.size w' w'') := Lib.hid (fun j hj w' h => BI _ _ w' ((ha j hj).below h) ((hb j hj).below h) (hl j hj).1 (hl j hj).2)
 have L : Hid (aW w [(37, a.R), (37, b.R)] ((w.alloc (.cells a.R 37)).alloc (.cells b.R 37))) := Lib.hid (((aW.none w).push (by simp) _ _).push (by simp) _ _)
 clear ha hb hl
 go_enter Try.func18, Try.ntmps18
 go_upto_region 1 with fail
 generalize (w.alloc (.cells a.R 37)).alloc (.cells b.R 37) = w1 at L ⊢
 have hc : ∀ i, w1.cell? ⟨w.heap.size, i, none⟩ = a.row[i]? := L.out.r0.cell
 have hd : ∀ i, w1.cell? ⟨w.heap.size + 1, i, none⟩ = b.row[i]? := L.out.r1.cell
 go_cut [5] (fun v5 wc => v5 = .bool (a.ts b) ∧ Hid (aW w [(37, a.R), (37, b.R)] wc))
 case first =>
  go_wp2_with fail
  refine (T.out 0 (by decide) _ L.out.be).mono ?_
  rintro x w2 ⟨rfl, hb⟩
  have L2 := Lib.hid (L.out.below hb)
  clear hb hc hd L
  have hc : ∀ i, w2.cell? ⟨w.heap.size, i, none⟩ = a.row[i]? := L2.out.r0.cell
  have hd : ∀ i, w2.cell? ⟨w.heap.size + 1, i, none⟩ = b.row[i]? := L2.out.r1.cell
  simp only [Eg.t]
  cases h0 : a.t0.same b.t0
  case false =>
   have E : Hid (a.ts b = false) := Lib.hid (by simp [Eg.ts, h0])
   clear h0
   go_wp2
   go_meet
   exact ⟨by rw [E.out], L2⟩
  go_wp2_with fail
  refine (T.out 1 (by decide) _ L2.out.be).mono ?_
  rintro x w3 ⟨rfl, hb⟩
  have L3 := Lib.hid (L2.out.below hb)
  clear hb hc hd L2
  have hc : ∀ i, w3.cell? ⟨w.heap.size, i, none⟩ = a.row[i]? := L3.out.r0.cell
  have hd : ∀ i, w3.cell? ⟨w.heap.size + 1, i, none⟩ = b.row[i]? := L3.out.r1.cell
  simp only [Eg.t]
  cases h1 : a.t1.same b.t1
  case false =>
   have E : Hid (a.ts b = false) := Lib.hid (by simp [Eg.ts, h1])
   clear h0 h1
   go_wp2
   go_meet
   exact ⟨by rw [E.out], L3⟩
  go_wp2_with fail
  refine (T.out 2 (by decide) _ L3.out.be).mono ?_
  rintro x w4 ⟨rfl, hb⟩
  have L4 := Lib.hid (L3.out.below hb)
  have E : Hid (a.ts b = a.t2.same b.t2) := Lib.hid (by simp [Eg.ts, h0, h1])
  clear hb hc hd L3 h0 h1
  simp only [Eg.t]
  go_wp2
  go_meet
  exact ⟨by rw [E.out], L4⟩
 case rest =>
  clear L hc hd
  obtain ⟨rfl, L⟩ := hcut
  have hc : ∀ i, wc.cell? ⟨w.heap.size, i, none⟩ = a.row[i]? := L.out.r0.cell
  have hd : ∀ i, wc.cell? ⟨w.heap.size + 1, i, none⟩ = b.row[i]? := L.out.r1.cell
  have E1 : (Op.equalIn 10000 28 (.agg #[.int .i64 a.q0, .int .i64 a.q1, .int .i64 a.q2, .int .i64 a.q3]) (.agg #[.int .i64 b.q0, .int .i64 b.q1, .int .i64 b.q2, .int .i64 b.q3])).run Try.prog wc = .ok (a.qs b) wc := PQ.ab2 a.q0 a.q1 a.q2 a.q3 b.q0 b.q1 b.q2 b.q3 wc
  have E2 : (Op.equalIn 10000 35 (.agg #[.int .i64 a.f0, .int .i64 a.f1, .int .i64 a.f2, .int .i64 a.f3]) (.agg #[.int .i64 b.f0, .int .i64 b.f1, .int .i64 b.f2, .int .i64 b.f3])).run Try.prog wc = .ok (a.os b) wc := UL a.f0 a.f1 a.f2 a.f3 b.f0 b.f1 b.f2 b.f3 wc
  cases h1 : a.ts b
  case false =>
   have F : Hid (a.same b = false) := Lib.hid (by simp only [Eg.same, h1]; simp)
   go_wp2
   go_ret
   exact ⟨by rw [F.out]; rfl, L.out.be⟩
  cases h2 : a.qs b
  case false =>
   have F : Hid (a.same b = false) := Lib.hid (by simp only [Eg.same, h1, h2]; simp)
   rw [h2] at E1
   go_wp2
   go_ret
   exact ⟨by rw [F.out]; rfl, L.out.be⟩
  cases h3 : (a.steps == b.steps)
  case false =>
   have F : Hid (a.same b = false) := Lib.hid (by simp only [Eg.same, h1, h2, h3]; simp)
   rw [h2] at E1
   go_wp2
   go_ret
   exact ⟨by rw [F.out]; rfl, L.out.be⟩
  cases h4 : (a.dD == b.dD)
  case false =>
   have F : Hid (a.same b = false) := Lib.hid (by simp only [Eg.same, h1, h2, h3, h4]; simp)
   rw [h2] at E1
   go_wp2
   go_ret
   exact ⟨by rw [F.out]; rfl, L.out.be⟩
  cases h5 : a.os b
  case false =>
   have F : Hid (a.same b = false) := Lib.hid (by simp only [Eg.same, h1, h2, h3, h4, h5]; simp)
   rw [h2] at E1
   rw [h5] at E2
   go_wp2
   go_ret
   exact ⟨by rw [F.out]; rfl, L.out.be⟩
  have F : Hid (a.same b = (a.sat == b.sat)) := Lib.hid (by simp only [Eg.same, h1, h2, h3, h4, h5]; simp)
  rw [h2] at E1
  rw [h5] at E2
  go_wp2
  go_ret
  exact ⟨by rw [F.out]; rfl, L.out.be⟩
end Go.Proofs.Ytnijhjbcjeohhaa.EE

namespace Go.Proofs.Ytnijhjbcjeohhaa.EE
open Go.RowKit Go.Proofs.Ytnijhjbcjeohhaa.KK Go.Proofs.af.aO Go.Proofs.af.aV Go.Proofs.af.aX
set_option linter.unusedVariables false
set_option linter.unusedSimpArgs false
def smB (z : Int) : Sm := ⟨false, 0, 0, 0, 0, 0, 0, true, z, false, 0, 0, 0⟩
def smN : Sm := ⟨false, 0, 0, 0, 0, 0, 0, false, 0, false, 0, 0, 0⟩
theorem KR (c : Cf) (n : En) (z : Int) (G : Gd n) (hb : 0 < c.je) (hn : 0 < c.nI) : ∃ na nb, Ac c n (smB z) na ∧ Ac c n smN nb ∧ Gd na ∧ Gd nb ∧ (na.x0 = nb.x0 ∧ na.p0 = nb.p0) ∧ (na.x1 = nb.x1 ∧ na.p1 = nb.p1) ∧ (na.q0 = nb.q0 ∧ na.q1 = nb.q1 ∧ na.q2 = nb.q2 ∧ na.q3 = nb.q3) ∧ (na.steps = nb.steps ∧ na.dD = nb.dD) ∧ (na.f1 = nb.f1 ∧ na.f2 = nb.f2 ∧ na.f3 = nb.f3) := by
 obtain ⟨n1, y, T⟩ := C9 false c.dt n 0 0 0 0 0 0
 have G2 := (T.gd G).ahead (c := c) (y := y)
 obtain ⟨m1, h⟩ := qw G2 (i := 2) (k := 0) (by decide) (by decide) z c.je c.gate
 have G3 := h.gd G2 (by decide) (by decide)
 have H1 : EN c (En.ahead c n1 y) (smB z) m1 := ⟨(fun e => by cases e), fun _ => ⟨m1, fun _ => m1, fun _ => h, (fun e => by cases e), rfl, rfl, (fun e => by cases e), fun _ _ _ => rfl⟩⟩
 have H2 : EN c (En.ahead c n1 y) smN (En.ahead c n1 y) := ⟨(fun e => by cases e), fun _ => ⟨En.ahead c n1 y, fun _ => En.ahead c n1 y, (fun e => by cases e), fun _ => rfl, rfl, rfl, (fun e => by cases e), fun _ _ _ => rfl⟩⟩
 refine ⟨m1.cnt false, (En.ahead c n1 y).cnt false, yD c n (smB z) n1 m1 y G hb hn T H1 G3, yD c n smN n1 _ y G hb hn T H2 G2, G3.cnt _, G2.cnt _, ?_⟩
 obtain ⟨X, P, tk, fl, _, rfl⟩ := h
 exact ⟨⟨rfl, rfl⟩, ⟨rfl, rfl⟩, ⟨rfl, rfl, rfl, rfl⟩, ⟨rfl, rfl⟩, ⟨rfl, rfl, rfl⟩⟩
def Es.Qu (s : Es) : Eg := ⟨s.q0, s.q1, s.q2, s.q3, ⟨3, 1, s.t0.A, s.t0.c, s.t0.x, 3, 3, s.t0.B, s.t0.d, s.t0.p⟩, ⟨3, 1, s.t1.A, s.t1.c, s.t1.x, 3, 3, s.t1.B, s.t1.d, s.t1.p⟩, ⟨3, 1, s.t2.A, s.t2.c, s.t2.x, 3, 3, s.t2.B, s.t2.d, s.t2.p⟩, s.steps, s.dD, s.f0, s.f1, s.f2, s.f3, s.sat⟩
theorem Js {s : Es} {w : World} (h : ∀ j, j < 3 → Rw w (s.ax j)) : ∀ j, j < 3 → BO w (s.Qu.t j) := fun j hj => by
 obtain rfl | rfl | rfl : j = 0 ∨ j = 1 ∨ j = 2 := by omega
 · exact ⟨(h 0 hj).x, (h 0 hj).xc, (h 0 hj).p, (h 0 hj).pd⟩
 · exact ⟨(h 1 hj).x, (h 1 hj).xc, (h 1 hj).p, (h 1 hj).pd⟩
 · exact ⟨(h 2 hj).x, (h 2 hj).xc, (h 2 hj).p, (h 2 hj).pd⟩
theorem VW {a b : Es} (h : a.nu = b.nu) : a.Qu.same b.Qu = true := by
 have e : ∀ (f : En → Int), f a.nu = f b.nu := fun f => by rw [h]
 have l : ∀ (f : En → List Int), f a.nu = f b.nu := fun f => by rw [h]
 have s : a.sat = b.sat := congrArg En.sat h
 have x0 : a.t0.x = b.t0.x := l En.x0
 have x1 : a.t1.x = b.t1.x := l En.x1
 have x2 : a.t2.x = b.t2.x := l En.x2
 have p0 : a.t0.p = b.t0.p := l En.p0
 have p1 : a.t1.p = b.t1.p := l En.p1
 have p2 : a.t2.p = b.t2.p := l En.p2
 have q0 : a.q0 = b.q0 := e En.q0
 have q1 : a.q1 = b.q1 := e En.q1
 have q2 : a.q2 = b.q2 := e En.q2
 have q3 : a.q3 = b.q3 := e En.q3
 have st : a.steps = b.steps := e En.steps
 have co : a.dD = b.dD := e En.dD
 have f0 : a.f0 = b.f0 := e En.f0
 have f1 : a.f1 = b.f1 := e En.f1
 have f2 : a.f2 = b.f2 := e En.f2
 have f3 : a.f3 = b.f3 := e En.f3
 simp [Eg.same, Eg.ts, Tg.same, Eg.qs, Eg.os, Es.Qu, x0, x1, x2, p0, p1, p2, q0, q1, q2, q3, st, co, f0, f1, f2, f3, s]
abbrev QO (w : World) (B : Nat) (a b c d e f g h : Value) : World := (((((((w.setCell ⟨B, 16, none⟩ a).setCell ⟨B, 17, none⟩ b).setCell ⟨B, 18, none⟩ c).setCell ⟨B, 19, none⟩ d).setCell ⟨B, 20, none⟩ e).setCell ⟨B, 21, none⟩ f).setCell ⟨B, 24, none⟩ g).setCell ⟨B, 28, none⟩ h
theorem NY (w : World) (B : Nat) (a b c d e f g h : Value) : w.grownBy (QO w B a b c d e f g h) (some B) :=
 bM (bM (bM (bM (bM (bM (bM (bM (fC _ _) _ _) _ _) _ _) _ _) _ _) _ _) _ _) _ _
theorem Row.QO {w : World} {B : Nat} {a b : Es} (R : Row w B 37 a.R) : Row (EE.QO w B (.int .i64 3) (.int .i64 1) (.slice b.t2.A b.t2.x.length b.t2.c) (.int .i64 3) (.int .i64 3) (.slice b.t2.B b.t2.p.length b.t2.d) (.int .i64 b.f0) (.bool b.sat)) B 37 ({ a with t2 := b.t2, f0 := b.f0, sat := b.sat } : Es).R :=
 Row.put (Row.put (Row.put (Row.put (Row.put (Row.put (Row.put (Row.put R 16 _ _ rfl) 17 _ _ rfl) 18 _ _ rfl) 19 _ _ rfl) 20 _ _ rfl) 21 _ _ rfl) 24 _ _ rfl) 28 _ _ (by kernel_rfl)
theorem Rw.gr {w w' : World} {t : Tr} {b : Nat} (h : Rw w t) (ha : VL t b) (hg : w.grownBy w' (some b)) : Rw w' t := ⟨Rd.gr h.x hg ha.1, h.xc, Rd.gr h.p hg ha.2, h.pd⟩
theorem XL (c : Cf) (e : Eg) (z : Int) (w : World) (hr : ∀ j, j < 3 → BO w (e.t j)) (hm : c.may = false) :
 Calls Try.prog 5 #[.agg c.row, .agg e.R, I z] w fun x w' => x = .returned (.bool true) ∧ Below w.heap.size w w' := by
 have HM := Lib.hid hm
 clear hm
 have HR := Lib.hid hr
 have L : Hid (aW w [(24, c.row), (37, e.R)] ((w.alloc (.cells c.row 24)).alloc (.cells e.R 37))) := Lib.hid (((aW.none w).push (by simp) _ _).push (by simp) _ _)
 clear hr
 go_enter Try.func5, Try.ntmps5
 go_upto_region 1 with fail
 generalize (w.alloc (.cells c.row 24)).alloc (.cells e.R 37) = w1 at L ⊢
 go_wp2_with fail
 refine (jE _).mono ?_
 rintro x w2 ⟨rfl, hb⟩
 have L2 := Lib.hid (L.out.below hb)
 clear hb L
 have hc : ∀ i, w2.cell? ⟨w.heap.size, i, none⟩ = c.row[i]? := L2.out.r0.cell
 go_wp2_with fail
 refine (iP c _).mono ?_
 rintro x w3 ⟨rfl, hb⟩
 have L3 := Lib.hid (L2.out.below hb)
 clear hb L2 hc
 rw [HM.out]
 go_wp2
 go_ret
 exact ⟨rfl, L3.out.be⟩
theorem XK (c : Cf) (e : Eg) (z : Int) (w : World) (hr : ∀ j, j < 3 → BO w (e.t j)) (hm : c.may = true) (ho : e.ok = false) :
 Calls Try.prog 5 #[.agg c.row, .agg e.R, I z] w fun x w' => x = .returned (.bool true) ∧ Below w.heap.size w w' := by
 have HM := Lib.hid hm
 have HO := Lib.hid ho
 clear hm ho
 have HR := Lib.hid hr
 have L : Hid (aW w [(24, c.row), (37, e.R)] ((w.alloc (.cells c.row 24)).alloc (.cells e.R 37))) := Lib.hid (((aW.none w).push (by simp) _ _).push (by simp) _ _)
 clear hr
 go_enter Try.func5, Try.ntmps5
 go_upto_region 1 with fail
 generalize (w.alloc (.cells c.row 24)).alloc (.cells e.R 37) = w1 at L ⊢
 go_wp2_with fail
 refine (jE _).mono ?_
 rintro x w2 ⟨rfl, hb⟩
 have L2 := Lib.hid (L.out.below hb)
 clear hb L
 have hc : ∀ i, w2.cell? ⟨w.heap.size, i, none⟩ = c.row[i]? := L2.out.r0.cell
 go_wp2_with fail
 refine (iP c _).mono ?_
 rintro x w3 ⟨rfl, hb⟩
 have L3 := Lib.hid (L2.out.below hb)
 clear hb L2 hc
 rw [HM.out]
 have RL := Lib.hid (Row.whole L3.out.r1)
 have i37 : Hid ((Try.prog.info? 37).map (·.size) = some e.R.toList.length) := Lib.hid (by kernel_rfl)
 go_wp2_with (with_reducible refine OG.dP rfl 37 (.tmp 4) rfl (w.heap.size + 1) 0 rfl e.R.toList _ RL.out Try.underlying37 rfl i37.out ?_)
 refine (oW e _ (fun j hj => (HR.out j hj).below L3.out.be)).mono ?_
 rintro x w4 ⟨rfl, hb⟩
 have L4 := Lib.hid (L3.out.below hb)
 clear hb L3 RL
 rw [HO.out]
 go_wp2
 go_ret
 exact ⟨rfl, L4.out.be⟩
theorem XJ (c : Cf) (e : Eg) (z : Int) (w : World) (hr : ∀ j, j < 3 → BO w (e.t j)) (hm : c.may = true) (ho : e.ok = true) :
 Calls Try.prog 5 #[.agg c.row, .agg e.R, I z] w fun x w' => x = .returned (.bool true) ∧ Below w.heap.size w w' := by
 have HM := Lib.hid hm
 have HO := Lib.hid ho
 clear hm ho
 have HR := Lib.hid hr
 have L : Hid (aW w [(24, c.row), (37, e.R)] ((w.alloc (.cells c.row 24)).alloc (.cells e.R 37))) := Lib.hid (((aW.none w).push (by simp) _ _).push (by simp) _ _)
 clear hr
 go_enter Try.func5, Try.ntmps5
 go_upto_region 1 with fail
 generalize (w.alloc (.cells c.row 24)).alloc (.cells e.R 37) = w1 at L ⊢
 go_wp2_with fail
 refine (jE _).mono ?_
 rintro x w2 ⟨rfl, hb⟩
 have L2 := Lib.hid (L.out.below hb)
 clear hb L
 have hc : ∀ i, w2.cell? ⟨w.heap.size, i, none⟩ = c.row[i]? := L2.out.r0.cell
 go_wp2_with fail
 refine (iP c _).mono ?_
 rintro x w3 ⟨rfl, hb⟩
 have L3 := Lib.hid (L2.out.below hb)
 clear hb L2 hc
 rw [HM.out]
 have RL := Lib.hid (Row.whole L3.out.r1)
 have i37 : Hid ((Try.prog.info? 37).map (·.size) = some e.R.toList.length) := Lib.hid (by kernel_rfl)
 go_wp2_with (with_reducible refine OG.dP rfl 37 (.tmp 4) rfl (w.heap.size + 1) 0 rfl e.R.toList _ RL.out Try.underlying37 rfl i37.out ?_)
 refine (oW e _ (fun j hj => (HR.out j hj).below L3.out.be)).mono ?_
 rintro x w4 ⟨rfl, hb⟩
 have L4 := Lib.hid (L3.out.below hb)
 clear hb L3 RL
 rw [HO.out]
 go_upto_region 4 with fail
 obtain ⟨es, hR, hrw, G, ht, hq, hnu⟩ := Eg.good HO.out (fun j hj => (HR.out j hj).below L4.out.be)
 have MP := H9 HM.out
 obtain ⟨na, nb, SA, SB, GA, GB, PL⟩ := KR c es.nu z G MP.1 MP.2.1
 have HSA := Lib.hid (SA es w4 rfl hrw)
 have HSB := Lib.hid SB
 have HRW := Lib.hid hrw
 have HPL := Lib.hid PL
 have HGA := Lib.hid GA
 have HGB := Lib.hid GB
 clear SA SB GA GB PL G hrw ht hq hnu MP HR HO HM i37
 rw [← hR] at L4 ⊢
 clear hR
 have hc : ∀ i, w4.cell? ⟨w.heap.size, i, none⟩ = c.row[i]? := L4.out.r0.cell
 have RE := Lib.hid (Row.whole L4.out.r1)
 have i37 : Hid ((Try.prog.info? 37).map (·.size) = some es.R.toList.length) := Lib.hid (by kernel_rfl)
 go_wp2_with (with_reducible refine OG.dP rfl 37 (.tmp 4) rfl (w.heap.size + 1) 0 rfl es.R.toList _ RE.out Try.underlying37 rfl i37.out ?_)
 refine HSA.out.mono ?_
 rintro x w5 ⟨ea, hna, rfl, hra, hb⟩
 have L5 := Lib.hid (L4.out.below hb)
 have RW5 : Hid (∀ j, j < 3 → Rw w5 (es.ax j)) := Lib.hid (fun j hj => (HRW.out j hj).below hb)
 have RA5 : Hid (∀ j, j < 3 → Rw w5 (ea.ax j)) := Lib.hid (fun j hj => (hra j hj).rw)
 have HNA := Lib.hid hna
 clear hb L4 RE hc HSA hna hra HRW i37
 generalize na.x0.getD 0 0 = y0
 generalize na.x1.getD 0 0 = y1
 generalize na.x2.getD 0 0 = y2
 have TN := Lib.hid (BX w5 #[.int .i64 0, .int .i64 0, .int .i64 0, .int .i64 0, .int .i64 0, .int .i64 0, .slice none 0 0, .int .i64 0, .int .i64 0, .slice none 0 0, .int .i64 0, .int .i64 0, .slice none 0 0, .int .i64 0, .int .i64 0, .slice none 0 0, .int .i64 0, .int .i64 0, .slice none 0 0, .int .i64 0, .int .i64 0, .slice none 0 0, .int .i64 0, .int .i64 0, .int .i64 0, .int .i64 0, .int .i64 0, .int .i64 0, .bool false] #[.int .i64 0, .int .i64 0, .int .i64 0] ea.R #[I y0, I y1, I y2] 37 42 rfl rfl)
 have TH := Lib.hid (wM w5 #[.int .i64 0, .int .i64 0, .int .i64 0, .int .i64 0, .int .i64 0, .int .i64 0, .slice none 0 0, .int .i64 0, .int .i64 0, .slice none 0 0, .int .i64 0, .int .i64 0, .slice none 0 0, .int .i64 0, .int .i64 0, .slice none 0 0, .int .i64 0, .int .i64 0, .slice none 0 0, .int .i64 0, .int .i64 0, .slice none 0 0, .int .i64 0, .int .i64 0, .int .i64 0, .int .i64 0, .int .i64 0, .int .i64 0, .bool false] #[.int .i64 0, .int .i64 0, .int .i64 0] ea.R #[I y0, I y1, I y2] 37 42 rfl rfl)
 have i37 : Hid ((Try.prog.info? 37).map (·.size) = some ea.R.size) := Lib.hid (by kernel_rfl)
 have one : Hid (ea.R.all (·.oneCell') = true) := Lib.hid (by kernel_rfl)
 go_upto_region 5 with (first | with_reducible refine wpList_store_mid rfl 37 (.tmp 8) (.tmp 29) rfl w5.heap.size 0 ea.R rfl rfl TH.out.1 i37.out one.out ?_ | with_reducible refine wpList_store_mid rfl 42 (.tmp 9) (.tmp 30) rfl (w5.heap.size + 1) 0 #[I y0, I y1, I y2] rfl rfl TH.out.2 (by kernel_rfl) (by kernel_rfl) ?_)
 clear TH i37 one
 generalize (((w5.alloc (.cells #[.int .i64 0, .int .i64 0, .int .i64 0, .int .i64 0, .int .i64 0, .int .i64 0, .slice none 0 0, .int .i64 0, .int .i64 0, .slice none 0 0, .int .i64 0, .int .i64 0, .slice none 0 0, .int .i64 0, .int .i64 0, .slice none 0 0, .int .i64 0, .int .i64 0, .slice none 0 0, .int .i64 0, .int .i64 0, .slice none 0 0, .int .i64 0, .int .i64 0, .int .i64 0, .int .i64 0, .int .i64 0, .int .i64 0, .bool false] 37)).alloc (.cells #[.int .i64 0, .int .i64 0, .int .i64 0] 42)).setCells w5.heap.size 0 ea.R.toList).setCells (w5.heap.size + 1) 0 #[I y0, I y1, I y2].toList = w6 at TN ⊢
 have L6 := Lib.hid (L5.out.below TN.out.2.2)
 have R8 := Lib.hid TN.out.1
 have RW6 : Hid (∀ j, j < 3 → Rw w6 (es.ax j)) := Lib.hid (fun j hj => (RW5.out j hj).below TN.out.2.2)
 have RA6 : Hid (∀ j, j < 3 → Rw w6 (ea.ax j)) := Lib.hid (fun j hj => (RA5.out j hj).below TN.out.2.2)
 clear TN L5 RW5 RA5
 generalize w5.heap.size = b8 at R8 ⊢
 try simp only [Act.put]
 have ads := Lib.hid (HSB.out es w6 rfl RW6.out)
 have hc : ∀ i, w6.cell? ⟨w.heap.size, i, none⟩ = c.row[i]? := L6.out.r0.cell
 have RE := Lib.hid (Row.whole L6.out.r1)
 have i37 : Hid ((Try.prog.info? 37).map (·.size) = some es.R.toList.length) := Lib.hid (by kernel_rfl)
 go_wp2_with (with_reducible refine OG.dP rfl 37 (.tmp 4) rfl (w.heap.size + 1) 0 rfl es.R.toList _ RE.out Try.underlying37 rfl i37.out ?_)
 refine ads.out.mono ?_
 rintro x w7 ⟨eb, hnb, rfl, hrb, hb⟩
 have L7 := Lib.hid (L6.out.below hb)
 have R8' := Lib.hid (R8.out.below hb R8.out.lt)
 have RA7 : Hid (∀ j, j < 3 → Rw w7 (ea.ax j)) := Lib.hid (fun j hj => (RA6.out j hj).below hb)
 have RB7 : Hid (∀ j, j < 3 → Rw w7 (eb.ax j)) := Lib.hid (fun j hj => (hrb j hj).rw)
 have HNB := Lib.hid hnb
 clear hb L6 RE hc HSB ads hnb hrb RW6 RA6 R8 i37
 generalize nb.x0.getD 0 0 = z0
 generalize nb.x1.getD 0 0 = z1
 generalize nb.x2.getD 0 0 = z2
 have TN := Lib.hid (BX w7 #[.int .i64 0, .int .i64 0, .int .i64 0, .int .i64 0, .int .i64 0, .int .i64 0, .slice none 0 0, .int .i64 0, .int .i64 0, .slice none 0 0, .int .i64 0, .int .i64 0, .slice none 0 0, .int .i64 0, .int .i64 0, .slice none 0 0, .int .i64 0, .int .i64 0, .slice none 0 0, .int .i64 0, .int .i64 0, .slice none 0 0, .int .i64 0, .int .i64 0, .int .i64 0, .int .i64 0, .int .i64 0, .int .i64 0, .bool false] #[.int .i64 0, .int .i64 0, .int .i64 0] eb.R #[I z0, I z1, I z2] 37 42 rfl rfl)
 have TH := Lib.hid (wM w7 #[.int .i64 0, .int .i64 0, .int .i64 0, .int .i64 0, .int .i64 0, .int .i64 0, .slice none 0 0, .int .i64 0, .int .i64 0, .slice none 0 0, .int .i64 0, .int .i64 0, .slice none 0 0, .int .i64 0, .int .i64 0, .slice none 0 0, .int .i64 0, .int .i64 0, .slice none 0 0, .int .i64 0, .int .i64 0, .slice none 0 0, .int .i64 0, .int .i64 0, .int .i64 0, .int .i64 0, .int .i64 0, .int .i64 0, .bool false] #[.int .i64 0, .int .i64 0, .int .i64 0] eb.R #[I z0, I z1, I z2] 37 42 rfl rfl)
 have i37 : Hid ((Try.prog.info? 37).map (·.size) = some eb.R.size) := Lib.hid (by kernel_rfl)
 have one : Hid (eb.R.all (·.oneCell') = true) := Lib.hid (by kernel_rfl)
 go_upto_region 6 with (first | with_reducible refine wpList_store_mid rfl 37 (.tmp 10) (.tmp 36) rfl w7.heap.size 0 eb.R rfl rfl TH.out.1 i37.out one.out ?_ | with_reducible refine wpList_store_mid rfl 42 (.tmp 11) (.tmp 37) rfl (w7.heap.size + 1) 0 #[I z0, I z1, I z2] rfl rfl TH.out.2 (by kernel_rfl) (by kernel_rfl) ?_)
 clear TH i37 one
 generalize (((w7.alloc (.cells #[.int .i64 0, .int .i64 0, .int .i64 0, .int .i64 0, .int .i64 0, .int .i64 0, .slice none 0 0, .int .i64 0, .int .i64 0, .slice none 0 0, .int .i64 0, .int .i64 0, .slice none 0 0, .int .i64 0, .int .i64 0, .slice none 0 0, .int .i64 0, .int .i64 0, .slice none 0 0, .int .i64 0, .int .i64 0, .slice none 0 0, .int .i64 0, .int .i64 0, .int .i64 0, .int .i64 0, .int .i64 0, .int .i64 0, .bool false] 37)).alloc (.cells #[.int .i64 0, .int .i64 0, .int .i64 0] 42)).setCells w7.heap.size 0 eb.R.toList).setCells (w7.heap.size + 1) 0 #[I z0, I z1, I z2].toList = w8 at TN ⊢
 have L8 := Lib.hid (L7.out.below TN.out.2.2)
 have R8 := Lib.hid (R8'.out.below TN.out.2.2 R8'.out.lt)
 have R10 := Lib.hid TN.out.1
 have RA8 : Hid (∀ j, j < 3 → Rw w8 (ea.ax j)) := Lib.hid (fun j hj => (RA7.out j hj).below TN.out.2.2)
 have RB8 : Hid (∀ j, j < 3 → Rw w8 (eb.ax j)) := Lib.hid (fun j hj => (RB7.out j hj).below TN.out.2.2)
 clear TN L7 R8' RA7 RB7
 generalize w7.heap.size = b10 at R10 ⊢
 try simp only [Act.put]
 have TN := Lib.hid (Pj w8 #[.int .i64 0, .int .i64 0, .int .i64 0, .int .i64 0, .int .i64 0, .int .i64 0, .slice none 0 0, .int .i64 0, .int .i64 0, .slice none 0 0, .int .i64 0, .int .i64 0, .slice none 0 0, .int .i64 0, .int .i64 0, .slice none 0 0, .int .i64 0, .int .i64 0, .slice none 0 0, .int .i64 0, .int .i64 0, .slice none 0 0, .int .i64 0, .int .i64 0, .int .i64 0, .int .i64 0, .int .i64 0, .int .i64 0, .bool false] ea.R 37 rfl)
 have TH : Hid ((w8.alloc (.cells #[.int .i64 0, .int .i64 0, .int .i64 0, .int .i64 0, .int .i64 0, .int .i64 0, .slice none 0 0, .int .i64 0, .int .i64 0, .slice none 0 0, .int .i64 0, .int .i64 0, .slice none 0 0, .int .i64 0, .int .i64 0, .slice none 0 0, .int .i64 0, .int .i64 0, .slice none 0 0, .int .i64 0, .int .i64 0, .slice none 0 0, .int .i64 0, .int .i64 0, .int .i64 0, .int .i64 0, .int .i64 0, .int .i64 0, .bool false] 37)).there w8.heap.size 0 ea.R.size) := Lib.hid (by have h := Row.there (Row.new w8 37 #[.int .i64 0, .int .i64 0, .int .i64 0, .int .i64 0, .int .i64 0, .int .i64 0, .slice none 0 0, .int .i64 0, .int .i64 0, .slice none 0 0, .int .i64 0, .int .i64 0, .slice none 0 0, .int .i64 0, .int .i64 0, .slice none 0 0, .int .i64 0, .int .i64 0, .slice none 0 0, .int .i64 0, .int .i64 0, .slice none 0 0, .int .i64 0, .int .i64 0, .int .i64 0, .int .i64 0, .int .i64 0, .int .i64 0, .bool false]); exact h)
 have i37 : Hid ((Try.prog.info? 37).map (·.size) = some ea.R.size) := Lib.hid (by kernel_rfl)
 have Fv : Hid ((Try.prog.info? 37).map (·.size) = some ea.R.toList.length) := Lib.hid (by kernel_rfl)
 have one : Hid (ea.R.all (·.oneCell') = true) := Lib.hid (by kernel_rfl)
 have RL := Lib.hid (Row.whole R8.out)
 go_upto_region 7 with (first | with_reducible refine OG.dP rfl 37 (.tmp 8) rfl b8 0 rfl ea.R.toList _ RL.out Try.underlying37 rfl Fv.out ?_ | with_reducible refine wpList_store_mid rfl 37 (.tmp 12) (.tmp 38) rfl w8.heap.size 0 ea.R rfl rfl TH.out i37.out one.out ?_)
 clear TH i37 Fv one RL R8
 generalize (w8.alloc (.cells #[.int .i64 0, .int .i64 0, .int .i64 0, .int .i64 0, .int .i64 0, .int .i64 0, .slice none 0 0, .int .i64 0, .int .i64 0, .slice none 0 0, .int .i64 0, .int .i64 0, .slice none 0 0, .int .i64 0, .int .i64 0, .slice none 0 0, .int .i64 0, .int .i64 0, .slice none 0 0, .int .i64 0, .int .i64 0, .slice none 0 0, .int .i64 0, .int .i64 0, .int .i64 0, .int .i64 0, .int .i64 0, .int .i64 0, .bool false] 37)).setCells w8.heap.size 0 ea.R.toList = w9 at TN ⊢
 have L9 := Lib.hid (L8.out.below TN.out.2)
 have R12 := Lib.hid TN.out.1
 have aao := Lib.hid (R10.out.below TN.out.2 R10.out.lt)
 have ne : Hid (b10 ≠ w8.heap.size) := Lib.hid (by have := R10.out.lt; omega)
 have RA9 : Hid (∀ j, j < 3 → Rw w9 (ea.ax j) ∧ VL (ea.ax j) w8.heap.size) := Lib.hid (fun j hj => ⟨(RA8.out j hj).below TN.out.2, (RA8.out j hj).YB (by rw [BL, HNA.out, HGA.out.lx j hj]; decide) (by rw [zK, HNA.out, HGA.out.lp j hj]; decide) (Nat.le_refl _)⟩)
 have RB9 : Hid (∀ j, j < 3 → Rw w9 (eb.ax j) ∧ VL (eb.ax j) w8.heap.size) := Lib.hid (fun j hj => ⟨(RB8.out j hj).below TN.out.2, (RB8.out j hj).YB (by rw [BL, HNB.out, HGB.out.lx j hj]; decide) (by rw [zK, HNB.out, HGB.out.lp j hj]; decide) (Nat.le_refl _)⟩)
 have B9 : Hid (w.heap.size + 2 ≤ w8.heap.size) := Lib.hid (by have := L8.out.r1.lt; omega)
 clear TN L8 R10 RA8 RB8
 generalize w8.heap.size = b12 at R12 RA9 RB9 ne B9 ⊢
 try simp only [Act.put]
 have cb : ∀ i, w9.cell? ⟨b10, i, none⟩ = eb.row[i]? := aao.out.cell
 have cd : ∀ i, w9.cell? ⟨b12, i, none⟩ = ea.row[i]? := R12.out.cell
 have fd := R12.out.free
 have hne := ne.out
 go_upto_region 10 with fail
 clear cb cd fd hne
 have GR := NY w9 b12 (.int .i64 3) (.int .i64 1) (.slice eb.t2.A eb.t2.x.length eb.t2.c) (.int .i64 3) (.int .i64 3) (.slice eb.t2.B eb.t2.p.length eb.t2.d) (.int .i64 eb.f0) (.bool eb.sat)
 have RD := Lib.hid (Row.QO (b := eb) R12.out)
 change Code.wp _ _ _ _ (QO w9 b12 (.int .i64 3) (.int .i64 1) (.slice eb.t2.A eb.t2.x.length eb.t2.c) (.int .i64 3) (.int .i64 3) (.slice eb.t2.B eb.t2.p.length eb.t2.d) (.int .i64 eb.f0) (.bool eb.sat))
 have HGR := Lib.hid GR
 clear GR
 generalize QO w9 b12 (.int .i64 3) (.int .i64 1) (.slice eb.t2.A eb.t2.x.length eb.t2.c) (.int .i64 3) (.int .i64 3) (.slice eb.t2.B eb.t2.p.length eb.t2.d) (.int .i64 eb.f0) (.bool eb.sat) = wd at RD HGR ⊢
 have LD := Lib.hid (L9.out.app HGR.out (fun g e => by injection e with e; subst e; have := B9.out; simp; omega))
 have RB := Lib.hid (aao.out.grown HGR.out (fun e => by injection e with e; exact ne.out e))
 have RWA : Hid (∀ j, j < 3 → Rw wd (ea.ax j)) := Lib.hid (fun j hj => (RA9.out j hj).1.gr (RA9.out j hj).2 HGR.out)
 have RWB : Hid (∀ j, j < 3 → Rw wd (eb.ax j)) := Lib.hid (fun j hj => (RB9.out j hj).1.gr (RB9.out j hj).2 HGR.out)
 clear HGR L9 aao RA9 RB9 R12
 obtain ⟨ed, hed⟩ : ∃ ed : Es, ({ ea with t2 := eb.t2, f0 := eb.f0, sat := eb.sat } : Es) = ed := ⟨_, rfl⟩
 rw [hed] at RD
 have SM : Hid (Calls Try.prog 18 #[.agg ed.R, .agg eb.R] wd fun x w' => x = .returned (.bool true) ∧ Below wd.heap.size wd w') := Lib.hid (by
  have hd : ∀ j, j < 3 → Rw wd (ed.ax j) := fun j hj => by
   rw [← hed]
   obtain rfl | rfl | rfl : j = 0 ∨ j = 1 ∨ j = 2 := by omega
   · exact RWA.out 0 (by decide)
   · exact RWA.out 1 (by decide)
   · exact RWB.out 2 (by decide)
  have hn : ed.nu = eb.nu := by
   obtain ⟨h0, h1, hq, hs, hf⟩ := HPL.out
   rw [← HNA.out, ← HNB.out] at h0 h1 hq hs hf
   rw [← hed]
   simp only [Es.nu] at h0 h1 hq hs hf ⊢
   simp only [h0.1, h0.2, h1.1, h1.2, hq.1, hq.2.1, hq.2.2.1, hq.2.2.2, hs.1, hs.2, hf.1, hf.2.1, hf.2.2]
  have h := Ff ed.Qu eb.Qu wd (Js hd) (Js RWB.out) (fun j hj => by
   have e1 : (ed.ax j).x.length = 3 := by rw [BL, hn, HNB.out]; exact HGB.out.lx j hj
   have e2 : (ed.ax j).p.length = 9 := by rw [zK, hn, HNB.out]; exact HGB.out.lp j hj
   obtain rfl | rfl | rfl : j = 0 ∨ j = 1 ∨ j = 2 := by omega
   all_goals
    constructor
    · exact Nat.le_trans (Nat.le_of_eq e1) (by decide)
    · exact Nat.le_trans (Nat.le_of_eq e2) (by decide))
  rw [VW hn] at h
  exact h)
 clear hed RWA RWB HPL HNA HNB HGA HGB ne B9
 have RL1 := Lib.hid (Row.whole RD.out)
 have RL2 := Lib.hid (Row.whole RB.out)
 have i1 : Hid ((Try.prog.info? 37).map (·.size) = some ed.R.toList.length) := Lib.hid (by kernel_rfl)
 have i2 : Hid ((Try.prog.info? 37).map (·.size) = some eb.R.toList.length) := Lib.hid (by kernel_rfl)
 go_wp2_with (first | with_reducible refine OG.dP rfl 37 (.tmp 12) rfl b12 0 rfl ed.R.toList _ RL1.out Try.underlying37 rfl i1.out ?_ | with_reducible refine OG.dP rfl 37 (.tmp 10) rfl b10 0 rfl eb.R.toList _ RL2.out Try.underlying37 rfl i2.out ?_)
 refine SM.out.mono ?_
 rintro x wf ⟨rfl, hb⟩
 have LF := Lib.hid (LD.out.below hb)
 clear hb
 go_wp2
 go_ret
 exact ⟨rfl, LF.out.be⟩
theorem Oq (c : Cf) (e : Eg) (z : Int) (w : World) (hr : ∀ j, j < 3 → BO w (e.t j)) :
 Calls Try.prog 5 #[.agg c.row, .agg e.row, I z] w fun x w' => x = .returned (.bool true) ∧ Below w.heap.size w w' := by
 cases hm : c.may
 · exact XL c e z w hr hm
 cases ho : e.ok
 · exact XK c e z w hr hm ho
 · exact XJ c e z w hr hm ho
end Go.Proofs.Ytnijhjbcjeohhaa.EE

