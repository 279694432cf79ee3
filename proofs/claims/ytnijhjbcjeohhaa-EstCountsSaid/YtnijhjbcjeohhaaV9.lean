import Derived.Test.YtnijhjbcjeohhaaV8
import Derived.Deep.RegionLaw
import Derived.Deep.RegionHeld3
import Derived.Test.YtnijhjbcjeohhaaV5
import Derived.LoopTactic
import Derived.Lib.Hide
import Derived.Laws.AppendOwn
import Derived.Deep.WholeRow
import Derived.ChangeKeysEq
/- Joined and thinned by a program of this session's own (wip/pack2.py) out of its texts (wip/ of its repo); parts were laid by its own program (wip/print-patch.py over the kit's print) out of the translation; Lean checks all. -/
set_option maxRecDepth 100000
set_option maxHeartbeats 8000000
namespace Go.Proofs.Ytnijhjbcjeohhaa.EE
open Go.RowKit Go.Proofs.Ytnijhjbcjeohhaa.KK Go.Proofs.af.aO Go.Proofs.af.aU Go.Proofs.af.aV
set_option linter.unusedVariables false
set_option linter.unusedSimpArgs false
theorem Rg.rU {o : Prop} {w : World} {g : Nat} {A : Option Addr} {l : List Int} (h : Rg o g w A l) {k : Nat} (ne : ∀ ad, A = some ad → ad.block ≠ k) (a b c d e f : Value) : Rg o g (eY w k a b c d e f) A l :=
 ⟨Rd.gr h.rd (bP (bP (bP (yD w k a b c) _ _) _ _) _ _) ne, h.nr⟩
theorem Ec (n : Nat) (A1 A2 A3 : Option Addr) (c1 c2 c3 : Nat) (lx lp lh : List Int) (z r gate : Int) (X P : List Int) (tk fl : Bool) (w : World) (h1 : 1 ≤ n) (h8 : n ≤ 8) (hx : lx.length = n * 1) (hp : lp.length = n * n) (hh : lh.length = 1 * n)
 (rx : Rd w A1 lx) (cx : lx.length ≤ c1) (rp : Rd w A2 lp) (cp : lp.length ≤ c2) (rh : Rd w A3 lh) (ch : lh.length ≤ c3) (hr : 0 < r) (H : PR.Ve n lx lp lh z r gate X P tk fl) :
 Calls Try.prog 105 #[.agg #[I n, I 1, .slice A1 lx.length c1, I n, I n, .slice A2 lp.length c2], .agg #[I 1, I n, .slice A3 lh.length c3], I z, I r, I gate] w fun e w' => ∃ Ax dx Ap dp, e = .returned (.tuple #[.agg #[I n, I 1, .slice Ax X.length dx, I n, I n, .slice Ap P.length dp], .bool tk, .bool fl, I 0]) ∧ Rd w' Ax X ∧ X.length ≤ dx ∧ Rd w' Ap P ∧ P.length ≤ dp ∧
  (∀ b, b < w.heap.size → (∀ ad, A1 = some ad → ad.block ≠ b) → (∀ ad, A2 = some ad → ad.block ≠ b) → (∀ ad, Ax = some ad → ad.block ≠ b) ∧ (∀ ad, Ap = some ad → ad.block ≠ b)) ∧ Below w.heap.size w w' := by
 have hm := PR.PY n lx lp lh r hr
 have hi := PR.JH n lx lp lh z r h8 hx hp hh
 unfold PR.Ve at H
 split at H
 · rename_i hc
   obtain ⟨rfl, rfl, rfl, rfl⟩ := H
   have key : Calls Try.prog 105 #[.agg #[I n, I 1, .slice A1 X.length c1, I n, I n, .slice A2 P.length c2], .agg #[I 1, I n, .slice A3 lh.length c3], I z, I r, I gate] w fun e w' => e = .returned (.tuple #[.agg #[I n, I 1, .slice A1 X.length c1, I n, I n, .slice A2 P.length c2], .bool false, .bool (PR.iO n X P lh z r || (iQ (PR.iY n X lh z) (PR.iY n X lh z)).2 || (iQ gate (PR.iS n P lh r)).2), I 0]) ∧ Below w.heap.size w w' := by
    by_cases h4 : (iQ (PR.iY n X lh z) (PR.iY n X lh z)).1 > (iQ gate (PR.iS n P lh r)).1
    · exact PR.Rq n A1 A2 A3 c1 c2 c3 X P lh z r gate _ _ _ _ _ _ _ w h1 h8 hx hp hh rx cx rp cp rh ch hm hi (Prod.eta _).symm (Prod.eta _).symm h4
    · exact PR.Rt n A1 A2 A3 c1 c2 c3 X P lh z r gate _ _ _ _ _ _ _ w h1 h8 hx hp hh rx cx rp cp rh ch hm hi (Prod.eta _).symm (Prod.eta _).symm h4 (hc.resolve_left h4)
   refine key.mono ?_
   rintro e w' ⟨rfl, hb⟩
   exact ⟨_, _, _, _, rfl, rx.below hb, cx, rp.below hb, cp, fun b _ h h' => ⟨h, h'⟩, hb⟩
 · rename_i hc
   obtain ⟨rfl, rfl, rfl, rfl⟩ := H
   refine (PR.M_ n A1 A2 A3 c1 c2 c3 lx lp lh z r gate _ _ _ _ _ _ _ w h1 h8 hx hp hh rx cx rp cp rh ch hm hi (Prod.eta _).symm (Prod.eta _).symm (fun h => hc (.inl h)) (fun h => hc (.inr h))).mono ?_
   rintro e w' ⟨Ax, dx, Ap, dp, rfl, ox, op, _, hb⟩
   exact ⟨_, _, _, _, rfl, (PR.Own.rd ox).1, (PR.Own.rd ox).2, (PR.Own.rd op).1, (PR.Own.rd op).2, fun b hb _ _ => ⟨(Rg.own (o := True) ox hb).ne, (Rg.own (o := True) op hb).ne⟩, hb⟩
def Es.uP (e : Es) (k : Nat) (t : Tr) : Es := { e with t0 := if k = 0 then t else e.t0, t1 := if k = 1 then t else e.t1, t2 := if k = 2 then t else e.t2 }
def Es.off (e : Es) : Nat → Int
 | 0 => e.f0
 | 1 => e.f1
 | 2 => e.f2
 | _ => e.f3
def Es.sD (e : Es) (k : Nat) (n : Int) : Es := { e with f0 := if k = 0 then n else e.f0, f1 := if k = 1 then n else e.f1, f2 := if k = 2 then n else e.f2, f3 := if k = 3 then n else e.f3 }
theorem L9 {w : World} {g : Nat} {c : Cf} {e : Es} {s : Sm} {a0 a1 a2 : Int} (R : Row w g 89 (wk c e s a0 a1 a2)) {i : Nat} (hi : i < 3) (t : Tr) (ht : e.ax i = t) :
 w.cell? ⟨g, 10 + i * 6, none⟩ = some (I 3) ∧ w.cell? ⟨g, 10 + i * 6 + 1, none⟩ = some (I 1) ∧ w.cell? ⟨g, 10 + i * 6 + 2, none⟩ = some (.slice t.A t.x.length t.c) ∧ w.cell? ⟨g, 10 + i * 6 + 3, none⟩ = some (I 3) ∧ w.cell? ⟨g, 10 + i * 6 + 4, none⟩ = some (I 3) ∧ w.cell? ⟨g, 10 + i * 6 + 5, none⟩ = some (.slice t.B t.p.length t.d) := by
 subst ht
 obtain rfl | rfl | rfl : i = 0 ∨ i = 1 ∨ i = 2 := by omega
 all_goals exact ⟨R.cell _, R.cell _, R.cell _, R.cell _, R.cell _, R.cell _⟩
theorem iC.ax {w : World} {g : Nat} {c : Cf} {e : Es} {s : Sm} {a0 a1 a2 : Int} (R : Row w g 89 (wk c e s a0 a1 a2)) {k : Nat} (hk : k < 3) (t : Tr) (n m : Nat) (hn : t.x.length = n) (hm : t.p.length = m) :
 iC w g c (e.uP k t) s a0 a1 a2 (IC w g k (.int .i64 3) (.int .i64 1) (.slice t.A n t.c) (.int .i64 3) (.int .i64 3) (.slice t.B m t.d)) := by
 subst hn hm
 refine ⟨?_, Bo w g k _ _ _ _ _ _⟩
 have R := (((((R.set (10 + k * 6) (.int .i64 3)).set (10 + k * 6 + 1) (.int .i64 1)).set (10 + k * 6 + 2) (.slice t.A t.x.length t.c)).set (10 + k * 6 + 3) (.int .i64 3)).set (10 + k * 6 + 4) (.int .i64 3)).set (10 + k * 6 + 5) (.slice t.B t.p.length t.d)
 obtain rfl | rfl | rfl : k = 0 ∨ k = 1 ∨ k = 2 := by omega
 all_goals simpa [Es.uP] using R
theorem iC.off {w : World} {g : Nat} {c : Cf} {e : Es} {s : Sm} {a0 a1 a2 : Int} (R : Row w g 89 (wk c e s a0 a1 a2)) {k : Nat} (hk : k < 4) (n : Int) : iC w g c (e.sD k n) s a0 a1 a2 (w.setCell ⟨g, 30 + k, none⟩ (I n)) := by
 refine ⟨?_, bP (dY _ _) _ _⟩
 have R := R.set (30 + k) (I n)
 obtain rfl | rfl | rfl | rfl : k = 0 ∨ k = 1 ∨ k = 2 ∨ k = 3 := by omega
 all_goals simpa [Es.sD] using R
theorem Le {w : World} {g : Nat} {c : Cf} {e : Es} {s : Sm} {a0 a1 a2 : Int} (R : Row w g 89 (wk c e s a0 a1 a2)) {k : Nat} (hk : k < 4) : w.cell? ⟨g, 30 + k, none⟩ = some (I (e.off k)) := by
 obtain rfl | rfl | rfl | rfl : k = 0 ∨ k = 1 ∨ k = 2 ∨ k = 3 := by omega
 all_goals exact R.cell _
theorem WX (e : Es) (b : Bool) (i : Nat) : Es.ax { e with sat := b } i = e.ax i := by
 match i with
 | 0 => rfl
 | 1 => rfl
 | _ + 2 => rfl
def jr (tk : Bool) (n : Int) : Int := if tk = true then 0 else min (n + 1) 1000
theorem JM {o : Prop} (g : Nat) (c : Cf) (e : Es) (s : Sm) (a0 a1 a2 : Int) (i k : Nat) (i' k' z r : Int) (X P : List Int) (tk fl : Bool) (w : World) (hi' : i' = i) (hk' : k' = k) (hi : i < 3) (hk : k < 4) (R : Row w g 89 (wk c e s a0 a1 a2))
 (hr : Rx o g w (e.ax i)) (hl : (e.ax i).x.length = 3 ∧ (e.ax i).p.length = 9) (h0 : 0 < r) (hU : PR.Ve 3 (e.ax i).x (e.ax i).p [16777216, 0, 0] (PQ.cl z) r c.gate X P tk fl) (hX : X.length = 3 ∧ P.length = 9) (hof : 0 ≤ e.off k ∧ e.off k ≤ 1000) :
 Calls Try.prog 70 #[.pointer (some ⟨g, 0, none⟩), I i', I k', I z, I r] w fun x w' => x = .returned (.tuple #[]) ∧ ∃ t : Tr, t.x = X ∧ t.p = P ∧ Rx o g w' t ∧
  iC w g c ({ (e.uP i t).sD k (jr tk (e.off k)) with sat := (e.sat || PQ.od z) || fl }) s a0 a1 a2 w' := by
 subst hi' hk'
 have hg := R.lt
 have HI := Lib.hid hi
 have HK := Lib.hid hk
 have HR := Lib.hid hr
 have HL := Lib.hid hl
 have H0 := Lib.hid h0
 have HX := Lib.hid hX
 have HO := Lib.hid hof
 have HUP : Hid (∀ (Ah : Option Addr) (w' : World), g < w'.heap.size → Rx o g w' (e.ax i) → Rd w' Ah [16777216, 0, 0] → Calls Try.prog 105 #[.agg (Tr.row (e.ax i)), .agg #[.int .i64 1, .int .i64 3, .slice Ah 3 3], I (PQ.cl z), I r, I c.gate] w' fun x w'' => ∃ Ax dx Ap dp, x = .returned (.tuple #[.agg #[I 3, I 1, .slice Ax 3 dx, I 3, I 3, .slice Ap 9 dp], .bool tk, .bool fl, I 0]) ∧ Rg o g w'' Ax X ∧ 3 ≤ dx ∧ Rg o g w'' Ap P ∧ 9 ≤ dp ∧ (∀ b, w.heap.size + 0 ≤ b → b < w'.heap.size → (∀ ad, Ax = some ad → ad.block ≠ b) ∧ (∀ ad, Ap = some ad → ad.block ≠ b)) ∧ Below w'.heap.size w' w'') := Lib.hid (fun Ah w' h1 h2 h3 => by
  have hh := Ec 3 (e.ax i).A (e.ax i).B Ah (e.ax i).c (e.ax i).d 3 (e.ax i).x (e.ax i).p [16777216, 0, 0] (PQ.cl z) r c.gate X P tk fl w' (by decide) (by decide) HL.out.1 HL.out.2 rfl h2.x.rd h2.xc h2.p.rd h2.pd h3 (by simp) H0.out hU
  rw [HX.out.1, HX.out.2] at hh
  refine hh.mono ?_
  rintro x w'' ⟨Ax, dx, Ap, dp, rfl, rx, Wq, rp, hdp, nb, hb⟩
  have n0 := Yh nb h1 h2.x.nr h2.p.nr
  refine ⟨Ax, dx, Ap, dp, rfl, ⟨rx, n0.1⟩, Wq, ⟨rp, n0.2⟩, hdp, fun b hwb hb' => nb b hb' (fun ad e2 => ?_) (fun ad e2 => ?_), hb⟩
  · have := PR.Rd.blk HR.out.x.rd ad e2 (by rw [HL.out.1]; decide)
    omega
  · have := PR.Rd.blk HR.out.p.rd ad e2 (by rw [HL.out.2]; decide)
    omega)
 obtain ⟨t, ht⟩ : ∃ t, e.ax i = t := ⟨_, rfl⟩
 rw [ht] at HR HL HUP
 have HT := Lib.hid ht
 clear hU hi hk hr hl h0 hX hof ht
 have M0 := Lib.hid (Sw.of R)
 clear R
 go_enter Try.func70, Try.ntmps70
 go_upto_region 1 with fail
 have M1 := Lib.hid ((M0.out.alloc (.cells #[.int .i64 16777216, .int .i64 0, .int .i64 0] 22)).alloc (.cells #[.int .i64 1, .int .i64 3, .slice (some ⟨w.heap.size, 0, none⟩) 3 3] 31))
 have TH := Lib.hid (Tb.jX 31 #[.int .i64 1, .int .i64 3, .slice (some ⟨w.heap.size, 0, none⟩) 3 3] (M0.out.alloc (.cells #[.int .i64 16777216, .int .i64 0, .int .i64 0] 22)))
 have RH : Hid (Rg True g ((w.alloc (.cells #[.int .i64 16777216, .int .i64 0, .int .i64 0] 22)).alloc (.cells #[.int .i64 1, .int .i64 3, .slice (some ⟨w.heap.size, 0, none⟩) 3 3] 31)) (some ⟨w.heap.size, 0, none⟩) [16777216, 0, 0]) :=
  Lib.hid (Rg.alloc ⟨Rd.new w 22 [16777216, 0, 0] (by simp), fun ad e => .inr (by injection e with e; subst e; simp; omega)⟩ _)
 simp only [World.size_alloc] at TH
 generalize ((w.alloc (.cells #[.int .i64 16777216, .int .i64 0, .int .i64 0] 22)).alloc (.cells #[.int .i64 1, .int .i64 3, .slice (some ⟨w.heap.size, 0, none⟩) 3 3] 31)) = wd at M1 TH RH ⊢
 generalize w.heap.size + 1 = hb at TH ⊢
 generalize (some (⟨w.heap.size, 0, none⟩ : Addr)) = Ah at TH RH
 have zTH := TH.out.row.lt
 have M := Lib.hid (Sw.of M1.out.row)
 have i0 : (0 : Int) ≤ (i : Int) := by omega
 have i3 : (i : Int) < 3 := by have := HI.out; omega
 have K1 : Hid (∀ w' e', Row w' g 89 (wk c { e with sat := e' } s a0 a1 a2) → Row w' hb 31 #[.int .i64 1, .int .i64 3, .slice Ah 3 3] → ((w'.cell? ⟨g, 10 + i * 6, none⟩ = some (I 3) ∧ w'.cell? ⟨g, 10 + i * 6 + 1, none⟩ = some (I 1) ∧ w'.cell? ⟨g, 10 + i * 6 + 2, none⟩ = some (.slice t.A t.x.length t.c) ∧ w'.cell? ⟨g, 10 + i * 6 + 3, none⟩ = some (I 3) ∧ w'.cell? ⟨g, 10 + i * 6 + 4, none⟩ = some (I 3) ∧ w'.cell? ⟨g, 10 + i * 6 + 5, none⟩ = some (.slice t.B t.p.length t.d)) ∧ w'.cell? ⟨g, 5, none⟩ = some (I c.gate) ∧ (∀ o, w'.cell? ⟨hb, o, none⟩ = #[.int .i64 1, .int .i64 3, .slice Ah 3 3][o]?))) := Lib.hid (fun w' e' R U => ⟨L9 R HI.out t ((WX e e' i).trans HT.out), R.cell 5, U.cell⟩)
 go_cut [11, 12, 13] (fun v11 v12 v13 wc => ∃ (tb : Nat) (Ax Ap : Option Addr) (dx dp : Nat), v11 = .pointer (some ⟨tb, 0, none⟩) ∧ v12 = .bool tk ∧ v13 = .bool fl ∧ Hid (3 ≤ dx ∧ 9 ≤ dp ∧ Rg o g wc Ax X ∧ Rg o g wc Ap P ∧ Tb w 0 tb 33 #[I 3, I 1, .slice Ax 3 dx, I 3, I 3, .slice Ap 9 dp] wc) ∧ Hid (Sw w [] g (wk c { e with sat := e.sat || PQ.od z } s a0 a1 a2) wc))
 case first =>
  go_region_held3 (fun w' => ((w'.cell? ⟨g, 10 + i * 6, none⟩ = some (I 3) ∧ w'.cell? ⟨g, 10 + i * 6 + 1, none⟩ = some (I 1) ∧ w'.cell? ⟨g, 10 + i * 6 + 2, none⟩ = some (.slice t.A t.x.length t.c) ∧ w'.cell? ⟨g, 10 + i * 6 + 3, none⟩ = some (I 3) ∧ w'.cell? ⟨g, 10 + i * 6 + 4, none⟩ = some (I 3) ∧ w'.cell? ⟨g, 10 + i * 6 + 5, none⟩ = some (.slice t.B t.p.length t.d)) ∧ w'.cell? ⟨g, 5, none⟩ = some (I c.gate) ∧ (∀ o, w'.cell? ⟨hb, o, none⟩ = #[.int .i64 1, .int .i64 3, .slice Ah 3 3][o]?)))
   (first | with_reducible exact K1.out _ _ (M.out).row (TH.out).row | with_reducible exact K1.out _ _ (M.out.drew).row (TH.out.drew).row | with_reducible exact K1.out _ _ (M.out.alloc _).row (TH.out.alloc _).row | with_reducible exact K1.out _ _ (M.out.drew.alloc _).row (TH.out.drew.alloc _).row | with_reducible exact K1.out _ _ ((M.out.alloc _).drew).row ((TH.out.alloc _).drew).row | with_reducible exact K1.out _ _ (M.out.JZ TB.out.le _ _ _ _ _ _).row (TH.out.rU (Aj zTH TB.out.le) _ _ _ _ _ _).row | with_reducible exact K1.out _ _ ((M.out.alloc _).JZ M.out.le' _ _ _ _ _ _).row ((TH.out.alloc _).rU (Aj zTH M.out.le') _ _ _ _ _ _).row)
   (first
     | (go_at_call 105
        first
         | ((with_reducible refine (HUP.out _ _ M.out.row.lt (Rx.gr HR.out (bG M1.out.gr M.out.gr)) (RH.out.gr M.out.gr).rd).mono ?_)
            rintro r wn ⟨Ax, dx, Ap, dp, rfl, rx, Wq, rp, hdp, nb, hb⟩
            with_reducible have M' := Lib.hid (M.out.below hb)
            (try (have Vt := TB.out.row.lt; have DR := Lib.hid (Tb.below (TB.out) hb); clear TB kc kf zt; have TB := DR; clear DR; have kc := TB.out.row.cell; have kf := TB.out.row.free; have zt := TB.out.row.lt))
            have DN := Lib.hid (Tb.below (TH.out) hb)
            have RX := Lib.hid rx
            have RP := Lib.hid rp
            have NB := Lib.hid nb
            have DX := Lib.hid (And.intro Wq hdp)
            clear rx rp Wq hdp nb
            clear hb M TH
            have M := M'
            clear M'
            have TH := DN
            clear DN)
         | ((with_reducible refine (HUP.out _ _ (M.out.alloc _).row.lt (Rx.gr HR.out (bG M1.out.gr (M.out.alloc _).gr)) (RH.out.gr (M.out.alloc _).gr).rd).mono ?_)
            rintro r wn ⟨Ax, dx, Ap, dp, rfl, rx, Wq, rp, hdp, nb, hb⟩
            with_reducible have M' := Lib.hid ((M.out.alloc _).below hb)
            have Vt := (Tb.jX 33 #[I 0, I 0, .slice none 0 0, I 0, I 0, .slice none 0 0] M.out).row.lt
            have TB := Lib.hid (Tb.below (Tb.jX 33 #[I 0, I 0, .slice none 0 0, I 0, I 0, .slice none 0 0] M.out) hb)
            have kc := TB.out.row.cell
            have kf := TB.out.row.free
            have zt := TB.out.row.lt
            have DN := Lib.hid (Tb.below ((TH.out.alloc _)) hb)
            have RX := Lib.hid rx
            have RP := Lib.hid rp
            have NB := Lib.hid nb
            have DX := Lib.hid (And.intro Wq hdp)
            clear rx rp Wq hdp nb
            clear hb M TH
            have M := M'
            clear M'
            have TH := DN
            clear DN))
     | (go_at_call 65
        first
         | ((with_reducible refine (dK g c _ s _ _ _ _ _ _ M.out.row).mono ?_)
            rintro r wn ⟨rfl, hw⟩
            with_reducible have M' := Lib.hid (M.out.work hw)
            (try (have Vt := TB.out.row.lt; have DR := Lib.hid (Tb.work (TB.out) M.out.lt hw.gr); clear TB kc kf zt; have TB := DR; clear DR; have kc := TB.out.row.cell; have kf := TB.out.row.free; have zt := TB.out.row.lt))
            have DN := Lib.hid (Tb.work (TH.out) hg hw.gr)
            clear hw M TH
            have M := M'
            clear M'
            have TH := DN
            clear DN)
         | ((with_reducible refine (dK g c _ s _ _ _ _ _ _ (M.out.alloc _).row).mono ?_)
            rintro r wn ⟨rfl, hw⟩
            with_reducible have M' := Lib.hid ((M.out.alloc _).work hw)
            have Vt := (Tb.jX 33 #[I 0, I 0, .slice none 0 0, I 0, I 0, .slice none 0 0] M.out).row.lt
            have TB := Lib.hid (Tb.work (Tb.jX 33 #[I 0, I 0, .slice none 0 0, I 0, I 0, .slice none 0 0] M.out) M.out.lt hw.gr)
            have kc := TB.out.row.cell
            have kf := TB.out.row.free
            have zt := TB.out.row.lt
            have DN := Lib.hid (Tb.work ((TH.out.alloc _)) hg hw.gr)
            clear hw M TH
            have M := M'
            clear M'
            have TH := DN
            clear DN))
     | (go_at_call 86
        first
         | ((with_reducible refine (o9 _ _).mono ?_)
            rintro r wn ⟨rfl, hb⟩
            with_reducible have M' := Lib.hid (M.out.drew.below hb)
            have DN := Lib.hid (Tb.below (TH.out.drew) hb)
            clear hb M TH
            have M := M'
            clear M'
            have TH := DN
            clear DN)
         | ((with_reducible refine (o9 _ _).mono ?_)
            rintro r wn ⟨rfl, hb⟩
            with_reducible have M' := Lib.hid ((M.out.drew.alloc _).below hb)
            have Vt := (Tb.jX 33 #[I 0, I 0, .slice none 0 0, I 0, I 0, .slice none 0 0] M.out.drew).row.lt
            have TB := Lib.hid (Tb.below (Tb.jX 33 #[I 0, I 0, .slice none 0 0, I 0, I 0, .slice none 0 0] M.out.drew) hb)
            have kc := TB.out.row.cell
            have kf := TB.out.row.free
            have zt := TB.out.row.lt
            have DN := Lib.hid (Tb.below ((TH.out.drew.alloc _)) hb)
            clear hb M TH
            have M := M'
            clear M'
            have TH := DN
            clear DN)
         | ((with_reducible refine (o9 _ _).mono ?_)
            rintro r wn ⟨rfl, hb⟩
            with_reducible have M' := Lib.hid ((M.out.alloc _).drew.below hb)
            have Vt := (Tb.drew (Tb.jX 33 #[I 0, I 0, .slice none 0 0, I 0, I 0, .slice none 0 0] M.out)).row.lt
            have TB := Lib.hid (Tb.below (Tb.drew (Tb.jX 33 #[I 0, I 0, .slice none 0 0, I 0, I 0, .slice none 0 0] M.out)) hb)
            have kc := TB.out.row.cell
            have kf := TB.out.row.free
            have zt := TB.out.row.lt
            have DN := Lib.hid (Tb.below ((TH.out.alloc _).drew) hb)
            clear hb M TH
            have M := M'
            clear M'
            have TH := DN
            clear DN)))
  all_goals (go_wp2_with fail; go_meet)
  all_goals
   first
    | with_reducible exact ⟨_, _, _, _, _, rfl, rfl, rfl, Lib.hid ⟨DX.out.1, DX.out.2, RX.out.rU (NB.out _ (Nat.le_trans M1.out.gr.size TB.out.le) Vt).1 _ _ _ _ _ _, RP.out.rU (NB.out _ (Nat.le_trans M1.out.gr.size TB.out.le) Vt).2 _ _ _ _ _ _, (TB.out.eY _ _ _ _ _ _).up M1.out.gr.size⟩, Lib.hid (M1.out.up (M.out.JZ TB.out.le _ _ _ _ _ _))⟩
    | with_reducible exact ⟨_, _, _, _, _, rfl, rfl, rfl, Lib.hid ⟨DX.out.1, DX.out.2, RX.out.alloc _, RP.out.alloc _, (Tb.jX 33 _ M.out).up M1.out.gr.size⟩, Lib.hid (M1.out.up (M.out.alloc _))⟩
 case rest =>
  clear M M1 TH RH zTH K1 HUP HR
  obtain ⟨tb, Ax, Ap, dx, dp, rfl, rfl, rfl, F, M⟩ := hcut
  go_wp2_with fail
  refine (kP g c _ s _ _ _ _ _ M.out.row).mono ?_
  rintro x wn ⟨rfl, hw⟩
  have M' := Lib.hid (M.out.work hw)
  have TU := Lib.hid (F.out.2.2.2.2.work M.out.lt hw.gr)
  have RR := Lib.hid (And.intro (And.intro F.out.1 F.out.2.1) (And.intro (F.out.2.2.1.gr hw.gr) (F.out.2.2.2.1.gr hw.gr)))
  clear hw M F
  have M := M'
  clear M'
  obtain ⟨h0, h1, h2, h3, h4, h5⟩ := L9 M.out.row HI.out _ rfl
  have hfw := M.out.row.free
  have hz := M.out.row.lt
  have NT : Hid (tb ≠ g) := Lib.hid (by have h1 := TU.out.le; omega)
  have K9 : Hid (∀ w', Row w' tb 33 #[I 3, I 1, .slice Ax 3 dx, I 3, I 3, .slice Ap 9 dp] → (∀ o, w'.cell? ⟨tb, o, none⟩ = #[I 3, I 1, .slice Ax 3 dx, I 3, I 3, .slice Ap 9 dp][o]?)) := Lib.hid (fun w' U => U.cell)
  go_upto_region 3 with fail
  have W3 : Hid (Sw w [] g (wk c { (e.uP i ⟨Ax, dx, X, Ap, dp, P⟩) with sat := (e.sat || PQ.od z) || fl } s a0 a1 a2) (IC wn g i (.int .i64 3) (.int .i64 1) (.slice Ax 3 dx) (.int .i64 3) (.int .i64 3) (.slice Ap 9 dp)).drew) := Lib.hid (M.out.work (iC.ax M.out.row HI.out ⟨Ax, dx, X, Ap, dp, P⟩ 3 9 HX.out.1 HX.out.2)).drew
  go_cut [] (fun wc => Hid (Rx o g wc ⟨Ax, dx, X, Ap, dp, P⟩) ∧ Hid (Sw w [] g (wk c { (e.uP i ⟨Ax, dx, X, Ap, dp, P⟩) with sat := (e.sat || PQ.od z) || fl } s a0 a1 a2) wc))
  case first =>
   go_region_held3 (fun w' => (∀ o, w'.cell? ⟨tb, o, none⟩ = #[I 3, I 1, .slice Ax 3 dx, I 3, I 3, .slice Ap 9 dp][o]?))
    (first | with_reducible exact K9.out _ TU.out.row | with_reducible exact K9.out _ TU.out.row.drew | with_reducible exact K9.out _ (Row.drew (Row.YM TU.out.row NT.out _ _ _ _ _ _)))
    (fail)
   go_wp2_with fail
   go_meet
   with_reducible exact ⟨Lib.hid (Rx.below (Rx.gr ⟨RR.out.2.1, by rw [HX.out.1]; exact RR.out.1.1, RR.out.2.2, by rw [HX.out.2]; exact RR.out.1.2⟩ (Bo _ _ _ _ _ _ _ _ _)) (Below.refl _ _).drew), W3⟩
  case rest =>
   clear W3 M K9 TU RR h0 h1 h2 h3 h4 h5 hfw hz NT
   obtain ⟨RX, M⟩ := hcut
   have hk0 : wc.drew.cell? ⟨g, 30 + k, none⟩ = some (I (e.off k)) := Le M.out.row.drew HK.out
   have hk1 : wc.cell? ⟨g, 30 + k, none⟩ = some (I (e.off k)) := Le M.out.row HK.out
   have hfw := M.out.row.free
   have hz := M.out.row.lt
   have k0 : (0 : Int) ≤ (k : Int) := by omega
   have k4 : (k : Int) < 4 := by have := HK.out; omega
   cases tk
   · go_upto_region 6 with fail
     have W5 : Hid (iC wc g c { (e.uP i ⟨Ax, dx, X, Ap, dp, P⟩).sD k (jr false (e.off k)) with sat := (e.sat || PQ.od z) || fl } s a0 a1 a2 (wc.setCell ⟨g, 30 + k, none⟩ (I (min (e.off k + 1) 1000)))) := Lib.hid (iC.off M.out.row HK.out _)
     clear hk1
     go_region_law (first | (go_simp; go_at_call 71; refine (vK _ _ _ HO.out.1 (by have := HO.out.2; omega)).mono ?_; rintro x w9 ⟨rfl, rfl⟩))
     all_goals go_wp2
     all_goals go_end0
     all_goals exact ⟨rfl, ⟨Ax, dx, X, Ap, dp, P⟩, rfl, rfl, (RX.out.gr (iC.drew W5.out).gr), ⟨(iC.drew W5.out).row, bG M.out.gr (iC.drew W5.out).gr⟩⟩
   · have W5 : Hid (iC wc g c { (e.uP i ⟨Ax, dx, X, Ap, dp, P⟩).sD k (jr true (e.off k)) with sat := (e.sat || PQ.od z) || fl } s a0 a1 a2 (wc.setCell ⟨g, 30 + k, none⟩ (I 0))) := Lib.hid (iC.off M.out.row HK.out _)
     clear hk0
     go_wp2
     go_end0
     exact ⟨rfl, ⟨Ax, dx, X, Ap, dp, P⟩, rfl, rfl, RX.out.gr W5.out.gr, ⟨W5.out.row, bG M.out.gr W5.out.gr⟩⟩
end Go.Proofs.Ytnijhjbcjeohhaa.EE

namespace Go.Proofs.Ytnijhjbcjeohhaa.EE
open Go.RowKit Go.Proofs.Ytnijhjbcjeohhaa.KK Go.Proofs.af.aO Go.Proofs.af.aU Go.Proofs.af.aV
set_option linter.unusedVariables false
set_option linter.unusedSimpArgs false
structure En where
 q0 : Int
 q1 : Int
 q2 : Int
 q3 : Int
 x0 : List Int
 p0 : List Int
 x1 : List Int
 p1 : List Int
 x2 : List Int
 p2 : List Int
 steps : Int
 dO : Int
 f0 : Int
 f1 : Int
 f2 : Int
 f3 : Int
 sat : Bool
abbrev Es.nu (e : Es) : En := ⟨e.q0, e.q1, e.q2, e.q3, e.t0.x, e.t0.p, e.t1.x, e.t1.p, e.t2.x, e.t2.p, e.steps, e.dO, e.f0, e.f1, e.f2, e.f3, e.sat⟩
def En.x (n : En) : Nat → List Int
 | 0 => n.x0
 | 1 => n.x1
 | _ => n.x2
def En.p (n : En) : Nat → List Int
 | 0 => n.p0
 | 1 => n.p1
 | _ => n.p2
def En.off (n : En) : Nat → Int
 | 0 => n.f0
 | 1 => n.f1
 | 2 => n.f2
 | _ => n.f3
def En.held (n : En) (i k : Nat) (X P : List Int) (tk fl : Bool) : En :=
 { n with x0 := if i = 0 then X else n.x0, p0 := if i = 0 then P else n.p0, x1 := if i = 1 then X else n.x1, p1 := if i = 1 then P else n.p1, x2 := if i = 2 then X else n.x2, p2 := if i = 2 then P else n.p2, f0 := if k = 0 then jr tk (n.off k) else n.f0, f1 := if k = 1 then jr tk (n.off k) else n.f1, f2 := if k = 2 then jr tk (n.off k) else n.f2, f3 := if k = 3 then jr tk (n.off k) else n.f3, sat := n.sat || fl }
theorem Ep (e : Es) (i : Nat) : (e.ax i).x = e.nu.x i := by
 match i with
 | 0 => rfl
 | 1 => rfl
 | _ + 2 => rfl
theorem G7 (e : Es) (i : Nat) : (e.ax i).p = e.nu.p i := by
 match i with
 | 0 => rfl
 | 1 => rfl
 | _ + 2 => rfl
theorem PS (e : Es) (k : Nat) : e.off k = e.nu.off k := by
 match k with
 | 0 => rfl
 | 1 => rfl
 | 2 => rfl
 | _ + 3 => rfl
structure vW (n : En) (i k : Nat) (z r gate : Int) (X P : List Int) (tk fl : Bool) : Prop where
 up : PR.Ve 3 (n.x i) (n.p i) [16777216, 0, 0] (PQ.cl z) r gate X P tk fl
 lx : (n.x i).length = 3
 lp : (n.p i).length = 9
 lX : X.length = 3
 lP : P.length = 9
 o0 : 0 ≤ n.off k
 o1 : n.off k ≤ 1000
def Ok (o : Prop) (g : Nat) (w : World) (e : Es) : Prop := ∀ j, j < 3 → Rx o g w (e.ax j)
theorem Ok.below {o : Prop} {g : Nat} {w w' : World} {e : Es} (h : Ok o g w e) (hb : Below w.heap.size w w') : Ok o g w' e := fun j hj => (h j hj).below hb
theorem Lm {o : Prop} (g : Nat) (c : Cf) (e : Es) (s : Sm) (a0 a1 a2 : Int) (i k : Nat) (i' k' z r : Int) (X P : List Int) (tk fl : Bool) (w : World) (hi' : i' = i) (hk' : k' = k) (hi : i < 3) (hk : k < 4) (R : Row w g 89 (wk c e s a0 a1 a2)) (hr : Ok o g w e) (h0 : 0 < r) (H : vW e.nu i k z r c.gate X P tk fl) :
 Calls Try.prog 70 #[.pointer (some ⟨g, 0, none⟩), I i', I k', I z, I r] w fun x w' => x = .returned (.tuple #[]) ∧ ∃ e' : Es, e'.nu = e.nu.held i k X P tk (PQ.od z || fl) ∧ Ok o g w' e' ∧ iC w g c e' s a0 a1 a2 w' := by
 refine (JM g c e s a0 a1 a2 i k i' k' z r X P tk fl w hi' hk' hi hk R (hr i hi) ⟨by rw [Ep]; exact H.lx, by rw [G7]; exact H.lp⟩ h0 (by rw [Ep, G7]; exact H.up) ⟨H.lX, H.lP⟩ ⟨by rw [PS]; exact H.o0, by rw [PS]; exact H.o1⟩).mono ?_
 rintro x w' ⟨rfl, t, rfl, rfl, ht, hw⟩
 refine ⟨rfl, _, ?_, ?_, hw⟩
 · obtain rfl | rfl | rfl : i = 0 ∨ i = 1 ∨ i = 2 := by omega
   all_goals
    obtain rfl | rfl | rfl | rfl : k = 0 ∨ k = 1 ∨ k = 2 ∨ k = 3 := by omega
    all_goals simp [En.held, Es.uP, Es.sD, Es.off, En.off, Bool.or_assoc]
 · intro j hj
   have e1 : ∀ b : Bool, Es.ax { (e.uP i t).sD k (jr tk (e.off k)) with sat := b } j = if i = j then t else e.ax j := fun b => by
    obtain rfl | rfl | rfl : i = 0 ∨ i = 1 ∨ i = 2 := by omega
    all_goals
     obtain rfl | rfl | rfl : j = 0 ∨ j = 1 ∨ j = 2 := by omega
     all_goals simp [Es.ax, Es.uP, Es.sD]
   rw [e1]
   split
   · exact ht
   · exact (hr j hj).gr hw.gr
def Sm.n (s : Sm) : Nat → Int
 | 0 => s.n0
 | 1 => s.n1
 | _ => s.n2
theorem JR {o : Prop} (g : Nat) (c : Cf) (e : Es) (s : Sm) (a0 a1 a2 : Int) (m1 : En) (gk : Nat → En) (XB PB : List Int) (UG U1 : Bool) (XG PG : Nat → List Int) (UF UZ : Nat → Bool) (w : World) (R : Row w g 89 (wk c e s a0 a1 a2)) (hr : Ok o g w e) (hm : s.missing = false)
 (hB : s.hasB = true → 0 < c.iM ∧ vW e.nu 2 0 s.iM c.iM c.gate XB PB UG U1 ∧ m1 = e.nu.held 2 0 XB PB UG (PQ.od s.iM || U1)) (hB' : s.hasB = false → m1 = e.nu) (g0 : gk 0 = m1)
 (hG : s.lQ = true → 0 < c.l7 ∧ ∀ k, k < 3 → vW (gk k) k (k + 1) (s.n k) c.l7 c.gate (XG k) (PG k) (UF k) (UZ k) ∧ gk (k + 1) = (gk k).held k (k + 1) (XG k) (PG k) (UF k) (PQ.od (s.n k) || UZ k)) (hG' : s.lQ = false → ∀ k, k < 3 → gk (k + 1) = gk k) :
 Calls Try.prog 39 #[.pointer (some ⟨g, 0, none⟩)] w fun x w' => x = .returned (.tuple #[]) ∧ ∃ e' : Es, e'.nu = gk 3 ∧ Ok o g w' e' ∧ iC w g c e' s a0 a1 a2 w' := by
 have hg := R.lt
 have M : Hid (iC w g c e s a0 a1 a2 w) := Lib.hid ⟨R, dY _ _⟩
 have O := Lib.hid hr
 have HB := Lib.hid hB
 have HB' := Lib.hid hB'
 have HG := Lib.hid hG
 have HG' := Lib.hid hG'
 have G0 := Lib.hid g0
 have hc := R.cell
 clear R hr hB hB' hG hG' g0
 go_enter Try.func39, Try.ntmps39
 go_upto_if 13 with fail
 clear hm
 go_cut [] (fun wc => ∃ e1 : Es, Hid (e1.nu = m1) ∧ Hid (Ok o g wc e1) ∧ Hid (iC w g c e1 s a0 a1 a2 wc))
 case first =>
  cases hb : s.hasB
  · go_wp2_with fail
    go_meet
    exact ⟨e, Lib.hid (HB'.out hb).symm, O, M⟩
  · have BB := Lib.hid (HB.out hb)
    go_upto_region 2 with fail
    clear hc
    have K2 : Hid (∀ w' e', Row w' g 89 (wk c e' s a0 a1 a2) → (w'.cell? ⟨g, 43, none⟩ = some (I s.iM) ∧ w'.cell? ⟨g, 3, none⟩ = some (I c.iM))) := Lib.hid (fun w' e' R => ⟨R.cell 43, R.cell 3⟩)
    go_region_held3 (fun w' => (w'.cell? ⟨g, 43, none⟩ = some (I s.iM) ∧ w'.cell? ⟨g, 3, none⟩ = some (I c.iM)))
     (first | with_reducible exact K2.out _ _ M.out.row | with_reducible exact K2.out _ _ M.out.row.drew | with_reducible exact K2.out _ _ W2.out.row)
     ((go_at_call 70
       (with_reducible refine (Lm g c e s a0 a1 a2 2 0 2 0 s.iM c.iM XB PB UG U1 _ rfl rfl (by decide) (by decide) M.out.row.drew (O.out.below (Below.refl _ _).drew) BB.out.1 BB.out.2.1).mono ?_)
       rintro x wn ⟨rfl, e1, hn, ho, hw⟩
       have W2 := Lib.hid (M.out.drew.step hw)
       have N2 := Lib.hid hn
       have O2 := Lib.hid ho
       clear hw hn ho))
    all_goals go_wp2_with fail
    all_goals go_meet
    all_goals exact ⟨e1, Lib.hid (N2.out.trans BB.out.2.2.symm), O2, W2⟩
 case rest =>
  clear M O hc
  obtain ⟨e1, N1, O1, M⟩ := hcut
  have hc := M.out.row.cell
  go_wp2_with fail
  clear hc
  go_loopw [31] (fun i wr => ∃ (k : Nat) (e' : Es), k ≤ 3 ∧ i = .int .i64 k ∧ Hid (e'.nu = gk k) ∧ Hid (Ok o g wr e') ∧ Hid (iC w g c e' s a0 a1 a2 wr)) (fun i _ => 3 - (intOf i).toNat)
  case atStart => exact ⟨0, e1, by omega, rfl, Lib.hid (N1.out.trans G0.out.symm), O1, M⟩
  case round =>
   clear M N1 O1
   obtain ⟨k, e2, hk, rfl, N2, O2, M⟩ := hrel
   by_cases hlt : k < 3
   case neg =>
    obtain rfl : k = 3 := by omega
    go_wp2
    go_end0
    exact ⟨rfl, e2, N2.out, O2.out, M.out⟩
   have ix : ∀ w', (Instr.index 42 (.agg #[I s.n0, I s.n1, I s.n2]) (.int .i64 k)).run Try.prog w' = .ok (I (s.n k)) w' := fun w' => by
    obtain rfl | rfl | rfl : k = 0 ∨ k = 1 ∨ k = 2 := by omega
    all_goals kernel_rfl
   have hd : decide ((k : Int) < 3) = true := decide_eq_true (by omega)
   have k0 : (0 : Int) ≤ (k : Int) := by omega
   have k3 : (k : Int) < 3 := by omega
   have hc := M.out.row.cell
   cases hb : s.lQ
   · go_wp2
     go_roundw
     case rel => exact ⟨k + 1, e2, by omega, by go_num, Lib.hid (N2.out.trans (HG'.out hb k hlt).symm), O2, M⟩
     case measure => simp [intOf]; omega
   · have GG := Lib.hid (HG.out hb)
     have HE : Hid (vW e2.nu k (k + 1) (s.n k) c.l7 c.gate (XG k) (PG k) (UF k) (UZ k)) := Lib.hid (by rw [N2.out]; exact (GG.out.2 k hlt).1)
     have hw1 : IntKind.i64.wrap ((k : Int) + 1) = (k : Int) + 1 := IntWalk.i64_in _ (by omega)
     go_wp2_with fail
     refine (Lm g c e2 s a0 a1 a2 k (k + 1) _ _ _ _ _ _ _ _ _ rfl (by omega) hlt (by omega) M.out.row O2.out GG.out.1 HE.out).mono ?_
     rintro x wn ⟨rfl, e3, hn, ho, hw⟩
     have W3 := Lib.hid (M.out.step hw)
     have N3 : Hid (e3.nu = gk (k + 1)) := Lib.hid (by rw [hn, N2.out]; exact (GG.out.2 k hlt).2.symm)
     have O3 := Lib.hid ho
     clear hw hn ho M hc hw1
     go_wp2
     go_roundw
     case rel => exact ⟨k + 1, e3, by omega, by go_num, N3, O3, W3⟩
     case measure => simp [intOf]; omega
end Go.Proofs.Ytnijhjbcjeohhaa.EE

namespace Go.Proofs.Ytnijhjbcjeohhaa.EE
open Go.RowKit Go.Proofs.Ytnijhjbcjeohhaa.KK Go.Proofs.af.aO Go.Proofs.af.aU Go.Proofs.af.aV
set_option linter.unusedVariables false
set_option linter.unusedSimpArgs false
theorem wp_build {P : Program} {op : Oper} {a : Act} {w : World} {K : Act → World → Prop} {Q : Exit → Act → World → Prop} (t : TypeId) (parts : Array (Nat × Operand)) (ho : op.op = .build t parts) (ps : Array (Nat × Value)) (hp : (parts.map fun (i, x) => (i, a.eval x)) = ps) (v : Value)
 (hr : (Instr.build t ps).run P w = .ok v w) (h : K (a.put op.dst v) w) : op.wp P a w K Q := by
 unfold Oper.wp execOp
 simp only [ho, hp, Sem.run_bind, Sem.run_pure, Result.andThen_ok, hr]
 exact h
theorem wpList_build {P : Program} {ops : Array Oper} {rest : List Oper} {op : Oper} {a : Act} {w : World} {Q : Exit → Act → World → Prop} (hgd : op.guard = none) (t : TypeId) (parts : Array (Nat × Operand)) (ho : op.op = .build t parts) (ps : Array (Nat × Value)) (hp : (parts.map fun (i, x) => (i, a.eval x)) = ps) (v : Value)
 (hr : (Instr.build t ps).run P w = .ok v w) (h : wpList P ops Q rest (a.put op.dst v) w) : wpList P ops Q (op :: rest) a w :=
 wpList_plain hgd fun _ hK => wp_build t parts ho ps hp v hr (hK _ _ h)
theorem Below.F6 {w w1 w2 : World} {g : Nat} (h : Below w.heap.size w w1) (hg : w1.grownBy w2 (some g)) (hn : w.heap.size ≤ g) : Below w.heap.size w w2 :=
 ⟨hg.os.trans h.os, hg.tape.trans h.tape, hg.output.trans h.output, Nat.le_trans h.size hg.size, fun k hk => (hg.block k (Nat.lt_of_lt_of_le hk h.size) (fun e => by injection e with e; omega)).trans (h.block k hk)⟩
def Cf.R (c : Cf) : Array Value := c.row
def Es.R (e : Es) : Array Value := e.row
def Sm.R (s : Sm) : Array Value := s.row
def Es.yw (e' : Es) : Array Value := ([I 3, I 1, .slice e'.t0.A e'.t0.x.length e'.t0.c, I 3, I 3, .slice e'.t0.B e'.t0.p.length e'.t0.d, I 3, I 1, .slice e'.t1.A e'.t1.x.length e'.t1.c, I 3, I 3, .slice e'.t1.B e'.t1.p.length e'.t1.d, I 3, I 1, .slice e'.t2.A e'.t2.x.length e'.t2.c, I 3, I 3, .slice e'.t2.B e'.t2.p.length e'.t2.d] : List Value).toArray
theorem xU {w : World} {A : Option Addr} {l : List Int} (h : Rd w A l) (hl : l.length = 3) : ∃ b o, A = some ⟨b, o, none⟩ ∧ b < w.heap.size ∧ w.cell? ⟨b, o, none⟩ = some (I (l.getD 0 0)) := by
 obtain ⟨b, o, rfl, hb, hc⟩ := Rd.cells h (by omega)
 refine ⟨b, o, rfl, hb, ?_⟩
 have := hc 0 (l.getD 0 0) (by
  match l, hl with
  | [_, _, _], _ => rfl)
 simpa using this
theorem Row.there {w : World} {b : Nat} {t : TypeId} {C : Array Value} (h : Row w b t C) : w.there b 0 C.size := fun j hj => by
 refine ⟨?_, h.free _⟩
 rw [h.cell]
 simp [hj]
theorem zT {P : Program} {fn : Func} {p p' : Tmp} {ty ty' : TypeId} (h : fn.results = #[.cell p ty, .cell p' ty']) (tmps : Array Value) (w : World) (g g' : Nat) (cs cs' : List Value) (d d' : TypeDesc)
 (hp : tmps.getD p undef = .pointer (some ⟨g, 0, none⟩)) (hg : w.rangeAt g 0 cs) (hu : P.underlying ty = some d) (hd : d.isRow = true) (hi : (P.info? ty).map (·.size) = some cs.length)
 (hp' : tmps.getD p' undef = .pointer (some ⟨g', 0, none⟩)) (hg' : w.rangeAt g' 0 cs') (hu' : P.underlying ty' = some d') (hd' : d'.isRow = true) (hi' : (P.info? ty').map (·.size) = some cs'.length) :
 (results fn tmps).run P w = .ok (.tuple #[.agg cs.toArray, .agg cs'.toArray]) w := by
 have h1 : tmps[p]?.getD undef = .pointer (some ⟨g, 0, none⟩) := by simpa using hp
 have h2 : tmps[p']?.getD undef = .pointer (some ⟨g', 0, none⟩) := by simpa using hp'
 simp [results, h, h1, h2, asAddr, run_loadVar_mid w g 0 ty cs d hg hu hd hi, run_loadVar_mid w g' 0 ty' cs' d' hg' hu' hd' hi']
theorem row_one (e' : Es) : ∀ v ∈ e'.R.toList, v.oneCell' = true := List.all_eq_true.mp (by kernel_rfl : e'.R.toList.all (·.oneCell') = true)
theorem mP {B : Nat} : ∀ (vs : List Value) (o : Nat) (w : World), w.grownBy (w.setCells B o vs) (some B) := by
 intro vs
 induction vs with
 | nil => intro o w; exact dY _ _
 | cons v vs ih => intro o w; exact bG (bP (dY _ _) _ _) (ih (o + 1) _)
theorem Rg.cells {o' : Prop} {g : Nat} {w : World} {A : Option Addr} {l : List Int} (h : Rg o' g w A l) {B o : Nat} {vs : List Value} (hB : B + 2 = g ∨ B + 1 = g) : Rg o' g (w.setCells B o vs) A l := ⟨Rd.gr h.rd (mP vs o w) (fun ad e => by rcases h.nr ad e with ⟨_, h⟩ | h <;> omega), h.nr⟩
theorem Rx.cells {o' : Prop} {g : Nat} {w : World} {t : Tr} (h : Rx o' g w t) {B o : Nat} {vs : List Value} (hB : B + 2 = g ∨ B + 1 = g) : Rx o' g (w.setCells B o vs) t := ⟨h.x.cells hB, h.xc, h.p.cells hB, h.pd⟩
theorem _root_.Go.Proofs.Ytnijhjbcjeohhaa.KK.aX.set {w0 w : World} {L : List (TypeId × Array Value)} (h : aX w0 L w) {p : Addr} (hp : w0.heap.size + L.length ≤ p.block) (u : Value) : aX w0 L (w.setCell p u) :=
 ⟨h.rows.imp fun k t cs _ hk r => r.far (by omega) u, h.be.setCell (by omega) u⟩
def UD (c : Cf) (e : Es) (s : Sm) (a0 a1 a2 : Int) : Array Value := wk c e s a0 a1 a2
theorem Vw (c : Cf) (e' : Es) (s : Sm) (a0 a1 a2 : Int) : ((wk c e' s a0 a1 a2).extract 10 (10 + e'.yw.toList.length)).toList = e'.yw.toList := by kernel_rfl
theorem Vu (c : Cf) (e' : Es) (s : Sm) (a0 a1 a2 : Int) : ((wk c e' s a0 a1 a2).extract 6 (6 + e'.R.toList.length)).toList = e'.R.toList := by kernel_rfl
theorem Zl (e' : Es) (b o : Nat) (hA : (e'.ax 0).A = some ⟨b, o, none⟩) (hl : (e'.ax 0).x.length = 3) : ∀ w', (Instr.index 34 (.agg e'.yw) (.int .i64 0)).run Try.prog w' = .ok (.agg #[I 3, I 1, .slice (some ⟨b, o, none⟩) 3 e'.t0.c, I 3, I 3, .slice e'.t0.B e'.t0.p.length e'.t0.d]) w' := fun w' => by
 have h : (Instr.index 34 (.agg e'.yw) (.int .i64 0)).run Try.prog w' = .ok (.agg #[I 3, I 1, .slice e'.t0.A e'.t0.x.length e'.t0.c, I 3, I 3, .slice e'.t0.B e'.t0.p.length e'.t0.d]) w' := by kernel_rfl
 rw [h]
 change e'.t0.A = _ at hA
 change e'.t0.x.length = 3 at hl
 rw [hA, hl]
theorem Zk (e' : Es) (b o : Nat) (hA : (e'.ax 1).A = some ⟨b, o, none⟩) (hl : (e'.ax 1).x.length = 3) : ∀ w', (Instr.index 34 (.agg e'.yw) (.int .i64 1)).run Try.prog w' = .ok (.agg #[I 3, I 1, .slice (some ⟨b, o, none⟩) 3 e'.t1.c, I 3, I 3, .slice e'.t1.B e'.t1.p.length e'.t1.d]) w' := fun w' => by
 have h : (Instr.index 34 (.agg e'.yw) (.int .i64 1)).run Try.prog w' = .ok (.agg #[I 3, I 1, .slice e'.t1.A e'.t1.x.length e'.t1.c, I 3, I 3, .slice e'.t1.B e'.t1.p.length e'.t1.d]) w' := by kernel_rfl
 rw [h]
 change e'.t1.A = _ at hA
 change e'.t1.x.length = 3 at hl
 rw [hA, hl]
theorem Zj (e' : Es) (b o : Nat) (hA : (e'.ax 2).A = some ⟨b, o, none⟩) (hl : (e'.ax 2).x.length = 3) : ∀ w', (Instr.index 34 (.agg e'.yw) (.int .i64 2)).run Try.prog w' = .ok (.agg #[I 3, I 1, .slice (some ⟨b, o, none⟩) 3 e'.t2.c, I 3, I 3, .slice e'.t2.B e'.t2.p.length e'.t2.d]) w' := fun w' => by
 have h : (Instr.index 34 (.agg e'.yw) (.int .i64 2)).run Try.prog w' = .ok (.agg #[I 3, I 1, .slice e'.t2.A e'.t2.x.length e'.t2.c, I 3, I 3, .slice e'.t2.B e'.t2.p.length e'.t2.d]) w' := by kernel_rfl
 rw [h]
 change e'.t2.A = _ at hA
 change e'.t2.x.length = 3 at hl
 rw [hA, hl]
theorem Nq (c : Cf) (e : Es) (s : Sm) (w : World) (Q : Nat → World → Prop) (E : Es → Prop) (g : Nat) (hg : g = w.heap.size + 5)
 (h0 : ∀ w', Row w' g 89 (wk c e s 0 0 0) → Below w.heap.size w w' → Q 0 w')
 (h1 : ∀ w', Q 0 w' → Calls Try.prog 37 #[.pointer (some ⟨g, 0, none⟩)] w' fun x w'' => x = .returned (.tuple #[]) ∧ Q 1 w'' ∧ w'.grownBy w'' (some g))
 (h2 : ∀ w', Q 1 w' → Calls Try.prog 38 #[.pointer (some ⟨g, 0, none⟩)] w' fun x w'' => x = .returned (.tuple #[]) ∧ Q 2 w'' ∧ w'.grownBy w'' (some g))
 (h3 : ∀ w', Q 2 w' → Calls Try.prog 39 #[.pointer (some ⟨g, 0, none⟩)] w' fun x w'' => x = .returned (.tuple #[]) ∧ Q 3 w'' ∧ w'.grownBy w'' (some g))
 (h4 : ∀ w', Q 3 w' → Calls Try.prog 40 #[.pointer (some ⟨g, 0, none⟩)] w' fun x w'' => x = .returned (.tuple #[]) ∧ Q 4 w'' ∧ w'.grownBy w'' (some g))
 (h5 : ∀ w', Q 4 w' → ∃ (e' : Es) (a0 a1 a2 : Int), E e' ∧ Row w' g 89 (wk c e' s a0 a1 a2) ∧ Ok False g w' e' ∧ ∀ j, j < 3 → (e'.ax j).x.length = 3) :
 Calls Try.prog 16 #[.agg c.R, .agg e.R, .agg s.R] w fun x w' => ∃ e' : Es, E e' ∧ x = .returned (.tuple #[.agg e'.row, .agg #[I (e'.t0.x.getD 0 0), I (e'.t1.x.getD 0 0), I (e'.t2.x.getD 0 0)]]) ∧ (∀ j, j < 3 → Rx False g w' (e'.ax j)) ∧ Below w.heap.size w w' := by
 have H0 := Lib.hid h0
 have H1 := Lib.hid h1
 have H2 := Lib.hid h2
 have H3 := Lib.hid h3
 have H4 := Lib.hid h4
 have H5 := Lib.hid h5
 have HG := Lib.hid hg
 clear h0 h1 h2 h3 h4 h5 hg
 go_enter Try.func16, Try.ntmps16
 go_upto_region 1 with fail
 have L : Hid (aX w [(24, c.R), (37, e.R), (46, s.R), (37, #[.int .i64 0, .int .i64 0, .int .i64 0, .int .i64 0, .int .i64 0, .int .i64 0, .slice none 0 0, .int .i64 0, .int .i64 0, .slice none 0 0, .int .i64 0, .int .i64 0, .slice none 0 0, .int .i64 0, .int .i64 0, .slice none 0 0, .int .i64 0, .int .i64 0, .slice none 0 0, .int .i64 0, .int .i64 0, .slice none 0 0, .int .i64 0, .int .i64 0, .int .i64 0, .int .i64 0, .int .i64 0, .int .i64 0, .bool false]), (42, #[.int .i64 0, .int .i64 0, .int .i64 0])] (((((w.alloc (.cells c.R 24)).alloc (.cells e.R 37)).alloc (.cells s.R 46)).alloc (.cells #[.int .i64 0, .int .i64 0, .int .i64 0, .int .i64 0, .int .i64 0, .int .i64 0, .slice none 0 0, .int .i64 0, .int .i64 0, .slice none 0 0, .int .i64 0, .int .i64 0, .slice none 0 0, .int .i64 0, .int .i64 0, .slice none 0 0, .int .i64 0, .int .i64 0, .slice none 0 0, .int .i64 0, .int .i64 0, .slice none 0 0, .int .i64 0, .int .i64 0, .int .i64 0, .int .i64 0, .int .i64 0, .int .i64 0, .bool false] 37)).alloc (.cells #[.int .i64 0, .int .i64 0, .int .i64 0] 42))) := Lib.hid ((((((aX.none w).push (by simp) _ _).push (by simp) _ _).push (by simp) _ _).push (by simp) _ _).push (by simp) _ _)
 have LZ : Hid ((((((w.alloc (.cells c.R 24)).alloc (.cells e.R 37)).alloc (.cells s.R 46)).alloc (.cells #[.int .i64 0, .int .i64 0, .int .i64 0, .int .i64 0, .int .i64 0, .int .i64 0, .slice none 0 0, .int .i64 0, .int .i64 0, .slice none 0 0, .int .i64 0, .int .i64 0, .slice none 0 0, .int .i64 0, .int .i64 0, .slice none 0 0, .int .i64 0, .int .i64 0, .slice none 0 0, .int .i64 0, .int .i64 0, .slice none 0 0, .int .i64 0, .int .i64 0, .int .i64 0, .int .i64 0, .int .i64 0, .int .i64 0, .bool false] 37)).alloc (.cells #[.int .i64 0, .int .i64 0, .int .i64 0] 42)).heap.size = w.heap.size + 1 + 1 + 1 + 1 + 1) := Lib.hid (by simp)
 generalize (((((w.alloc (.cells c.R 24)).alloc (.cells e.R 37)).alloc (.cells s.R 46)).alloc (.cells #[.int .i64 0, .int .i64 0, .int .i64 0, .int .i64 0, .int .i64 0, .int .i64 0, .slice none 0 0, .int .i64 0, .int .i64 0, .slice none 0 0, .int .i64 0, .int .i64 0, .slice none 0 0, .int .i64 0, .int .i64 0, .slice none 0 0, .int .i64 0, .int .i64 0, .slice none 0 0, .int .i64 0, .int .i64 0, .slice none 0 0, .int .i64 0, .int .i64 0, .int .i64 0, .int .i64 0, .int .i64 0, .int .i64 0, .bool false] 37)).alloc (.cells #[.int .i64 0, .int .i64 0, .int .i64 0] 42)) = w5 at L LZ ⊢
 have R0 : Hid (w5.rangeAt w.heap.size 0 c.R.toList) := Lib.hid (Row.range L.out.r0 0 _ (by simp [Cf.R]))
 have R1 : Hid (w5.rangeAt (w.heap.size + 1) 0 e.R.toList) := Lib.hid (Row.range L.out.r1 0 _ (by simp [Es.R]))
 have R2 : Hid (w5.rangeAt (w.heap.size + 1 + 1) 0 s.R.toList) := Lib.hid (Row.range L.out.r2 0 _ (by simp [Sm.R]))
 have i24 := Lib.hid (show (Try.prog.info? 24).map (·.size) = some c.R.toList.length by kernel_rfl)
 have i37 := Lib.hid (show (Try.prog.info? 37).map (·.size) = some e.R.toList.length by kernel_rfl)
 have i46 := Lib.hid (show (Try.prog.info? 46).map (·.size) = some s.R.toList.length by kernel_rfl)
 have HBD : Hid (∀ w', (Instr.build 89 #[(0, .agg c.R), (1, .agg e.R), (2, .agg s.R)]).run Try.prog w' = .ok (.agg (UD c e s 0 0 0)) w') := Lib.hid (fun w' => by kernel_rfl)
 go_wp2_with (first
  | (with_reducible refine wpList_build rfl 89 #[(0, .tmp 14), (1, .tmp 15), (2, .tmp 16)] rfl #[(0, .agg c.R), (1, .agg e.R), (2, .agg s.R)] (by kernel_rfl) _ (HBD.out _) ?_)
  | (with_reducible refine wpList_load_mid rfl 24 (.tmp 3) rfl w.heap.size 0 rfl c.R.toList _ R0.out Try.underlying24 rfl i24.out ?_)
  | (with_reducible refine wpList_load_mid rfl 37 (.tmp 4) rfl (w.heap.size + 1) 0 rfl e.R.toList _ R1.out Try.underlying37 rfl i37.out ?_)
  | (with_reducible refine wpList_load_mid rfl 46 (.tmp 5) rfl (w.heap.size + 1 + 1) 0 rfl s.R.toList _ R2.out Try.underlying46 rfl i46.out ?_))
 have hg : g = w5.heap.size := HG.out.trans LZ.out.symm
 have R6 : Hid (Row (w5.alloc (.cells (UD c e s 0 0 0) 89)) g 89 (wk c e s 0 0 0)) := Lib.hid (by rw [hg]; exact Row.new w5 89 (UD c e s 0 0 0))
 have TE : Hid (Row (w5.alloc (.cells (UD c e s 0 0 0) 89)) (w.heap.size + 1 + 1 + 1) 37 #[.int .i64 0, .int .i64 0, .int .i64 0, .int .i64 0, .int .i64 0, .int .i64 0, .slice none 0 0, .int .i64 0, .int .i64 0, .slice none 0 0, .int .i64 0, .int .i64 0, .slice none 0 0, .int .i64 0, .int .i64 0, .slice none 0 0, .int .i64 0, .int .i64 0, .slice none 0 0, .int .i64 0, .int .i64 0, .slice none 0 0, .int .i64 0, .int .i64 0, .int .i64 0, .int .i64 0, .int .i64 0, .int .i64 0, .bool false]) := Lib.hid (L.out.r3.alloc _)
 have TV : Hid (Row (w5.alloc (.cells (UD c e s 0 0 0) 89)) (w.heap.size + 1 + 1 + 1 + 1) 42 #[.int .i64 0, .int .i64 0, .int .i64 0]) := Lib.hid (L.out.r4.alloc _)
 have BE : Hid (Below w.heap.size w (w5.alloc (.cells (UD c e s 0 0 0) 89))) := Lib.hid (L.out.be.alloc L.out.be.size _)
 have Z6 : Hid ((w5.alloc (.cells (UD c e s 0 0 0) 89)).heap.size = g + 1) := Lib.hid (by rw [hg]; simp)
 have NG : Hid (w.heap.size + 1 + 1 + 1 ≠ g ∧ w.heap.size + 1 + 1 + 1 + 1 ≠ g ∧ g + 1 ≠ g ∧ w.heap.size ≤ g) := Lib.hid (by have := HG.out; omega)
 rw [← hg]
 have GG : Hid (w.heap.size + 1 + 1 + 1 + 2 = g ∧ w.heap.size + 1 + 1 + 1 + 1 + 1 = g) := Lib.hid (by have := HG.out; omega)
 clear L LZ R0 R1 R2 i24 i37 i46 HBD hg HG
 generalize w5.alloc (.cells (UD c e s 0 0 0) 89) = w6 at R6 TE TV BE Z6 ⊢
 have Q0 := Lib.hid (H0.out _ (R6.out.alloc (.cells #[.func (.func 37) #[.pointer (some ⟨g, 0, none⟩)] #[], .func (.func 38) #[.pointer (some ⟨g, 0, none⟩)] #[], .func (.func 39) #[.pointer (some ⟨g, 0, none⟩)] #[], .func (.func 40) #[.pointer (some ⟨g, 0, none⟩)] #[]] 1)) (BE.out.alloc BE.out.size (.cells #[.func (.func 37) #[.pointer (some ⟨g, 0, none⟩)] #[], .func (.func 38) #[.pointer (some ⟨g, 0, none⟩)] #[], .func (.func 39) #[.pointer (some ⟨g, 0, none⟩)] #[], .func (.func 40) #[.pointer (some ⟨g, 0, none⟩)] #[]] 1)))
 have S0 : Hid (Row (w6.alloc (.cells #[.func (.func 37) #[.pointer (some ⟨g, 0, none⟩)] #[], .func (.func 38) #[.pointer (some ⟨g, 0, none⟩)] #[], .func (.func 39) #[.pointer (some ⟨g, 0, none⟩)] #[], .func (.func 40) #[.pointer (some ⟨g, 0, none⟩)] #[]] 1)) (w.heap.size + 1 + 1 + 1) 37 #[.int .i64 0, .int .i64 0, .int .i64 0, .int .i64 0, .int .i64 0, .int .i64 0, .slice none 0 0, .int .i64 0, .int .i64 0, .slice none 0 0, .int .i64 0, .int .i64 0, .slice none 0 0, .int .i64 0, .int .i64 0, .slice none 0 0, .int .i64 0, .int .i64 0, .slice none 0 0, .int .i64 0, .int .i64 0, .slice none 0 0, .int .i64 0, .int .i64 0, .int .i64 0, .int .i64 0, .int .i64 0, .int .i64 0, .bool false] ∧ Row (w6.alloc (.cells #[.func (.func 37) #[.pointer (some ⟨g, 0, none⟩)] #[], .func (.func 38) #[.pointer (some ⟨g, 0, none⟩)] #[], .func (.func 39) #[.pointer (some ⟨g, 0, none⟩)] #[], .func (.func 40) #[.pointer (some ⟨g, 0, none⟩)] #[]] 1)) (w.heap.size + 1 + 1 + 1 + 1) 42 #[.int .i64 0, .int .i64 0, .int .i64 0] ∧ Row (w6.alloc (.cells #[.func (.func 37) #[.pointer (some ⟨g, 0, none⟩)] #[], .func (.func 38) #[.pointer (some ⟨g, 0, none⟩)] #[], .func (.func 39) #[.pointer (some ⟨g, 0, none⟩)] #[], .func (.func 40) #[.pointer (some ⟨g, 0, none⟩)] #[]] 1)) (g + 1) 1 #[.func (.func 37) #[.pointer (some ⟨g, 0, none⟩)] #[], .func (.func 38) #[.pointer (some ⟨g, 0, none⟩)] #[], .func (.func 39) #[.pointer (some ⟨g, 0, none⟩)] #[], .func (.func 40) #[.pointer (some ⟨g, 0, none⟩)] #[]] ∧ Below w.heap.size w (w6.alloc (.cells #[.func (.func 37) #[.pointer (some ⟨g, 0, none⟩)] #[], .func (.func 38) #[.pointer (some ⟨g, 0, none⟩)] #[], .func (.func 39) #[.pointer (some ⟨g, 0, none⟩)] #[], .func (.func 40) #[.pointer (some ⟨g, 0, none⟩)] #[]] 1))) :=
  Lib.hid ⟨TE.out.alloc _, TV.out.alloc _, by rw [← Z6.out]; exact Row.new _ _ _, BE.out.alloc BE.out.size _⟩
 clear R6 TE TV BE Z6 H0
 generalize w6.alloc (.cells #[.func (.func 37) #[.pointer (some ⟨g, 0, none⟩)] #[], .func (.func 38) #[.pointer (some ⟨g, 0, none⟩)] #[], .func (.func 39) #[.pointer (some ⟨g, 0, none⟩)] #[], .func (.func 40) #[.pointer (some ⟨g, 0, none⟩)] #[]] 1) = w7 at Q0 S0 ⊢
 go_loopw [29] (fun i wr => ∃ k : Nat, k ≤ 4 ∧ i = .int .i64 k ∧ Hid (Q k wr) ∧ Hid (Row wr (w.heap.size + 1 + 1 + 1) 37 #[.int .i64 0, .int .i64 0, .int .i64 0, .int .i64 0, .int .i64 0, .int .i64 0, .slice none 0 0, .int .i64 0, .int .i64 0, .slice none 0 0, .int .i64 0, .int .i64 0, .slice none 0 0, .int .i64 0, .int .i64 0, .slice none 0 0, .int .i64 0, .int .i64 0, .slice none 0 0, .int .i64 0, .int .i64 0, .slice none 0 0, .int .i64 0, .int .i64 0, .int .i64 0, .int .i64 0, .int .i64 0, .int .i64 0, .bool false] ∧ Row wr (w.heap.size + 1 + 1 + 1 + 1) 42 #[.int .i64 0, .int .i64 0, .int .i64 0] ∧ Row wr (g + 1) 1 #[.func (.func 37) #[.pointer (some ⟨g, 0, none⟩)] #[], .func (.func 38) #[.pointer (some ⟨g, 0, none⟩)] #[], .func (.func 39) #[.pointer (some ⟨g, 0, none⟩)] #[], .func (.func 40) #[.pointer (some ⟨g, 0, none⟩)] #[]] ∧ Below w.heap.size w wr)) (fun i _ => 4 - (intOf i).toNat)
 case atStart => exact ⟨0, by omega, rfl, Q0, S0⟩
 case round =>
  clear Q0 S0
  obtain ⟨k, hk, rfl, QK, SK⟩ := hrel
  have fc := SK.out.2.2.1.cell
  obtain rfl | rfl | rfl | rfl | rfl : k = 4 ∨ k = 0 ∨ k = 1 ∨ k = 2 ∨ k = 3 := by omega
  rotate_left
  · go_wp2_with fail
    refine (H1.out _ QK.out).mono ?_
    rintro x wn ⟨rfl, hq, hgr⟩
    have Q1 := Lib.hid hq
    have S1 := Lib.hid (And.intro ((PR.Row.gr SK.out.1) hgr NG.out.1) (And.intro ((PR.Row.gr SK.out.2.1) hgr NG.out.2.1) (And.intro ((PR.Row.gr SK.out.2.2.1) hgr NG.out.2.2.1) (Below.F6 SK.out.2.2.2 hgr NG.out.2.2.2))))
    clear hq hgr fc QK SK
    go_wp2
    go_roundw
    case rel => exact ⟨0 + 1, by omega, by go_num, Q1, S1⟩
    case measure => simp [intOf]
  · go_wp2_with fail
    refine (H2.out _ QK.out).mono ?_
    rintro x wn ⟨rfl, hq, hgr⟩
    have Q1 := Lib.hid hq
    have S1 := Lib.hid (And.intro ((PR.Row.gr SK.out.1) hgr NG.out.1) (And.intro ((PR.Row.gr SK.out.2.1) hgr NG.out.2.1) (And.intro ((PR.Row.gr SK.out.2.2.1) hgr NG.out.2.2.1) (Below.F6 SK.out.2.2.2 hgr NG.out.2.2.2))))
    clear hq hgr fc QK SK
    go_wp2
    go_roundw
    case rel => exact ⟨1 + 1, by omega, by go_num, Q1, S1⟩
    case measure => simp [intOf]
  · go_wp2_with fail
    refine (H3.out _ QK.out).mono ?_
    rintro x wn ⟨rfl, hq, hgr⟩
    have Q1 := Lib.hid hq
    have S1 := Lib.hid (And.intro ((PR.Row.gr SK.out.1) hgr NG.out.1) (And.intro ((PR.Row.gr SK.out.2.1) hgr NG.out.2.1) (And.intro ((PR.Row.gr SK.out.2.2.1) hgr NG.out.2.2.1) (Below.F6 SK.out.2.2.2 hgr NG.out.2.2.2))))
    clear hq hgr fc QK SK
    go_wp2
    go_roundw
    case rel => exact ⟨2 + 1, by omega, by go_num, Q1, S1⟩
    case measure => simp [intOf]
  · go_wp2_with fail
    refine (H4.out _ QK.out).mono ?_
    rintro x wn ⟨rfl, hq, hgr⟩
    have Q1 := Lib.hid hq
    have S1 := Lib.hid (And.intro ((PR.Row.gr SK.out.1) hgr NG.out.1) (And.intro ((PR.Row.gr SK.out.2.1) hgr NG.out.2.1) (And.intro ((PR.Row.gr SK.out.2.2.1) hgr NG.out.2.2.1) (Below.F6 SK.out.2.2.2 hgr NG.out.2.2.2))))
    clear hq hgr fc QK SK
    go_wp2
    go_roundw
    case rel => exact ⟨3 + 1, by omega, by go_num, Q1, S1⟩
    case measure => simp [intOf]
  clear fc
  obtain ⟨wq, hwq⟩ : ∃ wq, wq = wr := ⟨_, rfl⟩
  subst hwq
  obtain ⟨e', a0, a1, a2, EE0, RW, OK, LX⟩ := H5.out _ QK.out
  have RA := Lib.hid (Row.range RW 10 e'.yw.toList (Vw c e' s a0 a1 a2))
  have RE := Lib.hid (Row.range RW 6 e'.R.toList (Vu c e' s a0 a1 a2))
  have RWH := Lib.hid RW
  have EH := Lib.hid EE0
  clear EE0
  have ZA := Lib.hid OK
  have Xj := Lib.hid LX
  clear RW OK LX H1 H2 H3 H4 H5
  obtain ⟨b0, o0, hA0, hb0, hc0⟩ := xU (ZA.out 0 (by decide)).x.rd (Xj.out 0 (by decide))
  obtain ⟨b1, o1, hA1, hb1, hc1⟩ := xU (ZA.out 1 (by decide)).x.rd (Xj.out 1 (by decide))
  obtain ⟨b2, o2, hA2, hb2, hc2⟩ := xU (ZA.out 2 (by decide)).x.rd (Xj.out 2 (by decide))
  have IX0 := Lib.hid (Zl e' b0 o0 hA0 (Xj.out 0 (by decide)))
  have IX1 := Lib.hid (Zk e' b1 o1 hA1 (Xj.out 1 (by decide)))
  have IX2 := Lib.hid (Zj e' b2 o2 hA2 (Xj.out 2 (by decide)))
  have HB0 := Lib.hid hb0
  have HB1 := Lib.hid hb1
  have HB2 := Lib.hid hb2
  obtain ⟨z0, hz0⟩ : ∃ z, z = e'.t0.x.getD 0 0 := ⟨_, rfl⟩
  obtain ⟨z1, hz1⟩ : ∃ z, z = e'.t1.x.getD 0 0 := ⟨_, rfl⟩
  obtain ⟨z2, hz2⟩ : ∃ z, z = e'.t2.x.getD 0 0 := ⟨_, rfl⟩
  have HC0 : Hid (wq.cell? ⟨b0, o0, none⟩ = some (I z0)) := Lib.hid (hc0.trans (congrArg (fun z => some (I z)) hz0.symm))
  have HC1 : Hid (wq.cell? ⟨b1, o1, none⟩ = some (I z1)) := Lib.hid (hc1.trans (congrArg (fun z => some (I z)) hz1.symm))
  have HC2 : Hid (wq.cell? ⟨b2, o2, none⟩ = some (I z2)) := Lib.hid (hc2.trans (congrArg (fun z => some (I z)) hz2.symm))
  have HZ := Lib.hid (And.intro hz0 (And.intro hz1 hz2))
  clear hb0 hb1 hb2 hc0 hc1 hc2 hA0 hA1 hA2 hz0 hz1 hz2
  have NZ : Hid (aX wq [(42, Eb 0 0 0 z0 z1 z2 0)] (wq.alloc (.cells #[.int .i64 0, .int .i64 0, .int .i64 0] 42))) := Lib.hid ((aX.none wq).push (by simp) _ _)
  have RA2 : Hid ((wq.alloc (.cells #[.int .i64 0, .int .i64 0, .int .i64 0] 42)).rangeAt g 10 e'.yw.toList) := Lib.hid (World.rangeAt_alloc RA.out _)
  have i34 := Lib.hid (show (Try.prog.info? 34).map (·.size) = some e'.yw.toList.length by kernel_rfl)
  go_wp2_with (with_reducible refine wpList_load_mid rfl 34 (.tmp 39) rfl g 10 rfl e'.yw.toList _ RA2.out Try.underlying34 rfl i34.out ?_)
  clear i34 RA2 RA
  go_loopw [41] (fun i wl => ∃ k : Nat, k ≤ 3 ∧ i = .int .i64 k ∧ Hid (aX wq [(42, Eb 0 0 0 z0 z1 z2 k)] wl)) (fun i _ => 3 - (intOf i).toNat)
  case atStart => exact ⟨0, by omega, rfl, NZ⟩
  case round =>
   clear NZ
   obtain ⟨k, hk, rfl, M⟩ := hrel
   obtain rfl | rfl | rfl | rfl : k = 3 ∨ k = 0 ∨ k = 1 ∨ k = 2 := by omega
   · obtain ⟨EE, hEE⟩ : ∃ E, E = e'.R.toList := ⟨_, rfl⟩
     obtain ⟨VV, hVV⟩ : ∃ E : List Value, E = [I z0, I z1, I z2] := ⟨_, rfl⟩
     have l29 : EE.length = 29 := by rw [hEE]; rfl
     have l3 : VV.length = 3 := by rw [hVV]; rfl
     have s29 : EE.toArray.size = 29 := by simp [l29]
     have s3 : VV.toArray.size = 3 := by simp [l3]
     have f1 : wr.rangeAt g 6 EE := by
      intro j v hv
      rw [hEE] at hv
      exact (Below.cell M.out.be (p := ⟨g, 6 + j, none⟩) RWH.out.lt).trans (RE.out j v hv)
     have f2 : wr.rangeAt wq.heap.size 0 VV := by rw [hVV]; exact Row.range M.out.r0 0 _ rfl
     have f3 : wr.there (w.heap.size + 1 + 1 + 1) 0 29 := Row.there (SK.out.1.below M.out.be SK.out.1.lt)
     have f4 : wr.there (w.heap.size + 1 + 1 + 1 + 1) 0 3 := Row.there (SK.out.2.1.below M.out.be SK.out.2.1.lt)
     have u37 := Try.underlying37
     have u42 := Try.underlying42
     have i37 : (Try.prog.info? 37).map (·.size) = some EE.length := by rw [l29]; kernel_rfl
     have i42 : (Try.prog.info? 42).map (·.size) = some VV.length := by rw [l3]; kernel_rfl
     have a29 : ∀ v ∈ EE, v.oneCell' = true := by rw [hEE]; exact row_one e'
     have a3 : ∀ v ∈ VV, v.oneCell' = true := by rw [hVV]; intro v hv; simp at hv; rcases hv with rfl | rfl | rfl <;> rfl
     have dj : g ≠ w.heap.size + 1 + 1 + 1 ∧ g ≠ w.heap.size + 1 + 1 + 1 + 1 ∧ wq.heap.size ≠ w.heap.size + 1 + 1 + 1 ∧ wq.heap.size ≠ w.heap.size + 1 + 1 + 1 + 1 := by
      have := SK.out.2.1.lt
      have := NG.out
      omega
     have HF := Lib.hid (And.intro f3 f4)
     have BW : Hid (Below w.heap.size w wr) := Lib.hid (SK.out.2.2.2.trans (M.out.be.mono SK.out.2.2.2.size))
     have OKR := Lib.hid ZA.out
     have MB := Lib.hid M.out.be
     clear M SK RE RWH ZA Xj HB0 HB1 HB2 HC0 HC1 HC2 IX0 IX1 IX2 QK
     go_wp2_with fail
     refine wp_region_held_drew (S := (fun w' => w'.rangeAt g 6 EE ∧ w'.rangeAt wq.heap.size 0 VV ∧ w'.there (w.heap.size + 1 + 1 + 1) 0 29 ∧ w'.there (w.heap.size + 1 + 1 + 1 + 1) 0 3)) (by kernel_rfl) (by simp only [World.rangeAt_drew, World.there_drew]; exact ⟨f1, f2, f3, f4⟩) (fun hHeld => ?_)
     refine wpAnyH_take (i := 0) (oi := _) (v := ?v0) rfl (by kernel_rfl) (by kernel_rfl) (by kernel_rfl) (fun _ _ _ h => h) (Or.inl ⟨by rfl, ?hy0⟩) (by assumption) ?_
     case hy0 =>
      intro w' hSw
      simp only [List.getElem_toArray, List.getElem_cons_succ, List.getElem_cons_zero]
      go_simp
      (try with_reducible rfl)
     change wpAnyH _ _ _ _ _ _ _ (Act.put _ (some 53) _) _
     simp only [Act.put, List.setIfInBounds_toArray, List.set_cons_zero, List.set_cons_succ]
     refine wpAnyH_take (i := 1) (oi := _) (v := ?v1) rfl (by kernel_rfl) (by kernel_rfl) (by kernel_rfl) (fun _ _ _ h => h) (Or.inl ⟨by rfl, ?hy1⟩) (by assumption) ?_
     case hy1 =>
      intro w' hSw
      simp only [List.getElem_toArray, List.getElem_cons_succ, List.getElem_cons_zero]
      go_simp
      (try with_reducible rfl)
     change wpAnyH _ _ _ _ _ _ _ (Act.put _ (some 54) _) _
     simp only [Act.put, List.setIfInBounds_toArray, List.set_cons_zero, List.set_cons_succ]
     refine wpAnyH_take (i := 2) (oi := _) (v := ?v2) rfl (by kernel_rfl) (by kernel_rfl) (by kernel_rfl) (fun _ _ _ h => h) (Or.inl ⟨by rfl, ?hy2⟩) (by assumption) ?_
     case hy2 =>
      intro w' hSw
      simp only [List.getElem_toArray, List.getElem_cons_succ, List.getElem_cons_zero]
      go_simp
      (try with_reducible rfl)
     change wpAnyH _ _ _ _ _ _ _ (Act.put _ (some 55) _) _
     simp only [Act.put, List.setIfInBounds_toArray, List.set_cons_zero, List.set_cons_succ]
     refine wpAnyH_take (i := 3) (oi := _) (v := .agg EE.toArray) rfl (by kernel_rfl) (by kernel_rfl) (by kernel_rfl) (fun _ _ _ h => h) (yieldsIf_load_mid (by rfl) 37 (.tmp 55) rfl g 6 rfl EE _ (fun _ h => h.1) u37 rfl i37) (by assumption) ?_
     change wpAnyH _ _ _ _ _ _ _ (Act.put _ (some 56) _) _
     simp only [Act.put, List.setIfInBounds_toArray, List.set_cons_zero, List.set_cons_succ]
     refine wpAnyH_take (i := 4) (oi := _) (v := .agg VV.toArray) rfl (by kernel_rfl) (by kernel_rfl) (by kernel_rfl) (fun _ _ _ h => h) (yieldsIf_load_mid (by rfl) 42 (.tmp 11) rfl wq.heap.size 0 rfl VV _ (fun _ h => h.2.1) u42 rfl i42) (by assumption) ?_
     change wpAnyH _ _ _ _ _ _ _ (Act.put _ (some 57) _) _
     simp only [Act.put, List.setIfInBounds_toArray, List.set_cons_zero, List.set_cons_succ]
     refine wpAnyH_ready (rs := [5]) (by kernel_rfl) (by simp) ?_
     refine AllReadyH.cons (o := _) rfl (fun K hK => ?_) AllReadyH.nil
     rw [if_pos (by rfl)]
     refine wp_store_mid 37 (.tmp 6) (.tmp 56) rfl (w.heap.size + 1 + 1 + 1) 0 EE.toArray rfl rfl (by rw [s29]; exact hHeld.2.2.1) (by rw [s29]; rw [l29] at i37; exact i37) (all_oneCell_toArray a29) ?_
     simp only [List.toList_toArray]
     refine hK.out _ _ ⟨World.rangeAt_setCells_apart hHeld.1 _ _ _ (.inl dj.1), World.rangeAt_setCells_apart hHeld.2.1 _ _ _ (.inl dj.2.2.1), World.there_setCells hHeld.2.2.1 _ _ _, World.there_setCells hHeld.2.2.2 _ _ _⟩ (fun hHeld => ?_)
     clear hK K
     try simp only [Act.put, List.setIfInBounds_toArray, List.set_cons_zero, List.set_cons_succ]
     refine wpAnyH_ready (rs := [6]) (by kernel_rfl) (by simp) ?_
     refine AllReadyH.cons (o := _) rfl (fun K hK => ?_) AllReadyH.nil
     rw [if_pos (by rfl)]
     refine wp_store_mid 42 (.tmp 7) (.tmp 57) rfl (w.heap.size + 1 + 1 + 1 + 1) 0 VV.toArray rfl rfl (by rw [s3]; exact hHeld.2.2.2) (by rw [s3]; rw [l3] at i42; exact i42) (all_oneCell_toArray a3) ?_
     simp only [List.toList_toArray]
     refine hK.out _ _ ⟨World.rangeAt_setCells_apart hHeld.1 _ _ _ (.inl dj.2.1), World.rangeAt_setCells_apart hHeld.2.1 _ _ _ (.inl dj.2.2.2), World.there_setCells hHeld.2.2.1 _ _ _, World.there_setCells hHeld.2.2.2 _ _ _⟩ (fun hHeld => ?_)
     clear hK K
     try simp only [Act.put, List.setIfInBounds_toArray, List.set_cons_zero, List.set_cons_succ]
     refine wpAnyH_done (by kernel_rfl) ?_ _
     go_wp2_with fail
     have BF : Hid (Below w.heap.size w ((wr.drew.setCells (w.heap.size + 1 + 1 + 1) 0 EE).setCells (w.heap.size + 1 + 1 + 1 + 1) 0 VV)) := Lib.hid (KK.eu _ _ _ (KK.eu _ _ _ (BW.out.drew) (by omega)) (by omega))
     refine bodyPost_ret (zT rfl _ _ (w.heap.size + 1 + 1 + 1) (w.heap.size + 1 + 1 + 1 + 1) EE VV _ _ rfl ?_ u37 rfl i37 rfl ?_ u42 rfl i42) rfl ?_
     · exact World.rangeAt_setCells_apart (World.rangeAt_setCells_same _ _ _ _ (by rw [l29]; simpa using f3)) _ _ _ (.inl (by omega))
     · exact World.rangeAt_setCells_same _ _ _ _ (by rw [l3]; exact World.there_setCells (by simpa using f4) _ _ _)
     · refine ⟨e', EH.out, ?_, fun j hj => (((OKR.out j hj).below MB.out.drew).cells (.inl GG.out.1)).cells (.inr GG.out.2), BF.out⟩
       rw [hEE, hVV, HZ.out.1, HZ.out.2.1, HZ.out.2.2]
       rfl
   · have c0 := Lib.hid ((Below.cell M.out.be (p := ⟨b0, o0, none⟩) HB0.out).trans HC0.out)
     have hlt := Nat.lt_of_lt_of_le HB0.out M.out.be.size
     have cc := c0.out
     have ix := IX0.out
     have MV := M.out.r0.cell
     have MF := M.out.r0.free
     have lV := M.out.r0.lt
     simp only [Eb] at MV
     go_wp2
     go_roundw
     case rel => exact ⟨0 + 1, by omega, by go_num, Lib.hid ((M.out.put 0 42 _ M.out.r0 0 (I z0)).alloc _)⟩
     case measure => simp [intOf]
   · have c1 := Lib.hid ((Below.cell M.out.be (p := ⟨b1, o1, none⟩) HB1.out).trans HC1.out)
     have hlt := Nat.lt_of_lt_of_le HB1.out M.out.be.size
     have cc := c1.out
     have ix := IX1.out
     have MV := M.out.r0.cell
     have MF := M.out.r0.free
     have lV := M.out.r0.lt
     simp only [Eb] at MV
     go_wp2
     go_roundw
     case rel => exact ⟨1 + 1, by omega, by go_num, Lib.hid ((M.out.put 0 42 _ M.out.r0 1 (I z1)).alloc _)⟩
     case measure => simp [intOf]
   · have c2 := Lib.hid ((Below.cell M.out.be (p := ⟨b2, o2, none⟩) HB2.out).trans HC2.out)
     have hlt := Nat.lt_of_lt_of_le HB2.out M.out.be.size
     have cc := c2.out
     have ix := IX2.out
     have MV := M.out.r0.cell
     have MF := M.out.r0.free
     have lV := M.out.r0.lt
     simp only [Eb] at MV
     go_wp2
     go_roundw
     case rel => exact ⟨2 + 1, by omega, by go_num, Lib.hid ((M.out.put 0 42 _ M.out.r0 2 (I z2)).alloc _)⟩
     case measure => simp [intOf]
end Go.Proofs.Ytnijhjbcjeohhaa.EE

namespace Go.Proofs.Ytnijhjbcjeohhaa.PQ
open Go.RowKit Go.Proofs.af.aO Go.Proofs.af.aU Go.Proofs.af.aV
set_option linter.unusedVariables false
set_option linter.unusedSimpArgs false
def Row (w : World) (B : Nat) (t : TypeId) (cs : Array Value) : Prop := w.heap[B]? = some (.cells cs t (0, 0))
section
variable {w w' : World} {B : Nat} {t : TypeId} {cs : Array Value}
theorem Row.cell (h : Row w B t cs) (i : Nat) : w.cell? ⟨B, i, none⟩ = cs[i]? := by unfold Row at h; simp [World.cell?, h]
theorem Row.free (h : Row w B t cs) (i : Nat) : w.frozen? ⟨B, i, none⟩ = false := by unfold Row at h; simp [World.frozen?, h]
theorem Row.lt (h : Row w B t cs) : B < w.heap.size := by
 rcases Nat.lt_or_ge B w.heap.size with hl | hl
 · exact hl
 · unfold Row at h; rw [Array.getElem?_eq_none hl] at h; cases h
theorem Row.new (w : World) (t : TypeId) (cs : Array Value) : Row (w.alloc (.cells cs t)) w.heap.size t cs := heap_alloc_new w _
theorem Row.alloc (h : Row w B t cs) (o : Obj) : Row (w.alloc o) B t cs := (Below.heap_alloc w o B h.lt).trans h
theorem Row.drew (h : Row w B t cs) : Row w.drew B t cs := h
theorem Row.below {n : Nat} (h : Row w B t cs) (hb : Below n w w') (hn : B < n) : Row w' B t cs := (hb.block B hn).trans h
theorem Row.set (h : Row w B t cs) (i : Nat) (u : Value) : Row (w.setCell ⟨B, i, none⟩ u) B t (cs.setIfInBounds i u) := by
 unfold Row at h ⊢
 simp [World.setCell, Array.getElem?_modify, h]
theorem Row.far (h : Row w B t cs) {p : Addr} (hp : B ≠ p.block) (u : Value) : Row (w.setCell p u) B t cs := (Below.heap_setCell w p u B hp).trans h
theorem Row.grown {r : Option Nat} (h : Row w B t cs) (hg : w.grownBy w' r) (hr : some B ≠ r) : Row w' B t cs := (hg.block B h.lt hr).trans h
end
theorem dA {w w1 : World} (hb : Below w.heap.size w w1) (r : Option Nat) : w.grownBy w1 r := ⟨hb.os, hb.tape, hb.output, hb.size, fun k hk _ => hb.block k hk⟩
theorem Dt {w w1 : World} {B : Nat} (h : w.grownBy w1 (some B)) (i : Nat) (u : Value) : w.grownBy (w1.setCell ⟨B, i, none⟩ u) (some B) :=
 ⟨h.os, h.tape, h.output, by simpa using h.size, fun k hk hr => (Below.heap_setCell w1 ⟨B, i, none⟩ u k (fun e => hr (by rw [e]))).trans (h.block k hk hr)⟩
theorem bG {w w1 w2 : World} {r : Option Nat} (h : w.grownBy w1 r) (h' : w1.grownBy w2 r) : w.grownBy w2 r :=
 ⟨h'.os.trans h.os, h'.tape.trans h.tape, h'.output.trans h.output, Nat.le_trans h.size h'.size, fun k hk hr => (h'.block k (Nat.lt_of_lt_of_le hk h.size) hr).trans (h.block k hk hr)⟩
abbrev Flag (w : World) (F : Nat) (b : Bool) : Prop := Row w F 136 #[.bool b]
def uM (w : World) (F : Nat) (v : Value) (b : Bool) (e : Ending) (w' : World) : Prop := e = .returned v ∧ w.grownBy w' (some F) ∧ Flag w' F b
theorem dK (F : Nat) (f b : Bool) (a : Int) (w : World) (hf : Flag w F f) : Calls Try.prog 85 #[.pointer (some ⟨F, 0, none⟩), .int .i64 a, .bool b] w (uM w F (.int .i64 a) (f || b)) := by
 have hc := hf.cell 0
 have hz := hf.free 0
 have HF := Lib.hid hf
 clear hf
 cases f
 · go_enter Try.func85, Try.ntmps85
   go_wp2
   go_ret
   exact ⟨rfl, Dt (World.grownBy.refl w _) 0 _, by simpa using HF.out.set 0 (.bool b)⟩
 · go_enter Try.func85, Try.ntmps85
   go_wp2
   go_ret
   exact ⟨rfl, Dt (World.grownBy.refl w _) 0 _, by simpa using HF.out.set 0 (.bool true)⟩
def Kv (a b : Int) : Int := cl (cl a + cl b)
def Kw (a b : Int) : Bool := (od a || od b) || od (cl a + cl b)
def pF (a b : Int) : Int := cl (cl a - cl b)
def VA (a b : Int) : Bool := (od a || od b) || od (cl a - cl b)
def mulR (a b : Int) : Int × Bool := flag (od a || od b) (sg (sz (cl a) * sz (cl b) / 309485009821345068724781056) (lw (sz (cl a) * sz (cl b))) ((decide (cl a < 0)) != (decide (cl b < 0))))
def jB (a b : Int) : Int := (mulR a b).1
def pG (a b : Int) : Bool := (mulR a b).2
def divV (a b : Int) : Int := (yF a b).1
def divO (a b : Int) : Bool := (yF a b).2
def Both (w : World) (v : Int) (o : Bool) (e : Ending) (w' : World) : Prop := e = .returned (.tuple #[.int .i64 v, .bool o]) ∧ Below w.heap.size w w'
theorem nS (a b : Int) (w : World) : Calls Try.prog 69 #[.int .i64 a, .int .i64 b] w (Both w (Kv a b) (Kw a b)) := p_.calls a b _ _ w (Vd a b)
theorem pW (a b : Int) (w : World) : Calls Try.prog 66 #[.int .i64 a, .int .i64 b] w (Both w (pF a b) (VA a b)) := pX.calls a b _ _ w (UK a b)
theorem fH (a b : Int) (w : World) : Calls Try.prog 67 #[.int .i64 a, .int .i64 b] w (Both w (jB a b) (pG a b)) := pY.calls a b _ _ w (UN a b)
theorem uF (a b : Int) (w : World) : Calls Try.prog 93 #[.int .i64 a, .int .i64 b] w (Both w (divV a b) (divO a b)) := by
 obtain ⟨k, h⟩ := (U9 a b).rounds
 exact lu.calls k a b _ _ w h
theorem Au (F : Nat) (f : Bool) (a : Int) (w : World) (hf : Flag w F f) : Calls Try.prog 88 #[.pointer (some ⟨F, 0, none⟩), .int .i64 a] w (uM w F (.int .i64 (pF 0 a)) (f || VA 0 a)) := by
 have hl := hf.lt
 have HF := Lib.hid hf
 clear hf
 go_enter Try.func88, Try.ntmps88
 go_wp2_with fail
 refine (pW _ _ _).mono ?_
 rintro e w1 ⟨rfl, hb⟩
 have H1 := Lib.hid (HF.out.below hb hl)
 have HB := Lib.hid hb
 clear hb
 go_wp2_with fail
 refine (dK F f _ _ _ H1.out).mono ?_
 rintro e w2 ⟨rfl, hg, hf2⟩
 have HG := Lib.hid (bG (dA HB.out _) hg)
 have H2 := Lib.hid hf2
 clear hg hf2
 go_wp2
 go_ret
 exact ⟨rfl, HG.out, H2.out⟩
def at3 (x y z : Int) : Nat → Int
 | 0 => x
 | 1 => y
 | _ => z
theorem QS {w : World} {B T : Nat} {x y z : Int} (h : Row w B T #[.int .i64 x, .int .i64 y, .int .i64 z]) (k : Nat) (hk : k < 3) : w.cell? ⟨B, k, none⟩ = some (.int .i64 (at3 x y z k)) := by
 rw [h.cell]
 obtain rfl | rfl | rfl : k = 0 ∨ k = 1 ∨ k = 2 := by omega
 all_goals rfl
def rZ (e : Nat → Int) (a : Int) : Nat → Int
 | 0 => a
 | k + 1 => Kv (rZ e a k) (e k)
def CB (e : Nat → Int) (f : Bool) (a : Int) : Nat → Bool
 | 0 => f
 | k + 1 => CB e f a k || Kw (rZ e a k) (e k)
theorem pV (F B c T : Nat) (f : Bool) (a x y z : Int) (w : World) (hf : Flag w F f) (hr : Row w B T #[.int .i64 x, .int .i64 y, .int .i64 z]) (hne : B ≠ F) :
 Calls Try.prog 90 #[.pointer (some ⟨F, 0, none⟩), .int .i64 a, .slice (some ⟨B, 0, none⟩) 3 c] w (uM w F (.int .i64 (rZ (at3 x y z) a 3)) (CB (at3 x y z) f a 3)) := by
 have HF := Lib.hid hf
 have HR := Lib.hid hr
 have HN := Lib.hid hne
 clear hf hr hne
 go_enter Try.func90, Try.ntmps90
 go_wp2
 go_loopw [1, 11] (fun s i wr => ∃ k : Nat, k ≤ 3 ∧ i = .int .i64 k ∧ s = .int .i64 (rZ (at3 x y z) a k) ∧ Hid (Flag wr F (CB (at3 x y z) f a k)) ∧ Hid (Row wr B T #[.int .i64 x, .int .i64 y, .int .i64 z]) ∧ Hid (w.grownBy wr (some F))) (fun _ i _ => 3 - (intOf i).toNat)
 case atStart => exact ⟨0, by omega, rfl, rfl, HF, HR, Lib.hid (World.grownBy.refl w _)⟩
 case round =>
  obtain ⟨k, hk, rfl, rfl, H1, H2, H3⟩ := hrel
  by_cases hlt : k < 3
  · have hc := QS H2.out k hlt
    go_wp2_with fail
    refine (nS _ _ _).mono ?_
    rintro e w1 ⟨rfl, hb⟩
    have H4 := Lib.hid (H1.out.below hb H1.out.lt)
    have H5 := Lib.hid (H2.out.below hb H2.out.lt)
    have HB := Lib.hid hb
    clear hb hc
    go_wp2_with fail
    refine (dK F _ _ _ _ H4.out).mono ?_
    rintro e w2 ⟨rfl, hg, hf2⟩
    have H6 := Lib.hid (H5.out.grown hg (by simpa using HN.out))
    have H7 := Lib.hid (bG (bG H3.out (dA HB.out _)) hg)
    have H8 := Lib.hid hf2
    clear hg hf2
    go_wp2
    go_roundw
    case rel => exact ⟨k + 1, by omega, by go_num, rfl, H8, H6, H7⟩
    case measure => simp [intOf]; omega
  · have hk3 : 3 ≤ k := by omega
    go_wp2
    go_ret
    obtain rfl : k = 3 := by omega
    exact ⟨rfl, H3.out, H1.out⟩
end Go.Proofs.Ytnijhjbcjeohhaa.PQ

namespace Go.Proofs.Ytnijhjbcjeohhaa.PQ
open Go.RowKit
def sF (P : Program) : List Oper → Act → World → Result Act
 | [], a, w => .ok a w
 | o :: rest, a, w => match (execOp a.eval o).run P w with
   | .ok (.value v) w' => sF P rest (a.put o.dst v) w'
   | .ok .skip w' => sF P rest (a.put o.dst undef) w'
   | .ok _ w' => .halt (.stuck "no value") w'
   | .halt h w' => .halt h w'
theorem mD {P : Program} {ops : Array Oper} {Q : Exit → Act → World → Prop} {rest : List Oper} : ∀ (l : List Oper) (a a' : Act) (w w' : World), (l.all fun o => o.guard.isNone) = true → sF P l a w = .ok a' w' →
 wpList P ops Q rest a' w' → wpList P ops Q (l ++ rest) a w
 | [], a, a', w, w', _, h, hq => by
   simp only [sF] at h
   injection h with h1 h2
   subst h1 h2
   exact hq
 | o :: l, a, a', w, w', hg, h, hq => by
   simp only [List.all_cons, Bool.and_eq_true] at hg
   have hgo : o.guard = none := by simpa using hg.1
   refine wpList_plain hgo fun K hK => ?_
   unfold sF at h
   unfold Oper.wp
   generalize (execOp a.eval o).run P w = r at *
   cases r with
   | halt x w1 => cases h
   | ok n w1 =>
     cases n <;> try cases h
     · exact hK _ _ (mD l _ _ _ _ hg.2 h hq)
     · exact hK _ _ (mD l _ _ _ _ hg.2 h hq)
def rY : Array Value := #[.int .i64 0, .int .i64 0, .int .i64 1, .int .i64 1, .int .i64 1, .int .i64 (-1), .int .i64 2, .int .i64 2, .int .i64 (-1), .int .i64 3, .int .i64 3, .int .i64 (-1),
 .int .i64 0, .int .i64 1, .int .i64 1, .int .i64 1, .int .i64 0, .int .i64 1, .int .i64 2, .int .i64 3, .int .i64 1, .int .i64 3, .int .i64 2, .int .i64 (-1),
 .int .i64 0, .int .i64 2, .int .i64 1, .int .i64 1, .int .i64 3, .int .i64 (-1), .int .i64 2, .int .i64 0, .int .i64 1, .int .i64 3, .int .i64 1, .int .i64 1,
 .int .i64 0, .int .i64 3, .int .i64 1, .int .i64 1, .int .i64 2, .int .i64 1, .int .i64 2, .int .i64 1, .int .i64 (-1), .int .i64 3, .int .i64 0, .int .i64 1]
def got : Result Act → Act
 | .ok a _ => a
 | .halt _ _ => { tmps := #[], defers := [] }
theorem Ci {P : Program} {ops : Array Oper} {Q : Exit → Act → World → Prop} (n : Nat) {l : List Oper} {a : Act} {w : World} (hg : ((l.take n).all fun o => o.guard.isNone) = true)
 (h : sF P (l.take n) a w = .ok (got (sF P (l.take n) a default)) w) (hq : wpList P ops Q (l.drop n) (got (sF P (l.take n) a default)) w) : wpList P ops Q l a w := by
 have := mD (rest := l.drop n) (l.take n) _ _ _ _ hg h hq
 rwa [List.take_append_drop] at this
theorem xE {P : Program} {ops : Array Oper} {Q : Exit → Act → World → Prop} {rest : List Oper} {o : Oper} {a : Act} {w : World} (hg : o.guard = none) (t : TypeId) (x y : Operand) (c c' : Array Value) (ho : o.op = .store t x y)
 (hx : a.eval x = .pointer (some ⟨w.heap.size, 0, none⟩)) (hy : a.eval y = .agg c') (hi : (P.info? t).map (·.size) = some c'.size) (hs : c.size = c'.size) (h1 : c'.all (·.oneCell') = true)
 (h : wpList P ops Q rest (a.put o.dst undef) (w.alloc (.cells c' t))) : wpList P ops Q (o :: rest) a (w.alloc (.cells c t)) := by
 refine wpList_plain hg fun K hK => ?_
 unfold Oper.wp execOp
 simp only [ho, hx, hy, Sem.run_bind, run_storeAt_new w t c c' hi hs h1, Result.andThen, Sem.run_pure]
 exact hK _ _ h
theorem Gt (w : World) : Calls Try.prog 89 #[] w fun e w' => e = .returned (.agg rY) ∧ Below w.heap.size w w' := by
 refine calls_of_wp Try.func89 rfl ?_
 refine wp_seq ?_
 refine wp_region_lit ?_
 refine mD (rest := []) [_] _ { tmps := #[.pointer (some ⟨w.heap.size, 0, none⟩)] ++ Array.replicate 21 undef, defers := [] } _ (w.alloc (.cells (Array.replicate 48 (.int .i64 0)) 143)) rfl (by kernel_rfl) ?_
 refine wpList_nil ?_
 simp only [Exit.then]
 refine wp_seq ?_
 refine wp_region_lit ?_
 refine Ci 21 (by kernel_rfl) (by kernel_rfl) ?_
 refine xE rfl 143 (.tmp 0) (.tmp 21) _ rY rfl (by kernel_rfl) (by kernel_rfl) (by kernel_rfl) (by kernel_rfl) (by kernel_rfl) ?_
 refine wpList_nil ?_
 simp only [Exit.then]
 refine wp_ret ?_
 refine bodyPost_ret (v := .agg rY) (results_cell_row (p := 0) (ty := 143) rfl _ _ w.heap.size 143 rY (0, 0) _ (by kernel_rfl) (heap_alloc_last _ _) Try.underlying143 rfl (by kernel_rfl)) (by kernel_rfl) ⟨rfl, (Below.refl _ _).alloc (Nat.le_refl _) _⟩
end Go.Proofs.Ytnijhjbcjeohhaa.PQ

namespace Go.Proofs.Ytnijhjbcjeohhaa.PQ
open Go.RowKit Go.Proofs.af.aO Go.Proofs.af.aU Go.Proofs.af.aV
set_option linter.unusedVariables false
set_option linter.unusedSimpArgs false
abbrev qm (w : World) (B : Nat) (p : Nat → Int) : Prop := Row w B 28 #[.int .i64 (p 0), .int .i64 (p 1), .int .i64 (p 2), .int .i64 (p 3)]
theorem qm.at_ {w : World} {B : Nat} {p : Nat → Int} (h : qm w B p) (k : Nat) (hk : k < 4) : w.cell? ⟨B, k, none⟩ = some (.int .i64 (p k)) := by
 rw [h.cell]
 obtain rfl | rfl | rfl | rfl : k = 0 ∨ k = 1 ∨ k = 2 ∨ k = 3 := by omega
 all_goals rfl
def rV (p q : Nat → Int) (i j : Nat) (s : Int) : Int := if s < 0 then pF 0 (jB (p i) (q j)) else jB (p i) (q j)
def pU (p q : Nat → Int) (i j : Nat) (s : Int) (f : Bool) : Bool := if s < 0 then (f || pG (p i) (q j)) || VA 0 (jB (p i) (q j)) else f || pG (p i) (q j)
theorem Pv {w w1 : World} {F A B : Nat} {f : Bool} {p q : Nat → Int} {cs : Array Value} (hf : Flag w F f) (hp : qm w A p) (hq : qm w B q)
 (hb : Below ((w.alloc (.cells cs 139)).drew).heap.size ((w.alloc (.cells cs 139)).drew) w1) : Flag w1 F f ∧ qm w1 A p ∧ qm w1 B q ∧ Row w1 w.heap.size 139 cs ∧ Below w.heap.size w w1 := by
 have e : ((w.alloc (.cells cs 139)).drew).heap.size = w.heap.size + 1 := by simp
 rw [e] at hb
 have l1 := hf.lt
 have l2 := hp.lt
 have l3 := hq.lt
 exact ⟨((hf.alloc _).drew).below hb (by omega), ((hp.alloc _).drew).below hb (by omega), ((hq.alloc _).drew).below hb (by omega), ((Row.new w 139 cs).drew).below hb (by omega),
  (((Below.refl w.heap.size w).alloc (Nat.le_refl _) _).drew).trans (hb.mono (by omega))⟩
theorem Pq {w w1 w2 : World} {F A B X : Nat} {p q : Nat → Int} {cs : Array Value} (hp : qm w1 A p) (hq : qm w1 B q) (hX : Row w1 X 139 cs) (hB : Below w.heap.size w w1) (hg : w1.grownBy w2 (some F)) (nA : A ≠ F) (nB : B ≠ F) (nX : X ≠ F) :
 qm w2 A p ∧ qm w2 B q ∧ Row w2 X 139 cs ∧ w.grownBy w2 (some F) :=
 ⟨hp.grown hg (by simpa using nA), hq.grown hg (by simpa using nB), hX.grown hg (by simpa using nX), bG (dA hB _) hg⟩
theorem Je (F A B i j : Nat) (s : Int) (f : Bool) (p q : Nat → Int) (w : World) (hi : i < 4) (hj : j < 4) (hf : Flag w F f) (hp : qm w A p) (hq : qm w B q) (hA : A ≠ F) (hB : B ≠ F) :
 Calls Try.prog 87 #[.agg #[.int .i64 i, .int .i64 j, .int .i64 s], .pointer (some ⟨F, 0, none⟩), .pointer (some ⟨A, 0, none⟩), .pointer (some ⟨B, 0, none⟩)] w
  (uM w F (.int .i64 (rV p q i j s)) (pU p q i j s f)) := by
 have ci := hp.at_ i hi
 have cj := hq.at_ j hj
 have lF := hf.lt
 have lA := hp.lt
 have lB := hq.lt
 have HF := Lib.hid hf
 have HP := Lib.hid hp
 have HQ := Lib.hid hq
 have HA := Lib.hid hA
 have HB := Lib.hid hB
 clear hf hp hq hA hB
 have HX := Lib.hid (show w.heap.size ≠ F by omega)
 have i0 : (0 : Int) ≤ (i : Int) := Int.natCast_nonneg _
 have i1 : (i : Int) < 4 := by omega
 have j0 : (0 : Int) ≤ (j : Int) := Int.natCast_nonneg _
 have j1 : (j : Int) < 4 := by omega
 go_enter Try.func87, Try.ntmps87
 go_wp2_with fail
 go_region_held3 (fun w' => w'.cell? ⟨w.heap.size, 0, none⟩ = some (.int .i64 i) ∧ w'.cell? ⟨w.heap.size, 1, none⟩ = some (.int .i64 j) ∧ w'.cell? ⟨A, i, none⟩ = some (.int .i64 (p i)) ∧ w'.cell? ⟨B, j, none⟩ = some (.int .i64 (q j))) (go_keep)
  (first
    | (go_at_call 67
       refine (fH _ _ _).mono ?_
       rintro e w1 ⟨rfl, hb⟩
       obtain ⟨h1, h2, h3, h4, h5⟩ := Pv HF.out HP.out HQ.out hb
       have ca1 := h2.at_ i hi
       have cb1 := h3.at_ j hj
       have ah9 := h4.cell 0
       have ah8 := h4.cell 1
       have H1 := Lib.hid h1
       have H2 := Lib.hid h2
       have H3 := Lib.hid h3
       have H4 := Lib.hid h4
       have H5 := Lib.hid h5
       clear hb h1 h2 h3 h4 h5)
    | (go_at_call 85
       refine (dK F f _ _ _ H1.out).mono ?_
       rintro e w2 ⟨rfl, hg, hf2⟩
       obtain ⟨h2, h3, h4, h5⟩ := Pq H2.out H3.out H4.out H5.out hg HA.out HB.out HX.out
       have ca2 := h2.at_ i hi
       have cb2 := h3.at_ j hj
       have ah7 := h4.cell 0
       have ah6 := h4.cell 1
       have ah5 := h4.cell 2
       have J1 := Lib.hid hf2
       have J5 := Lib.hid h5
       clear hg hf2 h2 h3 h4 h5))
 all_goals
  by_cases hs : s < 0
  · have hs' : decide (s < 0) = true := decide_eq_true hs
    go_wp2_with fail
    refine (Au F _ _ _ J1.out).mono ?_
    rintro e w3 ⟨rfl, hg3, hf3⟩
    have G3 := Lib.hid (bG J5.out hg3)
    have F3 := Lib.hid hf3
    clear hg3 hf3
    go_wp2
    go_ret
    exact ⟨by simp [rV, hs], G3.out, by simpa [pU, hs] using F3.out⟩
  · have hs' : decide (s < 0) = false := decide_eq_false hs
    go_wp2
    go_ret
    have e1 : rV p q i j s = jB (p i) (q j) := if_neg (by omega)
    have e2 : pU p q i j s f = (f || pG (p i) (q j)) := if_neg (by omega)
    exact ⟨by simp [e1], J5.out, by rw [e2]; exact J1.out⟩
end Go.Proofs.Ytnijhjbcjeohhaa.PQ

namespace Go.Proofs.Ytnijhjbcjeohhaa.PQ
open Go.RowKit Go.Proofs.af.aO Go.Proofs.af.aU Go.Proofs.af.aV
set_option linter.unusedVariables false
set_option linter.unusedSimpArgs false
structure MS (w0 : World) (p q : Nat → Int) (f : Bool) (out : Array Value) (w : World) : Prop where
 rp : qm w w0.heap.size p
 rq : qm w (w0.heap.size + 1) q
 rr : Row w (w0.heap.size + 1 + 1) 28 #[.int .i64 0, .int .i64 0, .int .i64 0, .int .i64 0]
 fl : Flag w (w0.heap.size + 1 + 1 + 1) f
 ou : Row w (w0.heap.size + 1 + 1 + 1 + 1) 28 out
 be : Below w0.heap.size w0 w
section
variable {w0 w w' : World} {p q : Nat → Int} {f f' : Bool} {out : Array Value}
theorem MS.below (h : MS w0 p q f out w) (hb : Below w.heap.size w w') : MS w0 p q f out w' :=
 ⟨h.rp.below hb h.rp.lt, h.rq.below hb h.rq.lt, h.rr.below hb h.rr.lt, h.fl.below hb h.fl.lt, h.ou.below hb h.ou.lt, h.be.trans (hb.mono h.be.size)⟩
theorem MS.alloc (h : MS w0 p q f out w) (o : Obj) : MS w0 p q f out (w.alloc o) :=
 ⟨h.rp.alloc o, h.rq.alloc o, h.rr.alloc o, h.fl.alloc o, h.ou.alloc o, h.be.alloc h.be.size o⟩
theorem MS.drew (h : MS w0 p q f out w) : MS w0 p q f out w.drew := ⟨h.rp, h.rq, h.rr, h.fl, h.ou, h.be.drew⟩
theorem MS.oW (h : MS w0 p q f out w) (hg : w.grownBy w' (some (w0.heap.size + 1 + 1 + 1))) (hf : Flag w' (w0.heap.size + 1 + 1 + 1) f') : MS w0 p q f' out w' :=
 ⟨h.rp.grown hg (by (try simp); (try omega)), h.rq.grown hg (by (try simp); (try omega)), h.rr.grown hg (by (try simp); (try omega)), hf, h.ou.grown hg (by (try simp); (try omega)),
   ⟨hg.os.trans h.be.os, hg.tape.trans h.be.tape, hg.output.trans h.be.output, Nat.le_trans h.be.size hg.size, fun k hk => (hg.block k (Nat.lt_of_lt_of_le hk h.be.size) (by (try simp); (try omega))).trans (h.be.block k hk)⟩⟩
theorem MS.put (h : MS w0 p q f out w) (i : Nat) (u : Value) : MS w0 p q f (out.setIfInBounds i u) (w.setCell ⟨w0.heap.size + 1 + 1 + 1 + 1, i, none⟩ u) :=
 ⟨h.rp.far (by (try simp); (try omega)) u, h.rq.far (by (try simp); (try omega)) u, h.rr.far (by (try simp); (try omega)) u, h.fl.far (by (try simp); (try omega)) u, h.ou.set i u, h.be.setCell (by (try simp); (try omega)) u⟩
end
theorem Row.at_ (w : World) (t : TypeId) (cs : Array Value) {B : Nat} (h : B = w.heap.size) : Row (w.alloc (.cells cs t)) B t cs := h ▸ Row.new w t cs
theorem v_ (a b s : Int) (F A B : Nat) (f : Bool) (p q : Nat → Int) (w : World) (ha : 0 ≤ a ∧ a < 4) (hb : 0 ≤ b ∧ b < 4) (hf : Flag w F f) (hp : qm w A p) (hq : qm w B q) (hA : A ≠ F) (hB : B ≠ F) :
 Calls Try.prog 87 #[.agg #[.int .i64 a, .int .i64 b, .int .i64 s], .pointer (some ⟨F, 0, none⟩), .pointer (some ⟨A, 0, none⟩), .pointer (some ⟨B, 0, none⟩)] w
  (uM w F (.int .i64 (rV p q a.toNat b.toNat s)) (pU p q a.toNat b.toNat s f)) := by
 have h := Je F A B a.toNat b.toNat s f p q w (by omega) (by omega) hf hp hq hA hB
 rwa [Int.toNat_of_nonneg ha.1, Int.toNat_of_nonneg hb.1] at h
def comp (p q : Nat → Int) : Nat → Int
 | 0 => rZ (at3 (rV p q 1 1 (-1)) (rV p q 2 2 (-1)) (rV p q 3 3 (-1))) (rV p q 0 0 1) 3
 | 1 => rZ (at3 (rV p q 1 0 1) (rV p q 2 3 1) (rV p q 3 2 (-1))) (rV p q 0 1 1) 3
 | 2 => rZ (at3 (rV p q 1 3 (-1)) (rV p q 2 0 1) (rV p q 3 1 1)) (rV p q 0 2 1) 3
 | _ => rZ (at3 (rV p q 1 2 1) (rV p q 2 1 (-1)) (rV p q 3 0 1)) (rV p q 0 3 1) 3
def YT (p q : Nat → Int) (f : Bool) : Nat → Bool
 | 0 => CB (at3 (rV p q 1 1 (-1)) (rV p q 2 2 (-1)) (rV p q 3 3 (-1))) (pU p q 3 3 (-1) (pU p q 2 2 (-1) (pU p q 1 1 (-1) (pU p q 0 0 1 f)))) (rV p q 0 0 1) 3
 | 1 => CB (at3 (rV p q 1 0 1) (rV p q 2 3 1) (rV p q 3 2 (-1))) (pU p q 3 2 (-1) (pU p q 2 3 1 (pU p q 1 0 1 (pU p q 0 1 1 f)))) (rV p q 0 1 1) 3
 | 2 => CB (at3 (rV p q 1 3 (-1)) (rV p q 2 0 1) (rV p q 3 1 1)) (pU p q 3 1 1 (pU p q 2 0 1 (pU p q 1 3 (-1) (pU p q 0 2 1 f)))) (rV p q 0 2 1) 3
 | _ => CB (at3 (rV p q 1 2 1) (rV p q 2 1 (-1)) (rV p q 3 0 1)) (pU p q 3 0 1 (pU p q 2 1 (-1) (pU p q 1 2 1 (pU p q 0 3 1 f)))) (rV p q 0 3 1) 3
def vC (p q : Nat → Int) : Nat → Bool
 | 0 => false
 | k + 1 => YT p q (vC p q k) k
def RY (p q : Nat → Int) : Nat → Array Value
 | 0 => #[.int .i64 0, .int .i64 0, .int .i64 0, .int .i64 0]
 | k + 1 => (RY p q k).setIfInBounds k (.int .i64 (comp p q k))
theorem ix0 (w : World) : (Instr.index 143 (.agg rY) (.int .i64 0)).run Try.prog w = .ok (.agg #[.int .i64 0, .int .i64 0, .int .i64 1, .int .i64 1, .int .i64 1, .int .i64 (-1), .int .i64 2, .int .i64 2, .int .i64 (-1), .int .i64 3, .int .i64 3, .int .i64 (-1)]) w := by kernel_rfl
theorem ix1 (w : World) : (Instr.index 143 (.agg rY) (.int .i64 1)).run Try.prog w = .ok (.agg #[.int .i64 0, .int .i64 1, .int .i64 1, .int .i64 1, .int .i64 0, .int .i64 1, .int .i64 2, .int .i64 3, .int .i64 1, .int .i64 3, .int .i64 2, .int .i64 (-1)]) w := by kernel_rfl
theorem ix2 (w : World) : (Instr.index 143 (.agg rY) (.int .i64 2)).run Try.prog w = .ok (.agg #[.int .i64 0, .int .i64 2, .int .i64 1, .int .i64 1, .int .i64 3, .int .i64 (-1), .int .i64 2, .int .i64 0, .int .i64 1, .int .i64 3, .int .i64 1, .int .i64 1]) w := by kernel_rfl
theorem ix3 (w : World) : (Instr.index 143 (.agg rY) (.int .i64 3)).run Try.prog w = .ok (.agg #[.int .i64 0, .int .i64 3, .int .i64 1, .int .i64 1, .int .i64 2, .int .i64 1, .int .i64 2, .int .i64 1, .int .i64 (-1), .int .i64 3, .int .i64 0, .int .i64 1]) w := by kernel_rfl
theorem Dp (p q : Nat → Int) (w : World) :
 Calls Try.prog 61 #[.agg #[.int .i64 (p 0), .int .i64 (p 1), .int .i64 (p 2), .int .i64 (p 3)], .agg #[.int .i64 (q 0), .int .i64 (q 1), .int .i64 (q 2), .int .i64 (q 3)]] w fun e w' =>
  e = .returned (.tuple #[.agg (RY p q 4), .bool (vC p q 4)]) ∧ Below w.heap.size w w' := by
 go_enter Try.func61, Try.ntmps61
 go_wp2_with fail
 refine (Gt _).mono ?_
 rintro e w1 ⟨rfl, hb⟩
 have M : Hid (MS w p q false (RY p q 0) w1) := by
  refine Lib.hid (MS.below ⟨?_, ?_, ?_, ?_, ?_, ?_⟩ hb)
  · exact ((((Row.new w 28 _).alloc _).alloc _).alloc _).alloc _
  · exact (((Row.at_ (w.alloc _) 28 _ (by simp)).alloc _).alloc _).alloc _
  · exact ((Row.at_ ((w.alloc _).alloc _) 28 _ (by simp)).alloc _).alloc _
  · exact (Row.at_ (((w.alloc _).alloc _).alloc _) 136 _ (by simp)).alloc _
  · exact Row.at_ ((((w.alloc _).alloc _).alloc _).alloc _) 28 _ (by simp)
  · exact (((((Below.refl _ w).alloc (by simp) _).alloc (by simp) _).alloc (by simp; omega) _).alloc (by simp; omega) _).alloc (by simp; omega) _
 clear hb
 go_wp2_with fail
 go_loopw [13] (fun i wr => ∃ k : Nat, k ≤ 4 ∧ i = .int .i64 k ∧ Hid (MS w p q (vC p q k) (RY p q k) wr)) (fun i _ => 4 - (intOf i).toNat)
 case atStart => exact ⟨0, by omega, rfl, M⟩
 case round =>
  clear M
  obtain ⟨k, hk, rfl, M⟩ := hrel
  obtain rfl | rfl | rfl | rfl | rfl : k = 0 ∨ k = 1 ∨ k = 2 ∨ k = 3 ∨ k = 4 := by omega
  · have ixk := ix0
    go_wp2_with fail
    have lw := M.out.ou.lt
    have X : Hid (Row (wr.alloc (.cells #[.int .i64 0, .int .i64 0, .int .i64 1, .int .i64 1, .int .i64 1, .int .i64 (-1), .int .i64 2, .int .i64 2, .int .i64 (-1), .int .i64 3, .int .i64 3, .int .i64 (-1)] 142)).drew wr.heap.size 142 #[.int .i64 0, .int .i64 0, .int .i64 1, .int .i64 1, .int .i64 1, .int .i64 (-1), .int .i64 2, .int .i64 2, .int .i64 (-1), .int .i64 3, .int .i64 3, .int .i64 (-1)]) := Lib.hid (Row.new wr 142 _).drew
    have M' := Lib.hid (M.out.alloc (.cells #[.int .i64 0, .int .i64 0, .int .i64 1, .int .i64 1, .int .i64 1, .int .i64 (-1), .int .i64 2, .int .i64 2, .int .i64 (-1), .int .i64 3, .int .i64 3, .int .i64 (-1)] 142)).drew
    clear M
    have M := M'
    clear M'
    go_region_held3 (fun w' => ∀ o, w'.cell? ⟨wr.heap.size, o, none⟩ = (#[.int .i64 0, .int .i64 0, .int .i64 1, .int .i64 1, .int .i64 1, .int .i64 (-1), .int .i64 2, .int .i64 2, .int .i64 (-1), .int .i64 3, .int .i64 3, .int .i64 (-1)] : Array Value)[o]?) (first | exact X.out.cell | exact (X.out.alloc _).cell | exact (X.out.far (p := ⟨w.heap.size + 1 + 1 + 1 + 1, _, none⟩) (by show wr.heap.size ≠ w.heap.size + 1 + 1 + 1 + 1; omega) _).cell | go_keep)
     (first
       | (go_at_call 87
          refine (v_ _ _ _ _ _ _ _ p q _ (by omega) (by omega) (by exact M.out.fl) (by exact M.out.rp) (by exact M.out.rq) (by omega) (by omega)).mono ?_
          rintro e wn ⟨rfl, hg, hf⟩
          have M' := Lib.hid (M.out.oW hg hf)
          have X' := Lib.hid (X.out.grown hg (by simp; omega))
          clear M X hg hf
          have M := M'
          have X := X'
          clear M' X')
       | (go_at_call 90
          refine (pV _ _ _ _ _ _ _ _ _ _ (by exact (M.out.alloc _).fl) (Row.new _ _ _) (by have := M.out.fl.lt; omega)).mono ?_
          rintro e wn ⟨rfl, hg, hf⟩
          have M' := Lib.hid ((M.out.alloc _).oW hg hf)
          have X' := Lib.hid ((X.out.alloc _).grown hg (by simp; omega))
          have co := M'.out.ou.cell 0
          have fo := M'.out.ou.free 0
          clear M X hg hf
          have M := M'
          have X := X'
          clear M' X'))
    go_wp2
    go_roundw
    case rel => exact ⟨1, by omega, by go_num, Lib.hid (M.out.put 0 _)⟩
    case measure => simp [intOf]
  · have ixk := ix1
    go_wp2_with fail
    have lw := M.out.ou.lt
    have X : Hid (Row (wr.alloc (.cells #[.int .i64 0, .int .i64 1, .int .i64 1, .int .i64 1, .int .i64 0, .int .i64 1, .int .i64 2, .int .i64 3, .int .i64 1, .int .i64 3, .int .i64 2, .int .i64 (-1)] 142)).drew wr.heap.size 142 #[.int .i64 0, .int .i64 1, .int .i64 1, .int .i64 1, .int .i64 0, .int .i64 1, .int .i64 2, .int .i64 3, .int .i64 1, .int .i64 3, .int .i64 2, .int .i64 (-1)]) := Lib.hid (Row.new wr 142 _).drew
    have M' := Lib.hid (M.out.alloc (.cells #[.int .i64 0, .int .i64 1, .int .i64 1, .int .i64 1, .int .i64 0, .int .i64 1, .int .i64 2, .int .i64 3, .int .i64 1, .int .i64 3, .int .i64 2, .int .i64 (-1)] 142)).drew
    clear M
    have M := M'
    clear M'
    go_region_held3 (fun w' => ∀ o, w'.cell? ⟨wr.heap.size, o, none⟩ = (#[.int .i64 0, .int .i64 1, .int .i64 1, .int .i64 1, .int .i64 0, .int .i64 1, .int .i64 2, .int .i64 3, .int .i64 1, .int .i64 3, .int .i64 2, .int .i64 (-1)] : Array Value)[o]?) (first | exact X.out.cell | exact (X.out.alloc _).cell | exact (X.out.far (p := ⟨w.heap.size + 1 + 1 + 1 + 1, _, none⟩) (by show wr.heap.size ≠ w.heap.size + 1 + 1 + 1 + 1; omega) _).cell | go_keep)
     (first
       | (go_at_call 87
          refine (v_ _ _ _ _ _ _ _ p q _ (by omega) (by omega) (by exact M.out.fl) (by exact M.out.rp) (by exact M.out.rq) (by omega) (by omega)).mono ?_
          rintro e wn ⟨rfl, hg, hf⟩
          have M' := Lib.hid (M.out.oW hg hf)
          have X' := Lib.hid (X.out.grown hg (by simp; omega))
          clear M X hg hf
          have M := M'
          have X := X'
          clear M' X')
       | (go_at_call 90
          refine (pV _ _ _ _ _ _ _ _ _ _ (by exact (M.out.alloc _).fl) (Row.new _ _ _) (by have := M.out.fl.lt; omega)).mono ?_
          rintro e wn ⟨rfl, hg, hf⟩
          have M' := Lib.hid ((M.out.alloc _).oW hg hf)
          have X' := Lib.hid ((X.out.alloc _).grown hg (by simp; omega))
          have co := M'.out.ou.cell 1
          have fo := M'.out.ou.free 1
          clear M X hg hf
          have M := M'
          have X := X'
          clear M' X'))
    go_wp2
    go_roundw
    case rel => exact ⟨2, by omega, by go_num, Lib.hid (M.out.put 1 _)⟩
    case measure => simp [intOf]
  · have ixk := ix2
    go_wp2_with fail
    have lw := M.out.ou.lt
    have X : Hid (Row (wr.alloc (.cells #[.int .i64 0, .int .i64 2, .int .i64 1, .int .i64 1, .int .i64 3, .int .i64 (-1), .int .i64 2, .int .i64 0, .int .i64 1, .int .i64 3, .int .i64 1, .int .i64 1] 142)).drew wr.heap.size 142 #[.int .i64 0, .int .i64 2, .int .i64 1, .int .i64 1, .int .i64 3, .int .i64 (-1), .int .i64 2, .int .i64 0, .int .i64 1, .int .i64 3, .int .i64 1, .int .i64 1]) := Lib.hid (Row.new wr 142 _).drew
    have M' := Lib.hid (M.out.alloc (.cells #[.int .i64 0, .int .i64 2, .int .i64 1, .int .i64 1, .int .i64 3, .int .i64 (-1), .int .i64 2, .int .i64 0, .int .i64 1, .int .i64 3, .int .i64 1, .int .i64 1] 142)).drew
    clear M
    have M := M'
    clear M'
    go_region_held3 (fun w' => ∀ o, w'.cell? ⟨wr.heap.size, o, none⟩ = (#[.int .i64 0, .int .i64 2, .int .i64 1, .int .i64 1, .int .i64 3, .int .i64 (-1), .int .i64 2, .int .i64 0, .int .i64 1, .int .i64 3, .int .i64 1, .int .i64 1] : Array Value)[o]?) (first | exact X.out.cell | exact (X.out.alloc _).cell | exact (X.out.far (p := ⟨w.heap.size + 1 + 1 + 1 + 1, _, none⟩) (by show wr.heap.size ≠ w.heap.size + 1 + 1 + 1 + 1; omega) _).cell | go_keep)
     (first
       | (go_at_call 87
          refine (v_ _ _ _ _ _ _ _ p q _ (by omega) (by omega) (by exact M.out.fl) (by exact M.out.rp) (by exact M.out.rq) (by omega) (by omega)).mono ?_
          rintro e wn ⟨rfl, hg, hf⟩
          have M' := Lib.hid (M.out.oW hg hf)
          have X' := Lib.hid (X.out.grown hg (by simp; omega))
          clear M X hg hf
          have M := M'
          have X := X'
          clear M' X')
       | (go_at_call 90
          refine (pV _ _ _ _ _ _ _ _ _ _ (by exact (M.out.alloc _).fl) (Row.new _ _ _) (by have := M.out.fl.lt; omega)).mono ?_
          rintro e wn ⟨rfl, hg, hf⟩
          have M' := Lib.hid ((M.out.alloc _).oW hg hf)
          have X' := Lib.hid ((X.out.alloc _).grown hg (by simp; omega))
          have co := M'.out.ou.cell 2
          have fo := M'.out.ou.free 2
          clear M X hg hf
          have M := M'
          have X := X'
          clear M' X'))
    go_wp2
    go_roundw
    case rel => exact ⟨3, by omega, by go_num, Lib.hid (M.out.put 2 _)⟩
    case measure => simp [intOf]
  · have ixk := ix3
    go_wp2_with fail
    have lw := M.out.ou.lt
    have X : Hid (Row (wr.alloc (.cells #[.int .i64 0, .int .i64 3, .int .i64 1, .int .i64 1, .int .i64 2, .int .i64 1, .int .i64 2, .int .i64 1, .int .i64 (-1), .int .i64 3, .int .i64 0, .int .i64 1] 142)).drew wr.heap.size 142 #[.int .i64 0, .int .i64 3, .int .i64 1, .int .i64 1, .int .i64 2, .int .i64 1, .int .i64 2, .int .i64 1, .int .i64 (-1), .int .i64 3, .int .i64 0, .int .i64 1]) := Lib.hid (Row.new wr 142 _).drew
    have M' := Lib.hid (M.out.alloc (.cells #[.int .i64 0, .int .i64 3, .int .i64 1, .int .i64 1, .int .i64 2, .int .i64 1, .int .i64 2, .int .i64 1, .int .i64 (-1), .int .i64 3, .int .i64 0, .int .i64 1] 142)).drew
    clear M
    have M := M'
    clear M'
    go_region_held3 (fun w' => ∀ o, w'.cell? ⟨wr.heap.size, o, none⟩ = (#[.int .i64 0, .int .i64 3, .int .i64 1, .int .i64 1, .int .i64 2, .int .i64 1, .int .i64 2, .int .i64 1, .int .i64 (-1), .int .i64 3, .int .i64 0, .int .i64 1] : Array Value)[o]?) (first | exact X.out.cell | exact (X.out.alloc _).cell | exact (X.out.far (p := ⟨w.heap.size + 1 + 1 + 1 + 1, _, none⟩) (by show wr.heap.size ≠ w.heap.size + 1 + 1 + 1 + 1; omega) _).cell | go_keep)
     (first
       | (go_at_call 87
          refine (v_ _ _ _ _ _ _ _ p q _ (by omega) (by omega) (by exact M.out.fl) (by exact M.out.rp) (by exact M.out.rq) (by omega) (by omega)).mono ?_
          rintro e wn ⟨rfl, hg, hf⟩
          have M' := Lib.hid (M.out.oW hg hf)
          have X' := Lib.hid (X.out.grown hg (by simp; omega))
          clear M X hg hf
          have M := M'
          have X := X'
          clear M' X')
       | (go_at_call 90
          refine (pV _ _ _ _ _ _ _ _ _ _ (by exact (M.out.alloc _).fl) (Row.new _ _ _) (by have := M.out.fl.lt; omega)).mono ?_
          rintro e wn ⟨rfl, hg, hf⟩
          have M' := Lib.hid ((M.out.alloc _).oW hg hf)
          have X' := Lib.hid ((X.out.alloc _).grown hg (by simp; omega))
          have co := M'.out.ou.cell 3
          have fo := M'.out.ou.free 3
          clear M X hg hf
          have M := M'
          have X := X'
          clear M' X'))
    go_wp2
    go_roundw
    case rel => exact ⟨4, by omega, by go_num, Lib.hid (M.out.put 3 _)⟩
    case measure => simp [intOf]
  · have M4 : Hid (MS w p q (vC p q 4) #[.int .i64 (comp p q 0), .int .i64 (comp p q 1), .int .i64 (comp p q 2), .int .i64 (comp p q 3)] wr) := Lib.hid M.out
    clear M
    have cr := M4.out.rr.cell
    have fr := M4.out.rr.free
    have c0 := M4.out.ou.cell 0
    have c1 := M4.out.ou.cell 1
    have c2 := M4.out.ou.cell 2
    have c3 := M4.out.ou.cell 3
    have cf := M4.out.fl.cell 0
    go_wp2_with fail
    have nx : w.heap.size + 1 + 1 ≠ w.heap.size + 1 + 1 + 1 := by omega
    have ny : w.heap.size + 1 + 1 ≠ w.heap.size + 1 + 1 + 1 + 1 := by omega
    go_region_held3 (fun w' => w'.cell? ⟨w.heap.size + 1 + 1 + 1 + 1, 0, none⟩ = some (.int .i64 (comp p q 0)) ∧ w'.cell? ⟨w.heap.size + 1 + 1 + 1 + 1, 1, none⟩ = some (.int .i64 (comp p q 1)) ∧
     w'.cell? ⟨w.heap.size + 1 + 1 + 1 + 1, 2, none⟩ = some (.int .i64 (comp p q 2)) ∧ w'.cell? ⟨w.heap.size + 1 + 1 + 1 + 1, 3, none⟩ = some (.int .i64 (comp p q 3)) ∧ w'.cell? ⟨w.heap.size + 1 + 1 + 1, 0, none⟩ = some (.bool (vC p q 4))) (go_keep) (fail)
    all_goals go_wp2
    all_goals refine bodyPost_ret (v := .tuple #[.agg #[.int .i64 (comp p q 0), .int .i64 (comp p q 1), .int .i64 (comp p q 2), .int .i64 (comp p q 3)], .bool (vC p q 4)]) ?_ ?_ ⟨rfl, ?_⟩
    · have R := (((((M4.out.rr.set 0 (.int .i64 (comp p q 0))).set 1 (.int .i64 (comp p q 1))).set 2 (.int .i64 (comp p q 2))).set 3 (.int .i64 (comp p q 3))).drew)
      revert R
      generalize World.drew _ = wf
      intro R
      have r0 := R.cell 0
      have r1 := R.cell 1
      have r2 := R.cell 2
      have r3 := R.cell 3
      simp at r0 r1 r2 r3
      simp [results, Try.f61, Try.results61, go_sem, r0, r1, r2, r3]
    · rfl
    · exact ((((M4.out.be.setCell (p := ⟨_, 0, none⟩) (by simp; omega) _).setCell (p := ⟨_, 1, none⟩) (by simp; omega) _).setCell (p := ⟨_, 2, none⟩) (by simp; omega) _).setCell (p := ⟨_, 3, none⟩) (by simp; omega) _).drew
end Go.Proofs.Ytnijhjbcjeohhaa.PQ

namespace Go.Proofs.Ytnijhjbcjeohhaa.PQ
open Go.RowKit Go.Proofs.af.aO Go.Proofs.af.aU Go.Proofs.af.aV
set_option linter.unusedVariables false
set_option linter.unusedSimpArgs false
def Rows (w : World) : Nat → List (TypeId × Array Value) → Prop
 | _, [] => True
 | b, x :: l => Row w b x.1 x.2 ∧ Rows w (b + 1) l
section
variable {w w' w0 : World} {b : Nat} {L : List (TypeId × Array Value)}
theorem Rows.imp (h : ∀ k t cs, b ≤ k → k < b + L.length → Row w k t cs → Row w' k t cs) (H : Rows w b L) : Rows w' b L := by
 induction L generalizing b with
 | nil => trivial
 | cons x l ih =>
   refine ⟨h b _ _ (Nat.le_refl _) (by simp) H.1, ih (fun k t cs h1 h2 => h k t cs (by omega) (by simp; omega)) H.2⟩
theorem Rows.alloc (h : Rows w b L) (o : Obj) : Rows (w.alloc o) b L := h.imp fun _ _ _ _ _ r => r.alloc o
theorem Rows.drew (h : Rows w b L) : Rows w.drew b L := h.imp fun _ _ _ _ _ r => r.drew
theorem Rows.below (h : Rows w b L) (hb : Below w.heap.size w w') : Rows w' b L := h.imp fun _ _ _ _ _ r => r.below hb r.lt
theorem Rows.wB (j : Nat) (t : TypeId) (cs : Array Value) (hr : Row w' (b + j) t cs) (h : ∀ k t cs, k ≠ b + j → Row w k t cs → Row w' k t cs) (H : Rows w b L) : Rows w' b (L.set j (t, cs)) := by
 induction L generalizing b j with
 | nil => trivial
 | cons x l ih =>
   cases j with
   | zero => exact ⟨hr, H.2.imp fun k t cs h1 h2 => h k t cs (by omega)⟩
   | succ j => exact ⟨h _ _ _ (by omega) H.1, ih j (by rwa [Nat.add_assoc, Nat.add_comm 1]) (fun k t cs h1 => h k t cs (by omega)) H.2⟩
theorem Rows.push (H : Rows w b L) (h : w.heap.size = b + L.length) (t : TypeId) (cs : Array Value) : Rows (w.alloc (.cells cs t)) b (L ++ [(t, cs)]) := by
 have := (H.alloc (.cells cs t))
 have e := Row.new w t cs
 rw [h] at e
 clear H h
 induction L generalizing b with
 | nil => exact ⟨e, trivial⟩
 | cons x l ih => exact ⟨this.1, ih this.2 (by simp only [List.length_cons] at e; rwa [Nat.add_assoc, Nat.add_comm 1])⟩
end
structure aX (w0 : World) (L : List (TypeId × Array Value)) (w : World) : Prop where
 rows : Rows w w0.heap.size L
 be : Below w0.heap.size w0 w
section
variable {w w' w0 : World} {L : List (TypeId × Array Value)}
theorem aX.none (w : World) : aX w [] w := ⟨trivial, Below.refl _ w⟩
theorem aX.push (h : aX w0 L w) (e : w.heap.size = w0.heap.size + L.length) (t : TypeId) (cs : Array Value) : aX w0 (L ++ [(t, cs)]) (w.alloc (.cells cs t)) :=
 ⟨h.rows.push e t cs, h.be.alloc h.be.size _⟩
theorem aX.alloc (h : aX w0 L w) (o : Obj) : aX w0 L (w.alloc o) := ⟨h.rows.alloc o, h.be.alloc h.be.size o⟩
theorem aX.drew (h : aX w0 L w) : aX w0 L w.drew := ⟨h.rows.drew, h.be.drew⟩
theorem aX.below (h : aX w0 L w) (hb : Below w.heap.size w w') : aX w0 L w' := ⟨h.rows.below hb, h.be.trans (hb.mono h.be.size)⟩
theorem aX.grown (j : Nat) (t : TypeId) (cs : Array Value) (h : aX w0 L w) (hg : w.grownBy w' (some (w0.heap.size + j))) (hr : Row w' (w0.heap.size + j) t cs) : aX w0 (L.set j (t, cs)) w' :=
 ⟨h.rows.wB j t cs hr fun k t cs hk r => r.grown hg (by simpa using hk),
   ⟨hg.os.trans h.be.os, hg.tape.trans h.be.tape, hg.output.trans h.be.output, Nat.le_trans h.be.size hg.size, fun k hk => (hg.block k (Nat.lt_of_lt_of_le hk h.be.size) (by simp; omega)).trans (h.be.block k hk)⟩⟩
theorem aX.put (j : Nat) (h : aX w0 L w) (t : TypeId) (cs : Array Value) (hr : Row w (w0.heap.size + j) t cs) (i : Nat) (u : Value) : aX w0 (L.set j (t, cs.setIfInBounds i u)) (w.setCell ⟨w0.heap.size + j, i, .none⟩ u) :=
 ⟨h.rows.wB j t _ (hr.set i u) fun k t cs hk r => r.far (by simpa using hk) u, h.be.setCell (by simp) u⟩
variable {x0 x1 x2 x3 x4 x5 : TypeId × Array Value}
theorem aX.r0 (h : aX w0 (x0 :: L) w) : Row w w0.heap.size x0.1 x0.2 := h.rows.1
theorem aX.r1 (h : aX w0 (x0 :: x1 :: L) w) : Row w (w0.heap.size + 1) x1.1 x1.2 := h.rows.2.1
theorem aX.r2 (h : aX w0 (x0 :: x1 :: x2 :: L) w) : Row w (w0.heap.size + 1 + 1) x2.1 x2.2 := h.rows.2.2.1
theorem aX.r5 (h : aX w0 (x0 :: x1 :: x2 :: x3 :: x4 :: x5 :: L) w) : Row w (w0.heap.size + 1 + 1 + 1 + 1 + 1) x5.1 x5.2 := h.rows.2.2.2.2.2.1
end
theorem Row.iU {w : World} {B : Nat} {t : TypeId} {u0 u1 u2 u3 : Value} (h : Row w B t #[u0, u1, u2, u3]) (a b c d : Value) :
 Row ((((w.setCell ⟨B, 0, none⟩ a).setCell ⟨B, 1, none⟩ b).setCell ⟨B, 2, none⟩ c).setCell ⟨B, 3, none⟩ d) B t #[a, b, c, d] := (((h.set 0 a).set 1 b).set 2 c).set 3 d
theorem Below.iU {n : Nat} {w0 w : World} {B : Nat} (h : Below n w0 w) (hn : n ≤ B) (a b c d : Value) :
 Below n w0 ((((w.setCell ⟨B, 0, none⟩ a).setCell ⟨B, 1, none⟩ b).setCell ⟨B, 2, none⟩ c).setCell ⟨B, 3, none⟩ d) :=
 (((h.setCell (p := ⟨B, 0, none⟩) hn a).setCell (p := ⟨B, 1, none⟩) hn b).setCell (p := ⟨B, 2, none⟩) hn c).setCell (p := ⟨B, 3, none⟩) hn d
abbrev q4 (a b c d : Int) : Array Value := #[.int .i64 a, .int .i64 b, .int .i64 c, .int .i64 d]
theorem J6 (a b c d : Int) (w : World) :
 Calls Try.prog 94 #[.agg #[.int .i64 a, .int .i64 b, .int .i64 c, .int .i64 d]] w fun e w' =>
  e = .returned (.agg #[.int .i64 a, .int .i64 (pF 0 b), .int .i64 (pF 0 c), .int .i64 (pF 0 d)]) ∧ Below w.heap.size w w' := by
 go_enter Try.func94, Try.ntmps94
 go_wp2_with fail
 have M : Hid (aX w [(28, q4 a b c d), (28, q4 0 0 0 0), (136, #[.bool false])] (((w.alloc (.cells (q4 a b c d) 28)).alloc (.cells (q4 0 0 0 0) 28)).alloc (.cells #[.bool false] 136)).drew) :=
  Lib.hid ((((aX.none w).push (by simp) _ _).push (by simp) _ _).push (by simp) _ _).drew
 have M1 : Hid (∃ f, aX w [(28, q4 a b c d), (28, q4 0 0 0 0), (136, #[.bool f])] (((w.alloc (.cells (q4 a b c d) 28)).alloc (.cells (q4 0 0 0 0) 28)).alloc (.cells #[.bool false] 136)).drew) := Lib.hid ⟨false, M.out⟩
 clear M
 go_region_held3 (fun w' => ∀ o, w'.cell? ⟨w.heap.size, o, none⟩ = (q4 a b c d)[o]?) (first | exact M1.out.choose_spec.r0.cell | go_keep)
  (first
  | (go_at_call 88
     obtain ⟨f, M⟩ := M1.out
     refine (Au _ f _ _ (by exact M.r2)).mono ?_
     rintro e wn ⟨rfl, hg, hf⟩
     have M' := Lib.hid (⟨_, M.grown 2 _ _ hg hf⟩ : ∃ f, aX w [(28, q4 a b c d), (28, q4 0 0 0 0), (136, #[.bool f])] wn)
     clear M M1 hg hf
     have M1 := M'
     clear M'
     have co0 := M1.out.choose_spec.r1.cell 0
     have co1 := M1.out.choose_spec.r1.cell 1
     have co2 := M1.out.choose_spec.r1.cell 2
     have co3 := M1.out.choose_spec.r1.cell 3
     have fo0 := M1.out.choose_spec.r1.free 0
     have fo1 := M1.out.choose_spec.r1.free 1
     have fo2 := M1.out.choose_spec.r1.free 2
     have fo3 := M1.out.choose_spec.r1.free 3))
 all_goals go_wp2
 have R := M1.out.choose_spec.r1.iU (.int .i64 a) (.int .i64 (pF 0 b)) (.int .i64 (pF 0 c)) (.int .i64 (pF 0 d))
 have HB := Below.iU (B := w.heap.size + 1) M1.out.choose_spec.be (by omega) (.int .i64 a) (.int .i64 (pF 0 b)) (.int .i64 (pF 0 c)) (.int .i64 (pF 0 d))
 clear M1 co0 co1 co2 co3 fo0 fo1 fo2 fo3
 revert R HB
 generalize World.setCell (World.setCell (World.setCell (World.setCell wn _ _) _ _) _ _) _ _ = wf
 intro R HB
 refine bodyPost_ret (v := .agg (q4 a (pF 0 b) (pF 0 c) (pF 0 d))) ?_ rfl ⟨rfl, HB⟩
 have r0 := R.cell 0
 have r1 := R.cell 1
 have r2 := R.cell 2
 have r3 := R.cell 3
 simp at r0 r1 r2 r3
 simp [results, Try.f94, Try.results94, go_sem, r0, r1, r2, r3]
end Go.Proofs.Ytnijhjbcjeohhaa.PQ

namespace Go.Proofs.Ytnijhjbcjeohhaa.PQ
open Go.RowKit Go.Proofs.af.aO Go.Proofs.af.aU Go.Proofs.af.aV
set_option linter.unusedVariables false
set_option linter.unusedSimpArgs false
def at4 (a b c d : Int) : Nat → Int
 | 0 => a
 | 1 => b
 | 2 => c
 | _ => d
theorem Si (p q : Nat → Int) (w : World) :
 Calls Try.prog 61 #[.agg #[.int .i64 (p 0), .int .i64 (p 1), .int .i64 (p 2), .int .i64 (p 3)], .agg #[.int .i64 (q 0), .int .i64 (q 1), .int .i64 (q 2), .int .i64 (q 3)]] w fun x w' =>
  x = .returned (.tuple #[.agg #[.int .i64 (comp p q 0), .int .i64 (comp p q 1), .int .i64 (comp p q 2), .int .i64 (comp p q 3)], .bool (vC p q 4)]) ∧ Below w.heap.size w w' := Dp p q w
theorem Row.kept {w w' : World} {t : TypeId} {cs : Array Value} (hb : Below (w.alloc (.cells cs t)).heap.size (w.alloc (.cells cs t)) w') : Row w' w.heap.size t cs := (Row.new w t cs).below hb (Row.new w t cs).lt
theorem Row.oK {w : World} {B C : Nat} {t : TypeId} {cs : Array Value} {a b c d : Value} (h : Row w B t cs) (hne : B ≠ C) :
 Row ((((w.setCell ⟨C, 0, none⟩ a).setCell ⟨C, 1, none⟩ b).setCell ⟨C, 2, none⟩ c).setCell ⟨C, 3, none⟩ d) B t cs :=
 (((h.far (p := ⟨C, 0, none⟩) hne a).far (p := ⟨C, 1, none⟩) hne b).far (p := ⟨C, 2, none⟩) hne c).far (p := ⟨C, 3, none⟩) hne d
theorem aX.oK {w0 w : World} {L : List (TypeId × Array Value)} {C : Nat} {a b c d : Value} (h : aX w0 L w) (hC : w0.heap.size + L.length ≤ C) :
 aX w0 L ((((w.setCell ⟨C, 0, Option.none⟩ a).setCell ⟨C, 1, Option.none⟩ b).setCell ⟨C, 2, Option.none⟩ c).setCell ⟨C, 3, Option.none⟩ d) :=
 ⟨h.rows.imp fun k t cs h1 h2 r => r.oK (by omega), Below.iU h.be (by omega) a b c d⟩
def cj (p : Nat → Int) : Nat → Int := at4 (p 0) (pF 0 (p 1)) (pF 0 (p 2)) (pF 0 (p 3))
def KY (p v : Nat → Int) : Nat → Int := comp (comp p v) (cj p)
def Yb (p v : Nat → Int) : Bool := vC p v 4 || vC (comp p v) (cj p) 4
theorem Lj (a b c d e f g h r0 r1 r2 r3 : Int) (fl : Bool) (p q : Nat → Int) (hp : p = at4 a b c d) (hq : q = at4 e f g h) (h0 : r0 = comp p q 0) (h1 : r1 = comp p q 1) (h2 : r2 = comp p q 2) (h3 : r3 = comp p q 3)
 (hf : fl = vC p q 4) (w : World) :
 Calls Try.prog 61 #[.agg #[.int .i64 a, .int .i64 b, .int .i64 c, .int .i64 d], .agg #[.int .i64 e, .int .i64 f, .int .i64 g, .int .i64 h]] w fun x w' =>
  x = .returned (.tuple #[.agg #[.int .i64 r0, .int .i64 r1, .int .i64 r2, .int .i64 r3], .bool fl]) ∧ Below w.heap.size w w' := by
 have h := Si p q w
 rw [← h0, ← h1, ← h2, ← h3, ← hf] at h
 subst hp hq
 exact h
theorem QJ (a b c d b' c' d' : Int) (hb : b' = pF 0 b) (hc : c' = pF 0 c) (hd : d' = pF 0 d) (w : World) :
 Calls Try.prog 94 #[.agg #[.int .i64 a, .int .i64 b, .int .i64 c, .int .i64 d]] w fun e w' =>
  e = .returned (.agg #[.int .i64 a, .int .i64 b', .int .i64 c', .int .i64 d']) ∧ Below w.heap.size w w' := by
 subst hb hc hd
 exact J6 a b c d w
theorem NC (a b c d x y z b' c' d' a0 a1 a2 a3 r0 r1 r2 r3 : Int) (fa fb : Bool)
 (hA : ∀ w, Calls Try.prog 61 #[.agg #[.int .i64 a, .int .i64 b, .int .i64 c, .int .i64 d], .agg #[.int .i64 0, .int .i64 x, .int .i64 y, .int .i64 z]] w fun e w' =>
   e = .returned (.tuple #[.agg #[.int .i64 a0, .int .i64 a1, .int .i64 a2, .int .i64 a3], .bool fa]) ∧ Below w.heap.size w w')
 (hC : ∀ w, Calls Try.prog 94 #[.agg #[.int .i64 a, .int .i64 b, .int .i64 c, .int .i64 d]] w fun e w' =>
   e = .returned (.agg #[.int .i64 a, .int .i64 b', .int .i64 c', .int .i64 d']) ∧ Below w.heap.size w w')
 (hB : ∀ w, Calls Try.prog 61 #[.agg #[.int .i64 a0, .int .i64 a1, .int .i64 a2, .int .i64 a3], .agg #[.int .i64 a, .int .i64 b', .int .i64 c', .int .i64 d']] w fun e w' =>
   e = .returned (.tuple #[.agg #[.int .i64 r0, .int .i64 r1, .int .i64 r2, .int .i64 r3], .bool fb]) ∧ Below w.heap.size w w') (w : World) :
 Calls Try.prog 63 #[.agg #[.int .i64 a, .int .i64 b, .int .i64 c, .int .i64 d], .agg #[.int .i64 x, .int .i64 y, .int .i64 z]] w fun e w' =>
  e = .returned (.tuple #[.agg #[.int .i64 r1, .int .i64 r2, .int .i64 r3], .bool (fa || fb)]) ∧ Below w.heap.size w w' := by
 have HA := Lib.hid hA
 have HB := Lib.hid hB
 have HC := Lib.hid hC
 clear hA hB hC
 go_enter Try.func63, Try.ntmps63
 go_wp2_with fail
 refine (HA.out _).mono ?_
 rintro e w1 ⟨rfl, hb⟩
 have M : Hid (aX w [(28, q4 a b c d), (42, #[.int .i64 x, .int .i64 y, .int .i64 z]), (42, #[.int .i64 0, .int .i64 0, .int .i64 0])] w1) :=
  Lib.hid ((((((aX.none w).push (by simp) _ _).push (by simp) _ _).push (by simp) _ _)).below hb)
 clear hb
 have l0 := M.out.r2.lt
 have q0 := M.out.r0.cell
 go_wp2_with fail
 have MA := Lib.hid (M.out.alloc (.cells (q4 a0 a1 a2 a3) 28)).drew
 have NA := Lib.hid (Row.new w1 28 (q4 a0 a1 a2 a3)).drew
 have MZ := Lib.hid ((M.out.alloc (.cells (q4 a0 a1 a2 a3) 28)).alloc (.cells (q4 0 0 0 0) 28)).drew
 have NZ := Lib.hid ((Row.new w1 28 (q4 a0 a1 a2 a3)).alloc (.cells (q4 0 0 0 0) 28)).drew
 have OZ : Hid (Row ((w1.alloc (.cells (q4 a0 a1 a2 a3) 28)).alloc (.cells (q4 0 0 0 0) 28)).drew (w1.heap.size + 1) 28 (q4 0 0 0 0)) := Lib.hid (Row.at_ (w1.alloc (.cells (q4 a0 a1 a2 a3) 28)) 28 (q4 0 0 0 0) (by simp)).drew
 clear M q0
 go_region_held3 (fun w' => (∀ o, w'.cell? ⟨w.heap.size, o, none⟩ = (q4 a b c d)[o]?) ∧ (∀ o, w'.cell? ⟨w1.heap.size, o, none⟩ = (q4 a0 a1 a2 a3)[o]?)) (first | with_reducible exact ⟨MA.out.r0.cell, NA.out.cell⟩ | with_reducible exact ⟨MZ.out.r0.cell, NZ.out.cell⟩ | with_reducible exact ⟨M2.out.r0.cell, N2.out.cell⟩ | with_reducible exact ⟨(M2.out.alloc _).r0.cell, (N2.out.alloc _).cell⟩ | with_reducible exact ⟨M1.out.r0.cell, N1.out.cell⟩ | with_reducible exact ⟨(M1.out.alloc _).r0.cell, (N1.out.alloc _).cell⟩ | with_reducible exact ⟨(MA.out.alloc _).r0.cell, (NA.out.alloc _).cell⟩ | with_reducible exact ⟨(M2.out.r0.oK (by omega)).cell, (N2.out.oK (by omega)).cell⟩ | with_reducible exact ⟨((M2.out.alloc _).r0.oK (by omega)).cell, ((N2.out.alloc _).oK (by omega)).cell⟩ | go_keep)
  (first
  | (go_at_call 94
     refine (HC.out _).mono ?_
     rintro e w2 ⟨rfl, hb2⟩
     have M1 : Hid (aX w [(28, q4 a b c d), (42, #[.int .i64 x, .int .i64 y, .int .i64 z]), (42, #[.int .i64 0, .int .i64 0, .int .i64 0])] w2) := Lib.hid (by first | with_reducible exact MA.out.below hb2 | with_reducible exact MZ.out.below hb2)
     have N1 : Hid (Row w2 w1.heap.size 28 (q4 a0 a1 a2 a3)) := Lib.hid (by first | with_reducible exact NA.out.below hb2 NA.out.lt | with_reducible exact NZ.out.below hb2 NZ.out.lt)
     have l1 := N1.out.lt
     try (have O1 : Hid (Row w2 (w1.heap.size + 1) 28 (q4 0 0 0 0)) := Lib.hid (by with_reducible exact OZ.out.below hb2 OZ.out.lt))
     clear hb2)
  | (go_at_call 61
     refine (HB.out _).mono ?_
     rintro e w3 ⟨rfl, hb3⟩
     have M2 : Hid (aX w [(28, q4 a b c d), (42, #[.int .i64 x, .int .i64 y, .int .i64 z]), (42, #[.int .i64 0, .int .i64 0, .int .i64 0])] w3) := Lib.hid (by first | with_reducible exact M1.out.below hb3 | with_reducible exact (M1.out.alloc _).below hb3)
     have N2 : Hid (Row w3 w1.heap.size 28 (q4 a0 a1 a2 a3)) := Lib.hid (by first | with_reducible exact N1.out.below hb3 N1.out.lt | with_reducible exact (N1.out.alloc _).below hb3 (N1.out.alloc _).lt)
     try (have O2' := by with_reducible exact Row.kept hb3
          have O2 := Lib.hid O2'
          clear O2')
     try (have O2 := Lib.hid (O1.out.below hb3 O1.out.lt))
     try (have oc0 := O2.out.cell 0
          have oc1 := O2.out.cell 1
          have oc2 := O2.out.cell 2
          have oc3 := O2.out.cell 3
          have of0 := O2.out.free 0
          have of1 := O2.out.free 1
          have of2 := O2.out.free 2
          have of3 := O2.out.free 3)
     have l2 := N2.out.lt
     have l3 := M2.out.r2.lt
     clear hb3))
 all_goals clear HA HB HC
 all_goals first
  | (clear O1
     have RX := Lib.hid (O2.out.iU (.int .i64 r0) (.int .i64 r1) (.int .i64 r2) (.int .i64 r3))
     have LX : w.heap.size + 2 < w1.heap.size + 1 := by omega
     have SX := Lib.hid (M2.out.oK (a := .int .i64 r0) (b := .int .i64 r1) (c := .int .i64 r2) (d := .int .i64 r3) (C := w1.heap.size + 1) (by simp; omega))
     clear M2 N2 M1 N1 MA NA MZ NZ OZ O2 oc0 oc1 oc2 oc3 of0 of1 of2 of3 l1 l2 l3
     revert RX SX LX
     generalize World.setCell (World.setCell (World.setCell (World.setCell w3 _ _) _ _) _ _) _ _ = wf
     generalize w1.heap.size + 1 = C)
  | (have RX := Lib.hid (O2.out.iU (.int .i64 r0) (.int .i64 r1) (.int .i64 r2) (.int .i64 r3))
     have LX : w.heap.size + 2 < w2.heap.size := by omega
     have SX := Lib.hid (M2.out.oK (a := .int .i64 r0) (b := .int .i64 r1) (c := .int .i64 r2) (d := .int .i64 r3) (C := w2.heap.size) (by simp; omega))
     clear M2 N2 M1 N1 MA NA MZ NZ OZ O2 oc0 oc1 oc2 oc3 of0 of1 of2 of3 l1 l2 l3
     revert RX SX LX
     generalize World.setCell (World.setCell (World.setCell (World.setCell w3 _ _) _ _) _ _) _ _ = wf
     generalize w2.heap.size = C)
  | (have RX := Lib.hid (Row.new w3 28 #[.int .i64 r0, .int .i64 r1, .int .i64 r2, .int .i64 r3])
     have LX : w.heap.size + 2 < w3.heap.size := l3
     have SX := Lib.hid (M2.out.alloc (.cells #[.int .i64 r0, .int .i64 r1, .int .i64 r2, .int .i64 r3] 28))
     clear M2 N2 M1 N1 MA NA MZ NZ OZ l1 l2 l3
     revert RX SX LX
     generalize World.alloc w3 _ = wf
     generalize w3.heap.size = C)
 all_goals
  intro RX LX SX
  have c1 := RX.out.cell 1
  have c2 := RX.out.cell 2
  have c3 := RX.out.cell 3
  have d0 := SX.out.r2.cell 0
  have d1 := SX.out.r2.cell 1
  have d2 := SX.out.r2.cell 2
  have e0 := SX.out.r2.free 0
  have e1 := SX.out.r2.free 1
  have e2 := SX.out.r2.free 2
  cases fa
  all_goals go_wp2
 all_goals
  have R := ((SX.out.r2.set 0 (.int .i64 r1)).set 1 (.int .i64 r2)).set 2 (.int .i64 r3)
  have HB := ((SX.out.be.setCell (p := ⟨w.heap.size + 1 + 1, 0, none⟩) (by simp; omega) (.int .i64 r1)).setCell (p := ⟨w.heap.size + 1 + 1, 1, none⟩) (by simp; omega) (.int .i64 r2)).setCell (p := ⟨w.heap.size + 1 + 1, 2, none⟩) (by simp; omega) (.int .i64 r3)
  clear SX RX c1 c2 c3 d0 d1 d2 e0 e1 e2
  revert R HB
  generalize World.setCell (World.setCell (World.setCell wf _ _) _ _) _ _ = wg
  intro R HB
  refine bodyPost_ret (v := .tuple #[.agg #[.int .i64 r1, .int .i64 r2, .int .i64 r3], .bool _]) ?_ rfl ⟨rfl, HB⟩
  have x0 := R.cell 0
  have x1 := R.cell 1
  have x2 := R.cell 2
  simp at x0 x1 x2
  simp [results, Try.f63, Try.results63, go_sem, x0, x1, x2]
theorem GU (a b c d x y z : Int) (w : World) :
 Calls Try.prog 63 #[.agg #[.int .i64 a, .int .i64 b, .int .i64 c, .int .i64 d], .agg #[.int .i64 x, .int .i64 y, .int .i64 z]] w fun e w' =>
  e = .returned (.tuple #[.agg #[.int .i64 (KY (at4 a b c d) (at4 0 x y z) 1), .int .i64 (KY (at4 a b c d) (at4 0 x y z) 2), .int .i64 (KY (at4 a b c d) (at4 0 x y z) 3)],
    .bool (Yb (at4 a b c d) (at4 0 x y z))]) ∧ Below w.heap.size w w' :=
 NC a b c d x y z _ _ _ _ _ _ _ (KY (at4 a b c d) (at4 0 x y z) 0) _ _ _ _ _ (fun w => Lj _ _ _ _ _ _ _ _ _ _ _ _ _ _ _ rfl rfl rfl rfl rfl rfl rfl w) (fun w => QJ _ _ _ _ _ _ _ rfl rfl rfl w)
  (fun w => Lj _ _ _ _ _ _ _ _ _ _ _ _ _ (comp (at4 a b c d) (at4 0 x y z)) (cj (at4 a b c d)) (by funext k; rcases k with _ | _ | _ | k <;> rfl) rfl rfl rfl rfl rfl rfl w) w
end Go.Proofs.Ytnijhjbcjeohhaa.PQ

namespace Go.Proofs.Ytnijhjbcjeohhaa.PQ
open Go.RowKit Go.Proofs.af.aO Go.Proofs.af.aU Go.Proofs.af.aV
set_option linter.unusedVariables false
set_option linter.unusedSimpArgs false
def inB (a : Int) : Bool := !(decide (a < -70368744177664)) && !(decide (70368744177663 < a))
def fU (p : Nat → Int) : Nat → Bool
 | 0 => true
 | k + 1 => fU p k && inB (p k)
theorem qC {p : Nat → Int} {k n : Nat} (h : inB (p k) = false) (hk : k < n) : fU p n = false := by
 induction n with
 | zero => omega
 | succ n ih =>
   rcases Nat.lt_or_ge k n with hl | hl
   · simp [fU, ih hl]
   · obtain rfl : k = n := by omega
     simp [fU, h]
theorem mM (a b c d : Int) (w : World) :
 Calls Try.prog 47 #[.agg #[.int .i64 a, .int .i64 b, .int .i64 c, .int .i64 d]] w fun e w' =>
  e = .returned (.bool (fU (at4 a b c d) 4)) ∧ Below w.heap.size w w' := by
 go_enter Try.func47, Try.ntmps47
 go_wp2
 go_loopw [6] (fun i wr => ∃ k : Nat, k ≤ 4 ∧ i = .int .i64 k ∧ fU (at4 a b c d) k = true ∧ Hid (Below w.heap.size w wr)) (fun i _ => 4 - (intOf i).toNat)
 case atStart => exact ⟨0, by omega, rfl, rfl, Lib.hid ((Below.refl _ w).alloc (by simp) _)⟩
 case round =>
  obtain ⟨k, hk, rfl, hr, M⟩ := hrel
  have key : ∀ n x, n < 4 → at4 a b c d n = x → k = n → x < -70368744177664 → fU (at4 a b c d) 4 = false := fun n x hn hx hk' hlt => qC (k := n) (by simp [inB, hx, hlt]) hn
  have Yu : ∀ n x, n < 4 → at4 a b c d n = x → k = n → 70368744177663 < x → fU (at4 a b c d) 4 = false := fun n x hn hx hk' hlt => qC (k := n) (by simp [inB, hx, hlt]) hn
  have P5 : ∀ n x, n < 4 → at4 a b c d n = x → k = n → ¬ x < -70368744177664 → ¬ 70368744177663 < x → fU (at4 a b c d) (n + 1) = true := fun n x hn hx hk' h1 h2 => by
   subst hk'
   have e : fU (at4 a b c d) (k + 1) = (fU (at4 a b c d) k && inB (at4 a b c d k)) := rfl
   rw [e, hr, hx]; simp [inB, h1, h2]
  have K1 := Lib.hid key
  have K2 := Lib.hid Yu
  have K3 := Lib.hid P5
  have R := Lib.hid hr
  clear key Yu P5 hr
  obtain rfl | rfl | rfl | rfl | rfl : k = 0 ∨ k = 1 ∨ k = 2 ∨ k = 3 ∨ k = 4 := by omega
  · have ix : (Instr.index 28 (.agg #[.int .i64 a, .int .i64 b, .int .i64 c, .int .i64 d]) (.int .i64 0)).run Try.prog wr = .ok (.int .i64 a) wr := by kernel_rfl
    by_cases h1 : a < -70368744177664
    · have rf := K1.out 0 a (by omega) rfl rfl h1
      have d1 : decide (a < -70368744177664) = true := decide_eq_true h1
      go_wp2
      go_ret
      exact ⟨rfl, M.out⟩
    · have d1 : decide (a < -70368744177664) = false := decide_eq_false h1
      by_cases h2 : 70368744177663 < a
      · have rf := K2.out 0 a (by omega) rfl rfl h2
        have d2 : decide (70368744177663 < a) = true := decide_eq_true h2
        go_wp2
        go_ret
        exact ⟨rfl, M.out⟩
      · have rt := Lib.hid (K3.out 0 a (by omega) rfl rfl h1 h2)
        have d2 : decide (70368744177663 < a) = false := decide_eq_false h2
        go_wp2
        go_roundw
        case rel => exact ⟨0 + 1, by omega, by go_num, rt.out, M⟩
        case measure => simp [intOf]
  · have ix : (Instr.index 28 (.agg #[.int .i64 a, .int .i64 b, .int .i64 c, .int .i64 d]) (.int .i64 1)).run Try.prog wr = .ok (.int .i64 b) wr := by kernel_rfl
    by_cases h1 : b < -70368744177664
    · have rf := K1.out 1 b (by omega) rfl rfl h1
      have d1 : decide (b < -70368744177664) = true := decide_eq_true h1
      go_wp2
      go_ret
      exact ⟨rfl, M.out⟩
    · have d1 : decide (b < -70368744177664) = false := decide_eq_false h1
      by_cases h2 : 70368744177663 < b
      · have rf := K2.out 1 b (by omega) rfl rfl h2
        have d2 : decide (70368744177663 < b) = true := decide_eq_true h2
        go_wp2
        go_ret
        exact ⟨rfl, M.out⟩
      · have rt := Lib.hid (K3.out 1 b (by omega) rfl rfl h1 h2)
        have d2 : decide (70368744177663 < b) = false := decide_eq_false h2
        go_wp2
        go_roundw
        case rel => exact ⟨1 + 1, by omega, by go_num, rt.out, M⟩
        case measure => simp [intOf]
  · have ix : (Instr.index 28 (.agg #[.int .i64 a, .int .i64 b, .int .i64 c, .int .i64 d]) (.int .i64 2)).run Try.prog wr = .ok (.int .i64 c) wr := by kernel_rfl
    by_cases h1 : c < -70368744177664
    · have rf := K1.out 2 c (by omega) rfl rfl h1
      have d1 : decide (c < -70368744177664) = true := decide_eq_true h1
      go_wp2
      go_ret
      exact ⟨rfl, M.out⟩
    · have d1 : decide (c < -70368744177664) = false := decide_eq_false h1
      by_cases h2 : 70368744177663 < c
      · have rf := K2.out 2 c (by omega) rfl rfl h2
        have d2 : decide (70368744177663 < c) = true := decide_eq_true h2
        go_wp2
        go_ret
        exact ⟨rfl, M.out⟩
      · have rt := Lib.hid (K3.out 2 c (by omega) rfl rfl h1 h2)
        have d2 : decide (70368744177663 < c) = false := decide_eq_false h2
        go_wp2
        go_roundw
        case rel => exact ⟨2 + 1, by omega, by go_num, rt.out, M⟩
        case measure => simp [intOf]
  · have ix : (Instr.index 28 (.agg #[.int .i64 a, .int .i64 b, .int .i64 c, .int .i64 d]) (.int .i64 3)).run Try.prog wr = .ok (.int .i64 d) wr := by kernel_rfl
    by_cases h1 : d < -70368744177664
    · have rf := K1.out 3 d (by omega) rfl rfl h1
      have d1 : decide (d < -70368744177664) = true := decide_eq_true h1
      go_wp2
      go_ret
      exact ⟨rfl, M.out⟩
    · have d1 : decide (d < -70368744177664) = false := decide_eq_false h1
      by_cases h2 : 70368744177663 < d
      · have rf := K2.out 3 d (by omega) rfl rfl h2
        have d2 : decide (70368744177663 < d) = true := decide_eq_true h2
        go_wp2
        go_ret
        exact ⟨rfl, M.out⟩
      · have rt := Lib.hid (K3.out 3 d (by omega) rfl rfl h1 h2)
        have d2 : decide (70368744177663 < d) = false := decide_eq_false h2
        go_wp2
        go_roundw
        case rel => exact ⟨3 + 1, by omega, by go_num, rt.out, M⟩
        case measure => simp [intOf]
  · go_wp2
    go_ret
    exact ⟨by rw [R.out]; rfl, M.out⟩
theorem wO (a : Int) (w : World) : Calls Try.prog 73 #[.int .i64 a] w fun e w' => e = .returned (.bool (inB a)) ∧ Below w.heap.size w w' := by
 have h := eF.calls a (inB a) w (by rw [Yv]; congr 1; unfold inB; rw [Bool.eq_iff_iff]; simp)
 exact h.mono fun e w' hx => ⟨hx.1, hx.2.below⟩
theorem zV (a b c d : Int) (w : World) :
 Calls Try.prog 42 #[.agg #[.int .i64 a, .int .i64 b, .int .i64 c, .int .i64 d]] w fun e w' =>
  e = .returned (.bool (fU (at4 a b c d) 4)) ∧ Below w.heap.size w w' := by
 go_enter Try.func42, Try.ntmps42
 go_wp2
 go_loopw [3] (fun i wr => ∃ k : Nat, k ≤ 4 ∧ i = .int .i64 k ∧ fU (at4 a b c d) k = true ∧ Hid (aX w [(28, q4 a b c d)] wr)) (fun i _ => 4 - (intOf i).toNat)
 case atStart => exact ⟨0, by omega, rfl, rfl, Lib.hid ((aX.none w).push (by simp) _ _)⟩
 case round =>
  obtain ⟨k, hk, rfl, hr, M⟩ := hrel
  have key : ∀ n x, n < 4 → at4 a b c d n = x → k = n → inB x = false → fU (at4 a b c d) 4 = false := fun n x hn hx hk' hlt => qC (k := n) (by rw [hx, hlt]) hn
  have P5 : ∀ n x, n < 4 → at4 a b c d n = x → k = n → inB x = true → fU (at4 a b c d) (n + 1) = true := fun n x hn hx hk' h1 => by
   subst hk'
   have e : fU (at4 a b c d) (k + 1) = (fU (at4 a b c d) k && inB (at4 a b c d k)) := rfl
   rw [e, hr, hx, h1]; rfl
  have K1 := Lib.hid key
  have K3 := Lib.hid P5
  have R := Lib.hid hr
  clear key P5 hr
  obtain rfl | rfl | rfl | rfl | rfl : k = 0 ∨ k = 1 ∨ k = 2 ∨ k = 3 ∨ k = 4 := by omega
  · have cx := M.out.r0.cell 0
    go_wp2_with fail
    refine (wO a _).mono ?_
    rintro e w1 ⟨rfl, hb⟩
    have M1 := Lib.hid (M.out.below hb)
    clear hb M cx
    cases hi : inB a
    · have rf := K1.out 0 a (by omega) rfl rfl hi
      go_wp2
      go_ret
      exact ⟨by first | rfl | (rw [rf]; rfl), M1.out.be⟩
    · have rt := Lib.hid (K3.out 0 a (by omega) rfl rfl hi)
      go_wp2
      go_roundw
      case rel => exact ⟨0 + 1, by omega, by go_num, rt.out, M1⟩
      case measure => simp [intOf]
  · have cx := M.out.r0.cell 1
    go_wp2_with fail
    refine (wO b _).mono ?_
    rintro e w1 ⟨rfl, hb⟩
    have M1 := Lib.hid (M.out.below hb)
    clear hb M cx
    cases hi : inB b
    · have rf := K1.out 1 b (by omega) rfl rfl hi
      go_wp2
      go_ret
      exact ⟨by first | rfl | (rw [rf]; rfl), M1.out.be⟩
    · have rt := Lib.hid (K3.out 1 b (by omega) rfl rfl hi)
      go_wp2
      go_roundw
      case rel => exact ⟨1 + 1, by omega, by go_num, rt.out, M1⟩
      case measure => simp [intOf]
  · have cx := M.out.r0.cell 2
    go_wp2_with fail
    refine (wO c _).mono ?_
    rintro e w1 ⟨rfl, hb⟩
    have M1 := Lib.hid (M.out.below hb)
    clear hb M cx
    cases hi : inB c
    · have rf := K1.out 2 c (by omega) rfl rfl hi
      go_wp2
      go_ret
      exact ⟨by first | rfl | (rw [rf]; rfl), M1.out.be⟩
    · have rt := Lib.hid (K3.out 2 c (by omega) rfl rfl hi)
      go_wp2
      go_roundw
      case rel => exact ⟨2 + 1, by omega, by go_num, rt.out, M1⟩
      case measure => simp [intOf]
  · have cx := M.out.r0.cell 3
    go_wp2_with fail
    refine (wO d _).mono ?_
    rintro e w1 ⟨rfl, hb⟩
    have M1 := Lib.hid (M.out.below hb)
    clear hb M cx
    cases hi : inB d
    · have rf := K1.out 3 d (by omega) rfl rfl hi
      go_wp2
      go_ret
      exact ⟨by first | rfl | (rw [rf]; rfl), M1.out.be⟩
    · have rt := Lib.hid (K3.out 3 d (by omega) rfl rfl hi)
      go_wp2
      go_roundw
      case rel => exact ⟨3 + 1, by omega, by go_num, rt.out, M1⟩
      case measure => simp [intOf]
  · go_wp2
    go_ret
    exact ⟨by rw [R.out]; rfl, M.out.be⟩
end Go.Proofs.Ytnijhjbcjeohhaa.PQ

namespace Go.Proofs.Ytnijhjbcjeohhaa.PQ
open Go.RowKit Go.Proofs.af.aO Go.Proofs.af.aU Go.Proofs.af.aV
set_option linter.unusedVariables false
set_option linter.unusedSimpArgs false
theorem PK (xs : Array Value) (k : Nat) (x : Int) (h : xs[k]? = some (.int .i64 x)) (w : World) : (part 22 xs k).run Try.prog w = .ok (.int .i64 x) w := by
 simp [part, go_sem, h]
theorem vM (a e : Int) (xs ys : Array Value) (k : Nat) (hx : xs[k]? = some (.int .i64 a)) (hy : ys[k]? = some (.int .i64 e)) (ks : List Nat) (r : Bool) (w : World)
 (h : (Op.eqItems 9999 22 1 xs ys ks).run Try.prog w = .ok r w) : (Op.eqItems 9999 22 1 xs ys (k :: ks)).run Try.prog w = .ok ((a == e) && r) w := by
 have p1 := PK xs (k * 1) a (by simpa using hx) w
 have p2 := PK ys (k * 1) e (by simpa using hy) w
 have p3 := run_equalIn_int w (P := Try.prog) 9998 22 .i64 .i64 a e rfl
 simp only [Op.eqItems, Sem.run_bind, p1, p2, p3, Result.andThen_ok]
 cases hr : (a == e)
 · simp
 · simpa using h
theorem adP (a b c e f g : Int) (w : World) :
 (Op.equalIn 10000 42 (.agg #[.int .i64 a, .int .i64 b, .int .i64 c]) (.agg #[.int .i64 e, .int .i64 f, .int .i64 g])).run Try.prog w = .ok ((a == e) && ((b == f) && ((c == g) && true))) w := by
 rw [run_equalIn_array (P := Try.prog) (w := w) 9999 (e := 22) (n := 3) (i := _) _ _ rfl rfl]
 exact vM _ _ _ _ 0 rfl rfl _ _ w (vM _ _ _ _ 1 rfl rfl _ _ w (vM _ _ _ _ 2 rfl rfl _ _ w (by simp [Op.eqItems])))
end Go.Proofs.Ytnijhjbcjeohhaa.PQ

namespace Go.Proofs.Ytnijhjbcjeohhaa.PQ
set_option linter.unusedVariables false
set_option linter.unusedSimpArgs false
abbrev nP (z : Int) : Prop := -70368744177664 ≤ z ∧ z ≤ 70368744177663
theorem vT {a b : Int} (ha : nP a) (hb : nP b) (hz : nP (a + b)) : Kv a b = a + b := by unfold Kv; rw [qj ha.1 ha.2, qj hb.1 hb.2, qj hz.1 hz.2]
theorem vU {a b : Int} (ha : nP a) (hb : nP b) (hz : nP (a + b)) : Kw a b = false := by unfold Kw; rw [qj ha.1 ha.2, qj hb.1 hb.2, uS hz.1 hz.2, uS ha.1 ha.2, uS hb.1 hb.2]; rfl
theorem Np {x0 x1 x2 x3 : Int} (h0 : nP x0) (h1 : nP x1) (h2 : nP x2) (h3 : nP x3) (h01 : nP (x0 + x1)) (h02 : nP (x0 + x1 + x2)) (h03 : nP (x0 + x1 + x2 + x3)) :
 rZ (at3 x1 x2 x3) x0 3 = x0 + x1 + x2 + x3 ∧ ∀ f, CB (at3 x1 x2 x3) f x0 3 = f := by
 have e1 : rZ (at3 x1 x2 x3) x0 1 = x0 + x1 := by show Kv x0 x1 = _; exact vT h0 h1 h01
 have e2 : rZ (at3 x1 x2 x3) x0 2 = x0 + x1 + x2 := by show Kv (rZ (at3 x1 x2 x3) x0 1) x2 = _; rw [e1]; exact vT h01 h2 h02
 refine ⟨?_, fun f => ?_⟩
 · show Kv (rZ (at3 x1 x2 x3) x0 2) x3 = _
   rw [e2]; exact vT h02 h3 h03
 · show (((f || Kw x0 x1) || Kw (rZ (at3 x1 x2 x3) x0 1) x2) || Kw (rZ (at3 x1 x2 x3) x0 2) x3) = f
   rw [e1, e2, vU h0 h1 h01, vU h01 h2 h02, vU h02 h3 h03, Bool.or_false, Bool.or_false, Bool.or_false]
end Go.Proofs.Ytnijhjbcjeohhaa.PQ

namespace Go.Proofs.Ytnijhjbcjeohhaa.PQ
open Go.RowKit Go.Proofs.af.aO Go.Proofs.af.aU Go.Proofs.af.aV
set_option linter.unusedVariables false
set_option linter.unusedSimpArgs false
def RI (q : Nat → Int) (i : Nat) : Int := jB (q i) (q i)
def Jh (q : Nat → Int) (i : Nat) (f : Bool) : Bool := f || pG (q i) (q i)
theorem wo (F B i : Nat) (f : Bool) (q : Nat → Int) (w : World) (hi : i < 4) (hf : Flag w F f) (hq : qm w B q) (hB : B ≠ F) :
 Calls Try.prog 111 #[.int .i64 i, .pointer (some ⟨F, 0, none⟩), .pointer (some ⟨B, 0, none⟩)] w (uM w F (.int .i64 (RI q i)) (Jh q i f)) := by
 have ci := hq.at_ i hi
 have HF := Lib.hid hf
 have HQ := Lib.hid hq
 have HB := Lib.hid hB
 clear hf hq hB
 have i0 : (0 : Int) ≤ (i : Int) := Int.natCast_nonneg _
 have i1 : (i : Int) < 4 := by omega
 go_enter Try.func111, Try.ntmps111
 go_wp2_with fail
 go_region_held3 (fun w' => w'.cell? ⟨B, i, none⟩ = some (.int .i64 (q i))) (first | exact qm.at_ H4.out i hi | exact qm.at_ H2.out i hi | exact qm.at_ HQ.out i hi | go_keep)
  (first
    | (go_at_call 67
       refine (fH _ _ _).mono ?_
       rintro e w1 ⟨rfl, hb⟩
       have H1 := Lib.hid (HF.out.drew.below hb HF.out.drew.lt)
       have H2 := Lib.hid (HQ.out.drew.below hb HQ.out.drew.lt)
       have H3 := Lib.hid (dA (((Below.refl w.heap.size w).drew).trans hb) (some F))
       clear hb)
    | (go_at_call 85
       refine (dK F f _ _ _ H1.out).mono ?_
       rintro e w2 ⟨rfl, hg, hf2⟩
       have H4 := Lib.hid (H2.out.grown hg (by simpa using HB.out))
       have H5 := Lib.hid (bG H3.out hg)
       have H6 := Lib.hid hf2
       clear hg hf2))
 all_goals go_wp2
 all_goals go_ret
 all_goals exact ⟨rfl, H5.out, H6.out⟩
def nZ (q : Nat → Int) : Int := rZ (at3 (RI q 1) (RI q 2) (RI q 3)) (RI q 0) 3
def sJ (q : Nat → Int) : Bool := CB (at3 (RI q 1) (RI q 2) (RI q 3)) (Jh q 3 (Jh q 2 (Jh q 1 (Jh q 0 false)))) (RI q 0) 3
theorem JD (q : Nat → Int) (w : World) :
 Calls Try.prog 91 #[.agg #[.int .i64 (q 0), .int .i64 (q 1), .int .i64 (q 2), .int .i64 (q 3)]] w fun e w' => e = .returned (.tuple #[.int .i64 (nZ q), .bool (sJ q)]) ∧ Below w.heap.size w w' := by
 go_enter Try.func91, Try.ntmps91
 go_wp2_with fail
 have M : Hid (aX w [(28, q4 (q 0) (q 1) (q 2) (q 3)), (136, #[.bool false])] ((w.alloc (.cells (q4 (q 0) (q 1) (q 2) (q 3)) 28)).alloc (.cells #[.bool false] 136))) := Lib.hid (((aX.none w).push (by simp) _ _).push (by simp) _ _)
 refine (wo (w.heap.size + 1) w.heap.size 0 _ q _ (by omega) (by exact M.out.r1) (by exact M.out.r0) (by omega)).mono ?_
 rintro e w1 ⟨rfl, hg, hf⟩
 have M' := Lib.hid (M.out.grown 1 _ _ hg hf)
 clear M hg hf
 have M : Hid (aX w [(28, q4 (q 0) (q 1) (q 2) (q 3)), (136, #[.bool ((Jh q 0 false))])] w1) := M'
 clear M'
 go_wp2_with fail
 refine (wo (w.heap.size + 1) w.heap.size 1 _ q _ (by omega) (by exact M.out.r1) (by exact M.out.r0) (by omega)).mono ?_
 rintro e w2 ⟨rfl, hg, hf⟩
 have M' := Lib.hid (M.out.grown 1 _ _ hg hf)
 clear M hg hf
 have M : Hid (aX w [(28, q4 (q 0) (q 1) (q 2) (q 3)), (136, #[.bool ((Jh q 1 (Jh q 0 false)))])] w2) := M'
 clear M'
 go_wp2_with fail
 refine (wo (w.heap.size + 1) w.heap.size 2 _ q _ (by omega) (by exact M.out.r1) (by exact M.out.r0) (by omega)).mono ?_
 rintro e w3 ⟨rfl, hg, hf⟩
 have M' := Lib.hid (M.out.grown 1 _ _ hg hf)
 clear M hg hf
 have M : Hid (aX w [(28, q4 (q 0) (q 1) (q 2) (q 3)), (136, #[.bool ((Jh q 2 (Jh q 1 (Jh q 0 false))))])] w3) := M'
 clear M'
 go_wp2_with fail
 refine (wo (w.heap.size + 1) w.heap.size 3 _ q _ (by omega) (by exact M.out.r1) (by exact M.out.r0) (by omega)).mono ?_
 rintro e w4 ⟨rfl, hg, hf⟩
 have M' := Lib.hid (M.out.grown 1 _ _ hg hf)
 clear M hg hf
 have M : Hid (aX w [(28, q4 (q 0) (q 1) (q 2) (q 3)), (136, #[.bool ((Jh q 3 (Jh q 2 (Jh q 1 (Jh q 0 false)))))])] w4) := M'
 clear M'
 go_wp2_with fail
 refine (pV _ _ _ _ _ _ _ _ _ _ (by exact (M.out.alloc _).r1) (Row.new _ _ _) (by have := M.out.r1.lt; omega)).mono ?_
 rintro e w5 ⟨rfl, hg, hf⟩
 have M' := Lib.hid ((M.out.alloc _).grown 1 _ _ hg hf)
 clear M hg hf
 have M : Hid (aX w [(28, q4 (q 0) (q 1) (q 2) (q 3)), (136, #[.bool (sJ q)])] w5) := M'
 clear M'
 have cf := M.out.r1.cell 0
 go_wp2
 go_region_held3 (fun w' => w'.cell? ⟨w.heap.size + 1, 0, none⟩ = some (.bool (sJ q))) (go_keep) (fail)
 all_goals go_wp2
 all_goals exact bodyPost_ret (v := .tuple #[.int .i64 (nZ q), .bool (sJ q)]) (by simp [results, Try.f91, Try.results91, go_sem, nZ]) rfl ⟨rfl, M.out.be.drew⟩
end Go.Proofs.Ytnijhjbcjeohhaa.PQ

namespace Go.Proofs.Ytnijhjbcjeohhaa.PQ
set_option linter.unusedVariables false
set_option linter.unusedSimpArgs false
def hm0 (a b c d e f g h : Int) : Int := a * e + -(b * f) + -(c * g) + -(d * h)
def hm1 (a b c d e f g h : Int) : Int := a * f + b * e + c * h + -(d * g)
def hm2 (a b c d e f g h : Int) : Int := a * g + -(b * h) + c * e + d * f
def hm3 (a b c d e f g h : Int) : Int := a * h + b * g + -(c * f) + d * e
end Go.Proofs.Ytnijhjbcjeohhaa.PQ

namespace Go.Proofs.Ytnijhjbcjeohhaa.PQ
set_option linter.unusedVariables false
theorem kD {x y : Int} (h0 : 0 ≤ y) (h : y ≤ x) : y * y ≤ x * x := Int.mul_le_mul h h h0 (by omega)
theorem kT {a R K : Int} (hR : 0 ≤ R) (hK : 0 ≤ K) (h : a * a < (R + K) * (R + K)) : -(R + K) < a ∧ a < R + K := by
 constructor
 · rcases Int.lt_or_le (-(R + K)) a with hl | hl
   · exact hl
   · have := kD (x := -a) (y := R + K) (by omega) (by omega)
     rw [Int.neg_mul_neg] at this
     omega
 · rcases Int.lt_or_le a (R + K) with hl | hl
   · exact hl
   · have := kD (x := a) (y := R + K) (by omega) (by omega)
     omega
theorem zl {x y A B : Int} (hA : 0 ≤ A) (hx : -A ≤ x) (hx' : x ≤ A) (hy : -B ≤ y) (hy' : y ≤ B) : -(A * B) ≤ x * y ∧ x * y ≤ A * B := by
 have h := Nat.mul_le_mul (show x.natAbs ≤ A.natAbs by omega) (show y.natAbs ≤ B.natAbs by omega)
 rw [← Int.natAbs_mul, ← Int.natAbs_mul] at h
 have hB : 0 ≤ B := by omega
 have := Int.mul_nonneg hA hB
 omega
theorem zk {a u R : Int} (hR : 0 ≤ R) (ha : -(R + 6) < a ∧ a < R + 6) (hd : -R ≤ 2 * (u * R - a * 16777216) ∧ 2 * (u * R - a * 16777216) ≤ R) :
 ∃ E, u * u * (R * R) = a * a * 281474976710656 + E ∧ -(16777216 * ((R + 5) * R)) ≤ E ∧ 4 * E ≤ 4 * (16777216 * ((R + 5) * R)) + R * R := by
 have e : u * R = a * 16777216 + (u * R - a * 16777216) := by omega
 generalize hdd : u * R - a * 16777216 = d at *
 have h1 := zl (x := a) (y := 2 * d) (A := R + 5) (B := R) (by omega) (by omega) (by omega) (by omega) (by omega)
 have h2 := zl (x := 2 * d) (y := 2 * d) (A := R) (B := R) hR (by omega) (by omega) (by omega) (by omega)
 have h3 : 0 ≤ d * d := by
  rcases Int.lt_or_le d 0 with h | h
  · have := Int.mul_nonneg (show 0 ≤ -d by omega) (show 0 ≤ -d by omega); rwa [Int.neg_mul_neg] at this
  · exact Int.mul_nonneg h h
 refine ⟨16777216 * (a * (2 * d)) + d * d, ?_, ?_, ?_⟩
 · have : u * u * (R * R) = (u * R) * (u * R) := by grind
   rw [this, e]; grind
 · omega
 · have : 2 * d * (2 * d) = 4 * (d * d) := by grind
   omega
theorem Ja {a0 a1 a2 a3 n R u0 u1 u2 u3 m : Int} (hn0 : a0 * a0 + a1 * a1 + a2 * a2 + a3 * a3 - 33554432 ≤ n * 16777216) (hn1 : n * 16777216 ≤ a0 * a0 + a1 * a1 + a2 * a2 + a3 * a3 + 33554432)
 (hR : 4194296 ≤ R) (hR0 : R * R ≤ n * 16777216) (hR1 : n * 16777216 < (R + 1) * (R + 1))
 (h0 : -R ≤ 2 * (u0 * R - a0 * 16777216) ∧ 2 * (u0 * R - a0 * 16777216) ≤ R) (h1 : -R ≤ 2 * (u1 * R - a1 * 16777216) ∧ 2 * (u1 * R - a1 * 16777216) ≤ R)
 (h2 : -R ≤ 2 * (u2 * R - a2 * 16777216) ∧ 2 * (u2 * R - a2 * 16777216) ≤ R) (h3 : -R ≤ 2 * (u3 * R - a3 * 16777216) ∧ 2 * (u3 * R - a3 * 16777216) ≤ R)
 (hm0 : u0 * u0 + u1 * u1 + u2 * u2 + u3 * u3 - 33554432 ≤ m * 16777216) (hm1 : m * 16777216 ≤ u0 * u0 + u1 * u1 + u2 * u2 + u3 * u3 + 33554432) :
 16776960 ≤ m ∧ m ≤ 16777472 := by
 have s0 : 0 ≤ a0 * a0 := by have := zl (x := a0) (y := a0) (A := 0) (B := 0); exact (by rcases Int.lt_or_le a0 0 with h | h; · { have := Int.mul_nonneg (show 0 ≤ -a0 by omega) (show 0 ≤ -a0 by omega); rwa [Int.neg_mul_neg] at this }; · exact Int.mul_nonneg h h)
 have sq : ∀ x : Int, 0 ≤ x * x := fun x => by
  rcases Int.lt_or_le x 0 with h | h
  · have := Int.mul_nonneg (show 0 ≤ -x by omega) (show 0 ≤ -x by omega); rwa [Int.neg_mul_neg] at this
  · exact Int.mul_nonneg h h
 have s1 := sq a1
 have s2 := sq a2
 have s3 := sq a3
 have e1 : (R + 1) * (R + 1) = R * R + 2 * R + 1 := by grind
 have e6 : (R + 6) * (R + 6) = R * R + 12 * R + 36 := by grind
 have b0 := kT (a := a0) (R := R) (K := 6) (by omega) (by omega) (by omega)
 have b1 := kT (a := a1) (R := R) (K := 6) (by omega) (by omega) (by omega)
 have b2 := kT (a := a2) (R := R) (K := 6) (by omega) (by omega) (by omega)
 have b3 := kT (a := a3) (R := R) (K := 6) (by omega) (by omega) (by omega)
 obtain ⟨E0, p0, l0, g0⟩ := zk (by omega) b0 h0
 obtain ⟨E1, p1, l1, g1⟩ := zk (by omega) b1 h1
 obtain ⟨E2, p2, l2, g2⟩ := zk (by omega) b2 h2
 obtain ⟨E3, p3, l3, g3⟩ := zk (by omega) b3 h3
 have eT : (u0 * u0 + u1 * u1 + u2 * u2 + u3 * u3) * (R * R) = (a0 * a0 + a1 * a1 + a2 * a2 + a3 * a3) * 281474976710656 + (E0 + E1 + E2 + E3) := by
  rw [Int.add_mul, Int.add_mul, Int.add_mul, p0, p1, p2, p3]; omega
 have e5 : (R + 5) * R = R * R + 5 * R := by grind
 rw [e5] at l0 g0 l1 g1 l2 g2 l3 g3
 have hP : 4194296 * R ≤ R * R := Int.mul_le_mul_of_nonneg_right hR (by omega)
 generalize u0 * u0 + u1 * u1 + u2 * u2 + u3 * u3 = T at *
 generalize a0 * a0 + a1 * a1 + a2 * a2 + a3 * a3 = S at *
 rw [e1] at hR1
 clear p0 p1 p2 p3 e1 e5 e6 b0 b1 b2 b3 h0 h1 h2 h3
 have hi : T ≤ 281474976710656 + 254 * 16777216 := by
  rcases Int.lt_or_le (281474976710656 + 254 * 16777216) T with h | h
  · have := Int.mul_le_mul_of_nonneg_right (show 281474976710656 + 254 * 16777216 ≤ T by omega) (sq R)
    rw [eT] at this
    generalize R * R = P at *
    omega
  · exact h
 have lo : 281474976710656 - 254 * 16777216 ≤ T := by
  rcases Int.lt_or_le T (281474976710656 - 254 * 16777216) with h | h
  · have := Int.mul_le_mul_of_nonneg_right (show T ≤ 281474976710656 - 254 * 16777216 by omega) (sq R)
    rw [eT] at this
    generalize R * R = P at *
    omega
  · exact h
 omega
end Go.Proofs.Ytnijhjbcjeohhaa.PQ

