import Derived.Test.YtnijhjbcjeohhaaV5
import Derived.Deep.DeepCutAuto
import Derived.Deep.CutBlock
import Derived.Laws.MakeOwn
import Derived.Laws.IdiomCopy
import Derived.Test.YtnijhjbcjeohhaaProg
import Derived.Test.YtnijhjbcjeohhaaV4
import Derived.Test.YtnijhjbcjeohhaaV1
/- Joined and thinned by a program of this session's own (wip/pack2.py) out of its texts (wip/ of its repo); parts were laid by its own program (wip/print-patch.py over the kit's print) out of the translation; Lean checks all. -/
set_option maxRecDepth 100000
set_option maxHeartbeats 8000000
namespace Go.Proofs.Ytnijhjbcjeohhaa.EE
open Go.RowKit Go.Proofs.Ytnijhjbcjeohhaa.KK
set_option linter.unusedVariables false
set_option linter.unusedSimpArgs false
abbrev zG (x y z b k0 k1 k2 k3 : Int) (F : Bool) : Prop := ∀ w, Calls Try.prog 59 #[.agg #[I x, I y, I z], I b] w fun e w' => e = .returned (.tuple #[.agg #[I k0, I k1, I k2, I k3], .bool F]) ∧ Below w.heap.size w w'
abbrev Vm (a b c d e f g h k0 k1 k2 k3 : Int) (F : Bool) : Prop := ∀ w, Calls Try.prog 61 #[.agg #[I a, I b, I c, I d], .agg #[I e, I f, I g, I h]] w fun e w' => e = .returned (.tuple #[.agg #[I k0, I k1, I k2, I k3], .bool F]) ∧ Below w.heap.size w w'
abbrev ug (a b c d k0 k1 k2 k3 : Int) (F : Bool) : Prop := ∀ w, Calls Try.prog 62 #[.agg #[I a, I b, I c, I d]] w fun e w' => e = .returned (.tuple #[.agg #[I k0, I k1, I k2, I k3], .bool F]) ∧ Below w.heap.size w w'
abbrev QY (a b c d x y z k0 k1 k2 : Int) (F : Bool) : Prop := ∀ w, Calls Try.prog 63 #[.agg #[I a, I b, I c, I d], .agg #[I x, I y, I z]] w fun e w' => e = .returned (.tuple #[.agg #[I k0, I k1, I k2], .bool F]) ∧ Below w.heap.size w w'
abbrev turned (w : World) (g : Nat) (a b c d x y z : Value) : World := ((((((w.setCell ⟨g, 6, none⟩ a).setCell ⟨g, 7, none⟩ b).setCell ⟨g, 8, none⟩ c).setCell ⟨g, 9, none⟩ d).setCell ⟨g, 48, none⟩ x).setCell ⟨g, 49, none⟩ y).setCell ⟨g, 50, none⟩ z
theorem MR {w : World} {g : Nat} {c : Cf} {e : Es} {s : Sm} {a0 a1 a2 : Int} (R : Row w g 89 (wk c e s a0 a1 a2)) (n0 n1 n2 n3 y0 y1 y2 : Int) :
 iC w g c { e with q0 := n0, q1 := n1, q2 := n2, q3 := n3 } s y0 y1 y2 (turned w g (I n0) (I n1) (I n2) (I n3) (I y0) (I y1) (I y2)) :=
 ⟨by simpa using ((((((R.set 6 (I n0)).set 7 (I n1)).set 8 (I n2)).set 9 (I n3)).set 48 (I y0)).set 49 (I y1)).set 50 (I y2),
   bP (bP (bP (bP (bP (bP (bP (dY _ _) _ _) _ _) _ _) _ _) _ _) _ _) _ _⟩
theorem Row.oK {w : World} {g k : Nat} {t : TypeId} {cs : Array Value} (R : Row w k t cs) (h : k ≠ g) (a b c d : Value) : Row ((((w.setCell ⟨g, 6, none⟩ a).setCell ⟨g, 7, none⟩ b).setCell ⟨g, 8, none⟩ c).setCell ⟨g, 9, none⟩ d) k t cs :=
 (((R.far (p := ⟨g, 6, none⟩) h a).far (p := ⟨g, 7, none⟩) h b).far (p := ⟨g, 8, none⟩) h c).far (p := ⟨g, 9, none⟩) h d
theorem Row.U8 {w : World} {g k : Nat} {t : TypeId} {cs : Array Value} (R : Row w k t cs) (h : k ≠ g) (a b c d x y z : Value) : Row (turned w g a b c d x y z) k t cs :=
 (((Row.oK R h a b c d).far (p := ⟨g, 48, none⟩) h x).far (p := ⟨g, 49, none⟩) h y).far (p := ⟨g, 50, none⟩) h z
theorem qB (g : Nat) (c : Cf) (e : Es) (s : Sm) (m0 m1 m2 m3 p0 p1 p2 p3 n0 n1 n2 n3 y0 y1 y2 : Int) (F1 F2 F3 F4 : Bool) (w : World) (R : Row w g 89 (wk c e s 0 0 0)) (hm : s.missing = false)
 (H1 : zG (PQ.cl s.g0) (PQ.cl s.g1) (PQ.cl s.g2) c.dt m0 m1 m2 m3 F1) (H2 : Vm e.q0 e.q1 e.q2 e.q3 m0 m1 m2 m3 p0 p1 p2 p3 F2) (H3 : ug p0 p1 p2 p3 n0 n1 n2 n3 F3) (H4 : QY n0 n1 n2 n3 (PQ.cl s.a0) (PQ.cl s.a1) (PQ.cl s.a2) y0 y1 y2 F4) :
 Calls Try.prog 37 #[.pointer (some ⟨g, 0, none⟩)] w fun r w' => r = .returned (.tuple #[]) ∧
  iC w g c { e with q0 := n0, q1 := n1, q2 := n2, q3 := n3, sat := (((((((e.sat || PQ.od s.g0) || PQ.od s.g1) || PQ.od s.g2) || PQ.od s.a0) || PQ.od s.a1) || PQ.od s.a2) || (((F1 || F2) || F3) || F4)) } s y0 y1 y2 w' := by
 have hg := R.lt
 have M : Hid (Sw w [] g (wk c e s 0 0 0) w) := Lib.hid (Sw.of R)
 have G1 := Lib.hid H1
 have G2 := Lib.hid H2
 have G3 := Lib.hid H3
 have G4 := Lib.hid H4
 have K1 : Hid (∀ w' e', Row w' g 89 (wk c e' s 0 0 0) → (w'.cell? ⟨g, 0, none⟩ = some (I c.dt) ∧ w'.cell? ⟨g, 36, none⟩ = some (I s.g0) ∧ w'.cell? ⟨g, 37, none⟩ = some (I s.g1) ∧ w'.cell? ⟨g, 38, none⟩ = some (I s.g2))) := Lib.hid (fun w' e' R => ⟨R.cell 0, R.cell 36, R.cell 37, R.cell 38⟩)
 have hc := R.cell
 clear R H1 H2 H3 H4
 go_enter Try.func37, Try.ntmps37
 go_upto_region 1 with fail
 clear hm hc
 go_cut [2, 3] (fun v2 v3 wc => ∃ tb : Nat, v2 = .pointer (some ⟨tb, 0, none⟩) ∧ v3 = .bool F1 ∧ Hid (Tb w 0 tb 28 #[I m0, I m1, I m2, I m3] wc) ∧ Hid (Sw w [] g (wk c { e with sat := ((e.sat || PQ.od s.g0) || PQ.od s.g1) || PQ.od s.g2 } s 0 0 0) wc))
 case first =>
  go_region_held3 (fun w' => (w'.cell? ⟨g, 0, none⟩ = some (I c.dt) ∧ w'.cell? ⟨g, 36, none⟩ = some (I s.g0) ∧ w'.cell? ⟨g, 37, none⟩ = some (I s.g1) ∧ w'.cell? ⟨g, 38, none⟩ = some (I s.g2)))
   (first | with_reducible exact K1.out _ _ (M.out).row | with_reducible exact K1.out _ _ (M.out.drew).row | with_reducible exact K1.out _ _ (M.out.alloc _).row | with_reducible exact K1.out _ _ (M.out.drew.alloc _).row | with_reducible exact K1.out _ _ ((M.out.alloc _).drew).row | with_reducible exact K1.out _ _ (M.out.xW TB.out.le _ _ _ _).row | with_reducible exact K1.out _ _ ((M.out.alloc _).xW M.out.le' _ _ _ _).row)
   (first
     | (go_at_call 59
        first
         | ((with_reducible refine (G1.out _).mono ?_)
            rintro r wn ⟨rfl, hb⟩
            with_reducible have M' := Lib.hid (M.out.below hb)
            (try (have DR := Lib.hid (Tb.below (TB.out) hb); clear TB kc kf zt; have TB := DR; clear DR; have kc := TB.out.row.cell; have kf := TB.out.row.free; have zt := TB.out.row.lt))
            clear hb M
            have M := M'
            clear M')
         | ((with_reducible refine (G1.out _).mono ?_)
            rintro r wn ⟨rfl, hb⟩
            with_reducible have M' := Lib.hid ((M.out.alloc _).below hb)
            have TB := Lib.hid (Tb.below (Tb.jX 28 #[I 0, I 0, I 0, I 0] M.out) hb)
            have kc := TB.out.row.cell
            have kf := TB.out.row.free
            have zt := TB.out.row.lt
            clear hb M
            have M := M'
            clear M'))
     | (go_at_call 60
        first
         | ((with_reducible refine (jk g c _ s 0 0 0 s.g0 s.g1 s.g2 _ M.out.drew.row).mono ?_)
            rintro r wn ⟨rfl, hw⟩
            with_reducible have M' := Lib.hid (M.out.drew.work hw)
            clear hw M
            have M := M'
            clear M')
         | ((with_reducible refine (jk g c _ s 0 0 0 s.g0 s.g1 s.g2 _ (M.out.drew.alloc _).row).mono ?_)
            rintro r wn ⟨rfl, hw⟩
            with_reducible have M' := Lib.hid ((M.out.drew.alloc _).work hw)
            have TB := Lib.hid (Tb.work (Tb.jX 28 #[I 0, I 0, I 0, I 0] M.out.drew) M.out.lt hw.gr)
            have kc := TB.out.row.cell
            have kf := TB.out.row.free
            have zt := TB.out.row.lt
            clear hw M
            have M := M'
            clear M')
         | ((with_reducible refine (jk g c _ s 0 0 0 s.g0 s.g1 s.g2 _ (M.out.alloc _).drew.row).mono ?_)
            rintro r wn ⟨rfl, hw⟩
            with_reducible have M' := Lib.hid ((M.out.alloc _).drew.work hw)
            have TB := Lib.hid (Tb.work (Tb.drew (Tb.jX 28 #[I 0, I 0, I 0, I 0] M.out)) M.out.lt hw.gr)
            have kc := TB.out.row.cell
            have kf := TB.out.row.free
            have zt := TB.out.row.lt
            clear hw M
            have M := M'
            clear M')))
  all_goals (go_wp2_with fail; go_meet)
  all_goals
   first
    | with_reducible exact ⟨_, rfl, rfl, Lib.hid (TB.out.iU _ _ _ _), Lib.hid (M.out.xW TB.out.le _ _ _ _)⟩
    | with_reducible exact ⟨_, rfl, rfl, Lib.hid (Tb.jX 28 _ M.out), Lib.hid (M.out.alloc _)⟩
 case rest =>
  clear M K1
  obtain ⟨ta, rfl, rfl, TA, M⟩ := hcut
  have K2 : Hid (∀ w' e', Row w' g 89 (wk c { e with sat := e' } s 0 0 0) → Row w' ta 28 #[I m0, I m1, I m2, I m3] → (w'.cell? ⟨g, 6, none⟩ = some (I e.q0) ∧ w'.cell? ⟨g, 7, none⟩ = some (I e.q1) ∧ w'.cell? ⟨g, 8, none⟩ = some (I e.q2) ∧ w'.cell? ⟨g, 9, none⟩ = some (I e.q3) ∧ w'.cell? ⟨ta, 0, none⟩ = some (I m0) ∧ w'.cell? ⟨ta, 1, none⟩ = some (I m1) ∧ w'.cell? ⟨ta, 2, none⟩ = some (I m2) ∧ w'.cell? ⟨ta, 3, none⟩ = some (I m3))) := Lib.hid (fun w' e' R T => ⟨R.cell 6, R.cell 7, R.cell 8, R.cell 9, T.cell 0, T.cell 1, T.cell 2, T.cell 3⟩)
  have zTA := TA.out.row.lt
  have MW := M
  clear M
  have M := Lib.hid (Sw.of MW.out.row)
  go_upto_region 2 with fail
  go_cut [4, 5] (fun v4 v5 wc => ∃ tb : Nat, v4 = .pointer (some ⟨tb, 0, none⟩) ∧ v5 = .bool F2 ∧ Hid (Tb w 0 tb 28 #[I p0, I p1, I p2, I p3] wc) ∧ Hid (Sw w [] g (wk c { e with sat := ((e.sat || PQ.od s.g0) || PQ.od s.g1) || PQ.od s.g2 } s 0 0 0) wc))
  case first =>
   go_region_held3 (fun w' => (w'.cell? ⟨g, 6, none⟩ = some (I e.q0) ∧ w'.cell? ⟨g, 7, none⟩ = some (I e.q1) ∧ w'.cell? ⟨g, 8, none⟩ = some (I e.q2) ∧ w'.cell? ⟨g, 9, none⟩ = some (I e.q3) ∧ w'.cell? ⟨ta, 0, none⟩ = some (I m0) ∧ w'.cell? ⟨ta, 1, none⟩ = some (I m1) ∧ w'.cell? ⟨ta, 2, none⟩ = some (I m2) ∧ w'.cell? ⟨ta, 3, none⟩ = some (I m3)))
    (first | with_reducible exact K2.out _ _ (M.out).row (TA.out).row | with_reducible exact K2.out _ _ (M.out.drew).row (TA.out.drew).row | with_reducible exact K2.out _ _ (M.out.alloc _).row (TA.out.alloc _).row | with_reducible exact K2.out _ _ (M.out.drew.alloc _).row (TA.out.drew.alloc _).row | with_reducible exact K2.out _ _ ((M.out.alloc _).drew).row ((TA.out.alloc _).drew).row | with_reducible exact K2.out _ _ (M.out.xW TB.out.le _ _ _ _).row (TA.out.oK (Aj zTA TB.out.le) _ _ _ _).row | with_reducible exact K2.out _ _ ((M.out.alloc _).xW M.out.le' _ _ _ _).row ((TA.out.alloc _).oK (Aj zTA M.out.le') _ _ _ _).row)
    (first
      | (go_at_call 61
         first
          | ((with_reducible refine (G2.out _).mono ?_)
             rintro r wn ⟨rfl, hb⟩
             with_reducible have M' := Lib.hid (M.out.drew.below hb)
             have Vh := Lib.hid (Tb.below (TA.out.drew) hb)
             clear hb M TA
             have M := M'
             clear M'
             have TA := Vh
             clear Vh)
          | ((with_reducible refine (G2.out _).mono ?_)
             rintro r wn ⟨rfl, hb⟩
             with_reducible have M' := Lib.hid ((M.out.drew.alloc _).below hb)
             have TB := Lib.hid (Tb.below (Tb.jX 28 #[I 0, I 0, I 0, I 0] M.out.drew) hb)
             have kc := TB.out.row.cell
             have kf := TB.out.row.free
             have zt := TB.out.row.lt
             have Vh := Lib.hid (Tb.below ((TA.out.drew.alloc _)) hb)
             clear hb M TA
             have M := M'
             clear M'
             have TA := Vh
             clear Vh)
          | ((with_reducible refine (G2.out _).mono ?_)
             rintro r wn ⟨rfl, hb⟩
             with_reducible have M' := Lib.hid ((M.out.alloc _).drew.below hb)
             have TB := Lib.hid (Tb.below (Tb.drew (Tb.jX 28 #[I 0, I 0, I 0, I 0] M.out)) hb)
             have kc := TB.out.row.cell
             have kf := TB.out.row.free
             have zt := TB.out.row.lt
             have Vh := Lib.hid (Tb.below ((TA.out.alloc _).drew) hb)
             clear hb M TA
             have M := M'
             clear M'
             have TA := Vh
             clear Vh)))
   all_goals (go_wp2_with fail; go_meet)
   all_goals
    first
     | with_reducible exact ⟨_, rfl, rfl, Lib.hid ((TB.out.iU _ _ _ _).up MW.out.gr.size), Lib.hid (MW.out.up (M.out.xW TB.out.le _ _ _ _))⟩
     | with_reducible exact ⟨_, rfl, rfl, Lib.hid ((Tb.jX 28 _ M.out).up MW.out.gr.size), Lib.hid (MW.out.up (M.out.alloc _))⟩
  case rest =>
   clear M MW K2 TA zTA
   obtain ⟨tc, rfl, rfl, TC, M⟩ := hcut
   have xc := TC.out.row.cell
   go_wp2_with fail
   refine (G3.out _).mono ?_
   rintro r w3 ⟨rfl, hb⟩
   have M3 := Lib.hid ((M.out.below hb).alloc (.cells #[I n0, I n1, I n2, I n3] 28))
   have TN := Lib.hid (Tb.jX 28 #[I n0, I n1, I n2, I n3] (M.out.below hb))
   clear hb M TC xc
   go_upto_region 4 with fail
   generalize w3.alloc (.cells #[I n0, I n1, I n2, I n3] 28) = wd at M3 TN ⊢
   generalize w3.heap.size = tn at TN ⊢
   have zTN := TN.out.row.lt
   have M := Lib.hid (Sw.of M3.out.row)
   have K4 : Hid (∀ w' e', Row w' g 89 (wk c e' s 0 0 0) → Row w' tn 28 #[I n0, I n1, I n2, I n3] → (w'.cell? ⟨g, 39, none⟩ = some (I s.a0) ∧ w'.cell? ⟨g, 40, none⟩ = some (I s.a1) ∧ w'.cell? ⟨g, 41, none⟩ = some (I s.a2) ∧ w'.cell? ⟨tn, 0, none⟩ = some (I n0) ∧ w'.cell? ⟨tn, 1, none⟩ = some (I n1) ∧ w'.cell? ⟨tn, 2, none⟩ = some (I n2) ∧ w'.cell? ⟨tn, 3, none⟩ = some (I n3))) := Lib.hid (fun w' e' R T => ⟨R.cell 39, R.cell 40, R.cell 41, T.cell 0, T.cell 1, T.cell 2, T.cell 3⟩)
   go_cut [8, 9] (fun v8 v9 wc => ∃ tb : Nat, v8 = .pointer (some ⟨tb, 0, none⟩) ∧ v9 = .bool F4 ∧ Hid (Tb w 0 tb 42 #[I y0, I y1, I y2] wc) ∧ Hid (Tb w 0 tn 28 #[I n0, I n1, I n2, I n3] wc) ∧ Hid (Sw w [] g (wk c { e with sat := (((((e.sat || PQ.od s.g0) || PQ.od s.g1) || PQ.od s.g2) || PQ.od s.a0) || PQ.od s.a1) || PQ.od s.a2 } s 0 0 0) wc))
   case first =>
    go_region_held3 (fun w' => (w'.cell? ⟨g, 39, none⟩ = some (I s.a0) ∧ w'.cell? ⟨g, 40, none⟩ = some (I s.a1) ∧ w'.cell? ⟨g, 41, none⟩ = some (I s.a2) ∧ w'.cell? ⟨tn, 0, none⟩ = some (I n0) ∧ w'.cell? ⟨tn, 1, none⟩ = some (I n1) ∧ w'.cell? ⟨tn, 2, none⟩ = some (I n2) ∧ w'.cell? ⟨tn, 3, none⟩ = some (I n3)))
     (first | with_reducible exact K4.out _ _ (M.out).row (TN.out).row | with_reducible exact K4.out _ _ (M.out.drew).row (TN.out.drew).row | with_reducible exact K4.out _ _ (M.out.alloc _).row (TN.out.alloc _).row | with_reducible exact K4.out _ _ (M.out.drew.alloc _).row (TN.out.drew.alloc _).row | with_reducible exact K4.out _ _ ((M.out.alloc _).drew).row ((TN.out.alloc _).drew).row | with_reducible exact K4.out _ _ (M.out.jY TB.out.le _ _ _).row (TN.out.oL (Aj zTN TB.out.le) _ _ _).row | with_reducible exact K4.out _ _ ((M.out.alloc _).jY M.out.le' _ _ _).row ((TN.out.alloc _).oL (Aj zTN M.out.le') _ _ _).row)
     (first
       | (go_at_call 63
          first
           | ((with_reducible refine (G4.out _).mono ?_)
              rintro r wn ⟨rfl, hb⟩
              with_reducible have M' := Lib.hid (M.out.below hb)
              (try (have DR := Lib.hid (Tb.below (TB.out) hb); clear TB kc kf zt; have TB := DR; clear DR; have kc := TB.out.row.cell; have kf := TB.out.row.free; have zt := TB.out.row.lt))
              have Me := Lib.hid (Tb.below (TN.out) hb)
              clear hb M TN
              have M := M'
              clear M'
              have TN := Me
              clear Me)
           | ((with_reducible refine (G4.out _).mono ?_)
              rintro r wn ⟨rfl, hb⟩
              with_reducible have M' := Lib.hid ((M.out.alloc _).below hb)
              have TB := Lib.hid (Tb.below (Tb.jX 42 #[I 0, I 0, I 0] M.out) hb)
              have kc := TB.out.row.cell
              have kf := TB.out.row.free
              have zt := TB.out.row.lt
              have Me := Lib.hid (Tb.below ((TN.out.alloc _)) hb)
              clear hb M TN
              have M := M'
              clear M'
              have TN := Me
              clear Me))
       | (go_at_call 60
          first
           | ((with_reducible refine (jk g c _ s 0 0 0 s.a0 s.a1 s.a2 _ M.out.drew.row).mono ?_)
              rintro r wn ⟨rfl, hw⟩
              with_reducible have M' := Lib.hid (M.out.drew.work hw)
              have Me := Lib.hid (Tb.work (TN.out.drew) hg hw.gr)
              clear hw M TN
              have M := M'
              clear M'
              have TN := Me
              clear Me)
           | ((with_reducible refine (jk g c _ s 0 0 0 s.a0 s.a1 s.a2 _ (M.out.drew.alloc _).row).mono ?_)
              rintro r wn ⟨rfl, hw⟩
              with_reducible have M' := Lib.hid ((M.out.drew.alloc _).work hw)
              have TB := Lib.hid (Tb.work (Tb.jX 42 #[I 0, I 0, I 0] M.out.drew) M.out.lt hw.gr)
              have kc := TB.out.row.cell
              have kf := TB.out.row.free
              have zt := TB.out.row.lt
              have Me := Lib.hid (Tb.work ((TN.out.drew.alloc _)) hg hw.gr)
              clear hw M TN
              have M := M'
              clear M'
              have TN := Me
              clear Me)
           | ((with_reducible refine (jk g c _ s 0 0 0 s.a0 s.a1 s.a2 _ (M.out.alloc _).drew.row).mono ?_)
              rintro r wn ⟨rfl, hw⟩
              with_reducible have M' := Lib.hid ((M.out.alloc _).drew.work hw)
              have TB := Lib.hid (Tb.work (Tb.drew (Tb.jX 42 #[I 0, I 0, I 0] M.out)) M.out.lt hw.gr)
              have kc := TB.out.row.cell
              have kf := TB.out.row.free
              have zt := TB.out.row.lt
              have Me := Lib.hid (Tb.work ((TN.out.alloc _).drew) hg hw.gr)
              clear hw M TN
              have M := M'
              clear M'
              have TN := Me
              clear Me)))
    all_goals (go_wp2_with fail; go_meet)
    all_goals
     first
      | with_reducible exact ⟨_, rfl, rfl, Lib.hid ((TB.out.bQ _ _ _).up M3.out.gr.size), Lib.hid (TN.out.oL (Aj zTN TB.out.le) _ _ _), Lib.hid (M3.out.up (M.out.jY TB.out.le _ _ _))⟩
      | with_reducible exact ⟨_, rfl, rfl, Lib.hid ((Tb.jX 42 _ M.out).up M3.out.gr.size), Lib.hid (TN.out.alloc _), Lib.hid (M3.out.up (M.out.alloc _))⟩
   case rest =>
    clear M M3 K4 TN zTN
    obtain ⟨ty, rfl, rfl, TY, TN, M⟩ := hcut
    have K5 : Hid (∀ w', Row w' ty 42 #[I y0, I y1, I y2] → Row w' tn 28 #[I n0, I n1, I n2, I n3] → (w'.cell? ⟨ty, 0, none⟩ = some (I y0) ∧ w'.cell? ⟨ty, 1, none⟩ = some (I y1) ∧ w'.cell? ⟨ty, 2, none⟩ = some (I y2) ∧ w'.cell? ⟨tn, 0, none⟩ = some (I n0) ∧ w'.cell? ⟨tn, 1, none⟩ = some (I n1) ∧ w'.cell? ⟨tn, 2, none⟩ = some (I n2) ∧ w'.cell? ⟨tn, 3, none⟩ = some (I n3))) := Lib.hid (fun w' R T => ⟨R.cell 0, R.cell 1, R.cell 2, T.cell 0, T.cell 1, T.cell 2, T.cell 3⟩)
    have MW : Hid (iC w g c { e with sat := (((((e.sat || PQ.od s.g0) || PQ.od s.g1) || PQ.od s.g2) || PQ.od s.a0) || PQ.od s.a1) || PQ.od s.a2 } s 0 0 0 wc) := Lib.hid ⟨M.out.row, M.out.gr⟩
    have hcw := M.out.row.cell
    have hfw := M.out.row.free
    have n1' : ty ≠ g := by have := TY.out.le; omega
    have n2' : tn ≠ g := by have := TN.out.le; omega
    go_upto_region 5 with fail
    go_cut [] (fun wc => Hid (iC w g c { { e with sat := (((((e.sat || PQ.od s.g0) || PQ.od s.g1) || PQ.od s.g2) || PQ.od s.a0) || PQ.od s.a1) || PQ.od s.a2 } with q0 := n0, q1 := n1, q2 := n2, q3 := n3 } s y0 y1 y2 wc))
    case first =>
     go_region_held3 (fun w' => (w'.cell? ⟨ty, 0, none⟩ = some (I y0) ∧ w'.cell? ⟨ty, 1, none⟩ = some (I y1) ∧ w'.cell? ⟨ty, 2, none⟩ = some (I y2) ∧ w'.cell? ⟨tn, 0, none⟩ = some (I n0) ∧ w'.cell? ⟨tn, 1, none⟩ = some (I n1) ∧ w'.cell? ⟨tn, 2, none⟩ = some (I n2) ∧ w'.cell? ⟨tn, 3, none⟩ = some (I n3)))
      (first | with_reducible exact K5.out _ TY.out.row TN.out.row | with_reducible exact K5.out _ TY.out.row.drew TN.out.row.drew | with_reducible exact K5.out _ (Row.drew (Row.oK TY.out.row n1' _ _ _ _)) (Row.drew (Row.oK TN.out.row n2' _ _ _ _)) | with_reducible exact K5.out _ (Row.drew (Row.U8 TY.out.row n1' _ _ _ _ _ _ _)) (Row.drew (Row.U8 TN.out.row n2' _ _ _ _ _ _ _)))
      (fail)
     go_wp2_with fail
     go_meet
     with_reducible exact Lib.hid ((MW.out).step (MR M.out.row n0 n1 n2 n3 y0 y1 y2).drew)
    case rest =>
     clear M TY TN K5 hcw hfw MW
     have M := hcut
     clear hcut
     cases F1
     · cases F2
       · cases F3
         · go_wp2_with fail
           refine (kP g c _ s y0 y1 y2 F4 _ M.out.row).mono ?_
           rintro r w9 ⟨rfl, hw⟩
           have W9 := Lib.hid (M.out.step hw)
           clear hw M
           go_wp2
           go_end0
           exact ⟨rfl, W9.out⟩
         · go_wp2_with fail
           refine (kP g c _ s y0 y1 y2 true _ M.out.row).mono ?_
           rintro r w9 ⟨rfl, hw⟩
           have W9 := Lib.hid (M.out.step hw)
           clear hw M
           go_wp2
           go_end0
           exact ⟨rfl, W9.out⟩
       · go_wp2_with fail
         refine (kP g c _ s y0 y1 y2 true _ M.out.row).mono ?_
         rintro r w9 ⟨rfl, hw⟩
         have W9 := Lib.hid (M.out.step hw)
         clear hw M
         go_wp2
         go_end0
         exact ⟨rfl, W9.out⟩
     · go_wp2_with fail
       refine (kP g c _ s y0 y1 y2 true _ M.out.row).mono ?_
       rintro r w9 ⟨rfl, hw⟩
       have W9 := Lib.hid (M.out.step hw)
       clear hw M
       go_wp2
       go_end0
       exact ⟨rfl, W9.out⟩
end Go.Proofs.Ytnijhjbcjeohhaa.EE

namespace Go.Proofs.Ytnijhjbcjeohhaa.KK
open Go.RowKit Go.Proofs.af.aO Go.Proofs.af.aU Go.Proofs.af.aV
set_option linter.unusedVariables false
set_option linter.unusedSimpArgs false
def GY : List Value → Nat → List Value → List Value
 | l, _, [] => l
 | l, o, v :: vs => GY (l.set o v) (o + 1) vs
theorem Row.setCells {B : Nat} {t : TypeId} : ∀ (vs : List Value) (o : Nat) (w : World) (arr : Array Value), Row w B t arr → ∃ OO, Row (w.setCells B o vs) B t OO ∧ OO.toList = GY arr.toList o vs := by
 intro vs
 induction vs with
 | nil => intro o w arr h; exact ⟨arr, h, rfl⟩
 | cons v vs ih =>
   intro o w arr h
   obtain ⟨OO, h1, h2⟩ := ih (o + 1) _ _ (h.set o v)
   refine ⟨OO, h1, ?_⟩
   rw [h2]
   simp [GY]
theorem eu {B n : Nat} {w0 : World} : ∀ (vs : List Value) (o : Nat) (w : World), Below n w0 w → n ≤ B → Below n w0 (w.setCells B o vs) := by
 intro vs
 induction vs with
 | nil => intro o w h _; exact h
 | cons v vs ih => intro o w h hB; exact ih (o + 1) _ (h.setCell (p := ⟨B, o, none⟩) hB v) hB
theorem PI (a b : Value) : ∀ (k j m : Nat), k ≤ m → GY (List.replicate j a ++ List.replicate m b) j (List.replicate k a) = List.replicate (j + k) a ++ List.replicate (m - k) b := by
 intro k
 induction k with
 | zero => intro j m _; simp [GY]
 | succ k ih =>
   intro j m h
   obtain ⟨m', rfl⟩ : ∃ m', m = m' + 1 := ⟨m - 1, by omega⟩
   show GY ((List.replicate j a ++ List.replicate (m' + 1) b).set j a) (j + 1) (List.replicate k a) = _
   have e : (List.replicate j a ++ List.replicate (m' + 1) b).set j a = List.replicate (j + 1) a ++ List.replicate m' b := by
    rw [List.set_append_right _ _ (by simp)]
    rw [List.length_replicate, Nat.sub_self, List.replicate_succ, List.set_cons_zero, show j + 1 = j + 1 from rfl, List.replicate_succ' (n := j), List.append_assoc]
    rfl
   rw [e, ih (j + 1) m' (by omega), show j + 1 + k = j + (k + 1) by omega, show m' - k = m' + 1 - (k + 1) by omega]
def Rep (w : World) (B n : Nat) (q : Int) (j : Nat) : Prop := ∃ arr, Row w B 22 arr ∧ arr.toList = List.replicate j (I q) ++ List.replicate (n - j) (I 0)
theorem Rep.cell {w : World} {B n : Nat} {q : Int} {j : Nat} (h : Rep w B n q j) {x : Nat} (hx : x < j) : w.cell? ⟨B, x, none⟩ = some (I q) := by
 obtain ⟨arr, hr, ha⟩ := h
 rw [hr.cell x, ← Array.getElem?_toList, ha, List.getElem?_append_left (by simpa using hx)]
 simp [hx]
theorem Rep.some {w : World} {B n : Nat} {q : Int} {j : Nat} (h : Rep w B n q j) {x : Nat} (hx : x < n) (hj : j ≤ n) : (w.cell? ⟨B, x, none⟩).isSome = true := by
 obtain ⟨arr, hr, ha⟩ := h
 have hs : arr.size = n := by rw [← Array.length_toList, ha]; simp; omega
 rw [hr.cell x, Array.getElem?_eq_getElem (by omega)]
 rfl
theorem Rep.free {w : World} {B n : Nat} {q : Int} {j : Nat} (h : Rep w B n q j) (x : Nat) : w.frozen? ⟨B, x, none⟩ = false := by
 obtain ⟨arr, hr, _⟩ := h
 exact hr.free x
theorem Rep.put {w : World} {B n : Nat} {q : Int} {j k : Nat} (h : Rep w B n q j) (hk : j + k ≤ n) : Rep (w.setCells B j (List.replicate k (I q))) B n q (j + k) := by
 obtain ⟨arr, hr, ha⟩ := h
 obtain ⟨OO, h1, h2⟩ := hr.setCells (List.replicate k (I q)) j
 exact ⟨OO, h1, by rw [h2, ha, PI _ _ _ _ _ (by omega), show n - j - k = n - (j + k) by omega]⟩
theorem Rep.drew {w : World} {B n : Nat} {q : Int} {j : Nat} (h : Rep w B n q j) : Rep w.drew B n q j := h
theorem Rep.own {w : World} {B n base : Nat} {q : Int} (h : Rep w B n q n) (hb : base ≤ B) (hn : n ≤ 1000000) : Own w base (.slice (Option.some ⟨B, 0, none⟩) n n) (List.replicate n q) := by
 obtain ⟨arr, hr, ha⟩ := h
 have hs : arr.size = n := by rw [← Array.length_toList, ha]; simp
 have hl : (List.replicate n q).length = n := by simp
 refine Own.sH ⟨by rw [hl]; simp, .inr ⟨B, n, arr, by rw [hl], hb, hr, by rw [hl]; omega, by simp only [maxLen]; omega, by rw [hs]; omega, ?_⟩⟩
 rw [hl, Nat.mul_one, ha, Nat.sub_self]
 simp
theorem Ir (w : World) (ty : TypeId) (B j dLen dCap b sLen sCap k : Nat) (q : Int) (hk : k = Nat.min sLen dLen)
 (hsrc : ∀ x, x < k → w.cell? ⟨b, x, none⟩ = some (I q)) (hc : ∀ x, x < k → (w.cell? ⟨B, j + x, none⟩).isSome = true) (hf : ∀ x, w.frozen? ⟨B, x, none⟩ = false) :
 (Builtin.copy_ #[29, 29] ty #[.slice (some ⟨B, j, none⟩) dLen dCap, .slice (some ⟨b, 0, none⟩) sLen sCap]).run Try.prog w = .ok (I k) (w.setCells B j (List.replicate k (I q))) := by
 have h := run_copy_cells (P := Try.prog) w 29 29 ty 22 B j dLen dCap ⟨b, 0, none⟩ sLen sCap (List.replicate k (I q)) Try.underlying29 (by kernel_rfl) (by simpa using hk)
  (fun x v hx => by
    rw [List.getElem?_replicate] at hx
    split at hx
    · injection hx with hx
      subst hx
      have := hsrc x (by assumption)
      unfold Addr.add
      by_cases h0 : x = 0
      · subst h0; simpa using this
      · rw [if_neg h0]; simpa using this
    · cases hx)
  (fun x hx => hc x (by simpa using hx)) (fun x hx => hf _) (fun v hv => by rw [List.eq_of_mem_replicate hv]; rfl)
 simpa [goInt] using h
theorem Nr (w : World) {ops : Array Oper} {o : Oper} {a : Act} {K : Act → World → Prop} {Q : Exit → Act → World → Prop} {E : Prop} (hg : o.guard = none) (d s : Operand)
 (hop : o.op = .call { callee := .builtin .copy, args := #[d, s], argTypes := #[29, 29] })
 (B j dLen dCap b sLen sCap k : Nat) (q : Int) (hd : a.eval d = .slice (some ⟨B, j, none⟩) dLen dCap) (hs : a.eval s = .slice (some ⟨b, 0, none⟩) sLen sCap) (hk : k = Nat.min sLen dLen)
 (hsrc : ∀ x, x < k → w.cell? ⟨b, x, none⟩ = some (I q)) (hc : ∀ x, x < k → (w.cell? ⟨B, j + x, none⟩).isSome = true) (hf : ∀ x, w.frozen? ⟨B, x, none⟩ = false)
 (hK : K (a.put o.dst (I k)) (w.setCells B j (List.replicate k (I q)))) :
 if Region.wanted o (yielded ops a.tmps) = true then Oper.wp Try.prog o a w K Q else E := by
 have hw : Region.wanted o (yielded ops a.tmps) = true := by simp [Region.wanted, hg]
 rw [if_pos hw]
 have hrun := Ir w o.type B j dLen dCap b sLen sCap k q hk hsrc hc hf
 unfold Oper.wp execOp
 simp only [hop, resolve, invoke, builtin, Sem.run_bind, Sem.run_pure, Result.andThen_ok, List.map_toArray, List.map_cons, List.map_nil, hd, hs, hrun]
 exact hK
theorem Dq (w : World) (n : Nat) (hn : n ≤ 1000000) : (Instr.makeSlice 29 (.int .i64 n) (.int .i64 n)).run Try.prog w = .ok (.slice (some ⟨w.heap.size, 0, none⟩) n n) (w.alloc (.cells (madeCells #[I 0] n) 22)) := by
 obtain ⟨i0, hi0, hz0, hz1, hz2⟩ := info_parts Jm
 have := run_make (P := Try.prog) w 29 22 i0 (I 0) Try.underlying29 hi0 hz0 .i64 .i64 n n (by omega) (Int.le_refl _) (by rw [hz2]; omega) (by omega)
 rw [hz1] at this
 simpa [Value.cells] using this
theorem N_ (n : Nat) : (madeCells #[I 0] n).toList = List.replicate n (I 0) := by
 unfold madeCells
 apply List.ext_getElem
 · simp
 · intro i h1 h2
   simp at h1 ⊢
   rw [Nat.mod_one]
   rfl
theorem Eh (b n : Nat) (q : Int) (w : World) (hb : w.cell? ⟨b, 0, none⟩ = some (I q)) (h1 : 1 ≤ n) (h8 : n ≤ 8) :
 Calls Try.prog 130 #[.slice (some ⟨b, 0, none⟩) 1 1, I n] w fun e w' => ∃ A c, e = .returned (.slice A n c) ∧ Own w' w.heap.size (.slice A n c) (List.replicate n q) ∧ Below w.heap.size w w' := by
 have hm : PQ.bits_Mul.f 1 (n : Int) = some ((0 : Int), (n : Int)) := by
  rcases (show n = 1 ∨ n = 2 ∨ n = 3 ∨ n = 4 ∨ n = 5 ∨ n = 6 ∨ n = 7 ∨ n = 8 by omega) with h | h | h | h | h | h | h | h <;> subst h <;> decide +kernel
 have HM := Lib.hid (fun w => PQ.bits_Mul.calls 1 n 0 n w hm)
 have e0 : decide ((n : Int) < 0) = false := decide_eq_false (by omega)
 have e1 : decide ((n : Int) > 9223372036854775807) = false := decide_eq_false (by omega)
 have e2 : IntKind.u64.wrap (n : Int) = n := by simp [IntKind.wrap, IntKind.bits, IntKind.signed]; omega
 have e3 : IntKind.i64.wrap (n : Int) = n := by simp [IntKind.wrap, IntKind.bits, IntKind.signed]; omega
 have H1 := Lib.hid h1
 have H8 := Lib.hid h8
 have HB := Lib.hid hb
 clear hm h1 h8 hb
 go_enter Try.func130, Try.ntmps130
 go_wp2_with fail
 refine (HM.out _).mono ?_
 rintro e w2 ⟨rfl, hd⟩
 have D2 := Lib.hid hd.below
 clear hd
 have hz := Dq w2 n (by have := H8.out; omega)
 have R0 : Hid (Rep (w2.alloc (.cells (madeCells #[I 0] n) 22)) w2.heap.size n q 0) := Lib.hid ⟨_, Row.new _ _ _, by rw [N_]; simp⟩
 have B2 : Hid (Below w.heap.size w (w2.alloc (.cells (madeCells #[I 0] n) 22))) := Lib.hid (D2.out.alloc D2.out.size _)
 have S2 : Hid (w.heap.size ≤ w2.heap.size) := Lib.hid D2.out.size
 have hb2 : Hid ((w2.alloc (.cells (madeCells #[I 0] n) 22)).cell? ⟨b, 0, none⟩ = some (I q)) := Lib.hid ((B2.out.cell (p := ⟨b, 0, none⟩) (cell_lt HB.out)).trans HB.out)
 have hx0 : ∀ x, x < 1 → (w2.alloc (.cells (madeCells #[I 0] n) 22)).cell? ⟨b, x, none⟩ = some (I q) := by
  intro x hx
  have : x = 0 := by omega
  subst this
  exact hb2.out
 have hx1 : ∀ x, x < 1 → ((w2.alloc (.cells (madeCells #[I 0] n) 22)).cell? ⟨w2.heap.size, 0 + x, none⟩).isSome = true := by
  intro x hx
  have := H1.out
  exact R0.out.some (by omega) (by omega)
 have hx2 : 1 = Nat.min 1 n := (Nat.min_eq_left H1.out).symm
 have hcp := Ir (w2.alloc (.cells (madeCells #[I 0] n) 22)) 3 w2.heap.size 0 n n b 1 1 1 q hx2 hx0 hx1 R0.out.free
 clear hx0 hx1 hx2
 have R1 := Lib.hid (R0.out.put (k := 1) (by have := H1.out; omega))
 have B3 := Lib.hid (eu (B := w2.heap.size) (List.replicate 1 (I q)) 0 _ B2.out S2.out)
 obtain ⟨w3, hw3⟩ : ∃ w3, (w2.alloc (.cells (madeCells #[I 0] n) 22)).setCells w2.heap.size 0 (List.replicate 1 (I q)) = w3 := ⟨_, rfl⟩
 rw [hw3] at hcp R1 B3
 clear hw3
 go_wp2_with fail
 clear hcp hz R0 B2 hb2 D2
 go_loopw [8] (fun jj wr => ∃ j : Nat, 1 ≤ j ∧ j ≤ n ∧ jj = .int .i64 j ∧ Hid (Rep wr w2.heap.size n q j) ∧ Hid (Below w.heap.size w wr)) (fun jj _ => n - (intOf jj).toNat)
 case atStart => exact ⟨1, by omega, H1.out, rfl, by simpa using R1, B3⟩
 case round =>
  clear R1 B3
  obtain ⟨j, h1, hj, rfl, R, HB⟩ := hrel
  by_cases hjn : j = n
  · subst hjn
    go_wp2
    go_ret
    exact ⟨_, _, rfl, R.out.own S2.out (by have := H8.out; omega), HB.out⟩
  have hlt : (j : Int) < n := by omega
  have hj0 : (0 : Int) ≤ j := by omega
  have hjle : (j : Int) ≤ n := by omega
  have hne : ¬ n = j := by omega
  obtain ⟨k, hk⟩ : ∃ k, Nat.min j (n - j) = k := ⟨_, rfl⟩
  have hk2 : k ≤ j ∧ k ≤ n - j ∧ 1 ≤ k := by subst hk; exact ⟨Nat.min_le_left _ _, Nat.min_le_right _ _, Nat.le_min.2 ⟨h1, by omega⟩⟩
  have STEP : Hid (1 ≤ j + k ∧ j + k ≤ n ∧ n - (j + k) < n - j) := Lib.hid (by omega)
  have hw64 : IntKind.i64.wrap ((j : Int) + k) = ((j + k : Nat) : Int) := by have := H8.out; simp [IntKind.wrap, IntKind.bits, IntKind.signed]; omega
  have HK := Lib.hid hk
  have KI := Lib.hid hk2
  have HJ := Lib.hid (show 1 ≤ j ∧ j < n by omega)
  clear hk hk2 h1 hj hjn
  have hq0 : ∀ x, x < k → wr.drew.cell? ⟨w2.heap.size, x, none⟩ = some (I q) := fun x hx => R.out.drew.cell (by have := KI.out; omega)
  have hq1 : ∀ x, x < k → (wr.drew.cell? ⟨w2.heap.size, j + x, none⟩).isSome = true := fun x hx => R.out.drew.some (by have := KI.out; have := HJ.out; omega) (by have := HJ.out; omega)
  have Q0 := Lib.hid hq0
  have Q1 := Lib.hid hq1
  clear hq0 hq1
  go_wp2_with fail
  go_region_held3 (fun w' => True)
   (first | trivial)
   (first
     | (refine Nr _ rfl (.tmp 41) (.tmp 44) rfl w2.heap.size j (n - j) (n - j) w2.heap.size j n k q rfl rfl HK.out.symm Q0.out Q1.out R.out.drew.free ?_
        have R2 := Lib.hid (R.out.drew.put (k := k) (by have := STEP.out; omega))
        have HB2 := Lib.hid (eu (B := w2.heap.size) (List.replicate k (I q)) j _ HB.out.drew S2.out)
        generalize wr.drew.setCells w2.heap.size j (List.replicate k (I q)) = w4 at R2 HB2 ⊢))
  all_goals
   go_wp2
   go_roundw
   case rel => exact ⟨j + k, STEP.out.1, STEP.out.2.1, by go_num, R2, HB2⟩
   case measure =>
    have h := STEP.out.2.2
    show n - ((j + k : Nat) : Int).toNat < n - ((j : Int)).toNat
    rw [Int.toNat_natCast, Int.toNat_natCast]
    exact h
def mg (n : Nat) : List Int := fF (List.replicate n 16777216)
theorem Oq (n : Nat) (w : World) (h1 : 1 ≤ n) (h8 : n ≤ 8) :
 Calls Try.prog 126 #[I n] w fun e w' => ∃ v, e = .returned (.tuple #[.agg #[I n, I n, v], I 0]) ∧ Own w' w.heap.size v (mg n) ∧ Below w.heap.size w w' := by
 have N : Hid (aX w [(31, #[I 0, I 0, .slice none 0 0]), (22, #[I 16777216])] ((w.alloc (.cells #[I 0, I 0, .slice none 0 0] 31)).alloc (.cells #[I 16777216] 22))) := Lib.hid (((aX.none w).push (by simp) _ _).push (by simp) _ _)
 have e1 : decide ((n : Int) < 1) = false := decide_eq_false (by omega)
 have e2 : decide ((n : Int) > 8) = false := decide_eq_false (by omega)
 have HR := Lib.hid (Eh (w.heap.size + 1) n 16777216 _ (N.out.r1.cell 0) h1 h8)
 have hany : (List.replicate n (16777216 : Int)).any kR = false := by
  rw [List.any_eq_false]
  intro x hx
  rw [List.eq_of_mem_replicate hx]
  decide
 have hlen : (List.replicate n (16777216 : Int)).length = n := by simp
 have HD := Lib.hid (fun A c w' h => xY A c (List.replicate n 16777216) w' h (by rw [hlen]; exact h1) (by rw [hlen]; exact h8) hany)
 obtain ⟨L, hL⟩ : ∃ L, mg n = L := ⟨_, rfl⟩
 rw [hL]
 unfold mg at hL
 rw [hlen, hL] at HD
 clear h1 h8 hany hlen hL
 go_enter Try.func126, Try.ntmps126
 go_wp2_with fail
 refine HR.out.mono ?_
 rintro e w2 ⟨A, c, rfl, ho, hb⟩
 have N2 := Lib.hid (N.out.below hb)
 obtain ⟨A', c', he, _, hr⟩ := ho.reads
 injection he with e1 e2 e3
 subst e1 e3
 have HR2 := Lib.hid hr
 clear hb ho hr e2 HR
 go_wp2_with fail
 refine (HD.out _ _ _ HR2.out).mono ?_
 rintro e w3 ⟨v, rfl, ho, hb⟩
 obtain ⟨A3, c3, rfl, _, _⟩ := ho.reads
 have O := Lib.hid ho
 have N3 := Lib.hid (N2.out.below hb)
 have L2 := N2.out.r1.lt
 clear hb ho
 have x0 := N3.out.r0.cell
 have g0 := N3.out.r0.free
 have t0 := N3.out.r0.lt
 go_wp2
 refine bodyPost_ret (Lc rfl rfl (N3.out.r0.bQ _ _ _)) rfl ⟨_, rfl, ?_, Below.bQ N3.out.be (by omega) _ _ _⟩
 exact (O.out.bQ (by omega) _ _ _).lower (by omega)
end Go.Proofs.Ytnijhjbcjeohhaa.KK

namespace Go.Proofs.Ytnijhjbcjeohhaa.PQ
open Go.RowKit Go.Proofs.af.aO Go.Proofs.af.aU Go.Proofs.af.aV Go.Proofs.Ytnijhjbcjeohhaa.KK
set_option linter.unusedVariables false
set_option linter.unusedSimpArgs false
theorem PV {a b : Int} {n : Nat} (ha : 0 ≤ a) (hb : 0 ≤ b) (h : (n : Int) = a * b) : n = a.toNat * b.toNat := by
 obtain ⟨x, rfl⟩ := Int.eq_ofNat_of_zero_le ha
 obtain ⟨y, rfl⟩ := Int.eq_ofNat_of_zero_le hb
 simp only [Int.toNat_natCast]
 exact_mod_cast h
theorem toInt {a : Int} (ha : 0 ≤ a) : ((a.toNat : Nat) : Int) = a := by omega
def ji.f (aW : Int) (aY : Int) (aZ : List Int) : Option (Int × Int × List Int) := if 0 ≤ aW ∧ aW ≤ 8 ∧ 0 ≤ aY ∧ aY ≤ 8 ∧ (aZ.length : Int) = aW * aY then some (aY, aW, yX aW.toNat aY.toNat aZ) else none
theorem ji.calls (aW : Int) (aY : Int) (cu : Option Addr) (b_ : Nat) (aZ : List Int) (r1 : Int) (r2 : Int) (r3 : List Int) (w : World) (jF : Kd.C (Kd.int .i64) w cu aZ.length aZ) (kF : aZ.length ≤ b_) (h : ji.f aW aY aZ = some (r1, r2, r3)) :
 Calls Try.prog 77 #[.agg #[.int .i64 aW, .int .i64 aY, .slice cu aZ.length b_]] w fun e w' => ∃ Gs : Value, e = .returned (.agg #[.int .i64 r1, .int .i64 r2, Gs]) ∧ Kd.R (Kd.int .i64) 22 w' w.heap.size (fun _ => True) Gs r3 ∧ Below w.heap.size w w' := by
 unfold ji.f at h
 split at h
 · rename_i hs
   obtain ⟨s0, s1, s2, s3, s4⟩ := hs
   simp only [Option.some.injEq, Prod.mk.injEq] at h
   obtain ⟨rfl, rfl, rfl⟩ := h
   have := mJ aW.toNat aY.toNat cu b_ aZ w (by omega) (by omega) (PV s0 s2 s4) jF
   rw [toInt s0, toInt s2] at this
   exact this
 · cases h
def iD.f (aW : Int) (aY : Int) (aZ : List Int) (cZ : Int) (dn : Int) (bV : List Int) : Option (Int × Int × List Int × Bool × Int) :=
 if aY = cZ then (if (0 ≤ aW ∧ aW ≤ 8 ∧ 0 ≤ aY ∧ aY ≤ 8 ∧ (aZ.length : Int) = aW * aY) ∧ (0 ≤ cZ ∧ cZ ≤ 8 ∧ 0 ≤ dn ∧ dn ≤ 8 ∧ (bV.length : Int) = cZ * dn) then some (aW, dn, mulL aW.toNat aY.toNat dn.toNat aZ bV, qF aW.toNat aY.toNat dn.toNat aZ bV, 0) else none) else some (0, 0, [], false, 9)
theorem iD.calls (aW : Int) (aY : Int) (cu : Option Addr) (b_ : Nat) (aZ : List Int) (cZ : Int) (dn : Int) (gm : Option Addr) (gp : Nat) (bV : List Int) (r1 : Int) (r2 : Int) (r3 : List Int) (r4 : Bool) (r5 : Int) (w : World) (jF : Kd.C (Kd.int .i64) w cu aZ.length aZ) (kF : aZ.length ≤ b_) (qh : Kd.C (Kd.int .i64) w gm bV.length bV) (rF : bV.length ≤ gp) (h : iD.f aW aY aZ cZ dn bV = some (r1, r2, r3, r4, r5)) :
 Calls Try.prog 101 #[.agg #[.int .i64 aW, .int .i64 aY, .slice cu aZ.length b_], .agg #[.int .i64 cZ, .int .i64 dn, .slice gm bV.length gp]] w fun e w' => ∃ Gs : Value, e = .returned (.tuple #[.agg #[.int .i64 r1, .int .i64 r2, Gs], .bool r4, .int .i64 r5]) ∧ Kd.R (Kd.int .i64) 22 w' w.heap.size (fun _ => True) Gs r3 ∧ Below w.heap.size w w' := by
 unfold iD.f at h
 split at h
 · rename_i he
   subst he
   split at h
   · rename_i hs
     obtain ⟨⟨s0, s1, s2, s3, s4⟩, t0, t1, t2, t3, t4⟩ := hs
     simp only [Option.some.injEq, Prod.mk.injEq] at h
     obtain ⟨rfl, rfl, rfl, rfl, rfl⟩ := h
     have := wM aW.toNat aY.toNat dn.toNat cu gm b_ gp aZ bV w (by omega) (by omega) (by omega) (PV s0 s2 s4) (PV t0 t2 t4) jF qh
     rw [toInt s0, toInt s2, toInt t2] at this
     exact this
   · cases h
 · rename_i he
   simp only [Option.some.injEq, Prod.mk.injEq] at h
   obtain ⟨rfl, rfl, rfl, rfl, rfl⟩ := h
   refine (G_ aW aY cZ dn cu gm b_ gp aZ bV w he).mono ?_
   rintro e w' ⟨rfl, hb⟩
   exact ⟨_, rfl, Own.nil _ _, hb⟩
def n_.f (aW : Int) (aY : Int) (aZ : List Int) : Option (Int × Int × List Int × Bool × Int) := if aW = aY ∧ 0 ≤ aW ∧ aW ≤ 8 ∧ 0 ≤ aY ∧ aY ≤ 8 ∧ (aZ.length : Int) = aW * aY then some (aW, aY, Dy aW.toNat aZ, jv lH aW.toNat aW.toNat aZ (yX aW.toNat aW.toNat aZ), 0) else none
theorem n_.calls (aW : Int) (aY : Int) (cu : Option Addr) (b_ : Nat) (aZ : List Int) (r1 : Int) (r2 : Int) (r3 : List Int) (r4 : Bool) (r5 : Int) (w : World) (jF : Kd.C (Kd.int .i64) w cu aZ.length aZ) (kF : aZ.length ≤ b_) (h : n_.f aW aY aZ = some (r1, r2, r3, r4, r5)) :
 Calls Try.prog 116 #[.agg #[.int .i64 aW, .int .i64 aY, .slice cu aZ.length b_]] w fun e w' => ∃ Gs : Value, e = .returned (.tuple #[.agg #[.int .i64 r1, .int .i64 r2, Gs], .bool r4, .int .i64 r5]) ∧ Kd.R (Kd.int .i64) 22 w' w.heap.size (fun _ => True) Gs r3 ∧ Below w.heap.size w w' := by
 unfold n_.f at h
 split at h
 · rename_i hs
   obtain ⟨rfl, s0, s1, s2, s3, s4⟩ := hs
   simp only [Option.some.injEq, Prod.mk.injEq] at h
   obtain ⟨rfl, rfl, rfl, rfl, rfl⟩ := h
   have := Ot aW.toNat cu b_ aZ w (by omega) (PV s0 s2 s4) jF kF
   rw [toInt s0] at this
   exact this
 · cases h
end Go.Proofs.Ytnijhjbcjeohhaa.PQ

namespace Go.Proofs.Ytnijhjbcjeohhaa.PR
open Go.RowKit Go.Proofs.Ytnijhjbcjeohhaa.PQ Go.Proofs.af.aO Go.Proofs.af.aU Go.Proofs.af.aV
attribute [local go_sem] gW gU jq jo fP fO gV gQ
set_option linter.unusedVariables false
set_option linter.unusedSimpArgs false
def Qo : Option Int → Value
 | none => .nilIface
 | some c => .iface 0 (.int .i64 c)
theorem aN : Qo none = .nilIface := rfl
theorem aK (c : Int) : Qo (some c) = .iface 0 (.int .i64 c) := rfl
end Go.Proofs.Ytnijhjbcjeohhaa.PR

namespace Go.Proofs.Ytnijhjbcjeohhaa.PR
open Go.RowKit Go.Proofs.Ytnijhjbcjeohhaa.PQ Go.Proofs.af.aO Go.Proofs.af.aU Go.Proofs.af.aV
attribute [local go_sem] gW gU jq jo fP fO gV gQ
set_option linter.unusedVariables false
set_option linter.unusedSimpArgs false
def aC (w0 W : World) (g : Nat) (f0 : Bool) : Prop := W.heap[g]? = some (.cells #[.bool f0] 158 (0, 0)) ∧ w0.heap.size ≤ g
theorem aC.grown {w0 W : World} {g : Nat} {f0 : Bool} {W1 : World} {row : Option Nat} (h : aC w0 W g f0) (hw : W.grownBy W1 row) (hne : some g ≠ row) : aC w0 W1 g f0 := by
 obtain ⟨hb, hg⟩ := h
 exact ⟨OJ hb hw hne, hg⟩
theorem aC.below {w0 W : World} {g : Nat} {f0 : Bool} {W1 : World} (h : aC w0 W g f0) (hw : Below W.heap.size W W1) : aC w0 W1 g f0 := h.grown (dA hw none) (by simp)
theorem aC.alloc {w0 W : World} {g : Nat} {f0 : Bool} (h : aC w0 W g f0) (o : Obj) : aC w0 (W.alloc o) g f0 := h.below (ak (Below.refl _ _) o)
theorem aC.drewN {w0 W : World} {g : Nat} {f0 : Bool} (h : aC w0 W g f0) (m : Nat) : aC w0 (W.drewN m) g f0 := h
theorem aC.drew {w0 W : World} {g : Nat} {f0 : Bool} (h : aC w0 W g f0) : aC w0 W.drew g f0 := h
theorem aC.apart {w0 W : World} {g : Nat} {f0 : Bool} {α : Type} {d : Kd α} {e : Nat} {base : Nat} {ok : Nat → Prop} {v : Value} {xs : List α} (h : aC w0 W g f0) (ho : d.R e W base ok v xs) (ht : ∀ q, q ∈ e :: d.E → q ≠ 158) : d.R e W base (fun k => ok k ∧ k ≠ g) v xs := by
 obtain ⟨hb, hg⟩ := h
 exact Kd.uI ho hb ht
theorem aC.lt {w0 W : World} {g : Nat} {f0 : Bool} (h : aC w0 W g f0) : g < W.heap.size := by
 obtain ⟨hb, hg⟩ := h
 exact fC hb
theorem aC.ge {w0 W : World} {g : Nat} {f0 : Bool} (h : aC w0 W g f0) : w0.heap.size ≤ g := by
 obtain ⟨hb, hg⟩ := h
 exact hg
theorem aC.far {w0 W : World} {g : Nat} {f0 : Bool} {p : Addr} (h : aC w0 W g f0) (hne : g ≠ p.block) (u : Value) : aC w0 (W.setCell p u) g f0 := by
 obtain ⟨hb, hg⟩ := h
 exact ⟨kL hb hne u, hg⟩
theorem BG {W : World} {g : Nat} {f0 : Bool} (h : W.heap[g]? = some (.cells #[.bool f0] 158 (0, 0))) : W.cell? ⟨g, 0, none⟩ = some (.bool f0) := (ay h 0).trans rfl
theorem aC.gK {w0 W : World} {g : Nat} {f0 : Bool} (h : aC w0 W g f0) (x : Bool) : aC w0 (W.setCell ⟨g, 0, none⟩ (.bool x)) g x := by
 obtain ⟨hb, hg⟩ := h
 exact ⟨by simpa using LV hb 0 (.bool x), hg⟩
def dw.f (lZ : Bool) (cZ : Int) (dn : Int) (bV : List Int) (a2 : Bool) (a3 : Int) : Option (Int × Int × List Int × Bool) := if lZ = true then (some (cZ, dn, bV, true)) else (some (cZ, dn, bV, a2))
theorem dw.calls (g : Nat) (lZ : Bool) (cZ : Int) (dn : Int) (qo : Nat → Prop) (Jb : Value) (bV : List Int) (a2 : Bool) (a3 : Int) (r1 : Int) (r2 : Int) (r3 : List Int) (r4 : Bool) (w0 w : World) (hI : aC w0 w g lZ) (hB : Below w0.heap.size w0 w) (Yz : Kd.R (Kd.int .i64) 22 w w0.heap.size qo Jb bV) (h : dw.f lZ cZ dn bV a2 a3 = some (r1, r2, r3, r4)) :
 Calls Try.prog 100 #[.pointer (some ⟨g, 0, none⟩), .agg #[.int .i64 cZ, .int .i64 dn, Jb], .bool a2, .int .i64 a3] w fun e w' => ∃ Gs : Value, e = .returned (.agg #[.int .i64 r1, .int .i64 r2, Gs]) ∧ Kd.R (Kd.int .i64) 22 w' w0.heap.size (fun k_ => (qo k_ ∨ w.heap.size ≤ k_)) Gs r3 ∧ aC w0 w' g r4 ∧ Below w0.heap.size w0 w' ∧ Kept w w' (fun k_ => (qo k_) ∨ k_ = g) := by
 have JL := Try.underlying31
 have nG := aj.mk (show Kd.R (Kd.int .i64) 22 w w0.heap.size (fun k_ => (qo k_ ∨ w.heap.size ≤ k_)) Jb bV from Kd.jZ Yz (fun k_ hk => (.inl hk)))
 have HI0 := aj.mk hI
 have HL := aj.mk hB.size
 clear hI
 have HK := aj.mk (Kept.refl w (fun k_ => (qo k_) ∨ k_ = g))
 have HW0 := aj.mk hB.size
 have HB := aj.mk hB
 clear hB
 have H : (if lZ = true then (some (cZ, dn, bV, true)) else (some (cZ, dn, bV, a2))) = some (r1, r2, r3, r4) := h
 clear h
 by_cases c5 : lZ = true
 · subst c5
   rw [if_pos rfl] at H
   simp only [Option.some.injEq, Prod.mk.injEq] at H
   obtain ⟨rfl, rfl, rfl, rfl⟩ := H
   obtain ⟨XH, WN, eo6⟩ := Kd.jw nG.out
   subst eo6
   go_enter Try.func100, Try.ntmps100
   go_wp2_with (first | ((with_reducible refine dS (N := 5) rfl ?_); refine dM ?hg (N := 5) ?hd (cs := #[.int .i64 cZ, .int .i64 dn, .slice XH bV.length WN]) (t := 31) ?hr ?_; (case hd => rfl); (case hg => rfl); (case hr => first | (go_simp; done) | (go_simp; rfl)); intro je hg w7 hbox hb; have bF := aj.mk (Kd.nN (by (with_reducible repeat (first | apply Kd.fK | apply Kd.fJ | apply Kd.gB)); exact nG.out) hb); have dZ := aj.mk (aC.below (by repeat (first | (with_reducible first | exact HI0.out | apply aC.alloc | apply aC.drewN | apply aC.drew | apply aC.gK) | exact HI0.out)) hb); have fE := aj.mk (Kept.below (S := (fun k_ => (qo k_) ∨ k_ = g)) (by repeat (first | (with_reducible first | exact HK.out | apply Kept.alloc | apply Kept.drewN | apply Kept.drew | refine Kept.setCell ?_ (.inl (.inr rfl)) _) | exact HK.out)) hb); have gu := aj.mk (aP (by repeat (first | (with_reducible first | exact HB.out | apply ak | apply ah | apply au | refine aB ?_ (aC.ge HI0.out)) | exact HB.out)) hb); have lD := aj.mk (hbox); have lS := aj.mk ((by rw [hg]; exact (by first | exact HK.out.1 | exact (show Kept w _ (fun k_ => (qo k_) ∨ k_ = g) from by repeat (first | (with_reducible first | exact HK.out | apply Kept.alloc | apply Kept.drewN | apply Kept.drew | refine Kept.setCell ?_ (.inl (.inr rfl)) _) | exact HK.out)).1) : w.heap.size ≤ je)); have mO := aj.mk ((by rw [hg]; exact (bu (by repeat (first | (with_reducible first | exact HB.out | apply ak | apply ah | apply au | refine aB ?_ (aC.ge HI0.out)) | exact HB.out))) : w0.heap.size ≤ je)); have uU := aj.mk ((by rw [hg]; exact Nat.ne_of_lt (aC.lt (show aC w0 _ g true from by repeat (first | (with_reducible first | exact HI0.out | apply aC.alloc | apply aC.drewN | apply aC.drew | apply aC.gK) | exact HI0.out))) : g ≠ je)); have yA := aj.mk ((by rw [hg]; exact Nat.ne_of_gt (aC.lt (show aC w0 _ g true from by repeat (first | (with_reducible first | exact HI0.out | apply aC.alloc | apply aC.drewN | apply aC.drew | apply aC.gK) | exact HI0.out))) : je ≠ g)); clear nG; clear HI0; clear HK; clear HB; have nG := bF; have HI0 := dZ; have HK := fE; have HB := gu; have jR := lD; have BV := lS; have Cb := mO; have lN := uU; have Gj := yA; clear bF dZ fE gu lD lS mO uU yA; clear hb hbox hg) | ((with_reducible refine dS (N := 8) rfl ?_); refine dM ?hg (N := 8) ?hd (cs := #[.int .i64 0, .int .i64 0, .slice none 0 0]) (t := 31) ?hr ?_; (case hd => rfl); (case hg => rfl); (case hr => first | (go_simp; done) | (go_simp; rfl)); intro iK hg w8 hbox hb; have bF := aj.mk (Kd.nN (by (with_reducible repeat (first | apply Kd.fK | apply Kd.fJ | apply Kd.gB)); exact nG.out) hb); have dZ := aj.mk (aC.below (by repeat (first | (with_reducible first | exact HI0.out | apply aC.alloc | apply aC.drewN | apply aC.drew | apply aC.gK | refine aC.far ?_ lN.out _) | exact HI0.out)) hb); have fE := aj.mk (bI (g := je) (o := .cells #[.int .i64 cZ, .int .i64 dn, .slice XH bV.length WN] 31 (0, 0)) (by (with_reducible repeat (first | refine aG ?_ _ | refine aJ ?_ | refine aH ?_ _)); exact jR.out) hb); have gu := aj.mk (Kept.below (S := (fun k_ => (qo k_) ∨ k_ = g)) (by repeat (first | (with_reducible first | exact HK.out | apply Kept.alloc | apply Kept.drewN | apply Kept.drew | refine Kept.setCell ?_ (.inl (.inr rfl)) _ | refine Kept.setCell ?_ (.inr BV.out) _) | exact HK.out)) hb); have lD := aj.mk (aP (by repeat (first | (with_reducible first | exact HB.out | apply ak | apply ah | apply au | refine aB ?_ (aC.ge HI0.out) | refine aB ?_ Cb.out) | exact HB.out)) hb); have lS := aj.mk (hbox); have mO := aj.mk ((by rw [hg]; exact (by first | exact HK.out.1 | exact (show Kept w _ (fun k_ => (qo k_) ∨ k_ = g) from by repeat (first | (with_reducible first | exact HK.out | apply Kept.alloc | apply Kept.drewN | apply Kept.drew | refine Kept.setCell ?_ (.inl (.inr rfl)) _ | refine Kept.setCell ?_ (.inr BV.out) _) | exact HK.out)).1) : w.heap.size ≤ iK)); have uU := aj.mk ((by rw [hg]; exact (bu (by repeat (first | (with_reducible first | exact HB.out | apply ak | apply ah | apply au | refine aB ?_ (aC.ge HI0.out) | refine aB ?_ Cb.out) | exact HB.out))) : w0.heap.size ≤ iK)); have yA := aj.mk ((by rw [hg]; exact Nat.ne_of_lt (fC (g := je) (o := .cells #[.int .i64 cZ, .int .i64 dn, .slice XH bV.length WN] 31 (0, 0)) (by (with_reducible repeat (first | refine aG ?_ _ | refine aJ ?_ | refine aH ?_ _)); exact jR.out)) : je ≠ iK)); have Lh := aj.mk ((by rw [hg]; exact Nat.ne_of_gt (fC (g := je) (o := .cells #[.int .i64 cZ, .int .i64 dn, .slice XH bV.length WN] 31 (0, 0)) (by (with_reducible repeat (first | refine aG ?_ _ | refine aJ ?_ | refine aH ?_ _)); exact jR.out)) : iK ≠ je)); have wL := aj.mk ((by rw [hg]; exact Nat.ne_of_lt (aC.lt (show aC w0 _ g true from by repeat (first | (with_reducible first | exact HI0.out | apply aC.alloc | apply aC.drewN | apply aC.drew | apply aC.gK | refine aC.far ?_ lN.out _) | exact HI0.out))) : g ≠ iK)); have G8 := aj.mk ((by rw [hg]; exact Nat.ne_of_gt (aC.lt (show aC w0 _ g true from by repeat (first | (with_reducible first | exact HI0.out | apply aC.alloc | apply aC.drewN | apply aC.drew | apply aC.gK | refine aC.far ?_ lN.out _) | exact HI0.out))) : iK ≠ g)); clear nG; clear HI0; clear jR; clear HK; clear HB; have nG := bF; have HI0 := dZ; have jR := fE; have HK := gu; have HB := lD; have mZ := lS; have Ri := mO; have Rl := uU; have yu := yA; have yt := Lh; have xA := wL; have xy := G8; clear bF dZ fE gu lD lS mO uU yA Lh wL G8; clear hb hbox hg; obtain ⟨Xy, adw⟩ := HI0.out; have Ba := BG Xy; have AA := az Xy 0; clear Xy adw; have YG := yu.out; have YD := yt.out; have YF := Gj.out; have YC := lN.out; have wX : w8.cell? ⟨je, 0, none⟩ = some (.int .i64 cZ) := (ay jR.out 0).trans rfl; have wW : w8.cell? ⟨je, 1, none⟩ = some (.int .i64 dn) := (ay jR.out 1).trans rfl; have wV : w8.cell? ⟨je, 2, none⟩ = some (.slice XH bV.length WN) := (ay jR.out 2).trans rfl; have wS := az jR.out 0; have wR := az jR.out 1; have wQ := az jR.out 2; have afo := xy.out; have afj := xA.out; have ab8 : w8.cell? ⟨iK, 0, none⟩ = some (.int .i64 0) := (ay mZ.out 0).trans rfl; have ab7 : w8.cell? ⟨iK, 1, none⟩ = some (.int .i64 0) := (ay mZ.out 1).trans rfl; have ab6 : w8.cell? ⟨iK, 2, none⟩ = some (.slice none 0 0) := (ay mZ.out 2).trans rfl; have abA := az mZ.out 0; have abz := az mZ.out 1; have aby := az mZ.out 2))
   refine bodyPost_ret (results_cell_row rfl _ _ iK 31 #[.int .i64 cZ, .int .i64 dn, .slice XH bV.length WN] (0, 0) _ rfl (by (with_reducible repeat (first | refine aG ?_ _ | refine aJ ?_ | refine aH ?_ _)); refine fB (cs := #[.int .i64 cZ, .int .i64 dn, .slice none 0 0]) ?_ 2 _ rfl; (with_reducible repeat (first | refine aG ?_ _ | refine aJ ?_ | refine aH ?_ _)); refine fB (cs := #[.int .i64 cZ, .int .i64 0, .slice none 0 0]) ?_ 1 _ rfl; (with_reducible repeat (first | refine aG ?_ _ | refine aJ ?_ | refine aH ?_ _)); refine fB (cs := #[.int .i64 0, .int .i64 0, .slice none 0 0]) ?_ 0 _ rfl; (with_reducible repeat (first | refine aG ?_ _ | refine aJ ?_ | refine aH ?_ _)); refine kL ?_ xy.out _; (with_reducible repeat (first | refine aG ?_ _ | refine aJ ?_ | refine aH ?_ _)); exact mZ.out) Try.underlying31 rfl (by kernel_rfl)) rfl ?_
   exact ⟨_, by first | rfl | (simp [aN, aK] <;> rfl) | (simp [*, aN, aK] <;> rfl), by (with_reducible repeat (first | apply Kd.fK | apply Kd.fJ | apply Kd.gB)); exact Kd.jZ (Kd.mX (p := ⟨iK, 2, none⟩) (Kd.mX (p := ⟨iK, 1, none⟩) (Kd.mX (p := ⟨iK, 0, none⟩) (Kd.mX (p := ⟨g, 0, none⟩) (Kd.uI (aC.apart HI0.out nG.out (by decide)) mZ.out (by decide)) (fun _ hk => hk.1.2) (.bool true)) (fun _ hk => hk.2) (.int .i64 cZ)) (fun _ hk => hk.2) (.int .i64 dn)) (fun _ hk => hk.2) (.slice XH bV.length WN)) (fun _ hk => hk.1.1), by repeat (first | (with_reducible first | exact HI0.out | apply aC.alloc | apply aC.drewN | apply aC.drew | apply aC.gK | refine aC.far ?_ lN.out _ | refine aC.far ?_ xA.out _) | exact HI0.out), by repeat (first | (with_reducible first | exact HB.out | apply ak | apply ah | apply au | refine aB ?_ (aC.ge HI0.out) | refine aB ?_ Cb.out | refine aB ?_ Rl.out) | exact HB.out), by repeat (first | (with_reducible first | exact HK.out | apply Kept.alloc | apply Kept.drewN | apply Kept.drew | refine Kept.setCell ?_ (.inl (.inr rfl)) _ | refine Kept.setCell ?_ (.inr BV.out) _ | refine Kept.setCell ?_ (.inr Ri.out) _) | exact HK.out)⟩
 · replace c5 := Bool.eq_false_iff.mpr c5
   subst c5
   have H1 : (some (cZ, dn, bV, a2)) = some (r1, r2, r3, r4) := by rw [if_neg (show ¬ (false = true) by decide)] at H; exact H
   clear H
   have H := H1
   clear H1
   simp only [Option.some.injEq, Prod.mk.injEq] at H
   obtain ⟨rfl, rfl, rfl, rfl⟩ := H
   obtain ⟨KN, J7, adR⟩ := Kd.jw nG.out
   subst adR
   go_enter Try.func100, Try.ntmps100
   go_wp2_with (first | ((with_reducible refine dS (N := 5) rfl ?_); refine dM ?hg (N := 5) ?hd (cs := #[.int .i64 cZ, .int .i64 dn, .slice KN bV.length J7]) (t := 31) ?hr ?_; (case hd => rfl); (case hg => rfl); (case hr => first | (go_simp; done) | (go_simp; rfl)); intro je hg w16 hbox hb; have bF := aj.mk (Kd.nN (by (with_reducible repeat (first | apply Kd.fK | apply Kd.fJ | apply Kd.gB)); exact nG.out) hb); have dZ := aj.mk (aC.below (by repeat (first | (with_reducible first | exact HI0.out | apply aC.alloc | apply aC.drewN | apply aC.drew | apply aC.gK) | exact HI0.out)) hb); have fE := aj.mk (Kept.below (S := (fun k_ => (qo k_) ∨ k_ = g)) (by repeat (first | (with_reducible first | exact HK.out | apply Kept.alloc | apply Kept.drewN | apply Kept.drew | refine Kept.setCell ?_ (.inl (.inr rfl)) _) | exact HK.out)) hb); have gu := aj.mk (aP (by repeat (first | (with_reducible first | exact HB.out | apply ak | apply ah | apply au | refine aB ?_ (aC.ge HI0.out)) | exact HB.out)) hb); have lD := aj.mk (hbox); have lS := aj.mk ((by rw [hg]; exact (by first | exact HK.out.1 | exact (show Kept w _ (fun k_ => (qo k_) ∨ k_ = g) from by repeat (first | (with_reducible first | exact HK.out | apply Kept.alloc | apply Kept.drewN | apply Kept.drew | refine Kept.setCell ?_ (.inl (.inr rfl)) _) | exact HK.out)).1) : w.heap.size ≤ je)); have mO := aj.mk ((by rw [hg]; exact (bu (by repeat (first | (with_reducible first | exact HB.out | apply ak | apply ah | apply au | refine aB ?_ (aC.ge HI0.out)) | exact HB.out))) : w0.heap.size ≤ je)); have uU := aj.mk ((by rw [hg]; exact Nat.ne_of_lt (aC.lt (show aC w0 _ g false from by repeat (first | (with_reducible first | exact HI0.out | apply aC.alloc | apply aC.drewN | apply aC.drew | apply aC.gK) | exact HI0.out))) : g ≠ je)); have yA := aj.mk ((by rw [hg]; exact Nat.ne_of_gt (aC.lt (show aC w0 _ g false from by repeat (first | (with_reducible first | exact HI0.out | apply aC.alloc | apply aC.drewN | apply aC.drew | apply aC.gK) | exact HI0.out))) : je ≠ g)); clear nG; clear HI0; clear HK; clear HB; have nG := bF; have HI0 := dZ; have HK := fE; have HB := gu; have jR := lD; have BV := lS; have Cb := mO; have lN := uU; have Gj := yA; clear bF dZ fE gu lD lS mO uU yA; clear hb hbox hg) | ((with_reducible refine dS (N := 8) rfl ?_); refine dM ?hg (N := 8) ?hd (cs := #[.int .i64 0, .int .i64 0, .slice none 0 0]) (t := 31) ?hr ?_; (case hd => rfl); (case hg => rfl); (case hr => first | (go_simp; done) | (go_simp; rfl)); intro iK hg XO hbox hb; have bF := aj.mk (Kd.nN (by (with_reducible repeat (first | apply Kd.fK | apply Kd.fJ | apply Kd.gB)); exact nG.out) hb); have dZ := aj.mk (aC.below (by repeat (first | (with_reducible first | exact HI0.out | apply aC.alloc | apply aC.drewN | apply aC.drew | apply aC.gK | refine aC.far ?_ lN.out _) | exact HI0.out)) hb); have fE := aj.mk (bI (g := je) (o := .cells #[.int .i64 cZ, .int .i64 dn, .slice KN bV.length J7] 31 (0, 0)) (by (with_reducible repeat (first | refine aG ?_ _ | refine aJ ?_ | refine aH ?_ _)); exact jR.out) hb); have gu := aj.mk (Kept.below (S := (fun k_ => (qo k_) ∨ k_ = g)) (by repeat (first | (with_reducible first | exact HK.out | apply Kept.alloc | apply Kept.drewN | apply Kept.drew | refine Kept.setCell ?_ (.inl (.inr rfl)) _ | refine Kept.setCell ?_ (.inr BV.out) _) | exact HK.out)) hb); have lD := aj.mk (aP (by repeat (first | (with_reducible first | exact HB.out | apply ak | apply ah | apply au | refine aB ?_ (aC.ge HI0.out) | refine aB ?_ Cb.out) | exact HB.out)) hb); have lS := aj.mk (hbox); have mO := aj.mk ((by rw [hg]; exact (by first | exact HK.out.1 | exact (show Kept w _ (fun k_ => (qo k_) ∨ k_ = g) from by repeat (first | (with_reducible first | exact HK.out | apply Kept.alloc | apply Kept.drewN | apply Kept.drew | refine Kept.setCell ?_ (.inl (.inr rfl)) _ | refine Kept.setCell ?_ (.inr BV.out) _) | exact HK.out)).1) : w.heap.size ≤ iK)); have uU := aj.mk ((by rw [hg]; exact (bu (by repeat (first | (with_reducible first | exact HB.out | apply ak | apply ah | apply au | refine aB ?_ (aC.ge HI0.out) | refine aB ?_ Cb.out) | exact HB.out))) : w0.heap.size ≤ iK)); have yA := aj.mk ((by rw [hg]; exact Nat.ne_of_lt (fC (g := je) (o := .cells #[.int .i64 cZ, .int .i64 dn, .slice KN bV.length J7] 31 (0, 0)) (by (with_reducible repeat (first | refine aG ?_ _ | refine aJ ?_ | refine aH ?_ _)); exact jR.out)) : je ≠ iK)); have Lh := aj.mk ((by rw [hg]; exact Nat.ne_of_gt (fC (g := je) (o := .cells #[.int .i64 cZ, .int .i64 dn, .slice KN bV.length J7] 31 (0, 0)) (by (with_reducible repeat (first | refine aG ?_ _ | refine aJ ?_ | refine aH ?_ _)); exact jR.out)) : iK ≠ je)); have wL := aj.mk ((by rw [hg]; exact Nat.ne_of_lt (aC.lt (show aC w0 _ g false from by repeat (first | (with_reducible first | exact HI0.out | apply aC.alloc | apply aC.drewN | apply aC.drew | apply aC.gK | refine aC.far ?_ lN.out _) | exact HI0.out))) : g ≠ iK)); have G8 := aj.mk ((by rw [hg]; exact Nat.ne_of_gt (aC.lt (show aC w0 _ g false from by repeat (first | (with_reducible first | exact HI0.out | apply aC.alloc | apply aC.drewN | apply aC.drew | apply aC.gK | refine aC.far ?_ lN.out _) | exact HI0.out))) : iK ≠ g)); clear nG; clear HI0; clear jR; clear HK; clear HB; have nG := bF; have HI0 := dZ; have jR := fE; have HK := gu; have HB := lD; have mZ := lS; have Ri := mO; have Rl := uU; have yu := yA; have yt := Lh; have xA := wL; have xy := G8; clear bF dZ fE gu lD lS mO uU yA Lh wL G8; clear hb hbox hg; obtain ⟨Rh, YK⟩ := HI0.out; have TI := BG Rh; have Ti := az Rh 0; clear Rh YK; have afn := yu.out; have afi := yt.out; have afm := Gj.out; have afh := lN.out; have abW : XO.cell? ⟨je, 0, none⟩ = some (.int .i64 cZ) := (ay jR.out 0).trans rfl; have abV : XO.cell? ⟨je, 1, none⟩ = some (.int .i64 dn) := (ay jR.out 1).trans rfl; have abU : XO.cell? ⟨je, 2, none⟩ = some (.slice KN bV.length J7) := (ay jR.out 2).trans rfl; have abo := az jR.out 0; have abn := az jR.out 1; have abm := az jR.out 2; have YE := xy.out; have YB := xA.out; have abT : XO.cell? ⟨iK, 0, none⟩ = some (.int .i64 0) := (ay mZ.out 0).trans rfl; have abS : XO.cell? ⟨iK, 1, none⟩ = some (.int .i64 0) := (ay mZ.out 1).trans rfl; have abR : XO.cell? ⟨iK, 2, none⟩ = some (.slice none 0 0) := (ay mZ.out 2).trans rfl; have abl := az mZ.out 0; have abk := az mZ.out 1; have abj := az mZ.out 2))
   refine bodyPost_ret (results_cell_row rfl _ _ iK 31 #[.int .i64 cZ, .int .i64 dn, .slice KN bV.length J7] (0, 0) _ rfl (by (with_reducible repeat (first | refine aG ?_ _ | refine aJ ?_ | refine aH ?_ _)); refine fB (cs := #[.int .i64 cZ, .int .i64 dn, .slice none 0 0]) ?_ 2 _ rfl; (with_reducible repeat (first | refine aG ?_ _ | refine aJ ?_ | refine aH ?_ _)); refine fB (cs := #[.int .i64 cZ, .int .i64 0, .slice none 0 0]) ?_ 1 _ rfl; (with_reducible repeat (first | refine aG ?_ _ | refine aJ ?_ | refine aH ?_ _)); refine fB (cs := #[.int .i64 0, .int .i64 0, .slice none 0 0]) ?_ 0 _ rfl; (with_reducible repeat (first | refine aG ?_ _ | refine aJ ?_ | refine aH ?_ _)); refine kL ?_ xy.out _; (with_reducible repeat (first | refine aG ?_ _ | refine aJ ?_ | refine aH ?_ _)); exact mZ.out) Try.underlying31 rfl (by kernel_rfl)) rfl ?_
   exact ⟨_, by first | rfl | (simp [aN, aK] <;> rfl) | (simp [*, aN, aK] <;> rfl), by (with_reducible repeat (first | apply Kd.fK | apply Kd.fJ | apply Kd.gB)); exact Kd.jZ (Kd.mX (p := ⟨iK, 2, none⟩) (Kd.mX (p := ⟨iK, 1, none⟩) (Kd.mX (p := ⟨iK, 0, none⟩) (Kd.mX (p := ⟨g, 0, none⟩) (Kd.uI (aC.apart HI0.out nG.out (by decide)) mZ.out (by decide)) (fun _ hk => hk.1.2) (.bool a2)) (fun _ hk => hk.2) (.int .i64 cZ)) (fun _ hk => hk.2) (.int .i64 dn)) (fun _ hk => hk.2) (.slice KN bV.length J7)) (fun _ hk => hk.1.1), by repeat (first | (with_reducible first | exact HI0.out | apply aC.alloc | apply aC.drewN | apply aC.drew | apply aC.gK | refine aC.far ?_ lN.out _ | refine aC.far ?_ xA.out _) | exact HI0.out), by repeat (first | (with_reducible first | exact HB.out | apply ak | apply ah | apply au | refine aB ?_ (aC.ge HI0.out) | refine aB ?_ Cb.out | refine aB ?_ Rl.out) | exact HB.out), by repeat (first | (with_reducible first | exact HK.out | apply Kept.alloc | apply Kept.drewN | apply Kept.drew | refine Kept.setCell ?_ (.inl (.inr rfl)) _ | refine Kept.setCell ?_ (.inr BV.out) _ | refine Kept.setCell ?_ (.inr Ri.out) _) | exact HK.out)⟩
def bD.f (lZ : Bool) (cZ : Int) (dn : Int) (bV : List Int) (kY : Int) (kX : Int) (jT : List Int) : Option (Int × Int × List Int × Bool) := (iD.f cZ dn bV kY kX jT).bind fun tY => ((dw.f lZ tY.1 tY.2.1 tY.2.2.1 tY.2.2.2.1 tY.2.2.2.2).bind fun o_ => ((ji.f cZ dn bV).bind fun oG => ((iD.f o_.1 o_.2.1 o_.2.2.1 oG.1 oG.2.1 oG.2.2).bind fun gZ => ((dw.f o_.2.2.2 gZ.1 gZ.2.1 gZ.2.2.1 gZ.2.2.2.1 gZ.2.2.2.2).bind fun gY => (some (gY.1, gY.2.1, gY.2.2.1, gY.2.2.2))))))
def bD.T1 : Bool × List (List Nat × List Nat) := (true, [([], []), ([], []), ([], []), ([], []), ([2, 3], [2, 3]), ([4], [4]), ([4], [4]), ([4], [4]), ([1, 5, 6, 7, 4], [1, 5, 6, 7]), ([], []), ([9, 8], [9]), ([8, 10, 10], [8, 10]), ([11], [11]), ([11], [11]), ([11], [11]), ([0, 12, 13, 14, 11], [0, 12, 13, 14]), ([15, 15, 0, 1, 2, 3, 4, 5, 6, 7, 8, 9, 10, 11, 12, 13, 14, 15], [15])])
def bD.B1 : List Nat := [0, 0, 0, 0, 12, 28, 28, 28, 254, 0, 1022, 2046, 4094, 4094, 4094, 32767, 65535]
theorem bD.RD : nV .any (opsOf Try.f103 1) = bD.T1 := by kernel_rfl
theorem bD.LY : qA bD.T1.2 bD.B1 = true := by kernel_rfl
theorem bD.calls (g : Nat) (lZ : Bool) (cZ : Int) (dn : Int) (gm : Option Addr) (gp : Nat) (bV : List Int) (kY : Int) (kX : Int) (pO : Option Addr) (ry : Nat) (jT : List Int) (r1 : Int) (r2 : Int) (r3 : List Int) (r4 : Bool) (w0 w : World) (hI : aC w0 w g lZ) (hB : Below w0.heap.size w0 w) (qh : Kd.C (Kd.int .i64) w gm bV.length bV) (rF : bV.length ≤ gp) (Ia : ∀ ad, gm = some ad → 0 < bV.length → ad.block ≠ g) (Hr : Kd.C (Kd.int .i64) w pO jT.length jT) (Ic : jT.length ≤ ry) (H_ : ∀ ad, pO = some ad → 0 < jT.length → ad.block ≠ g) (h : bD.f lZ cZ dn bV kY kX jT = some (r1, r2, r3, r4)) :
 Calls Try.prog 103 #[.pointer (some ⟨g, 0, none⟩), .agg #[.int .i64 cZ, .int .i64 dn, .slice gm bV.length gp], .agg #[.int .i64 kY, .int .i64 kX, .slice pO jT.length ry]] w fun e w' => ∃ Gs : Value, e = .returned (.agg #[.int .i64 r1, .int .i64 r2, Gs]) ∧ Kd.R (Kd.int .i64) 22 w' w.heap.size (fun _ => True) Gs r3 ∧ aC w0 w' g r4 ∧ Below w0.heap.size w0 w' ∧ bg w w' g none := by
 have JL := Try.underlying31
 have BR := aj.mk qh
 have BU := aj.mk rF
 clear qh rF
 have aab := aj.mk Hr
 have aai := aj.mk Ic
 clear Hr Ic
 have HI0 := aj.mk hI
 have HK := aj.mk (bg.refl w g none)
 have HL := aj.mk hB.size
 clear hI
 have HW0 := aj.mk hB.size
 have HB := aj.mk hB
 clear hB
 have H : ((iD.f cZ dn bV kY kX jT).bind fun tY => ((dw.f lZ tY.1 tY.2.1 tY.2.2.1 tY.2.2.2.1 tY.2.2.2.2).bind fun o_ => ((ji.f cZ dn bV).bind fun oG => ((iD.f o_.1 o_.2.1 o_.2.2.1 oG.1 oG.2.1 oG.2.2).bind fun gZ => ((dw.f o_.2.2.2 gZ.1 gZ.2.1 gZ.2.2.1 gZ.2.2.2.1 gZ.2.2.2.2).bind fun gY => (some (gY.1, gY.2.1, gY.2.2.1, gY.2.2.2))))))) = some (r1, r2, r3, r4) := h
 clear h
 replace H := Option.bind_eq_some_iff.mp H
 obtain ⟨⟨t106, t107, t108, t111, t112⟩, IY, H⟩ := H
 replace H : ((dw.f lZ t106 t107 t108 t111 t112).bind fun o_ => ((ji.f cZ dn bV).bind fun oG => ((iD.f o_.1 o_.2.1 o_.2.2.1 oG.1 oG.2.1 oG.2.2).bind fun gZ => ((dw.f o_.2.2.2 gZ.1 gZ.2.1 gZ.2.2.1 gZ.2.2.2.1 gZ.2.2.2.2).bind fun gY => (some (gY.1, gY.2.1, gY.2.2.1, gY.2.2.2)))))) = some (r1, r2, r3, r4) := H
 have A4 := aj.mk IY
 clear IY
 replace H := Option.bind_eq_some_iff.mp H
 obtain ⟨⟨t113, t114, t115, t118⟩, A50, H⟩ := H
 replace H : ((ji.f cZ dn bV).bind fun oG => ((iD.f t113 t114 t115 oG.1 oG.2.1 oG.2.2).bind fun gZ => ((dw.f t118 gZ.1 gZ.2.1 gZ.2.2.1 gZ.2.2.2.1 gZ.2.2.2.2).bind fun gY => (some (gY.1, gY.2.1, gY.2.2.1, gY.2.2.2))))) = some (r1, r2, r3, r4) := H
 have A5 := aj.mk A50
 clear A50
 replace H := Option.bind_eq_some_iff.mp H
 obtain ⟨⟨t119, t120, t121⟩, Vr, H⟩ := H
 replace H : ((iD.f t113 t114 t115 t119 t120 t121).bind fun gZ => ((dw.f t118 gZ.1 gZ.2.1 gZ.2.2.1 gZ.2.2.2.1 gZ.2.2.2.2).bind fun gY => (some (gY.1, gY.2.1, gY.2.2.1, gY.2.2.2)))) = some (r1, r2, r3, r4) := H
 have A6 := aj.mk Vr
 clear Vr
 replace H := Option.bind_eq_some_iff.mp H
 obtain ⟨⟨t124, t125, t126, t129, t130⟩, Vq, H⟩ := H
 replace H : ((dw.f t118 t124 t125 t126 t129 t130).bind fun gY => (some (gY.1, gY.2.1, gY.2.2.1, gY.2.2.2))) = some (r1, r2, r3, r4) := H
 have A7 := aj.mk Vq
 clear Vq
 replace H := Option.bind_eq_some_iff.mp H
 obtain ⟨⟨t131, t132, t133, t136⟩, A80, H⟩ := H
 replace H : (some (t131, t132, t133, t136)) = some (r1, r2, r3, r4) := H
 have A8 := aj.mk A80
 clear A80
 simp only [Option.some.injEq, Prod.mk.injEq] at H
 obtain ⟨rfl, rfl, rfl, rfl⟩ := H
 go_enter Try.func103, Try.ntmps103
 try go_wp2_with (first | ((with_reducible refine dS (N := 4) rfl ?_); refine dM ?hg (N := 4) ?hd (cs := #[.int .i64 cZ, .int .i64 dn, .slice gm bV.length gp]) (t := 31) ?hr ?_; (case hd => rfl); (case hg => rfl); (case hr => first | (go_simp; done) | (go_simp; rfl)); intro kG hg w9 hbox hb; have bF := aj.mk (aC.below (by repeat (first | (with_reducible first | exact HI0.out | apply aC.alloc | apply aC.drewN | apply aC.drew | apply aC.gK) | exact HI0.out)) hb); have dZ := aj.mk (bg.trans (by repeat (first | (with_reducible first | exact HK.out | apply bg.nU | apply dH | apply dL | apply dI) | exact HK.out)) (bg.of_below hb g none) (.inl rfl)); have fE := aj.mk (aP (by repeat (first | (with_reducible first | exact HB.out | apply ak | apply ah | apply au | refine aB ?_ (aC.ge HI0.out)) | exact HB.out)) hb); have gu := aj.mk (hbox); have lD := aj.mk ((by rw [hg]; exact (iJ (w := w) (g := g) (row := none) (by repeat (first | (with_reducible first | exact HK.out | apply bg.nU | apply dH | apply dL | apply dI) | exact HK.out))) : w.heap.size ≤ kG)); have lS := aj.mk ((Nat.le_trans HW0.out (by rw [hg]; exact (iJ (w := w) (g := g) (row := none) (by repeat (first | (with_reducible first | exact HK.out | apply bg.nU | apply dH | apply dL | apply dI) | exact HK.out))) : w.heap.size ≤ kG) : w0.heap.size ≤ kG)); have mO := aj.mk ((by rw [hg]; exact Nat.ne_of_lt (aC.lt (show aC w0 _ g lZ from by repeat (first | (with_reducible first | exact HI0.out | apply aC.alloc | apply aC.drewN | apply aC.drew | apply aC.gK) | exact HI0.out))) : g ≠ kG)); have uU := aj.mk ((by rw [hg]; exact Nat.ne_of_gt (aC.lt (show aC w0 _ g lZ from by repeat (first | (with_reducible first | exact HI0.out | apply aC.alloc | apply aC.drewN | apply aC.drew | apply aC.gK) | exact HI0.out))) : kG ≠ g)); clear HI0; clear HK; clear HB; have HI0 := bF; have HK := dZ; have HB := fE; have dW := gu; have kU := lD; have yU := lS; have kM := mO; have MM := uU; clear bF dZ fE gu lD lS mO uU; clear hb hbox hg) | ((with_reducible refine dS (N := 5) rfl ?_); refine dM ?hg (N := 5) ?hd (cs := #[.int .i64 kY, .int .i64 kX, .slice pO jT.length ry]) (t := 31) ?hr ?_; (case hd => rfl); (case hg => rfl); (case hr => first | (go_simp; done) | (go_simp; rfl)); intro lU hg w10 hbox hb; have bF := aj.mk (aC.below (by repeat (first | (with_reducible first | exact HI0.out | apply aC.alloc | apply aC.drewN | apply aC.drew | apply aC.gK | refine aC.far ?_ kM.out _) | exact HI0.out)) hb); have dZ := aj.mk (bI (g := kG) (o := .cells #[.int .i64 cZ, .int .i64 dn, .slice gm bV.length gp] 31 (0, 0)) (by (with_reducible repeat (first | refine aG ?_ _ | refine aJ ?_ | refine aH ?_ _)); exact dW.out) hb); have fE := aj.mk (bg.trans (by repeat (first | (with_reducible first | exact HK.out | apply bg.nU | apply dH | apply dL | apply dI | refine bz ?_ kU.out _) | exact HK.out)) (bg.of_below hb g none) (.inl rfl)); have gu := aj.mk (aP (by repeat (first | (with_reducible first | exact HB.out | apply ak | apply ah | apply au | refine aB ?_ (aC.ge HI0.out) | refine aB ?_ yU.out) | exact HB.out)) hb); have lD := aj.mk (hbox); have lS := aj.mk ((by rw [hg]; exact (iJ (w := w) (g := g) (row := none) (by repeat (first | (with_reducible first | exact HK.out | apply bg.nU | apply dH | apply dL | apply dI | refine bz ?_ kU.out _) | exact HK.out))) : w.heap.size ≤ lU)); have mO := aj.mk ((Nat.le_trans HW0.out (by rw [hg]; exact (iJ (w := w) (g := g) (row := none) (by repeat (first | (with_reducible first | exact HK.out | apply bg.nU | apply dH | apply dL | apply dI | refine bz ?_ kU.out _) | exact HK.out))) : w.heap.size ≤ lU) : w0.heap.size ≤ lU)); have uU := aj.mk ((by rw [hg]; exact Nat.ne_of_lt (fC (g := kG) (o := .cells #[.int .i64 cZ, .int .i64 dn, .slice gm bV.length gp] 31 (0, 0)) (by (with_reducible repeat (first | refine aG ?_ _ | refine aJ ?_ | refine aH ?_ _)); exact dW.out)) : kG ≠ lU)); have yA := aj.mk ((by rw [hg]; exact Nat.ne_of_gt (fC (g := kG) (o := .cells #[.int .i64 cZ, .int .i64 dn, .slice gm bV.length gp] 31 (0, 0)) (by (with_reducible repeat (first | refine aG ?_ _ | refine aJ ?_ | refine aH ?_ _)); exact dW.out)) : lU ≠ kG)); have Lh := aj.mk ((by rw [hg]; exact Nat.ne_of_lt (aC.lt (show aC w0 _ g lZ from by repeat (first | (with_reducible first | exact HI0.out | apply aC.alloc | apply aC.drewN | apply aC.drew | apply aC.gK | refine aC.far ?_ kM.out _) | exact HI0.out))) : g ≠ lU)); have wL := aj.mk ((by rw [hg]; exact Nat.ne_of_gt (aC.lt (show aC w0 _ g lZ from by repeat (first | (with_reducible first | exact HI0.out | apply aC.alloc | apply aC.drewN | apply aC.drew | apply aC.gK | refine aC.far ?_ kM.out _) | exact HI0.out))) : lU ≠ g)); clear HI0; clear dW; clear HK; clear HB; have HI0 := bF; have dW := dZ; have HK := fE; have HB := gu; have d_ := lD; have mY := lS; have B_ := mO; have X4 := uU; have X3 := yA; have nO := Lh; have ML := wL; clear bF dZ fE gu lD lS mO uU yA Lh wL; clear hb hbox hg) | ((with_reducible refine dS (N := 6) rfl ?_); refine dM ?hg (N := 6) ?hd (cs := #[.int .i64 0, .int .i64 0, .slice none 0 0]) (t := 31) ?hr ?_; (case hd => rfl); (case hg => rfl); (case hr => first | (go_simp; done) | (go_simp; rfl)); intro fG hg Pe hbox hb; have bF := aj.mk (aC.below (by repeat (first | (with_reducible first | exact HI0.out | apply aC.alloc | apply aC.drewN | apply aC.drew | apply aC.gK | refine aC.far ?_ kM.out _ | refine aC.far ?_ nO.out _) | exact HI0.out)) hb); have dZ := aj.mk (bI (g := kG) (o := .cells #[.int .i64 cZ, .int .i64 dn, .slice gm bV.length gp] 31 (0, 0)) (by (with_reducible repeat (first | refine aG ?_ _ | refine aJ ?_ | refine aH ?_ _)); exact dW.out) hb); have fE := aj.mk (bI (g := lU) (o := .cells #[.int .i64 kY, .int .i64 kX, .slice pO jT.length ry] 31 (0, 0)) (by (with_reducible repeat (first | refine aG ?_ _ | refine aJ ?_ | refine aH ?_ _)); exact d_.out) hb); have gu := aj.mk (bg.trans (by repeat (first | (with_reducible first | exact HK.out | apply bg.nU | apply dH | apply dL | apply dI | refine bz ?_ kU.out _ | refine bz ?_ mY.out _) | exact HK.out)) (bg.of_below hb g none) (.inl rfl)); have lD := aj.mk (aP (by repeat (first | (with_reducible first | exact HB.out | apply ak | apply ah | apply au | refine aB ?_ (aC.ge HI0.out) | refine aB ?_ yU.out | refine aB ?_ B_.out) | exact HB.out)) hb); have lS := aj.mk (hbox); have mO := aj.mk ((by rw [hg]; exact (iJ (w := w) (g := g) (row := none) (by repeat (first | (with_reducible first | exact HK.out | apply bg.nU | apply dH | apply dL | apply dI | refine bz ?_ kU.out _ | refine bz ?_ mY.out _) | exact HK.out))) : w.heap.size ≤ fG)); have uU := aj.mk ((Nat.le_trans HW0.out (by rw [hg]; exact (iJ (w := w) (g := g) (row := none) (by repeat (first | (with_reducible first | exact HK.out | apply bg.nU | apply dH | apply dL | apply dI | refine bz ?_ kU.out _ | refine bz ?_ mY.out _) | exact HK.out))) : w.heap.size ≤ fG) : w0.heap.size ≤ fG)); have yA := aj.mk ((by rw [hg]; exact Nat.ne_of_lt (fC (g := kG) (o := .cells #[.int .i64 cZ, .int .i64 dn, .slice gm bV.length gp] 31 (0, 0)) (by (with_reducible repeat (first | refine aG ?_ _ | refine aJ ?_ | refine aH ?_ _)); exact dW.out)) : kG ≠ fG)); have Lh := aj.mk ((by rw [hg]; exact Nat.ne_of_gt (fC (g := kG) (o := .cells #[.int .i64 cZ, .int .i64 dn, .slice gm bV.length gp] 31 (0, 0)) (by (with_reducible repeat (first | refine aG ?_ _ | refine aJ ?_ | refine aH ?_ _)); exact dW.out)) : fG ≠ kG)); have wL := aj.mk ((by rw [hg]; exact Nat.ne_of_lt (fC (g := lU) (o := .cells #[.int .i64 kY, .int .i64 kX, .slice pO jT.length ry] 31 (0, 0)) (by (with_reducible repeat (first | refine aG ?_ _ | refine aJ ?_ | refine aH ?_ _)); exact d_.out)) : lU ≠ fG)); have G8 := aj.mk ((by rw [hg]; exact Nat.ne_of_gt (fC (g := lU) (o := .cells #[.int .i64 kY, .int .i64 kX, .slice pO jT.length ry] 31 (0, 0)) (by (with_reducible repeat (first | refine aG ?_ _ | refine aJ ?_ | refine aH ?_ _)); exact d_.out)) : fG ≠ lU)); have Yj := aj.mk ((by rw [hg]; exact Nat.ne_of_lt (aC.lt (show aC w0 _ g lZ from by repeat (first | (with_reducible first | exact HI0.out | apply aC.alloc | apply aC.drewN | apply aC.drew | apply aC.gK | refine aC.far ?_ kM.out _ | refine aC.far ?_ nO.out _) | exact HI0.out))) : g ≠ fG)); have Yi := aj.mk ((by rw [hg]; exact Nat.ne_of_gt (aC.lt (show aC w0 _ g lZ from by repeat (first | (with_reducible first | exact HI0.out | apply aC.alloc | apply aC.drewN | apply aC.drew | apply aC.gK | refine aC.far ?_ kM.out _ | refine aC.far ?_ nO.out _) | exact HI0.out))) : fG ≠ g)); clear HI0; clear dW; clear d_; clear HK; clear HB; have HI0 := bF; have dW := dZ; have d_ := fE; have HK := gu; have HB := lD; have iq := lS; have pq := mO; have D6 := uU; have gI := yA; have yl := Lh; have gG := wL; have yj := G8; have uK := Yj; have MK := Yi; clear bF dZ fE gu lD lS mO uU yA Lh wL G8 Yj Yi; clear hb hbox hg))
 have bF := aj.mk (aJ dW.out)
 have dZ := aj.mk (aJ d_.out)
 have fE := aj.mk (aJ iq.out)
 have gu := aj.mk (aC.drew HI0.out)
 have lD := aj.mk (dL HK.out)
 have lS := aj.mk (au HB.out)
 clear dW
 clear d_
 clear iq
 clear HI0
 clear HK
 clear HB
 have dW := bF
 have d_ := dZ
 have iq := fE
 have HI0 := gu
 have HK := lD
 have HB := lS
 clear bF dZ fE gu lD lS
 refine Ee (n := 17) (S := fun w' => w'.cell? ⟨kG, 0, none⟩ = some (.int .i64 cZ) ∧ w'.cell? ⟨kG, 1, none⟩ = some (.int .i64 dn) ∧ w'.cell? ⟨kG, 2, none⟩ = some (.slice gm bV.length gp) ∧ w'.cell? ⟨lU, 0, none⟩ = some (.int .i64 kY) ∧ w'.cell? ⟨lU, 1, none⟩ = some (.int .i64 kX) ∧ w'.cell? ⟨lU, 2, none⟩ = some (.slice pO jT.length ry)) (ds := []) #[false, false, false, false, false, false, false, false, false, false, false, false, false, false, false, false, false] (by kernel_rfl) rfl rfl ⟨(ay dW.out 0).trans rfl, (ay dW.out 1).trans rfl, (ay dW.out 2).trans rfl, (ay d_.out 0).trans rfl, (ay d_.out 1).trans rfl, (ay d_.out 2).trans rfl⟩ (fun hHeld => ?_); refine uz bD.RD bD.LY (fun jQ IQ => ?_)
 generalize Pe.drew = w12 at dW d_ iq HI0 HK HB hHeld ⊢
 refine fD (i := 0) (N := some 7) (v := ?_) (a' := ?_) #[true, false, false, false, false, false, false, false, false, false, false, false, false, false, false, false, false] rfl rfl (dP jQ.out (by kernel_rfl)) (fun _ _ _ h => h) (Or.inl ⟨by rfl, ?_⟩) ?_ ?_
 rotate_left
 · intro w'
   go_simp
   with_reducible rfl
 rotate_left
 · simp only [Act.put, List.setIfInBounds_toArray, List.set_cons_zero, List.set_cons_succ, bY, bZ]
   rfl
 refine fD (i := 1) (N := some 8) (v := ?_) (a' := ?_) #[true, true, false, false, false, false, false, false, false, false, false, false, false, false, false, false, false] rfl rfl (dP jQ.out (by kernel_rfl)) (fun _ _ _ h => h) (Or.inl ⟨by rfl, ?_⟩) ?_ ?_
 rotate_left
 · intro w'
   go_simp
   with_reducible rfl
 rotate_left
 · simp only [Act.put, List.setIfInBounds_toArray, List.set_cons_zero, List.set_cons_succ, bY, bZ]
   rfl
 refine oN (i := 2) (N := some 9) (v := ?_) (a' := ?_) #[true, true, true, false, false, false, false, false, false, false, false, false, false, false, false, false, false] rfl rfl (gJ jQ.out IQ.out (by kernel_rfl)) (fun _ _ _ h => h) (Or.inl ⟨by rfl, ?_⟩) hHeld ?_ ?_
 rotate_left
 · rintro w' ⟨s0, s1, s2, s3, s4, s5⟩
   go_simp
   with_reducible rfl
 rotate_left
 · simp only [Act.put, List.setIfInBounds_toArray, List.set_cons_zero, List.set_cons_succ, bY, bZ]
   rfl
 refine oN (i := 3) (N := some 10) (v := ?_) (a' := ?_) #[true, true, true, true, false, false, false, false, false, false, false, false, false, false, false, false, false] rfl rfl (gJ jQ.out IQ.out (by kernel_rfl)) (fun _ _ _ h => h) (Or.inl ⟨by rfl, ?_⟩) hHeld ?_ ?_
 rotate_left
 · rintro w' ⟨s0, s1, s2, s3, s4, s5⟩
   go_simp
   with_reducible rfl
 rotate_left
 · simp only [Act.put, List.setIfInBounds_toArray, List.set_cons_zero, List.set_cons_succ, bY, bZ]
   rfl
 refine oN (i := 9) (N := some 16) (v := ?_) (a' := ?_) #[true, true, true, true, false, false, false, false, false, true, false, false, false, false, false, false, false] rfl rfl (gJ jQ.out IQ.out (by kernel_rfl)) (fun _ _ _ h => h) (Or.inl ⟨by rfl, ?_⟩) hHeld ?_ ?_
 rotate_left
 · rintro w' ⟨s0, s1, s2, s3, s4, s5⟩
   go_simp
   with_reducible rfl
 rotate_left
 · simp only [Act.put, List.setIfInBounds_toArray, List.set_cons_zero, List.set_cons_succ, bY, bZ]
   rfl
 refine Ad (i := 4) (N := some 11) #[true, true, true, true, true, false, false, false, false, true, false, false, false, false, false, false, false] rfl rfl (ni jQ.out (by kernel_rfl)) (by decide) (fun K hK => ?_)
 refine uZ Try.func101 (by kernel_rfl) rfl #[.agg #[.int .i64 cZ, .int .i64 dn, .slice gm bV.length gp], .agg #[.int .i64 kY, .int .i64 kX, .slice pO jT.length ry]] (by rfl) rfl rfl (by (try simp only [List.map_toArray, List.map_cons, List.map_nil]); first | done | rfl | (simp only [List.length_drop, List.length_take]; rfl)) ?_
 with_reducible refine (iD.calls cZ dn _ _ bV kY kX _ _ jT t106 t107 t108 t111 t112 _ ?f_ ?fZ ?wz ?Gz A4.out).mono ?_
 (case f_ => exact Kd.KL 0 BR.out (by repeat (first | (with_reducible first | exact HK.out | apply bg.nU | apply dH | apply dL | apply dI | refine bz ?_ kU.out _ | refine bz ?_ mY.out _ | refine bz ?_ pq.out _) | exact HK.out)) Ia)
 (case fZ => exact BU.out)
 (case wz => exact Kd.KL 0 aab.out (by repeat (first | (with_reducible first | exact HK.out | apply bg.nU | apply dH | apply dL | apply dI | refine bz ?_ kU.out _ | refine bz ?_ mY.out _ | refine bz ?_ pq.out _) | exact HK.out)) H_)
 (case Gz => exact aai.out)
 rintro e Pj ⟨v109, rfl, ho0, hb⟩
 refine ⟨_, rfl, ?_⟩
 have bF := aj.mk (Kd.nM ho0 (iJ (w := w) (g := g) (row := none) (by repeat (first | (with_reducible first | exact HK.out | apply bg.nU | apply dH | apply dL | apply dI | refine bz ?_ kU.out _ | refine bz ?_ mY.out _ | refine bz ?_ pq.out _) | exact HK.out))))
 have dZ := aj.mk (aC.below (by repeat (first | (with_reducible first | exact HI0.out | apply aC.alloc | apply aC.drewN | apply aC.drew | apply aC.gK | refine aC.far ?_ kM.out _ | refine aC.far ?_ nO.out _ | refine aC.far ?_ uK.out _) | exact HI0.out)) hb)
 have fE := aj.mk (bI (g := kG) (o := .cells #[.int .i64 cZ, .int .i64 dn, .slice gm bV.length gp] 31 (0, 0)) (by (with_reducible repeat (first | refine aG ?_ _ | refine aJ ?_ | refine aH ?_ _)); exact dW.out) hb)
 have gu := aj.mk (bI (g := lU) (o := .cells #[.int .i64 kY, .int .i64 kX, .slice pO jT.length ry] 31 (0, 0)) (by (with_reducible repeat (first | refine aG ?_ _ | refine aJ ?_ | refine aH ?_ _)); exact d_.out) hb)
 have lD := aj.mk (bI (g := fG) (o := .cells #[.int .i64 0, .int .i64 0, .slice none 0 0] 31 (0, 0)) (by (with_reducible repeat (first | refine aG ?_ _ | refine aJ ?_ | refine aH ?_ _)); exact iq.out) hb)
 have lS := aj.mk (bg.trans (by repeat (first | (with_reducible first | exact HK.out | apply bg.nU | apply dH | apply dL | apply dI | refine bz ?_ kU.out _ | refine bz ?_ mY.out _ | refine bz ?_ pq.out _) | exact HK.out)) (bg.of_below hb g none) (.inl rfl))
 have mO := aj.mk (aP (by repeat (first | (with_reducible first | exact HB.out | apply ak | apply ah | apply au | refine aB ?_ (aC.ge HI0.out) | refine aB ?_ yU.out | refine aB ?_ B_.out | refine aB ?_ D6.out) | exact HB.out)) hb)
 clear HI0
 clear dW
 clear d_
 clear iq
 clear HK
 clear HB
 have yQ := bF
 have HI0 := dZ
 have dW := fE
 have d_ := gu
 have iq := lD
 have HK := lS
 have HB := mO
 clear bF dZ fE gu lD lS mO
 (try clear hb)
 (try clear hb2)
 (try clear hk)
 (try clear hi)
 (try clear ho0)
 obtain ⟨XK, WQ, YQ⟩ := Kd.jw yQ.out
 (first | subst YQ | (injection YQ with Ij Qn Ii; have Qm := Ij.symm; have Ql := Ii.symm; clear Ij Qn Ii; subst Qm; subst Ql))
 refine hK.out _ _ ⟨(ay dW.out 0).trans rfl, (ay dW.out 1).trans rfl, (ay dW.out 2).trans rfl, (ay d_.out 0).trans rfl, (ay d_.out 1).trans rfl, (ay d_.out 2).trans rfl⟩ (fun hHeld => ?_)
 clear hK K
 refine uT (a' := ?_) ?_ ?_
 rotate_left
 · show Act.put _ (some 11) _ = _
   simp only [Act.put, List.setIfInBounds_toArray, List.set_cons_zero, List.set_cons_succ, bY, bZ]
   rfl
 refine fD (i := 5) (N := some 12) (v := ?_) (a' := ?_) #[true, true, true, true, true, true, false, false, false, true, false, false, false, false, false, false, false] rfl rfl (dP jQ.out (by kernel_rfl)) (fun _ _ _ h => h) (Or.inl ⟨by rfl, ?_⟩) ?_ ?_
 rotate_left
 · intro w'
   go_simp
   with_reducible rfl
 rotate_left
 · simp only [Act.put, List.setIfInBounds_toArray, List.set_cons_zero, List.set_cons_succ, bY, bZ]
   rfl
 refine fD (i := 6) (N := some 13) (v := ?_) (a' := ?_) #[true, true, true, true, true, true, true, false, false, true, false, false, false, false, false, false, false] rfl rfl (dP jQ.out (by kernel_rfl)) (fun _ _ _ h => h) (Or.inl ⟨by rfl, ?_⟩) ?_ ?_
 rotate_left
 · intro w'
   go_simp
   with_reducible rfl
 rotate_left
 · simp only [Act.put, List.setIfInBounds_toArray, List.set_cons_zero, List.set_cons_succ, bY, bZ]
   rfl
 refine fD (i := 7) (N := some 14) (v := ?_) (a' := ?_) #[true, true, true, true, true, true, true, true, false, true, false, false, false, false, false, false, false] rfl rfl (dP jQ.out (by kernel_rfl)) (fun _ _ _ h => h) (Or.inl ⟨by rfl, ?_⟩) ?_ ?_
 rotate_left
 · intro w'
   go_simp
   with_reducible rfl
 rotate_left
 · simp only [Act.put, List.setIfInBounds_toArray, List.set_cons_zero, List.set_cons_succ, bY, bZ]
   rfl
 refine Ad (i := 8) (N := some 15) #[true, true, true, true, true, true, true, true, true, true, false, false, false, false, false, false, false] rfl rfl (ni jQ.out (by kernel_rfl)) (by decide) (fun K hK => ?_)
 refine uZ Try.func100 (by kernel_rfl) rfl #[.pointer (some ⟨g, 0, none⟩), .agg #[.int .i64 t106, .int .i64 t107, .slice XK t108.length WQ], .bool t111, .int .i64 t112] (by rfl) rfl rfl (by (try simp only [List.map_toArray, List.map_cons, List.map_nil]); first | done | rfl | (simp only [List.length_drop, List.length_take]; rfl)) ?_
 with_reducible refine (dw.calls g lZ t106 t107 (fun k_ => some k_ = (.slice XK t108.length WQ : Value).ownBlock) (.slice XK t108.length WQ) t108 t111 t112 t113 t114 t115 t118 w0 _ ?f_ ?fZ ?wz A5.out).mono ?_
 (case f_ => repeat (first | (with_reducible first | exact HI0.out | apply aC.alloc | apply aC.drewN | apply aC.drew | apply aC.gK | refine aC.far ?_ kM.out _ | refine aC.far ?_ nO.out _ | refine aC.far ?_ uK.out _) | exact HI0.out))
 (case fZ => repeat (first | (with_reducible first | exact HB.out | apply ak | apply ah | apply au | refine aB ?_ (aC.ge HI0.out) | refine aB ?_ yU.out | refine aB ?_ B_.out | refine aB ?_ D6.out) | exact HB.out))
 (case wz => exact Kd.nM (Kd.MC rfl yQ.out) HL.out)
 rintro e w15 ⟨ag4, rfl, ho0, hi, hb, hkp⟩
 refine ⟨_, rfl, ?_⟩
 have bF := aj.mk (hi)
 have dZ := aj.mk (ql (by (with_reducible repeat (first | refine aG ?_ _ | refine aJ ?_ | refine aH ?_ _)); exact dW.out) hkp (fun hs_ => Or.elim hs_ (fun hs_ => (fun e_ => (Kd.Gh yQ.out dW.out (by decide)) e_) hs_) (fun e_ => MM.out e_)))
 have fE := aj.mk (ql (by (with_reducible repeat (first | refine aG ?_ _ | refine aJ ?_ | refine aH ?_ _)); exact d_.out) hkp (fun hs_ => Or.elim hs_ (fun hs_ => (fun e_ => (Kd.Gh yQ.out d_.out (by decide)) e_) hs_) (fun e_ => ML.out e_)))
 have gu := aj.mk (ql (by (with_reducible repeat (first | refine aG ?_ _ | refine aJ ?_ | refine aH ?_ _)); exact iq.out) hkp (fun hs_ => Or.elim hs_ (fun hs_ => (fun e_ => (Kd.Gh yQ.out iq.out (by decide)) e_) hs_) (fun e_ => MK.out e_)))
 have lD := aj.mk (Kd.jZ (ok' := fun k_ => True) (Kd.MG (d := (Kd.int .i64)) (b := w0.heap.size) (b' := w.heap.size) (fun _ _ _ _ h_ => h_) ho0 (fun k_ e_ => Or.elim (ho0.1 k_ e_) (fun hs_ => (fun e_ => Kd.vV yQ.out k_ e_.symm) hs_) (fun P7 => Nat.le_trans (iJ (w := w) (g := g) (row := none) (by repeat (first | (with_reducible first | exact HK.out | apply bg.nU | apply dH | apply dL | apply dI | refine bz ?_ kU.out _ | refine bz ?_ mY.out _ | refine bz ?_ pq.out _) | exact HK.out))) P7))) (fun k_ Hu => trivial))
 have lS := aj.mk (Kept.UR (by repeat (first | (with_reducible first | exact HK.out | apply bg.nU | apply dH | apply dL | apply dI | refine bz ?_ kU.out _ | refine bz ?_ mY.out _ | refine bz ?_ pq.out _) | exact HK.out)) hkp (fun k_ hs_ => Or.elim hs_ (fun hs_ => (fun e_ => .inr (Kd.vV yQ.out k_ e_.symm)) hs_) (fun e_ => .inl e_)))
 have mO := aj.mk (hb)
 clear HI0
 clear dW
 clear d_
 clear iq
 clear HK
 clear HB
 clear yQ
 have HI0 := bF
 have dW := dZ
 have d_ := fE
 have iq := gu
 have nH := lD
 have HK := lS
 have HB := mO
 clear bF dZ fE gu lD lS mO
 (try clear hb)
 (try clear hkp)
 (try clear ho0)
 refine hK.out _ _ ⟨(ay dW.out 0).trans rfl, (ay dW.out 1).trans rfl, (ay dW.out 2).trans rfl, (ay d_.out 0).trans rfl, (ay d_.out 1).trans rfl, (ay d_.out 2).trans rfl⟩ (fun hHeld => ?_)
 clear hK K
 refine uT (a' := ?_) ?_ ?_
 rotate_left
 · show Act.put _ (some 15) _ = _
   simp only [Act.put, List.setIfInBounds_toArray, List.set_cons_zero, List.set_cons_succ, bY, bZ]
   rfl
 refine Ad (i := 10) (N := some 17) #[true, true, true, true, true, true, true, true, true, true, true, false, false, false, false, false, false] rfl rfl (ni jQ.out (by kernel_rfl)) (by decide) (fun K hK => ?_)
 refine uZ Try.func77 (by kernel_rfl) rfl #[.agg #[.int .i64 cZ, .int .i64 dn, .slice gm bV.length gp]] (by rfl) rfl rfl (by (try simp only [List.map_toArray, List.map_cons, List.map_nil]); first | done | rfl | (simp only [List.length_drop, List.length_take]; rfl)) ?_
 with_reducible refine (ji.calls cZ dn _ _ bV t119 t120 t121 _ ?f_ ?fZ A6.out).mono ?_
 (case f_ => exact Kd.KL 0 BR.out (by repeat (first | (with_reducible first | exact HK.out | apply bg.nU | apply dH | apply dL | apply dI | refine bz ?_ kU.out _ | refine bz ?_ mY.out _ | refine bz ?_ pq.out _) | exact HK.out)) Ia)
 (case fZ => exact BU.out)
 rintro e w16 ⟨ag3, rfl, ho0, hb⟩
 refine ⟨_, rfl, ?_⟩
 have bF := aj.mk (Kd.BP (by (with_reducible repeat (first | apply Kd.fK | apply Kd.fJ | apply Kd.gB)); exact nH.out) (Kd.vV ho0) hb)
 have dZ := aj.mk (Kd.nM (Kd.KE ho0 (Kd.Q3 (by (with_reducible repeat (first | apply Kd.fK | apply Kd.fJ | apply Kd.gB)); exact nH.out))) (iJ (w := w) (g := g) (row := none) (by repeat (first | (with_reducible first | exact HK.out | apply bg.nU | apply dH | apply dL | apply dI | refine bz ?_ kU.out _ | refine bz ?_ mY.out _ | refine bz ?_ pq.out _) | exact HK.out))))
 have fE := aj.mk (aC.below (by repeat (first | (with_reducible first | exact HI0.out | apply aC.alloc | apply aC.drewN | apply aC.drew | apply aC.gK | refine aC.far ?_ kM.out _ | refine aC.far ?_ nO.out _ | refine aC.far ?_ uK.out _) | exact HI0.out)) hb)
 have gu := aj.mk (bI (g := kG) (o := .cells #[.int .i64 cZ, .int .i64 dn, .slice gm bV.length gp] 31 (0, 0)) (by (with_reducible repeat (first | refine aG ?_ _ | refine aJ ?_ | refine aH ?_ _)); exact dW.out) hb)
 have lD := aj.mk (bI (g := lU) (o := .cells #[.int .i64 kY, .int .i64 kX, .slice pO jT.length ry] 31 (0, 0)) (by (with_reducible repeat (first | refine aG ?_ _ | refine aJ ?_ | refine aH ?_ _)); exact d_.out) hb)
 have lS := aj.mk (bI (g := fG) (o := .cells #[.int .i64 0, .int .i64 0, .slice none 0 0] 31 (0, 0)) (by (with_reducible repeat (first | refine aG ?_ _ | refine aJ ?_ | refine aH ?_ _)); exact iq.out) hb)
 have mO := aj.mk (bg.trans (by repeat (first | (with_reducible first | exact HK.out | apply bg.nU | apply dH | apply dL | apply dI | refine bz ?_ kU.out _ | refine bz ?_ mY.out _ | refine bz ?_ pq.out _) | exact HK.out)) (bg.of_below hb g none) (.inl rfl))
 have uU := aj.mk (aP (by repeat (first | (with_reducible first | exact HB.out | apply ak | apply ah | apply au | refine aB ?_ (aC.ge HI0.out) | refine aB ?_ yU.out | refine aB ?_ B_.out | refine aB ?_ D6.out) | exact HB.out)) hb)
 clear nH
 clear HI0
 clear dW
 clear d_
 clear iq
 clear HK
 clear HB
 have nH := bF
 have rJ := dZ
 have HI0 := fE
 have dW := gu
 have d_ := lD
 have iq := lS
 have HK := mO
 have HB := uU
 clear bF dZ fE gu lD lS mO uU
 (try clear hb)
 (try clear hb2)
 (try clear hk)
 (try clear hi)
 (try clear ho0)
 obtain ⟨XJ, WO, YP⟩ := Kd.jw nH.out
 (first | subst YP | (injection YP with Ij Qn Ii; have Qm := Ij.symm; have Ql := Ii.symm; clear Ij Qn Ii; subst Qm; subst Ql))
 obtain ⟨XI, TW, Qu⟩ := Kd.jw rJ.out
 (first | subst Qu | (injection Qu with Ij Qn Ii; have Qm := Ij.symm; have Ql := Ii.symm; clear Ij Qn Ii; subst Qm; subst Ql))
 refine hK.out _ _ ⟨(ay dW.out 0).trans rfl, (ay dW.out 1).trans rfl, (ay dW.out 2).trans rfl, (ay d_.out 0).trans rfl, (ay d_.out 1).trans rfl, (ay d_.out 2).trans rfl⟩ (fun hHeld => ?_)
 clear hK K
 refine uT (a' := ?_) ?_ ?_
 rotate_left
 · show Act.put _ (some 17) _ = _
   simp only [Act.put, List.setIfInBounds_toArray, List.set_cons_zero, List.set_cons_succ, bY, bZ]
   rfl
 refine Ad (i := 11) (N := some 18) #[true, true, true, true, true, true, true, true, true, true, true, true, false, false, false, false, false] rfl rfl (ni jQ.out (by kernel_rfl)) (by decide) (fun K hK => ?_)
 refine uZ Try.func101 (by kernel_rfl) rfl #[.agg #[.int .i64 t113, .int .i64 t114, .slice XJ t115.length WO], .agg #[.int .i64 t119, .int .i64 t120, .slice XI t121.length TW]] (by rfl) rfl rfl (by (try simp only [List.map_toArray, List.map_cons, List.map_nil]); first | done | rfl | (simp only [List.length_drop, List.length_take]; rfl)) ?_
 with_reducible refine (iD.calls t113 t114 _ _ t115 t119 t120 _ _ t121 t124 t125 t126 t129 t130 _ ?f_ ?fZ ?wz ?Gz A7.out).mono ?_
 (case f_ => repeat (first | exact (Kd.jf nH.out).2.2 | (with_reducible refine Kd.jc ?_ _) | (with_reducible refine Kd.iZ ?_ _) | (with_reducible refine Kd.kS ?_)))
 (case fZ => exact (Kd.jf nH.out).2.1)
 (case wz => repeat (first | exact (Kd.jf rJ.out).2.2 | (with_reducible refine Kd.jc ?_ _) | (with_reducible refine Kd.iZ ?_ _) | (with_reducible refine Kd.kS ?_)))
 (case Gz => exact (Kd.jf rJ.out).2.1)
 rintro e w19 ⟨v127, rfl, ho0, hb⟩
 refine ⟨_, rfl, ?_⟩
 have bF := aj.mk (Kd.BP (by (with_reducible repeat (first | apply Kd.fK | apply Kd.fJ | apply Kd.gB)); exact nH.out) (Kd.vV ho0) hb)
 have dZ := aj.mk (Kd.BP (by (with_reducible repeat (first | apply Kd.fK | apply Kd.fJ | apply Kd.gB)); exact rJ.out) (Kd.vV ho0) hb)
 have fE := aj.mk (Kd.nM (Kd.KE (Kd.KE ho0 (Kd.Q3 (by (with_reducible repeat (first | apply Kd.fK | apply Kd.fJ | apply Kd.gB)); exact nH.out))) (Kd.Q3 (by (with_reducible repeat (first | apply Kd.fK | apply Kd.fJ | apply Kd.gB)); exact rJ.out))) (iJ (w := w) (g := g) (row := none) (by repeat (first | (with_reducible first | exact HK.out | apply bg.nU | apply dH | apply dL | apply dI | refine bz ?_ kU.out _ | refine bz ?_ mY.out _ | refine bz ?_ pq.out _) | exact HK.out))))
 have gu := aj.mk (aC.below (by repeat (first | (with_reducible first | exact HI0.out | apply aC.alloc | apply aC.drewN | apply aC.drew | apply aC.gK | refine aC.far ?_ kM.out _ | refine aC.far ?_ nO.out _ | refine aC.far ?_ uK.out _) | exact HI0.out)) hb)
 have lD := aj.mk (bI (g := kG) (o := .cells #[.int .i64 cZ, .int .i64 dn, .slice gm bV.length gp] 31 (0, 0)) (by (with_reducible repeat (first | refine aG ?_ _ | refine aJ ?_ | refine aH ?_ _)); exact dW.out) hb)
 have lS := aj.mk (bI (g := lU) (o := .cells #[.int .i64 kY, .int .i64 kX, .slice pO jT.length ry] 31 (0, 0)) (by (with_reducible repeat (first | refine aG ?_ _ | refine aJ ?_ | refine aH ?_ _)); exact d_.out) hb)
 have mO := aj.mk (bI (g := fG) (o := .cells #[.int .i64 0, .int .i64 0, .slice none 0 0] 31 (0, 0)) (by (with_reducible repeat (first | refine aG ?_ _ | refine aJ ?_ | refine aH ?_ _)); exact iq.out) hb)
 have uU := aj.mk (bg.trans (by repeat (first | (with_reducible first | exact HK.out | apply bg.nU | apply dH | apply dL | apply dI | refine bz ?_ kU.out _ | refine bz ?_ mY.out _ | refine bz ?_ pq.out _) | exact HK.out)) (bg.of_below hb g none) (.inl rfl))
 have yA := aj.mk (aP (by repeat (first | (with_reducible first | exact HB.out | apply ak | apply ah | apply au | refine aB ?_ (aC.ge HI0.out) | refine aB ?_ yU.out | refine aB ?_ B_.out | refine aB ?_ D6.out) | exact HB.out)) hb)
 clear nH
 clear rJ
 clear HI0
 clear dW
 clear d_
 clear iq
 clear HK
 clear HB
 have nH := bF
 have rJ := dZ
 have yP := fE
 have HI0 := gu
 have dW := lD
 have d_ := lS
 have iq := mO
 have HK := uU
 have HB := yA
 clear bF dZ fE gu lD lS mO uU yA
 (try clear hb)
 (try clear hb2)
 (try clear hk)
 (try clear hi)
 (try clear ho0)
 obtain ⟨Uz, OE, Qs⟩ := Kd.jw yP.out
 (first | subst Qs | (injection Qs with Ij Qn Ii; have Qm := Ij.symm; have Ql := Ii.symm; clear Ij Qn Ii; subst Qm; subst Ql))
 refine hK.out _ _ ⟨(ay dW.out 0).trans rfl, (ay dW.out 1).trans rfl, (ay dW.out 2).trans rfl, (ay d_.out 0).trans rfl, (ay d_.out 1).trans rfl, (ay d_.out 2).trans rfl⟩ (fun hHeld => ?_)
 clear hK K
 refine uT (a' := ?_) ?_ ?_
 rotate_left
 · show Act.put _ (some 18) _ = _
   simp only [Act.put, List.setIfInBounds_toArray, List.set_cons_zero, List.set_cons_succ, bY, bZ]
   rfl
 refine fD (i := 12) (N := some 19) (v := ?_) (a' := ?_) #[true, true, true, true, true, true, true, true, true, true, true, true, true, false, false, false, false] rfl rfl (dP jQ.out (by kernel_rfl)) (fun _ _ _ h => h) (Or.inl ⟨by rfl, ?_⟩) ?_ ?_
 rotate_left
 · intro w'
   go_simp
   with_reducible rfl
 rotate_left
 · simp only [Act.put, List.setIfInBounds_toArray, List.set_cons_zero, List.set_cons_succ, bY, bZ]
   rfl
 refine fD (i := 13) (N := some 20) (v := ?_) (a' := ?_) #[true, true, true, true, true, true, true, true, true, true, true, true, true, true, false, false, false] rfl rfl (dP jQ.out (by kernel_rfl)) (fun _ _ _ h => h) (Or.inl ⟨by rfl, ?_⟩) ?_ ?_
 rotate_left
 · intro w'
   go_simp
   with_reducible rfl
 rotate_left
 · simp only [Act.put, List.setIfInBounds_toArray, List.set_cons_zero, List.set_cons_succ, bY, bZ]
   rfl
 refine fD (i := 14) (N := some 21) (v := ?_) (a' := ?_) #[true, true, true, true, true, true, true, true, true, true, true, true, true, true, true, false, false] rfl rfl (dP jQ.out (by kernel_rfl)) (fun _ _ _ h => h) (Or.inl ⟨by rfl, ?_⟩) ?_ ?_
 rotate_left
 · intro w'
   go_simp
   with_reducible rfl
 rotate_left
 · simp only [Act.put, List.setIfInBounds_toArray, List.set_cons_zero, List.set_cons_succ, bY, bZ]
   rfl
 refine Ad (i := 15) (N := some 22) #[true, true, true, true, true, true, true, true, true, true, true, true, true, true, true, true, false] rfl rfl (ni jQ.out (by kernel_rfl)) (by decide) (fun K hK => ?_)
 refine uZ Try.func100 (by kernel_rfl) rfl #[.pointer (some ⟨g, 0, none⟩), .agg #[.int .i64 t124, .int .i64 t125, .slice Uz t126.length OE], .bool t129, .int .i64 t130] (by rfl) rfl rfl (by (try simp only [List.map_toArray, List.map_cons, List.map_nil]); first | done | rfl | (simp only [List.length_drop, List.length_take]; rfl)) ?_
 with_reducible refine (dw.calls g t118 t124 t125 (fun k_ => some k_ = (.slice Uz t126.length OE : Value).ownBlock) (.slice Uz t126.length OE) t126 t129 t130 t131 t132 t133 t136 w0 _ ?f_ ?fZ ?wz A8.out).mono ?_
 (case f_ => repeat (first | (with_reducible first | exact HI0.out | apply aC.alloc | apply aC.drewN | apply aC.drew | apply aC.gK | refine aC.far ?_ kM.out _ | refine aC.far ?_ nO.out _ | refine aC.far ?_ uK.out _) | exact HI0.out))
 (case fZ => repeat (first | (with_reducible first | exact HB.out | apply ak | apply ah | apply au | refine aB ?_ (aC.ge HI0.out) | refine aB ?_ yU.out | refine aB ?_ B_.out | refine aB ?_ D6.out) | exact HB.out))
 (case wz => exact Kd.nM (Kd.MC rfl yP.out) HL.out)
 rintro e UE ⟨Ya, rfl, ho0, hi, hb, hkp⟩
 refine ⟨_, rfl, ?_⟩
 have bF := aj.mk (hi)
 have dZ := aj.mk (ql (by (with_reducible repeat (first | refine aG ?_ _ | refine aJ ?_ | refine aH ?_ _)); exact dW.out) hkp (fun hs_ => Or.elim hs_ (fun hs_ => (fun e_ => (Kd.Gh yP.out dW.out (by decide)) e_) hs_) (fun e_ => MM.out e_)))
 have fE := aj.mk (ql (by (with_reducible repeat (first | refine aG ?_ _ | refine aJ ?_ | refine aH ?_ _)); exact d_.out) hkp (fun hs_ => Or.elim hs_ (fun hs_ => (fun e_ => (Kd.Gh yP.out d_.out (by decide)) e_) hs_) (fun e_ => ML.out e_)))
 have gu := aj.mk (ql (by (with_reducible repeat (first | refine aG ?_ _ | refine aJ ?_ | refine aH ?_ _)); exact iq.out) hkp (fun hs_ => Or.elim hs_ (fun hs_ => (fun e_ => (Kd.Gh yP.out iq.out (by decide)) e_) hs_) (fun e_ => MK.out e_)))
 have lD := aj.mk (Kd.jZ (ok' := fun k_ => some k_ ≠ (.slice XI t121.length TW : Value).ownBlock ∧ some k_ ≠ (Ya : Value).ownBlock) (Kd.MH ((aC.apart HI0.out nH.out (by decide))) hkp (fun k_ Hu hs_ => Or.elim hs_ (fun hs_ => (Hu.1.2) hs_) (fun e_ => (Hu.2) e_))) (fun k_ Hu => ⟨Hu.1.1.1.2, fun e_ => Or.elim (ho0.1 k_ e_.symm) (fun hs_ => Hu.2.1 (.inl hs_)) (fun P7 => Nat.not_le.2 Hu.2.2 P7)⟩))
 have lS := aj.mk (Kd.jZ (ok' := fun k_ => some k_ ≠ (.slice XJ t115.length WO : Value).ownBlock ∧ some k_ ≠ (Ya : Value).ownBlock) (Kd.MH ((aC.apart HI0.out rJ.out (by decide))) hkp (fun k_ Hu hs_ => Or.elim hs_ (fun hs_ => (Hu.1.2) hs_) (fun e_ => (Hu.2) e_))) (fun k_ Hu => ⟨Hu.1.1.1.2, fun e_ => Or.elim (ho0.1 k_ e_.symm) (fun hs_ => Hu.2.1 (.inl hs_)) (fun P7 => Nat.not_le.2 Hu.2.2 P7)⟩))
 have mO := aj.mk (Kd.jZ (ok' := fun k_ => some k_ ≠ (.slice XJ t115.length WO : Value).ownBlock ∧ some k_ ≠ (.slice XI t121.length TW : Value).ownBlock) (Kd.MG (d := (Kd.int .i64)) (b := w0.heap.size) (b' := w.heap.size) (fun _ _ _ _ h_ => h_) ho0 (fun k_ e_ => Or.elim (ho0.1 k_ e_) (fun hs_ => (fun e_ => Kd.vV yP.out k_ e_.symm) hs_) (fun P7 => Nat.le_trans (iJ (w := w) (g := g) (row := none) (by repeat (first | (with_reducible first | exact HK.out | apply bg.nU | apply dH | apply dL | apply dI | refine bz ?_ kU.out _ | refine bz ?_ mY.out _ | refine bz ?_ pq.out _) | exact HK.out))) P7))) (fun k_ Hu => ⟨Or.elim Hu (fun hs_ => fun e_ => ((((aC.apart HI0.out nH.out (by decide))).1 k_ e_.symm).1.2) hs_) (fun P7 => (Kd.fresh' (Kd.Q3 (by (with_reducible repeat (first | apply Kd.fK | apply Kd.fJ | apply Kd.gB)); exact nH.out)) k_ P7)), Or.elim Hu (fun hs_ => fun e_ => ((((aC.apart HI0.out rJ.out (by decide))).1 k_ e_.symm).1.2) hs_) (fun P7 => (Kd.fresh' (Kd.Q3 (by (with_reducible repeat (first | apply Kd.fK | apply Kd.fJ | apply Kd.gB)); exact rJ.out)) k_ P7))⟩))
 have uU := aj.mk (Kept.UR (by repeat (first | (with_reducible first | exact HK.out | apply bg.nU | apply dH | apply dL | apply dI | refine bz ?_ kU.out _ | refine bz ?_ mY.out _ | refine bz ?_ pq.out _) | exact HK.out)) hkp (fun k_ hs_ => Or.elim hs_ (fun hs_ => (fun e_ => .inr (Kd.vV yP.out k_ e_.symm)) hs_) (fun e_ => .inl e_)))
 have yA := aj.mk (hb)
 clear HI0
 clear dW
 clear d_
 clear iq
 clear nH
 clear rJ
 clear HK
 clear HB
 clear yP
 have HI0 := bF
 have dW := dZ
 have d_ := fE
 have iq := gu
 have nH := lD
 have rJ := lS
 have Vo := mO
 have HK := uU
 have HB := yA
 clear bF dZ fE gu lD lS mO uU yA
 (try clear hb)
 (try clear hkp)
 (try clear ho0)
 obtain ⟨aas, YV, YO⟩ := Kd.jw Vo.out
 (first | subst YO | (injection YO with Ij Qn Ii; have Qm := Ij.symm; have Ql := Ii.symm; clear Ij Qn Ii; subst Qm; subst Ql))
 refine hK.out _ _ ⟨(ay dW.out 0).trans rfl, (ay dW.out 1).trans rfl, (ay dW.out 2).trans rfl, (ay d_.out 0).trans rfl, (ay d_.out 1).trans rfl, (ay d_.out 2).trans rfl⟩ (fun hHeld => ?_)
 clear hK K
 refine uT (a' := ?_) ?_ ?_
 rotate_left
 · show Act.put _ (some 22) _ = _
   simp only [Act.put, List.setIfInBounds_toArray, List.set_cons_zero, List.set_cons_succ, bY, bZ]
   rfl
 refine Ad (i := 16) (N := none) #[true, true, true, true, true, true, true, true, true, true, true, true, true, true, true, true, true] rfl rfl (ni jQ.out (by kernel_rfl)) (by decide) (fun K hK => ?_)
 have ahn : UE.cell? ⟨fG, 0, none⟩ = some (.int .i64 0) := (ay iq.out 0).trans rfl
 have afz := az iq.out 0
 have aaU := gI.out
 have aaT := gG.out
 have aa0 := yl.out
 have aaZ := yj.out
 have ahm : UE.cell? ⟨fG, 1, none⟩ = some (.int .i64 0) := (ay iq.out 1).trans rfl
 have afy := az iq.out 1
 have aaS := gI.out
 have aaR := gG.out
 have aaY := yl.out
 have aaX := yj.out
 have ahl : UE.cell? ⟨fG, 2, none⟩ = some (.slice none 0 0) := (ay iq.out 2).trans rfl
 have afx := az iq.out 2
 have aaQ := gI.out
 have aaP := gG.out
 have aaW := yl.out
 have aaV := yj.out
 refine UL (w1 := ?_) (by rfl) rfl ?_ ?_
 rotate_left
 · go_simp
   rfl
 refine hK.out _ _ ⟨((cell_far (p := ⟨fG, _, none⟩) gI.out _).trans (((cell_far (p := ⟨fG, _, none⟩) gI.out _).trans (((cell_far (p := ⟨fG, _, none⟩) gI.out _).trans (hHeld.1)))))), ((cell_far (p := ⟨fG, _, none⟩) gI.out _).trans (((cell_far (p := ⟨fG, _, none⟩) gI.out _).trans (((cell_far (p := ⟨fG, _, none⟩) gI.out _).trans (hHeld.2.1)))))), ((cell_far (p := ⟨fG, _, none⟩) gI.out _).trans (((cell_far (p := ⟨fG, _, none⟩) gI.out _).trans (((cell_far (p := ⟨fG, _, none⟩) gI.out _).trans (hHeld.2.2.1)))))), ((cell_far (p := ⟨fG, _, none⟩) gG.out _).trans (((cell_far (p := ⟨fG, _, none⟩) gG.out _).trans (((cell_far (p := ⟨fG, _, none⟩) gG.out _).trans (hHeld.2.2.2.1)))))), ((cell_far (p := ⟨fG, _, none⟩) gG.out _).trans (((cell_far (p := ⟨fG, _, none⟩) gG.out _).trans (((cell_far (p := ⟨fG, _, none⟩) gG.out _).trans (hHeld.2.2.2.2.1)))))), ((cell_far (p := ⟨fG, _, none⟩) gG.out _).trans (((cell_far (p := ⟨fG, _, none⟩) gG.out _).trans (((cell_far (p := ⟨fG, _, none⟩) gG.out _).trans (hHeld.2.2.2.2.2))))))⟩ (fun hHeld => ?_)
 clear hK K
 refine LM (zD jQ.out (by kernel_rfl)) ?_
 try go_wp2
 refine bodyPost_ret (results_cell_row rfl _ _ fG 31 #[.int .i64 t131, .int .i64 t132, .slice aas t133.length YV] (0, 0) _ rfl (by (with_reducible repeat (first | refine aG ?_ _ | refine aJ ?_ | refine aH ?_ _)); refine fB (cs := #[.int .i64 t131, .int .i64 t132, .slice none 0 0]) ?_ 2 _ rfl; (with_reducible repeat (first | refine aG ?_ _ | refine aJ ?_ | refine aH ?_ _)); refine fB (cs := #[.int .i64 t131, .int .i64 0, .slice none 0 0]) ?_ 1 _ rfl; (with_reducible repeat (first | refine aG ?_ _ | refine aJ ?_ | refine aH ?_ _)); refine fB (cs := #[.int .i64 0, .int .i64 0, .slice none 0 0]) ?_ 0 _ rfl; (with_reducible repeat (first | refine aG ?_ _ | refine aJ ?_ | refine aH ?_ _)); exact iq.out) Try.underlying31 rfl (by kernel_rfl)) rfl ?_
 exact ⟨_, by first | rfl | (simp [aN, aK] <;> rfl) | (simp [*, aN, aK] <;> rfl), by (with_reducible repeat (first | apply Kd.fK | apply Kd.fJ | apply Kd.gB)); exact Kd.jZ (Kd.mX (p := ⟨fG, 2, none⟩) (Kd.mX (p := ⟨fG, 1, none⟩) (Kd.mX (p := ⟨fG, 0, none⟩) (Kd.uI Vo.out iq.out (by decide)) (fun _ hk => hk.2) (.int .i64 t131)) (fun _ hk => hk.2) (.int .i64 t132)) (fun _ hk => hk.2) (.slice aas t133.length YV)) (fun _ hk => trivial), by repeat (first | (with_reducible first | exact HI0.out | apply aC.alloc | apply aC.drewN | apply aC.drew | apply aC.gK | refine aC.far ?_ kM.out _ | refine aC.far ?_ nO.out _ | refine aC.far ?_ uK.out _) | exact HI0.out), by repeat (first | (with_reducible first | exact HB.out | apply ak | apply ah | apply au | refine aB ?_ (aC.ge HI0.out) | refine aB ?_ yU.out | refine aB ?_ B_.out | refine aB ?_ D6.out) | exact HB.out), by repeat (first | (with_reducible first | exact HK.out | apply bg.nU | apply dH | apply dL | apply dI | refine bz ?_ kU.out _ | refine bz ?_ mY.out _ | refine bz ?_ pq.out _) | exact HK.out)⟩
end Go.Proofs.Ytnijhjbcjeohhaa.PR

namespace Go.Proofs.Ytnijhjbcjeohhaa.PR
open Go.RowKit Go.Proofs.Ytnijhjbcjeohhaa.PQ Go.Proofs.af.aO Go.Proofs.af.aU Go.Proofs.af.aV
attribute [local go_sem] gW gU jq jo fP fO gV gQ
set_option linter.unusedVariables false
set_option linter.unusedSimpArgs false
def bJ.l0 : Nat → Int → Int → Int → Int → List Int → Option (Int × Int × List Int)
 | 0, _, _, _, _, _ => none
 | k + 1, x14, x15, KR, uy, y9 => if x15 < x14 then (if 0 ≤ (wrap64 ((wrap64 (x15 * uy)) + x15)) then (if (wrap64 ((wrap64 (x15 * uy)) + x15)) < (y9.length : Int) then (bJ.l0 k x14 (wrap64 (x15 + 1)) KR uy (y9.set ((wrap64 ((wrap64 (x15 * uy)) + x15)) : Int).toNat (mx (rd y9 (wrap64 ((wrap64 (x15 * uy)) + x15))) 0))) else (none)) else (none)) else (some (KR, uy, y9))
def bJ.f (k : Nat) (aW : Int) (aY : Int) (aZ : List Int) : Option (Int × Int × List Int) := (n_.f aW aY aZ).bind fun xm => (bJ.l0 k xm.1 0 xm.1 xm.2.1 xm.2.2.1)
def bJ.T5 : Bool × List (List Nat × List Nat) := (true, [([], []), ([0], [0]), ([], []), ([], []), ([3], [3]), ([2, 4], [2, 4]), ([], []), ([5, 6], [5, 6]), ([], []), ([8], [8]), ([], []), ([], []), ([11], [11]), ([10, 12], [10, 12]), ([], []), ([13, 14], [13, 14]), ([9, 15], [9, 15]), ([16], [16]), ([17], [17]), ([1, 7, 0, 1, 2, 3, 4, 5, 6, 7, 8, 9, 10, 11, 12, 13, 14, 15, 16, 17, 18], [1, 7]), ([19, 18, 0, 1, 2, 3, 4, 5, 6, 7, 8, 9, 10, 11, 12, 13, 14, 15, 16, 17, 18], [18, 19])])
def bJ.B5 : List Nat := [0, 1, 0, 0, 8, 28, 0, 124, 0, 256, 0, 0, 2048, 7168, 0, 31744, 65280, 130816, 261888, 524287, 1048575]
theorem bJ.acH : nV .any (opsOf Try.f104 5) = bJ.T5 := by kernel_rfl
theorem bJ.Y9 : qA bJ.T5.2 bJ.B5 = true := by kernel_rfl
theorem bJ.calls (k : Nat) (aW : Int) (aY : Int) (cu : Option Addr) (b_ : Nat) (aZ : List Int) (r1 : Int) (r2 : Int) (r3 : List Int) (w : World) (jF : Kd.C (Kd.int .i64) w cu aZ.length aZ) (kF : aZ.length ≤ b_) (h : bJ.f k aW aY aZ = some (r1, r2, r3)) :
 Calls Try.prog 104 #[.agg #[.int .i64 aW, .int .i64 aY, .slice cu aZ.length b_]] w fun e w' => ∃ Gs : Value, e = .returned (.agg #[.int .i64 r1, .int .i64 r2, Gs]) ∧ Kd.R (Kd.int .i64) 22 w' w.heap.size (fun _ => True) Gs r3 ∧ Below w.heap.size w w' := by
 have JL := Try.underlying31
 have pg := aj.mk jF
 have rM := aj.mk kF
 clear jF kF
 have HB := aj.mk (Below.refl w.heap.size w)
 have H : ((n_.f aW aY aZ).bind fun xm => (bJ.l0 k xm.1 0 xm.1 xm.2.1 xm.2.2.1)) = some (r1, r2, r3) := h
 clear h
 replace H := Option.bind_eq_some_iff.mp H
 obtain ⟨⟨t139, t140, t141, t144, t145⟩, Vs, H⟩ := H
 replace H : (bJ.l0 k t139 0 t139 t140 t141) = some (r1, r2, r3) := H
 have A2 := aj.mk Vs
 clear Vs
 have H' := aj.mk H
 clear H
 go_enter Try.func104, Try.ntmps104
 go_wp2_with (first | ((with_reducible refine dS (N := 1) rfl ?_); refine dM ?hg (N := 1) ?hd (cs := #[.int .i64 aW, .int .i64 aY, .slice cu aZ.length b_]) (t := 31) ?hr ?_; (case hd => rfl); (case hg => rfl); (case hr => first | (go_simp; done) | (go_simp; rfl)); intro mQ hg w3 hbox hb; have bF := aj.mk (aP (by repeat (first | (with_reducible first | exact HB.out | apply ak | apply ah | apply au) | exact HB.out)) hb); have dZ := aj.mk (hbox); have fE := aj.mk ((by rw [hg]; exact (bu (by repeat (first | (with_reducible first | exact HB.out | apply ak | apply ah | apply au) | exact HB.out))) : w.heap.size ≤ mQ)); have gu := aj.mk ((by rw [hg]; exact (bu (by repeat (first | (with_reducible first | exact HB.out | apply ak | apply ah | apply au) | exact HB.out))) : w.heap.size ≤ mQ)); clear HB; have HB := bF; have iP := dZ; have agJ := fE; have uh := gu; clear bF dZ fE gu; clear hb hbox hg) | ((with_reducible refine dS (N := 2) rfl ?_); refine dM ?hg (N := 2) ?hd (cs := #[.int .i64 0, .int .i64 0, .slice none 0 0]) (t := 31) ?hr ?_; (case hd => rfl); (case hg => rfl); (case hr => first | (go_simp; done) | (go_simp; rfl)); intro lT hg w4 hbox hb; have bF := aj.mk (bI (g := mQ) (o := .cells #[.int .i64 aW, .int .i64 aY, .slice cu aZ.length b_] 31 (0, 0)) (by (with_reducible repeat (first | refine aG ?_ _ | refine aJ ?_ | refine aH ?_ _)); exact iP.out) hb); have dZ := aj.mk (aP (by repeat (first | (with_reducible first | exact HB.out | apply ak | apply ah | apply au | refine aB ?_ uh.out) | exact HB.out)) hb); have fE := aj.mk (hbox); have gu := aj.mk ((by rw [hg]; exact (bu (by repeat (first | (with_reducible first | exact HB.out | apply ak | apply ah | apply au | refine aB ?_ uh.out) | exact HB.out))) : w.heap.size ≤ lT)); have lD := aj.mk ((by rw [hg]; exact (bu (by repeat (first | (with_reducible first | exact HB.out | apply ak | apply ah | apply au | refine aB ?_ uh.out) | exact HB.out))) : w.heap.size ≤ lT)); have lS := aj.mk ((by rw [hg]; exact Nat.ne_of_lt (fC (g := mQ) (o := .cells #[.int .i64 aW, .int .i64 aY, .slice cu aZ.length b_] 31 (0, 0)) (by (with_reducible repeat (first | refine aG ?_ _ | refine aJ ?_ | refine aH ?_ _)); exact iP.out)) : mQ ≠ lT)); have mO := aj.mk ((by rw [hg]; exact Nat.ne_of_gt (fC (g := mQ) (o := .cells #[.int .i64 aW, .int .i64 aY, .slice cu aZ.length b_] 31 (0, 0)) (by (with_reducible repeat (first | refine aG ?_ _ | refine aJ ?_ | refine aH ?_ _)); exact iP.out)) : lT ≠ mQ)); clear iP; clear HB; have iP := bF; have HB := dZ; have jA := fE; have agI := gu; have yT := lD; have D5 := lS; have DZ := mO; clear bF dZ fE gu lD lS mO; clear hb hbox hg; have ahv := D5.out; have ahr := DZ.out; have sV : w4.cell? ⟨mQ, 0, none⟩ = some (.int .i64 aW) := (ay iP.out 0).trans rfl; have sU : w4.cell? ⟨mQ, 1, none⟩ = some (.int .i64 aY) := (ay iP.out 1).trans rfl; have vO : w4.cell? ⟨mQ, 2, none⟩ = some (.slice cu aZ.length b_) := (ay iP.out 2).trans rfl; have sS := az iP.out 0; have sQ := az iP.out 1; have vN := az iP.out 2) | ((with_reducible refine aF (f := 116) rfl ?_); refine a_ (some 9) rfl rfl Try.func116 (by kernel_rfl) rfl #[.agg #[.int .i64 aW, .int .i64 aY, .slice cu aZ.length b_]] rfl (by (try simp only [List.map_toArray, List.map_cons, List.map_nil]); first | done | rfl | (simp only [List.length_drop, List.length_take]; rfl)) ?_; (with_reducible refine (n_.calls aW aY _ _ aZ t139 t140 t141 t144 t145 _ ?f_ ?fZ A2.out).mono ?_); (case f_ => repeat (first | exact (Kd.gz pg.out HB.out) | (with_reducible refine Kd.jc ?_ _) | (with_reducible refine Kd.iZ ?_ _) | (with_reducible refine Kd.kS ?_))); (case fZ => exact rM.out); rintro e w7 ⟨ag2, rfl, ho0, hb⟩; refine ⟨_, rfl, ?_⟩; have bF := aj.mk (Kd.nM ho0 (bu (by repeat (first | (with_reducible first | exact HB.out | apply ak | apply ah | apply au | refine aB ?_ uh.out | refine aB ?_ yT.out) | exact HB.out)))); have dZ := aj.mk (bI (g := mQ) (o := .cells #[.int .i64 aW, .int .i64 aY, .slice cu aZ.length b_] 31 (0, 0)) (by (with_reducible repeat (first | refine aG ?_ _ | refine aJ ?_ | refine aH ?_ _)); exact iP.out) hb); have fE := aj.mk (bI (g := lT) (o := .cells #[.int .i64 0, .int .i64 0, .slice none 0 0] 31 (0, 0)) (by (with_reducible repeat (first | refine aG ?_ _ | refine aJ ?_ | refine aH ?_ _)); exact jA.out) hb); have gu := aj.mk (aP (by repeat (first | (with_reducible first | exact HB.out | apply ak | apply ah | apply au | refine aB ?_ uh.out | refine aB ?_ yT.out) | exact HB.out)) hb); clear iP; clear jA; clear HB; have IU := bF; have iP := dZ; have jA := fE; have HB := gu; clear bF dZ fE gu; (try clear hb); (try clear hb2); (try clear hk); (try clear hi); (try clear ho0)) | ((with_reducible refine dS (N := 3) rfl ?_); refine dM ?hg (N := 3) ?hd (cs := #[.int .i64 0, .int .i64 0, .slice none 0 0]) (t := 31) ?hr ?_; (case hd => rfl); (case hg => rfl); (case hr => first | (go_simp; done) | (go_simp; rfl)); intro lJ hg w8 hbox hb; have bF := aj.mk (Kd.nN (by (with_reducible repeat (first | apply Kd.fK | apply Kd.fJ | apply Kd.gB)); exact IU.out) hb); have dZ := aj.mk (bI (g := mQ) (o := .cells #[.int .i64 aW, .int .i64 aY, .slice cu aZ.length b_] 31 (0, 0)) (by (with_reducible repeat (first | refine aG ?_ _ | refine aJ ?_ | refine aH ?_ _)); exact iP.out) hb); have fE := aj.mk (bI (g := lT) (o := .cells #[.int .i64 0, .int .i64 0, .slice none 0 0] 31 (0, 0)) (by (with_reducible repeat (first | refine aG ?_ _ | refine aJ ?_ | refine aH ?_ _)); exact jA.out) hb); have gu := aj.mk (aP (by repeat (first | (with_reducible first | exact HB.out | apply ak | apply ah | apply au | refine aB ?_ uh.out | refine aB ?_ yT.out) | exact HB.out)) hb); have lD := aj.mk (hbox); have lS := aj.mk ((by rw [hg]; exact (bu (by repeat (first | (with_reducible first | exact HB.out | apply ak | apply ah | apply au | refine aB ?_ uh.out | refine aB ?_ yT.out) | exact HB.out))) : w.heap.size ≤ lJ)); have mO := aj.mk ((by rw [hg]; exact (bu (by repeat (first | (with_reducible first | exact HB.out | apply ak | apply ah | apply au | refine aB ?_ uh.out | refine aB ?_ yT.out) | exact HB.out))) : w.heap.size ≤ lJ)); have uU := aj.mk ((by rw [hg]; exact Nat.ne_of_lt (fC (g := mQ) (o := .cells #[.int .i64 aW, .int .i64 aY, .slice cu aZ.length b_] 31 (0, 0)) (by (with_reducible repeat (first | refine aG ?_ _ | refine aJ ?_ | refine aH ?_ _)); exact iP.out)) : mQ ≠ lJ)); have yA := aj.mk ((by rw [hg]; exact Nat.ne_of_gt (fC (g := mQ) (o := .cells #[.int .i64 aW, .int .i64 aY, .slice cu aZ.length b_] 31 (0, 0)) (by (with_reducible repeat (first | refine aG ?_ _ | refine aJ ?_ | refine aH ?_ _)); exact iP.out)) : lJ ≠ mQ)); have Lh := aj.mk ((by rw [hg]; exact Nat.ne_of_lt (fC (g := lT) (o := .cells #[.int .i64 0, .int .i64 0, .slice none 0 0] 31 (0, 0)) (by (with_reducible repeat (first | refine aG ?_ _ | refine aJ ?_ | refine aH ?_ _)); exact jA.out)) : lT ≠ lJ)); have wL := aj.mk ((by rw [hg]; exact Nat.ne_of_gt (fC (g := lT) (o := .cells #[.int .i64 0, .int .i64 0, .slice none 0 0] 31 (0, 0)) (by (with_reducible repeat (first | refine aG ?_ _ | refine aJ ?_ | refine aH ?_ _)); exact jA.out)) : lJ ≠ lT)); clear IU; clear iP; clear jA; clear HB; have IU := bF; have iP := dZ; have jA := fE; have HB := gu; have jy := lD; have agH := lS; have Rj := mO; have qw := uU; have DY := yA; have qp := Lh; have DW := wL; clear bF dZ fE gu lD lS mO uU yA Lh wL; clear hb hbox hg; have aht := DY.out; have ahp := qw.out; have YG := DW.out; have YD := qp.out; have zB : w8.cell? ⟨lJ, 0, none⟩ = some (.int .i64 0) := (ay jy.out 0).trans rfl; have zA : w8.cell? ⟨lJ, 1, none⟩ = some (.int .i64 0) := (ay jy.out 1).trans rfl; have zy : w8.cell? ⟨lJ, 2, none⟩ = some (.slice none 0 0) := (ay jy.out 2).trans rfl; have zx := az jy.out 0; have zo := az jy.out 1; have zn := az jy.out 2; obtain ⟨XL, WR, WH⟩ := Kd.jw IU.out; subst WH))
 go_loopg [15] k (fun kq v15 w' => ∃ (iG : Int) (dX : List Int) (zi : Value), v15 = .int .i64 iG ∧ aj (bJ.l0 kq t139 iG t139 t140 dX = some (r1, r2, r3)) ∧ aj (kq ≤ k) ∧ aj (Kd.R (Kd.int .i64) 22 w' w.heap.size (fun _ => True) zi dX) ∧ aj (w'.heap[mQ]? = some (.cells #[.int .i64 aW, .int .i64 aY, (.slice cu aZ.length b_)] 31 (0, 0))) ∧ aj (w'.heap[lT]? = some (.cells #[.int .i64 0, .int .i64 0, (.slice none 0 0)] 31 (0, 0))) ∧ aj (w'.heap[lJ]? = some (.cells #[.int .i64 t139, .int .i64 t140, zi] 31 (0, 0))) ∧ aj (Below w.heap.size w w'))
 case atStart => exact ⟨(0), (t141), (.slice XL t141.length WR), (by first | rfl | (simp; done) | (simp [*]; done)), H', ⟨Nat.le_refl _⟩, ⟨by (with_reducible repeat (first | apply Kd.fK | apply Kd.fJ | apply Kd.gB)); exact Kd.jZ (Kd.mX (p := ⟨lJ, 2, none⟩) (Kd.mX (p := ⟨lJ, 1, none⟩) (Kd.mX (p := ⟨lJ, 0, none⟩) (Kd.uI IU.out jy.out (by decide)) (fun _ hk => hk.2) (.int .i64 t139)) (fun _ hk => hk.2) (.int .i64 t140)) (fun _ hk => hk.2) (.slice XL t141.length WR)) (fun _ hk => trivial)⟩, ⟨by (with_reducible repeat (first | refine aG ?_ _ | refine aJ ?_ | refine aH ?_ _)); refine kL ?_ qw.out _; (with_reducible repeat (first | refine aG ?_ _ | refine aJ ?_ | refine aH ?_ _)); refine kL ?_ qw.out _; (with_reducible repeat (first | refine aG ?_ _ | refine aJ ?_ | refine aH ?_ _)); refine kL ?_ qw.out _; (with_reducible repeat (first | refine aG ?_ _ | refine aJ ?_ | refine aH ?_ _)); exact iP.out⟩, ⟨by (with_reducible repeat (first | refine aG ?_ _ | refine aJ ?_ | refine aH ?_ _)); refine kL ?_ qp.out _; (with_reducible repeat (first | refine aG ?_ _ | refine aJ ?_ | refine aH ?_ _)); refine kL ?_ qp.out _; (with_reducible repeat (first | refine aG ?_ _ | refine aJ ?_ | refine aH ?_ _)); refine kL ?_ qp.out _; (with_reducible repeat (first | refine aG ?_ _ | refine aJ ?_ | refine aH ?_ _)); exact jA.out⟩, ⟨by (with_reducible repeat (first | refine aG ?_ _ | refine aJ ?_ | refine aH ?_ _)); refine fB (cs := #[.int .i64 t139, .int .i64 t140, .slice none 0 0]) ?_ 2 _ rfl; (with_reducible repeat (first | refine aG ?_ _ | refine aJ ?_ | refine aH ?_ _)); refine fB (cs := #[.int .i64 t139, .int .i64 0, .slice none 0 0]) ?_ 1 _ rfl; (with_reducible repeat (first | refine aG ?_ _ | refine aJ ?_ | refine aH ?_ _)); refine fB (cs := #[.int .i64 0, .int .i64 0, .slice none 0 0]) ?_ 0 _ rfl; (with_reducible repeat (first | refine aG ?_ _ | refine aJ ?_ | refine aH ?_ _)); exact jy.out⟩, ⟨by repeat (first | (with_reducible first | exact HB.out | apply ak | apply ah | apply au | refine aB ?_ uh.out | refine aB ?_ yT.out | refine aB ?_ Rj.out) | exact HB.out)⟩⟩
 case round =>
  clear H'
  try clear c1
  try clear p2
  try clear c5
  try clear c9
  try clear c10
  try clear c11
  try clear zB
  try clear zA
  try clear zy
  try clear sV
  try clear sU
  try clear vO
  try clear zx
  try clear zo
  try clear zn
  try clear sS
  try clear sQ
  try clear vN
  obtain ⟨iG, dX, zi, rfl, HA, xC, fQ, iP, jA, jy, HB⟩ := hrel
  cases gk with
  | zero => exact absurd HA.out (by simp [bJ.l0])
  | succ k1 =>
    have H := HA.out
    clear HA
    simp only [bJ.l0] at H
    by_cases c13 : iG < t139
    · rw [if_pos c13] at H
      have vF : decide (iG < t139) = true := decide_eq_true c13
      clear c13
      obtain ⟨oq, P_⟩ : ∃ j_ : Int, (wrap64 ((wrap64 (iG * t140)) + iG)) = j_ := ⟨_, rfl⟩
      replace H : (if 0 ≤ (oq) then (if (oq) < (dX.length : Int) then (bJ.l0 k1 t139 (wrap64 (iG + 1)) t139 t140 (dX.set ((oq) : Int).toNat (mx (rd dX (oq)) 0))) else (none)) else (none)) = some (r1, r2, r3) := by first | (rw [P_] at H; exact H) | (simp only [P_] at H ⊢; exact H)
      have adr : (IntKind.i64.wrap ((wrap64 (iG * t140)) + iG)) = oq := (bY _).trans P_
      by_cases c15 : 0 ≤ (oq)
      · rw [if_pos c15] at H
        have QM : decide (0 ≤ (oq)) = true := decide_eq_true c15
        clear c15
        by_cases c16 : (oq) < (dX.length : Int)
        · rw [if_pos c16] at H
          have DK : decide ((oq) < (dX.length : Int)) = true := decide_eq_true c16
          clear c16
          obtain ⟨iR, oz⟩ : ∃ j_ : Int, (mx (rd dX (oq)) 0) = j_ := ⟨_, rfl⟩
          replace H : (bJ.l0 k1 t139 (wrap64 (iG + 1)) t139 t140 (dX.set ((oq) : Int).toNat (iR))) = some (r1, r2, r3) := by first | (rw [oz] at H; exact H) | (simp only [oz] at H ⊢; exact H)
          have V8 : (if (rd dX (oq)) < 0 then 0 else (rd dX (oq))) = iR := oz
          obtain ⟨X8, Hq⟩ : ∃ y_ : List Int, y_ = (dX.set ((oq) : Int).toNat (iR)) := ⟨_, rfl⟩
          replace H : (bJ.l0 k1 t139 (wrap64 (iG + 1)) t139 t140 X8) = some (r1, r2, r3) := by first | (rw [Hq]; with_reducible exact H) | (have XF := (Option.bind_some _ _).symm.trans H; rw [Hq]; with_reducible exact XF) | (have XF := (Option.bind_some _ _).symm.trans H; with_reducible exact XF) | with_reducible exact H | (rw [Hq]; exact H) | exact H
          have ZO := aj.mk Hq
          clear Hq
          have H' := aj.mk H
          clear H
          try go_wp2
          have bF := aj.mk (Kd.gB fQ.out)
          have dZ := aj.mk (aJ iP.out)
          have fE := aj.mk (aJ jA.out)
          have gu := aj.mk (aJ jy.out)
          have lD := aj.mk (au HB.out)
          clear fQ
          clear iP
          clear jA
          clear jy
          clear HB
          have fQ := bF
          have iP := dZ
          have jA := fE
          have jy := gu
          have HB := lD
          clear bF dZ fE gu lD
          obtain ⟨Uz, OE, Qs⟩ := Kd.jw fQ.out
          (first | subst Qs | (injection Qs with Ij Qn Ii; have Qm := Ij.symm; have Ql := Ii.symm; clear Ij Qn Ii; subst Qm; subst Ql))
          have VG : 0 ≤ ((oq) : Int) := of_decide_eq_true (by first | (with_reducible assumption) | assumption)
          have VE : (oq) < (dX.length : Int) := of_decide_eq_true (by first | (with_reducible assumption) | assumption)
          obtain ⟨afN, adZ, Ez⟩ := Kd.jm (Kd.jf fQ.out).2.2 (oq) VG VE
          cases adZ
          replace VG := eq_true VG
          replace VE := eq_true VE
          have p18 : 0 ≤ ((oq) : Int) := of_decide_eq_true (by first | (with_reducible assumption) | assumption)
          have q18 : ((oq) : Int) < ((dX.length : Int) : Int) := of_decide_eq_true (by first | (with_reducible assumption) | assumption)
          obtain ⟨WC, TW, Qu, YL, adO, aih, aah⟩ := Kd.Xe fQ.out (by omega)
          (first | cases Qu | (injection Qu with ea_ en_ ec_; (first | subst ea_ | (injection ea_ with ea_; subst ea_)); subst ec_; clear en_))
          have aeP := aj.mk YL
          have aeO := aj.mk aah
          clear YL adO aah
          (first | simp only [add_plain] at Ez | skip)
          obtain ⟨VX, Wl⟩ := Kd.Uh 0 fQ.out ((oq) : Int) p18 q18
          replace p18 := eq_true p18
          replace q18 := eq_true q18
          have Xx := Kd.Xc fQ.out ((oq) : Int) iR
          rw [← ZO.out] at Xx
          have aad := aj.mk Xx
          clear Xx
          refine Ee (n := 21) (S := fun w' => w'.cell? ⟨lJ, 0, none⟩ = some (.int .i64 t139) ∧ w'.cell? ⟨lJ, 1, none⟩ = some (.int .i64 t140) ∧ w'.cell? ⟨lJ, 2, none⟩ = some (.slice (some ⟨WC, 0, none⟩) dX.length OE) ∧ w'.cell? ⟨WC, ((oq)).toNat, none⟩ = some (.int .i64 (rd dX (oq)))) (ds := [20]) #[false, false, false, false, false, false, false, false, false, false, false, false, false, false, false, false, false, false, false, false, false] (by kernel_rfl) rfl rfl ⟨(ay jy.out 0).trans rfl, (ay jy.out 1).trans rfl, (ay jy.out 2).trans rfl, Ez⟩ (fun hHeld => ?_); refine uz bJ.acH bJ.Y9 (fun jQ IQ => ?_)
          generalize wr.drew = w19 at fQ iP jA jy HB aeO aad Wl Ez VX hHeld ⊢
          refine fD (i := 0) (N := some 18) (v := ?_) (a' := ?_) #[true, false, false, false, false, false, false, false, false, false, false, false, false, false, false, false, false, false, false, false, false] rfl rfl (dP jQ.out (by kernel_rfl)) (fun _ _ _ h => h) (Or.inl ⟨by rfl, ?_⟩) ?_ ?_
          rotate_left
          · intro w'
            go_simp
            with_reducible rfl
          rotate_left
          · simp only [Act.put, List.setIfInBounds_toArray, List.set_cons_zero, List.set_cons_succ, bY, bZ]
            rfl
          refine fD (i := 2) (N := some 20) (v := ?_) (a' := ?_) #[true, false, true, false, false, false, false, false, false, false, false, false, false, false, false, false, false, false, false, false, false] rfl rfl (dP jQ.out (by kernel_rfl)) (fun _ _ _ h => h) (Or.inl ⟨by rfl, ?_⟩) ?_ ?_
          rotate_left
          · intro w'
            go_simp
            with_reducible rfl
          rotate_left
          · simp only [Act.put, List.setIfInBounds_toArray, List.set_cons_zero, List.set_cons_succ, bY, bZ]
            rfl
          refine fD (i := 3) (N := some 21) (v := ?_) (a' := ?_) #[true, false, true, true, false, false, false, false, false, false, false, false, false, false, false, false, false, false, false, false, false] rfl rfl (dP jQ.out (by kernel_rfl)) (fun _ _ _ h => h) (Or.inl ⟨by rfl, ?_⟩) ?_ ?_
          rotate_left
          · intro w'
            go_simp
            with_reducible rfl
          rotate_left
          · simp only [Act.put, List.setIfInBounds_toArray, List.set_cons_zero, List.set_cons_succ, bY, bZ]
            rfl
          refine fD (i := 6) (N := some 24) (v := ?_) (a' := ?_) #[true, false, true, true, false, false, true, false, false, false, false, false, false, false, false, false, false, false, false, false, false] rfl rfl (dP jQ.out (by kernel_rfl)) (fun _ _ _ h => h) (Or.inl ⟨by rfl, ?_⟩) ?_ ?_
          rotate_left
          · intro w'
            go_simp
            with_reducible rfl
          rotate_left
          · simp only [Act.put, List.setIfInBounds_toArray, List.set_cons_zero, List.set_cons_succ, bY, bZ]
            rfl
          refine fD (i := 8) (N := some 26) (v := ?_) (a' := ?_) #[true, false, true, true, false, false, true, false, true, false, false, false, false, false, false, false, false, false, false, false, false] rfl rfl (dP jQ.out (by kernel_rfl)) (fun _ _ _ h => h) (Or.inl ⟨by rfl, ?_⟩) ?_ ?_
          rotate_left
          · intro w'
            go_simp
            with_reducible rfl
          rotate_left
          · simp only [Act.put, List.setIfInBounds_toArray, List.set_cons_zero, List.set_cons_succ, bY, bZ]
            rfl
          refine fD (i := 10) (N := some 28) (v := ?_) (a' := ?_) #[true, false, true, true, false, false, true, false, true, false, true, false, false, false, false, false, false, false, false, false, false] rfl rfl (dP jQ.out (by kernel_rfl)) (fun _ _ _ h => h) (Or.inl ⟨by rfl, ?_⟩) ?_ ?_
          rotate_left
          · intro w'
            go_simp
            with_reducible rfl
          rotate_left
          · simp only [Act.put, List.setIfInBounds_toArray, List.set_cons_zero, List.set_cons_succ, bY, bZ]
            rfl
          refine fD (i := 11) (N := some 29) (v := ?_) (a' := ?_) #[true, false, true, true, false, false, true, false, true, false, true, true, false, false, false, false, false, false, false, false, false] rfl rfl (dP jQ.out (by kernel_rfl)) (fun _ _ _ h => h) (Or.inl ⟨by rfl, ?_⟩) ?_ ?_
          rotate_left
          · intro w'
            go_simp
            with_reducible rfl
          rotate_left
          · simp only [Act.put, List.setIfInBounds_toArray, List.set_cons_zero, List.set_cons_succ, bY, bZ]
            rfl
          refine fD (i := 14) (N := some 32) (v := ?_) (a' := ?_) #[true, false, true, true, false, false, true, false, true, false, true, true, false, false, true, false, false, false, false, false, false] rfl rfl (dP jQ.out (by kernel_rfl)) (fun _ _ _ h => h) (Or.inl ⟨by rfl, ?_⟩) ?_ ?_
          rotate_left
          · intro w'
            go_simp
            with_reducible rfl
          rotate_left
          · simp only [Act.put, List.setIfInBounds_toArray, List.set_cons_zero, List.set_cons_succ, bY, bZ]
            rfl
          refine oN (i := 1) (N := some 19) (v := ?_) (a' := ?_) #[true, true, true, true, false, false, true, false, true, false, true, true, false, false, true, false, false, false, false, false, false] rfl rfl (gJ jQ.out IQ.out (by kernel_rfl)) (fun _ _ _ h => h) (Or.inl ⟨by rfl, ?_⟩) hHeld ?_ ?_
          rotate_left
          · rintro w' ⟨s0, s1, s2, s3⟩
            go_simp
            with_reducible rfl
          rotate_left
          · simp only [Act.put, List.setIfInBounds_toArray, List.set_cons_zero, List.set_cons_succ, bY, bZ]
            rfl
          refine oN (i := 4) (N := some 22) (v := ?_) (a' := ?_) #[true, true, true, true, true, false, true, false, true, false, true, true, false, false, true, false, false, false, false, false, false] rfl rfl (gJ jQ.out IQ.out (by kernel_rfl)) (fun _ _ _ h => h) (Or.inl ⟨by rfl, ?_⟩) hHeld ?_ ?_
          rotate_left
          · rintro w' ⟨s0, s1, s2, s3⟩
            go_simp
            with_reducible rfl
          rotate_left
          · simp only [Act.put, List.setIfInBounds_toArray, List.set_cons_zero, List.set_cons_succ, bY, bZ]
            rfl
          refine fD (i := 5) (N := some 23) (v := ?_) (a' := ?_) #[true, true, true, true, true, true, true, false, true, false, true, true, false, false, true, false, false, false, false, false, false] rfl rfl (dP jQ.out (by kernel_rfl)) (fun _ _ _ h => h) (Or.inl ⟨by rfl, ?_⟩) ?_ ?_
          rotate_left
          · intro w'
            go_simp
            with_reducible rfl
          rotate_left
          · simp only [Act.put, List.setIfInBounds_toArray, List.set_cons_zero, List.set_cons_succ, bY, bZ]
            rfl
          refine fD (i := 7) (N := some 25) (v := ?_) (a' := ?_) #[true, true, true, true, true, true, true, true, true, false, true, true, false, false, true, false, false, false, false, false, false] rfl rfl (dP jQ.out (by kernel_rfl)) (fun _ _ _ h => h) (Or.inl ⟨by rfl, ?_⟩) ?_ ?_
          rotate_left
          · intro w'
            go_simp
            with_reducible rfl
          rotate_left
          · simp only [Act.put, List.setIfInBounds_toArray, List.set_cons_zero, List.set_cons_succ, bY, bZ]
            rfl
          refine oN (i := 9) (N := some 27) (v := ?_) (a' := ?_) #[true, true, true, true, true, true, true, true, true, true, true, true, false, false, true, false, false, false, false, false, false] rfl rfl (gJ jQ.out IQ.out (by kernel_rfl)) (fun _ _ _ h => h) (Or.inl ⟨by rfl, ?_⟩) hHeld ?_ ?_
          rotate_left
          · rintro w' ⟨s0, s1, s2, s3⟩
            go_simp
            with_reducible rfl
          rotate_left
          · simp only [Act.put, List.setIfInBounds_toArray, List.set_cons_zero, List.set_cons_succ, bY, bZ]
            rfl
          refine oN (i := 12) (N := some 30) (v := ?_) (a' := ?_) #[true, true, true, true, true, true, true, true, true, true, true, true, true, false, true, false, false, false, false, false, false] rfl rfl (gJ jQ.out IQ.out (by kernel_rfl)) (fun _ _ _ h => h) (Or.inl ⟨by rfl, ?_⟩) hHeld ?_ ?_
          rotate_left
          · rintro w' ⟨s0, s1, s2, s3⟩
            go_simp
            with_reducible rfl
          rotate_left
          · simp only [Act.put, List.setIfInBounds_toArray, List.set_cons_zero, List.set_cons_succ, bY, bZ]
            rfl
          refine fD (i := 13) (N := some 31) (v := ?_) (a' := ?_) #[true, true, true, true, true, true, true, true, true, true, true, true, true, true, true, false, false, false, false, false, false] rfl rfl (dP jQ.out (by kernel_rfl)) (fun _ _ _ h => h) (Or.inl ⟨by rfl, ?_⟩) ?_ ?_
          rotate_left
          · intro w'
            go_simp
            with_reducible rfl
          rotate_left
          · simp only [Act.put, List.setIfInBounds_toArray, List.set_cons_zero, List.set_cons_succ, bY, bZ]
            rfl
          refine fD (i := 15) (N := some 33) (v := ?_) (a' := ?_) #[true, true, true, true, true, true, true, true, true, true, true, true, true, true, true, true, false, false, false, false, false] rfl rfl (dP jQ.out (by kernel_rfl)) (fun _ _ _ h => h) (Or.inl ⟨by rfl, ?_⟩) ?_ ?_
          rotate_left
          · intro w'
            go_simp
            with_reducible rfl
          rotate_left
          · simp only [Act.put, List.setIfInBounds_toArray, List.set_cons_zero, List.set_cons_succ, bY, bZ]
            rfl
          refine fD (i := 16) (N := some 34) (v := ?_) (a' := ?_) #[true, true, true, true, true, true, true, true, true, true, true, true, true, true, true, true, true, false, false, false, false] rfl rfl (dP jQ.out (by kernel_rfl)) (fun _ _ _ h => h) (Or.inl ⟨by rfl, ?_⟩) ?_ ?_
          rotate_left
          · intro w'
            go_simp
            with_reducible rfl
          rotate_left
          · simp only [Act.put, List.setIfInBounds_toArray, List.set_cons_zero, List.set_cons_succ, bY, bZ]
            rfl
          refine oN (i := 17) (N := some 35) (v := ?_) (a' := ?_) #[true, true, true, true, true, true, true, true, true, true, true, true, true, true, true, true, true, true, false, false, false] rfl rfl (gJ jQ.out IQ.out (by kernel_rfl)) (fun _ _ _ h => h) (Or.inl ⟨by rfl, ?_⟩) hHeld ?_ ?_
          rotate_left
          · rintro w' ⟨s0, s1, s2, s3⟩
            go_simp
            with_reducible rfl
          rotate_left
          · simp only [Act.put, List.setIfInBounds_toArray, List.set_cons_zero, List.set_cons_succ, bY, bZ]
            rfl
          refine fD (i := 18) (N := some 36) (v := ?_) (a' := ?_) #[true, true, true, true, true, true, true, true, true, true, true, true, true, true, true, true, true, true, true, false, false] rfl rfl (dP jQ.out (by kernel_rfl)) (fun _ _ _ h => h) (Or.inl ⟨by rfl, ?_⟩) ?_ ?_
          rotate_left
          · intro w'
            go_simp
            with_reducible rfl
          rotate_left
          · simp only [Act.put, List.setIfInBounds_toArray, List.set_cons_zero, List.set_cons_succ, bY, bZ]
            rfl
          refine fD (i := 19) (N := some 37) (v := ?_) (a' := ?_) #[true, true, true, true, true, true, true, true, true, true, true, true, true, true, true, true, true, true, true, true, false] rfl rfl (dP jQ.out (by kernel_rfl)) (fun _ _ _ h => h) (Or.inl ⟨by rfl, ?_⟩) ?_ ?_
          rotate_left
          · intro w'
            go_simp
            with_reducible rfl
          rotate_left
          · simp only [Act.put, List.setIfInBounds_toArray, List.set_cons_zero, List.set_cons_succ, bY, bZ]
            rfl
          refine Yq (i := 20) (N := none) #[true, true, true, true, true, true, true, true, true, true, true, true, true, true, true, true, true, true, true, true, true] rfl rfl (ni jQ.out (by kernel_rfl)) (by decide) (fun K hK => ?_)
          refine UL (w1 := ?_) (by rfl) rfl ?_ ?_
          rotate_left
          · go_simp
            rfl
          refine hK.out _ _ ?_
          clear hK K
          refine LM (zD jQ.out (by kernel_rfl)) ?_
          try go_wp2
          go_roundg k1
          case measure => have := xC.out; omega
          case rel => exact ⟨(wrap64 (iG + 1)), (X8), (.slice (some ⟨WC, 0, none⟩) dX.length OE), (by first | rfl | (simp; done) | (simp [*]; done)), H', ⟨by have := xC.out; omega⟩, ⟨by (with_reducible repeat (first | apply Kd.fK | apply Kd.fJ | apply Kd.gB)); exact aad.out⟩, ⟨by (with_reducible repeat (first | refine aG ?_ _ | refine aJ ?_ | refine aH ?_ _)); refine kL ?_ (by have h_ := Kd.Gh fQ.out iP.out (by decide); intro e_; exact h_ (by rw [e_]; rfl)) _; (with_reducible repeat (first | refine aG ?_ _ | refine aJ ?_ | refine aH ?_ _)); exact iP.out⟩, ⟨by (with_reducible repeat (first | refine aG ?_ _ | refine aJ ?_ | refine aH ?_ _)); refine kL ?_ (by have h_ := Kd.Gh fQ.out jA.out (by decide); intro e_; exact h_ (by rw [e_]; rfl)) _; (with_reducible repeat (first | refine aG ?_ _ | refine aJ ?_ | refine aH ?_ _)); exact jA.out⟩, ⟨by (with_reducible repeat (first | refine aG ?_ _ | refine aJ ?_ | refine aH ?_ _)); refine kL ?_ (by have h_ := Kd.Gh fQ.out jy.out (by decide); intro e_; exact h_ (by rw [e_]; rfl)) _; (with_reducible repeat (first | refine aG ?_ _ | refine aJ ?_ | refine aH ?_ _)); exact jy.out⟩, ⟨by repeat (first | (with_reducible first | exact HB.out | apply ak | apply ah | apply au | refine aB ?_ aeP.out | refine aB ?_ uh.out | refine aB ?_ yT.out | refine aB ?_ Rj.out) | exact HB.out)⟩⟩
        · rw [if_neg c16] at H
          exact absurd H (by simp)
      · rw [if_neg c15] at H
        exact absurd H (by simp)
    · rw [if_neg c13] at H
      have vF : decide (iG < t139) = false := decide_eq_false c13
      clear c13
      simp only [Option.some.injEq, Prod.mk.injEq] at H
      obtain ⟨rfl, rfl, rfl⟩ := H
      have YE := DY.out
      have YB := qw.out
      have afl := DW.out
      have afg := qp.out
      have LG : wr.cell? ⟨lJ, 0, none⟩ = some (.int .i64 t139) := (ay jy.out 0).trans rfl
      have LD : wr.cell? ⟨lJ, 1, none⟩ = some (.int .i64 t140) := (ay jy.out 1).trans rfl
      have Lu : wr.cell? ⟨lJ, 2, none⟩ = some (zi) := (ay jy.out 2).trans rfl
      have Lt := az jy.out 0
      have Ls := az jy.out 1
      have Lr := az jy.out 2
      have afk := DZ.out
      have aff := D5.out
      have abQ : wr.cell? ⟨lT, 0, none⟩ = some (.int .i64 0) := (ay jA.out 0).trans rfl
      have abP : wr.cell? ⟨lT, 1, none⟩ = some (.int .i64 0) := (ay jA.out 1).trans rfl
      have abO : wr.cell? ⟨lT, 2, none⟩ = some (.slice none 0 0) := (ay jA.out 2).trans rfl
      have abh := az jA.out 0
      have abg := az jA.out 1
      have abf := az jA.out 2
      obtain ⟨aar, YU, adQ⟩ := Kd.jw fQ.out
      subst adQ
      go_wp2
      refine bodyPost_ret (results_cell_row rfl _ _ lT 31 #[.int .i64 t139, .int .i64 t140, .slice aar dX.length YU] (0, 0) _ rfl (by (with_reducible repeat (first | refine aG ?_ _ | refine aJ ?_ | refine aH ?_ _)); refine fB (cs := #[.int .i64 t139, .int .i64 t140, .slice none 0 0]) ?_ 2 _ rfl; (with_reducible repeat (first | refine aG ?_ _ | refine aJ ?_ | refine aH ?_ _)); refine fB (cs := #[.int .i64 t139, .int .i64 0, .slice none 0 0]) ?_ 1 _ rfl; (with_reducible repeat (first | refine aG ?_ _ | refine aJ ?_ | refine aH ?_ _)); refine fB (cs := #[.int .i64 0, .int .i64 0, .slice none 0 0]) ?_ 0 _ rfl; (with_reducible repeat (first | refine aG ?_ _ | refine aJ ?_ | refine aH ?_ _)); exact jA.out) Try.underlying31 rfl (by kernel_rfl)) rfl ?_
      exact ⟨_, by first | rfl | (simp [aN, aK] <;> rfl) | (simp [*, aN, aK] <;> rfl), by (with_reducible repeat (first | apply Kd.fK | apply Kd.fJ | apply Kd.gB)); exact Kd.jZ (Kd.mX (p := ⟨lT, 2, none⟩) (Kd.mX (p := ⟨lT, 1, none⟩) (Kd.mX (p := ⟨lT, 0, none⟩) (Kd.uI fQ.out jA.out (by decide)) (fun _ hk => hk.2) (.int .i64 t139)) (fun _ hk => hk.2) (.int .i64 t140)) (fun _ hk => hk.2) (.slice aar dX.length YU)) (fun _ hk => trivial), by repeat (first | (with_reducible first | exact HB.out | apply ak | apply ah | apply au | refine aB ?_ uh.out | refine aB ?_ yT.out | refine aB ?_ Rj.out) | exact HB.out)⟩
end Go.Proofs.Ytnijhjbcjeohhaa.PR

namespace Go.Proofs.Ytnijhjbcjeohhaa.PR
open Go.RowKit Go.Proofs.Ytnijhjbcjeohhaa.PQ Go.Proofs.af.aO Go.Proofs.af.aU Go.Proofs.af.aV
attribute [local go_sem] gW gU jq jo fP fO gV gQ
set_option linter.unusedVariables false
set_option linter.unusedSimpArgs false
end Go.Proofs.Ytnijhjbcjeohhaa.PR

