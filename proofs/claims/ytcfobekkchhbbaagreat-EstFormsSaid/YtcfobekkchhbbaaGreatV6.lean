import Derived.Test.YtcfobekkchhbbaaGreatV2
import Derived.Test.YtcfobekkchhbbaaGreatV4
import Derived.Test.YtcfobekkchhbbaaGreatV3
import Derived.Test.YtcfobekkchhbbaaGreatV5
import Derived.Test.YtcfobekkchhbbaaGreatV1
import Derived.Below
import Derived.Deep.Draws
import Derived.Deep.AppendLies
import Derived.Maps.AppendAt
import Derived.OwnWalk
import Derived.ArgAppend
import Derived.Laws.OwnMore
import Derived.Deep.OwnRows
import Derived.Tactics
import Derived.Laws.Slices
import Derived.WalkKit
import Derived.KernelRfl
import Derived.RowKit3
import Derived.Deep.LoopGhost
import Derived.Deep.QuietTactic
import Derived.WideLaws
import Derived.Deep.RegionHeld3
import Derived.Deep.RegionLaw
import Derived.Laws.Rows
import Derived.RowKit
import Derived.LoopTactic
import Derived.Lib.Hide
import Derived.Laws.AppendOwn
import Derived.IntWalk
/- Joined and thinned by a program of this session's own (wip/pack2.py) out of its texts (wip/ of its repo); parts were laid by its own program (wip/print-patch.py over the kit's print) out of the translation; Lean checks all. -/
set_option maxRecDepth 100000
set_option maxHeartbeats 8000000
namespace Go.Proofs.YtcfobekkchhbbaaGreat.PQ
open Go.RowKit Go.Proofs.af.aU Go.Proofs.af.a_ Go.Proofs.af.bf
attribute [local go_sem] jq jm kJ kH iM iL jo jl
set_option linter.unusedVariables false
set_option linter.unusedSimpArgs false
mutual
def bz.j0 : Nat → Bool → Int → Int → List Int → Int → Int → List Int → Option (Bool)
 | 0, _, _, _, _, _, _, _ => none
 | k + 1, x26, Hr, Hq, yI, Ho, Hl, yH => if x26 = true then (some false) else (bz.l0 k 0 Hr Hq yI Ho Hl yH)
def bz.l0 : Nat → Int → Int → Int → List Int → Int → Int → List Int → Option (Bool)
 | 0, _, _, _, _, _, _, _ => none
 | k + 1, x5, Hr, Hq, yI, Ho, Hl, yH => if x5 < (yI.length : Int) then (if 0 ≤ x5 then (if x5 < (yH.length : Int) then (if (rd yI x5) = (rd yH x5) then (bz.l0 k (wrap64 (x5 + 1)) Hr Hq yI Ho Hl yH) else (some false)) else (none)) else (none)) else (some true)
end
def bz.f (k : Nat) (aY : Int) (bu : Int) (bn : List Int) (bV : Int) (bW : Int) (bK : List Int) : Option (Bool) := if aY = bV then (if bu = bW then (bz.j0 k ((bn.length : Int) != (bK.length : Int)) aY bu bn bV bW bK) else (bz.j0 k true aY bu bn bV bW bK)) else (bz.j0 k true aY bu bn bV bW bK)
theorem bz.calls (k : Nat) (aY : Int) (bu : Int) (bZ : Option Addr) (bY : Nat) (bn : List Int) (bV : Int) (bW : Int) (fV : Option Addr) (f_ : Nat) (bK : List Int) (r : Bool) (w : World) (jE : Kd.C (Kd.int .i64) w bZ bn.length bn) (jY : bn.length ≤ bY) (nY : Kd.C (Kd.int .i64) w fV bK.length bK) (oM : bK.length ≤ f_) (h : bz.f k aY bu bn bV bW bK = some r) :
 Calls Tryz.prog 79 #[.agg #[.int .i64 aY, .int .i64 bu, .slice bZ bn.length bY], .agg #[.int .i64 bV, .int .i64 bW, .slice fV bK.length f_]] w fun e w' => e = .returned (.bool r) ∧ Below w.heap.size w w' := by
 have Cc := Tryz.underlying29; have nK := aj.mk jE; have p_ := aj.mk jY; clear jE jY; have uj := aj.mk nY; have wL := aj.mk oM; clear nY oM; have HB := aj.mk (Below.refl w.heap.size w); have H : (if aY = bV then (if bu = bW then (bz.j0 k ((bn.length : Int) != (bK.length : Int)) aY bu bn bV bW bK) else (bz.j0 k true aY bu bn bV bW bK)) else (bz.j0 k true aY bu bn bV bW bK)) = some r := h; clear h; have HC3 := aj.mk H; clear H
 go_enter Tryz.func79, Tryz.ntmps79
 go_upto_region 1 with (first | ((with_reducible refine dH (N := 2) rfl ?_); (try (refine kK (by rfl) ?_; dsimp only)); refine dw ?hg (N := 2) ?hd (cs := #[.int .i64 aY, .int .i64 bu, .slice bZ bn.length bY]) (t := 29) ?hr ?_; (case hd => rfl); (case hg => rfl); (case hr => first | (go_simp; done) | (go_simp; rfl)); intro gQ hg w4 hbox hb; have bJ := aj.mk (aV (by repeat (first | (with_reducible first | exact HB.out | apply ak | apply ah | apply au) | exact HB.out)) hb); have dP := aj.mk (hbox); have dY := aj.mk ((by rw [hg]; exact (bg (by repeat (first | (with_reducible first | exact HB.out | apply ak | apply ah | apply au) | exact HB.out))) : w.heap.size ≤ gQ)); have fH := aj.mk ((by rw [hg]; exact (bg (by repeat (first | (with_reducible first | exact HB.out | apply ak | apply ah | apply au) | exact HB.out))) : w.heap.size ≤ gQ)); clear HB; have HB := bJ; have eH := dP; have Yh := dY; have oK := fH; clear bJ dP dY fH; clear hb hbox hg) | ((with_reducible refine dH (N := 3) rfl ?_); (try (refine kK (by rfl) ?_; dsimp only)); refine dw ?hg (N := 3) ?hd (cs := #[.int .i64 bV, .int .i64 bW, .slice fV bK.length f_]) (t := 29) ?hr ?_; (case hd => rfl); (case hg => rfl); (case hr => first | (go_simp; done) | (go_simp; rfl)); intro jr hg w5 hbox hb; have bJ := aj.mk (bH (g := gQ) (o := .cells #[.int .i64 aY, .int .i64 bu, .slice bZ bn.length bY] 29 (0, 0)) (by (with_reducible repeat (first | refine aA ?_ _ | refine aH ?_ | refine aC ?_ _)); exact eH.out) hb); have dP := aj.mk (aV (by repeat (first | (with_reducible first | exact HB.out | apply ak | apply ah | apply au | refine aG ?_ oK.out) | exact HB.out)) hb); have dY := aj.mk (hbox); have fH := aj.mk ((by rw [hg]; exact (bg (by repeat (first | (with_reducible first | exact HB.out | apply ak | apply ah | apply au | refine aG ?_ oK.out) | exact HB.out))) : w.heap.size ≤ jr)); have jM := aj.mk ((by rw [hg]; exact (bg (by repeat (first | (with_reducible first | exact HB.out | apply ak | apply ah | apply au | refine aG ?_ oK.out) | exact HB.out))) : w.heap.size ≤ jr)); have kQ := aj.mk ((by rw [hg]; exact Nat.ne_of_lt (fB (g := gQ) (o := .cells #[.int .i64 aY, .int .i64 bu, .slice bZ bn.length bY] 29 (0, 0)) (by (with_reducible repeat (first | refine aA ?_ _ | refine aH ?_ | refine aC ?_ _)); exact eH.out)) : gQ ≠ jr)); have kY := aj.mk ((by rw [hg]; exact Nat.ne_of_gt (fB (g := gQ) (o := .cells #[.int .i64 aY, .int .i64 bu, .slice bZ bn.length bY] 29 (0, 0)) (by (with_reducible repeat (first | refine aA ?_ _ | refine aH ?_ | refine aC ?_ _)); exact eH.out)) : jr ≠ gQ)); clear eH; clear HB; have eH := bJ; have HB := dP; have iE := dY; have Yg := fH; have yz := jM; have nJ := kQ; have nI := kY; clear bJ dP dY fH jM kQ kY; clear hb hbox hg))
 repeat (go_quiet (first | ((with_reducible refine dH (N := 2) rfl ?_); (try (refine kK (by rfl) ?_; dsimp only)); refine dw ?hg (N := 2) ?hd (cs := #[.int .i64 aY, .int .i64 bu, .slice bZ bn.length bY]) (t := 29) ?hr ?_; (case hd => rfl); (case hg => rfl); (case hr => first | (go_simp; done) | (go_simp; rfl)); intro gQ hg w4 hbox hb; have bJ := aj.mk (aV (by repeat (first | (with_reducible first | exact HB.out | apply ak | apply ah | apply au) | exact HB.out)) hb); have dP := aj.mk (hbox); have dY := aj.mk ((by rw [hg]; exact (bg (by repeat (first | (with_reducible first | exact HB.out | apply ak | apply ah | apply au) | exact HB.out))) : w.heap.size ≤ gQ)); have fH := aj.mk ((by rw [hg]; exact (bg (by repeat (first | (with_reducible first | exact HB.out | apply ak | apply ah | apply au) | exact HB.out))) : w.heap.size ≤ gQ)); clear HB; have HB := bJ; have eH := dP; have Yh := dY; have oK := fH; clear bJ dP dY fH; clear hb hbox hg) | ((with_reducible refine dH (N := 3) rfl ?_); (try (refine kK (by rfl) ?_; dsimp only)); refine dw ?hg (N := 3) ?hd (cs := #[.int .i64 bV, .int .i64 bW, .slice fV bK.length f_]) (t := 29) ?hr ?_; (case hd => rfl); (case hg => rfl); (case hr => first | (go_simp; done) | (go_simp; rfl)); intro jr hg w5 hbox hb; have bJ := aj.mk (bH (g := gQ) (o := .cells #[.int .i64 aY, .int .i64 bu, .slice bZ bn.length bY] 29 (0, 0)) (by (with_reducible repeat (first | refine aA ?_ _ | refine aH ?_ | refine aC ?_ _)); exact eH.out) hb); have dP := aj.mk (aV (by repeat (first | (with_reducible first | exact HB.out | apply ak | apply ah | apply au | refine aG ?_ oK.out) | exact HB.out)) hb); have dY := aj.mk (hbox); have fH := aj.mk ((by rw [hg]; exact (bg (by repeat (first | (with_reducible first | exact HB.out | apply ak | apply ah | apply au | refine aG ?_ oK.out) | exact HB.out))) : w.heap.size ≤ jr)); have jM := aj.mk ((by rw [hg]; exact (bg (by repeat (first | (with_reducible first | exact HB.out | apply ak | apply ah | apply au | refine aG ?_ oK.out) | exact HB.out))) : w.heap.size ≤ jr)); have kQ := aj.mk ((by rw [hg]; exact Nat.ne_of_lt (fB (g := gQ) (o := .cells #[.int .i64 aY, .int .i64 bu, .slice bZ bn.length bY] 29 (0, 0)) (by (with_reducible repeat (first | refine aA ?_ _ | refine aH ?_ | refine aC ?_ _)); exact eH.out)) : gQ ≠ jr)); have kY := aj.mk ((by rw [hg]; exact Nat.ne_of_gt (fB (g := gQ) (o := .cells #[.int .i64 aY, .int .i64 bu, .slice bZ bn.length bY] 29 (0, 0)) (by (with_reducible repeat (first | refine aA ?_ _ | refine aH ?_ | refine aC ?_ _)); exact eH.out)) : jr ≠ gQ)); clear eH; clear HB; have eH := bJ; have HB := dP; have iE := dY; have Yg := fH; have yz := jM; have nJ := kQ; have nI := kY; clear bJ dP dY fH jM kQ kY; clear hb hbox hg)); go_upto_region 1 with (first | ((with_reducible refine dH (N := 2) rfl ?_); (try (refine kK (by rfl) ?_; dsimp only)); refine dw ?hg (N := 2) ?hd (cs := #[.int .i64 aY, .int .i64 bu, .slice bZ bn.length bY]) (t := 29) ?hr ?_; (case hd => rfl); (case hg => rfl); (case hr => first | (go_simp; done) | (go_simp; rfl)); intro gQ hg w4 hbox hb; have bJ := aj.mk (aV (by repeat (first | (with_reducible first | exact HB.out | apply ak | apply ah | apply au) | exact HB.out)) hb); have dP := aj.mk (hbox); have dY := aj.mk ((by rw [hg]; exact (bg (by repeat (first | (with_reducible first | exact HB.out | apply ak | apply ah | apply au) | exact HB.out))) : w.heap.size ≤ gQ)); have fH := aj.mk ((by rw [hg]; exact (bg (by repeat (first | (with_reducible first | exact HB.out | apply ak | apply ah | apply au) | exact HB.out))) : w.heap.size ≤ gQ)); clear HB; have HB := bJ; have eH := dP; have Yh := dY; have oK := fH; clear bJ dP dY fH; clear hb hbox hg) | ((with_reducible refine dH (N := 3) rfl ?_); (try (refine kK (by rfl) ?_; dsimp only)); refine dw ?hg (N := 3) ?hd (cs := #[.int .i64 bV, .int .i64 bW, .slice fV bK.length f_]) (t := 29) ?hr ?_; (case hd => rfl); (case hg => rfl); (case hr => first | (go_simp; done) | (go_simp; rfl)); intro jr hg w5 hbox hb; have bJ := aj.mk (bH (g := gQ) (o := .cells #[.int .i64 aY, .int .i64 bu, .slice bZ bn.length bY] 29 (0, 0)) (by (with_reducible repeat (first | refine aA ?_ _ | refine aH ?_ | refine aC ?_ _)); exact eH.out) hb); have dP := aj.mk (aV (by repeat (first | (with_reducible first | exact HB.out | apply ak | apply ah | apply au | refine aG ?_ oK.out) | exact HB.out)) hb); have dY := aj.mk (hbox); have fH := aj.mk ((by rw [hg]; exact (bg (by repeat (first | (with_reducible first | exact HB.out | apply ak | apply ah | apply au | refine aG ?_ oK.out) | exact HB.out))) : w.heap.size ≤ jr)); have jM := aj.mk ((by rw [hg]; exact (bg (by repeat (first | (with_reducible first | exact HB.out | apply ak | apply ah | apply au | refine aG ?_ oK.out) | exact HB.out))) : w.heap.size ≤ jr)); have kQ := aj.mk ((by rw [hg]; exact Nat.ne_of_lt (fB (g := gQ) (o := .cells #[.int .i64 aY, .int .i64 bu, .slice bZ bn.length bY] 29 (0, 0)) (by (with_reducible repeat (first | refine aA ?_ _ | refine aH ?_ | refine aC ?_ _)); exact eH.out)) : gQ ≠ jr)); have kY := aj.mk ((by rw [hg]; exact Nat.ne_of_gt (fB (g := gQ) (o := .cells #[.int .i64 aY, .int .i64 bu, .slice bZ bn.length bY] 29 (0, 0)) (by (with_reducible repeat (first | refine aA ?_ _ | refine aH ?_ | refine aC ?_ _)); exact eH.out)) : jr ≠ gQ)); clear eH; clear HB; have eH := bJ; have HB := dP; have iE := dY; have Yg := fH; have yz := jM; have nJ := kQ; have nI := kY; clear bJ dP dY fH jM kQ kY; clear hb hbox hg)))
 (try simp only [Act.put, List.setIfInBounds_toArray, List.set_cons_zero, List.set_cons_succ])
 go_cut [26] (fun v26 wc => ∃ (kq : Nat) (Ot : Bool), v26 = .bool Ot ∧ aj (bz.j0 kq Ot aY bu bn bV bW bK = some r) ∧ aj (kq ≤ k) ∧ aj (wc.heap[gQ]? = some (.cells #[.int .i64 aY, .int .i64 bu, (.slice bZ bn.length bY)] 29 (0, 0))) ∧ aj (wc.heap[jr]? = some (.cells #[.int .i64 bV, .int .i64 bW, (.slice fV bK.length f_)] 29 (0, 0))) ∧ aj (Below w.heap.size w wc))
 case first =>
  have H := HC3.out; clear HC3
  by_cases c6 : aY = bV
  · rw [if_pos c6] at H
    have tC : (aY == bV) = true := beq_iff_eq.mpr c6; have FT : (aY != bV) = false := bne_eq_false_iff_eq.mpr c6; clear c6
    (first | rw [tC] | (simp only [bT, b_]; rw [tC]) | skip)
    by_cases c7 : bu = bW
    · rw [if_pos c7] at H
      have wz : (bu == bW) = true := beq_iff_eq.mpr c7; have NW : (bu != bW) = false := bne_eq_false_iff_eq.mpr c7; clear c7; have H' := aj.mk H; clear H; have YY := nJ.out; have YX := nI.out; have pW : w5.cell? ⟨gQ, 0, none⟩ = some (.int .i64 aY) := (az eH.out 0).trans rfl; have qX : w5.cell? ⟨gQ, 1, none⟩ = some (.int .i64 bu) := (az eH.out 1).trans rfl; have qW : w5.cell? ⟨gQ, 2, none⟩ = some (.slice bZ bn.length bY) := (az eH.out 2).trans rfl; have pV := ay eH.out 0; have qV := ay eH.out 1; have qU := ay eH.out 2; have ou : w5.cell? ⟨jr, 0, none⟩ = some (.int .i64 bV) := (az iE.out 0).trans rfl; have oq : w5.cell? ⟨jr, 1, none⟩ = some (.int .i64 bW) := (az iE.out 1).trans rfl; have oh : w5.cell? ⟨jr, 2, none⟩ = some (.slice fV bK.length f_) := (az iE.out 2).trans rfl; have og := ay iE.out 0; have n_ := ay iE.out 1; have nZ := ay iE.out 2; go_wp2
      repeat (go_quiet (fail); try go_wp2)
      go_meet
      case rel => exact ⟨_, (((bn.length : Int) != (bK.length : Int))), (by first | rfl | (simp; done) | (simp [*]; done)), H', ⟨by first | omega | exact Nat.le_refl _⟩, ⟨by (with_reducible repeat (first | refine aA ?_ _ | refine aH ?_ | refine aC ?_ _)); exact eH.out⟩, ⟨by (with_reducible repeat (first | refine aA ?_ _ | refine aH ?_ | refine aC ?_ _)); exact iE.out⟩, ⟨by repeat (first | (with_reducible first | exact HB.out | apply ak | apply ah | apply au | refine aG ?_ oK.out | refine aG ?_ yz.out) | exact HB.out)⟩⟩
    · rw [if_neg c7] at H
      have wz : (bu == bW) = false := beq_eq_false_iff_ne.mpr c7; have NW : (bu != bW) = true := bne_iff_ne.mpr c7; have H' := aj.mk H; clear H; have XO := nJ.out; have XL := nI.out; have qm : w5.cell? ⟨gQ, 0, none⟩ = some (.int .i64 aY) := (az eH.out 0).trans rfl; have ql : w5.cell? ⟨gQ, 1, none⟩ = some (.int .i64 bu) := (az eH.out 1).trans rfl; have qj : w5.cell? ⟨gQ, 2, none⟩ = some (.slice bZ bn.length bY) := (az eH.out 2).trans rfl; have qi := ay eH.out 0; have qh := ay eH.out 1; have qg := ay eH.out 2; have Jf : w5.cell? ⟨jr, 0, none⟩ = some (.int .i64 bV) := (az iE.out 0).trans rfl; have Je : w5.cell? ⟨jr, 1, none⟩ = some (.int .i64 bW) := (az iE.out 1).trans rfl; have Jd : w5.cell? ⟨jr, 2, none⟩ = some (.slice fV bK.length f_) := (az iE.out 2).trans rfl; have IU := ay iE.out 0; have IQ := ay iE.out 1; have IP := ay iE.out 2; go_wp2
      repeat (go_quiet (fail); try go_wp2)
      go_meet
      case rel => exact ⟨_, (true), (by first | rfl | (simp; done) | (simp [*]; done)), H', ⟨by first | omega | exact Nat.le_refl _⟩, ⟨by (with_reducible repeat (first | refine aA ?_ _ | refine aH ?_ | refine aC ?_ _)); exact eH.out⟩, ⟨by (with_reducible repeat (first | refine aA ?_ _ | refine aH ?_ | refine aC ?_ _)); exact iE.out⟩, ⟨by repeat (first | (with_reducible first | exact HB.out | apply ak | apply ah | apply au | refine aG ?_ oK.out | refine aG ?_ yz.out) | exact HB.out)⟩⟩
  · rw [if_neg c6] at H
    have tC : (aY == bV) = false := beq_eq_false_iff_ne.mpr c6; have FT : (aY != bV) = true := bne_iff_ne.mpr c6
    (first | rw [tC] | (simp only [bT, b_]; rw [tC]) | skip)
    have H' := aj.mk H; clear H; have ai8 := nJ.out; have ai0 := nI.out; have xE : w5.cell? ⟨gQ, 0, none⟩ = some (.int .i64 aY) := (az eH.out 0).trans rfl; have xC : w5.cell? ⟨gQ, 1, none⟩ = some (.int .i64 bu) := (az eH.out 1).trans rfl; have xB : w5.cell? ⟨gQ, 2, none⟩ = some (.slice bZ bn.length bY) := (az eH.out 2).trans rfl; have xm := ay eH.out 0; have xk := ay eH.out 1; have xh := ay eH.out 2; have xA : w5.cell? ⟨jr, 0, none⟩ = some (.int .i64 bV) := (az iE.out 0).trans rfl; have xy : w5.cell? ⟨jr, 1, none⟩ = some (.int .i64 bW) := (az iE.out 1).trans rfl; have xx : w5.cell? ⟨jr, 2, none⟩ = some (.slice fV bK.length f_) := (az iE.out 2).trans rfl; have xg := ay iE.out 0; have xe := ay iE.out 1; have w_ := ay iE.out 2; go_wp2
    repeat (go_quiet (fail); try go_wp2)
    go_meet
    case rel => exact ⟨_, (true), (by first | rfl | (simp; done) | (simp [*]; done)), H', ⟨by first | omega | exact Nat.le_refl _⟩, ⟨by (with_reducible repeat (first | refine aA ?_ _ | refine aH ?_ | refine aC ?_ _)); exact eH.out⟩, ⟨by (with_reducible repeat (first | refine aA ?_ _ | refine aH ?_ | refine aC ?_ _)); exact iE.out⟩, ⟨by repeat (first | (with_reducible first | exact HB.out | apply ak | apply ah | apply au | refine aG ?_ oK.out | refine aG ?_ yz.out) | exact HB.out)⟩⟩
 case rest =>
  clear HC3; (try clear c1); (try clear p2); (try clear c6); (try clear tC); (try clear FT); (try clear c7); (try clear wz); (try clear NW); (try clear c8); (try clear c11); (try clear c14); (try clear ou); (try clear oq); (try clear oh); (try clear qm); (try clear ql); (try clear qj); (try clear Jf); (try clear Je); (try clear Jd); (try clear xE); (try clear xC); (try clear xB); (try clear xA); (try clear xy); (try clear xx); (try clear pW); (try clear qX); (try clear qW); (try clear og); (try clear n_); (try clear nZ); (try clear qi); (try clear qh); (try clear qg); (try clear IU); (try clear IQ); (try clear IP); (try clear xm); (try clear xk); (try clear xh); (try clear xg); (try clear xe); (try clear w_); (try clear pV); (try clear qV); (try clear qU); obtain ⟨kq, Ot, rfl, HA, HJ2, eH, iE, HB⟩ := hcut
  cases kq with
  | zero => exact absurd HA.out (by simp [bz.j0])
  | succ kj2 =>
    have H := HA.out; clear HA; simp only [bz.j0] at H
    by_cases c17 : Ot = true
    · subst c17
      rw [if_pos rfl] at H; obtain rfl := Option.some.inj H; go_wp2
      repeat (go_quiet (fail); try go_wp2)
      go_ret
      exact ⟨by first | rfl | (simp [aQ, aN] <;> rfl) | (simp [*, aQ, aN] <;> rfl), by repeat (first | (with_reducible first | exact HB.out | apply ak | apply ah | apply au | refine aG ?_ oK.out | refine aG ?_ yz.out) | exact HB.out)⟩
    · replace c17 := Bool.eq_false_iff.mpr c17
      subst c17
      have H1 : (bz.l0 kj2 0 aY bu bn bV bW bK) = some r := by rw [if_neg (show ¬ (false = true) by decide)] at H; exact H
      clear H; have H := H1; clear H1; have H' := aj.mk H; clear H; go_wp2
      repeat (go_quiet (fail); try go_wp2)
      go_loopg [5] kj2 (fun kq v5 w' => ∃ (mD : Int), v5 = .int .i64 mD ∧ aj (bz.l0 kq mD aY bu bn bV bW bK = some r) ∧ aj (kq ≤ kj2) ∧ aj (w'.heap[gQ]? = some (.cells #[.int .i64 aY, .int .i64 bu, (.slice bZ bn.length bY)] 29 (0, 0))) ∧ aj (w'.heap[jr]? = some (.cells #[.int .i64 bV, .int .i64 bW, (.slice fV bK.length f_)] 29 (0, 0))) ∧ aj (Below w.heap.size w w'))
      case atStart => exact ⟨(0), (by first | rfl | (simp; done) | (simp [*]; done)), H', ⟨Nat.le_refl _⟩, ⟨by (with_reducible repeat (first | refine aA ?_ _ | refine aH ?_ | refine aC ?_ _)); exact eH.out⟩, ⟨by (with_reducible repeat (first | refine aA ?_ _ | refine aH ?_ | refine aC ?_ _)); exact iE.out⟩, ⟨by repeat (first | (with_reducible first | exact HB.out | apply ak | apply ah | apply au | refine aG ?_ oK.out | refine aG ?_ yz.out) | exact HB.out)⟩⟩
      case round =>
       clear H'; (try clear c1); (try clear p2); (try clear c6); (try clear tC); (try clear FT); (try clear c7); (try clear wz); (try clear NW); (try clear c8); (try clear c11); (try clear c14); (try clear c17); (try clear ou); (try clear oq); (try clear oh); (try clear qm); (try clear ql); (try clear qj); (try clear Jf); (try clear Je); (try clear Jd); (try clear xE); (try clear xC); (try clear xB); (try clear xA); (try clear xy); (try clear xx); (try clear pW); (try clear qX); (try clear qW); (try clear og); (try clear n_); (try clear nZ); (try clear qi); (try clear qh); (try clear qg); (try clear IU); (try clear IQ); (try clear IP); (try clear xm); (try clear xk); (try clear xh); (try clear xg); (try clear xe); (try clear w_); (try clear pV); (try clear qV); (try clear qU); (try clear p2); obtain ⟨mD, rfl, HA, Dj, eH, iE, HB⟩ := hrel
       cases gk with
       | zero => exact absurd HA.out (by simp [bz.l0])
       | succ k2 =>
         have H := HA.out; clear HA; simp only [bz.l0] at H
         by_cases c18 : mD < (bn.length : Int)
         · rw [if_pos c18] at H
           have EF : decide (mD < (bn.length : Int)) = true := decide_eq_true c18; clear c18
           by_cases c19 : 0 ≤ mD
           · rw [if_pos c19] at H
             have KN : decide (0 ≤ mD) = true := decide_eq_true c19; clear c19
             by_cases c20 : mD < (bK.length : Int)
             · rw [if_pos c20] at H
               have UE : decide (mD < (bK.length : Int)) = true := decide_eq_true c20; clear c20
               by_cases c21 : (rd bn mD) = (rd bK mD)
               · rw [if_pos c21] at H
                 have tY : ((rd bn mD) == (rd bK mD)) = true := beq_iff_eq.mpr c21; have abC : ((rd bn mD) != (rd bK mD)) = false := bne_eq_false_iff_eq.mpr c21; clear c21; have H' := aj.mk H; clear H; have XN := nJ.out; have XK := nI.out; have WE : wr.cell? ⟨gQ, 0, none⟩ = some (.int .i64 aY) := (az eH.out 0).trans rfl; have WC : wr.cell? ⟨gQ, 1, none⟩ = some (.int .i64 bu) := (az eH.out 1).trans rfl; have WB : wr.cell? ⟨gQ, 2, none⟩ = some (.slice bZ bn.length bY) := (az eH.out 2).trans rfl; have V5 := ay eH.out 0; have VZ := ay eH.out 1; have VY := ay eH.out 2; have MO : 0 ≤ (mD : Int) := of_decide_eq_true (by first | (with_reducible assumption) | assumption); have Mc : mD < (bn.length : Int) := of_decide_eq_true (by first | (with_reducible assumption) | assumption); obtain ⟨abN, e232, uB⟩ := Kd.gZ nK.out mD MO Mc
                 cases e232
                 replace uB := (HB.out.cell (World.block_lt_of_cell? w _ uB)).trans uB; replace MO := eq_true MO; replace Mc := eq_true Mc; have Df : wr.cell? ⟨jr, 0, none⟩ = some (.int .i64 bV) := (az iE.out 0).trans rfl; have Dc : wr.cell? ⟨jr, 1, none⟩ = some (.int .i64 bW) := (az iE.out 1).trans rfl; have C_ : wr.cell? ⟨jr, 2, none⟩ = some (.slice fV bK.length f_) := (az iE.out 2).trans rfl; have C9 := ay iE.out 0; have CZ := ay iE.out 1; have CY := ay iE.out 2; have MN : 0 ≤ (mD : Int) := of_decide_eq_true (by first | (with_reducible assumption) | assumption); have L_ : mD < (bK.length : Int) := of_decide_eq_true (by first | (with_reducible assumption) | assumption); obtain ⟨abM, e233, uA⟩ := Kd.gZ uj.out mD MN L_
                 cases e233
                 replace uA := (HB.out.cell (World.block_lt_of_cell? w _ uA)).trans uA; replace MN := eq_true MN; replace L_ := eq_true L_; go_wp2
                 repeat (go_quiet (fail); try go_wp2)
                 go_roundg k2
                 case measure => have := HJ2.out; have := Dj.out; omega
                 case rel => exact ⟨(wrap64 (mD + 1)), (by first | rfl | (simp; done) | (simp [*]; done)), H', ⟨by have := HJ2.out; have := Dj.out; omega⟩, ⟨by (with_reducible repeat (first | refine aA ?_ _ | refine aH ?_ | refine aC ?_ _)); exact eH.out⟩, ⟨by (with_reducible repeat (first | refine aA ?_ _ | refine aH ?_ | refine aC ?_ _)); exact iE.out⟩, ⟨by repeat (first | (with_reducible first | exact HB.out | apply ak | apply ah | apply au | refine aG ?_ oK.out | refine aG ?_ yz.out) | exact HB.out)⟩⟩
               · rw [if_neg c21] at H
                 have tY : ((rd bn mD) == (rd bK mD)) = false := beq_eq_false_iff_ne.mpr c21; have abC : ((rd bn mD) != (rd bK mD)) = true := bne_iff_ne.mpr c21; obtain rfl := Option.some.inj H; have aa3 := nJ.out; have aa0 := nI.out; have Wu : wr.cell? ⟨gQ, 0, none⟩ = some (.int .i64 aY) := (az eH.out 0).trans rfl; have Ws : wr.cell? ⟨gQ, 1, none⟩ = some (.int .i64 bu) := (az eH.out 1).trans rfl; have Wq : wr.cell? ⟨gQ, 2, none⟩ = some (.slice bZ bn.length bY) := (az eH.out 2).trans rfl; have VT := ay eH.out 0; have VS := ay eH.out 1; have VR := ay eH.out 2; have MO : 0 ≤ (mD : Int) := of_decide_eq_true (by first | (with_reducible assumption) | assumption); have Mc : mD < (bn.length : Int) := of_decide_eq_true (by first | (with_reducible assumption) | assumption); obtain ⟨abN, e232, uB⟩ := Kd.gZ nK.out mD MO Mc
                 cases e232
                 replace uB := (HB.out.cell (World.block_lt_of_cell? w _ uB)).trans uB; replace MO := eq_true MO; replace Mc := eq_true Mc; have Wp : wr.cell? ⟨jr, 0, none⟩ = some (.int .i64 bV) := (az iE.out 0).trans rfl; have Wn : wr.cell? ⟨jr, 1, none⟩ = some (.int .i64 bW) := (az iE.out 1).trans rfl; have Wl : wr.cell? ⟨jr, 2, none⟩ = some (.slice fV bK.length f_) := (az iE.out 2).trans rfl; have VQ := ay iE.out 0; have VP := ay iE.out 1; have VO := ay iE.out 2; have MN : 0 ≤ (mD : Int) := of_decide_eq_true (by first | (with_reducible assumption) | assumption); have L_ : mD < (bK.length : Int) := of_decide_eq_true (by first | (with_reducible assumption) | assumption); obtain ⟨abM, e233, uA⟩ := Kd.gZ uj.out mD MN L_
                 cases e233
                 replace uA := (HB.out.cell (World.block_lt_of_cell? w _ uA)).trans uA; replace MN := eq_true MN; replace L_ := eq_true L_; go_wp2
                 repeat (go_quiet (fail); try go_wp2)
                 go_ret
                 exact ⟨by first | rfl | (simp [aQ, aN] <;> rfl) | (simp [*, aQ, aN] <;> rfl), by repeat (first | (with_reducible first | exact HB.out | apply ak | apply ah | apply au | refine aG ?_ oK.out | refine aG ?_ yz.out) | exact HB.out)⟩
             · rw [if_neg c20] at H
               exact absurd H (by simp)
           · rw [if_neg c19] at H
             exact absurd H (by simp)
         · rw [if_neg c18] at H
           have EF : decide (mD < (bn.length : Int)) = false := decide_eq_false c18; clear c18; obtain rfl := Option.some.inj H; have ai1 := nJ.out; have aiT := nI.out; have ae5 : wr.cell? ⟨gQ, 0, none⟩ = some (.int .i64 aY) := (az eH.out 0).trans rfl; have ae4 : wr.cell? ⟨gQ, 1, none⟩ = some (.int .i64 bu) := (az eH.out 1).trans rfl; have ae3 : wr.cell? ⟨gQ, 2, none⟩ = some (.slice bZ bn.length bY) := (az eH.out 2).trans rfl; have aeo := ay eH.out 0; have aen := ay eH.out 1; have aem := ay eH.out 2; go_wp2
           repeat (go_quiet (fail); try go_wp2)
           go_ret
           exact ⟨by first | rfl | (simp [aQ, aN] <;> rfl) | (simp [*, aQ, aN] <;> rfl), by repeat (first | (with_reducible first | exact HB.out | apply ak | apply ah | apply au | refine aG ?_ oK.out | refine aG ?_ yz.out) | exact HB.out)⟩
def jJ.f (k : Nat) (aY : Int) (bu : Int) (bn : List Int) (dI : Int) (dL : Int) (cZ : List Int) (bV : Int) (bW : Int) (bK : List Int) (qw : Int) (qp : Int) (nC : List Int) : Option (Bool) := (bz.f k aY bu bn bV bW bK).bind fun t236 => (if t236 = true then ((bz.f k dI dL cZ qw qp nC).bind fun t237 => (some t237)) else (some false))
theorem jJ.calls (k : Nat) (aY : Int) (bu : Int) (bZ : Option Addr) (bY : Nat) (bn : List Int) (dI : Int) (dL : Int) (iT : Option Addr) (iK : Nat) (cZ : List Int) (bV : Int) (bW : Int) (fV : Option Addr) (f_ : Nat) (bK : List Int) (qw : Int) (qp : Int) (vI : Option Addr) (wB : Nat) (nC : List Int) (r : Bool) (w : World) (jE : Kd.C (Kd.int .i64) w bZ bn.length bn) (jY : bn.length ≤ bY) (Bz : Kd.C (Kd.int .i64) w iT cZ.length cZ) (BA : cZ.length ≤ iK) (nY : Kd.C (Kd.int .i64) w fV bK.length bK) (oM : bK.length ≤ f_) (Ko : Kd.C (Kd.int .i64) w vI nC.length nC) (KA : nC.length ≤ wB) (h : jJ.f k aY bu bn dI dL cZ bV bW bK qw qp nC = some r) :
 Calls Tryz.prog 38 #[.agg #[.int .i64 aY, .int .i64 bu, .slice bZ bn.length bY, .int .i64 dI, .int .i64 dL, .slice iT cZ.length iK], .agg #[.int .i64 bV, .int .i64 bW, .slice fV bK.length f_, .int .i64 qw, .int .i64 qp, .slice vI nC.length wB]] w fun e w' => e = .returned (.bool r) ∧ Below w.heap.size w w' := by
 have YS := Tryz.underlying31; have Cc := Tryz.underlying29; have nK := aj.mk jE; have p_ := aj.mk jY; clear jE jY; have vw := aj.mk Bz; have G9 := aj.mk BA; clear Bz BA; have uj := aj.mk nY; have wL := aj.mk oM; clear nY oM; have acU := aj.mk Ko; have ac5 := aj.mk KA; clear Ko KA; have HB := aj.mk (Below.refl w.heap.size w); have H : ((bz.f k aY bu bn bV bW bK).bind fun t236 => (if t236 = true then ((bz.f k dI dL cZ qw qp nC).bind fun t237 => (some t237)) else (some false))) = some r := h; clear h; replace H := Option.bind_eq_some_iff.mp H; obtain ⟨t236, zO, H⟩ := H; replace H : (if t236 = true then ((bz.f k dI dL cZ qw qp nC).bind fun t237 => (some t237)) else (some false)) = some r := H; have A3 := aj.mk zO; clear zO
 by_cases c4 : t236 = true
 · subst c4
   rw [if_pos rfl] at H; replace H := Option.bind_eq_some_iff.mp H; obtain ⟨t237, Yl, H⟩ := H; replace H : (some t237) = some r := H; have A5 := aj.mk Yl; clear Yl; obtain rfl := Option.some.inj H
   go_enter Tryz.func38, Tryz.ntmps38
   go_wp2_with (first | ((with_reducible refine dH (N := 2) rfl ?_); refine dw ?hg (N := 2) ?hd (cs := #[.int .i64 aY, .int .i64 bu, .slice bZ bn.length bY, .int .i64 dI, .int .i64 dL, .slice iT cZ.length iK]) (t := 31) ?hr ?_; (case hd => rfl); (case hg => rfl); (case hr => first | (go_simp; done) | (go_simp; rfl)); intro iP hg w6 hbox hb; have bJ := aj.mk (aV (by repeat (first | (with_reducible first | exact HB.out | apply ak | apply ah | apply au) | exact HB.out)) hb); have dP := aj.mk (hbox); have dY := aj.mk ((by rw [hg]; exact (bg (by repeat (first | (with_reducible first | exact HB.out | apply ak | apply ah | apply au) | exact HB.out))) : w.heap.size ≤ iP)); have fH := aj.mk ((by rw [hg]; exact (bg (by repeat (first | (with_reducible first | exact HB.out | apply ak | apply ah | apply au) | exact HB.out))) : w.heap.size ≤ iP)); clear HB; have HB := bJ; have fF := dP; have ac9 := dY; have vF := fH; clear bJ dP dY fH; clear hb hbox hg) | ((with_reducible refine dH (N := 3) rfl ?_); refine dw ?hg (N := 3) ?hd (cs := #[.int .i64 bV, .int .i64 bW, .slice fV bK.length f_, .int .i64 qw, .int .i64 qp, .slice vI nC.length wB]) (t := 31) ?hr ?_; (case hd => rfl); (case hg => rfl); (case hr => first | (go_simp; done) | (go_simp; rfl)); intro jy hg w7 hbox hb; have bJ := aj.mk (bH (g := iP) (o := .cells #[.int .i64 aY, .int .i64 bu, .slice bZ bn.length bY, .int .i64 dI, .int .i64 dL, .slice iT cZ.length iK] 31 (0, 0)) (by (with_reducible repeat (first | refine aA ?_ _ | refine aH ?_ | refine aC ?_ _)); exact fF.out) hb); have dP := aj.mk (aV (by repeat (first | (with_reducible first | exact HB.out | apply ak | apply ah | apply au | refine aG ?_ vF.out) | exact HB.out)) hb); have dY := aj.mk (hbox); have fH := aj.mk ((by rw [hg]; exact (bg (by repeat (first | (with_reducible first | exact HB.out | apply ak | apply ah | apply au | refine aG ?_ vF.out) | exact HB.out))) : w.heap.size ≤ jy)); have jM := aj.mk ((by rw [hg]; exact (bg (by repeat (first | (with_reducible first | exact HB.out | apply ak | apply ah | apply au | refine aG ?_ vF.out) | exact HB.out))) : w.heap.size ≤ jy)); have kQ := aj.mk ((by rw [hg]; exact Nat.ne_of_lt (fB (g := iP) (o := .cells #[.int .i64 aY, .int .i64 bu, .slice bZ bn.length bY, .int .i64 dI, .int .i64 dL, .slice iT cZ.length iK] 31 (0, 0)) (by (with_reducible repeat (first | refine aA ?_ _ | refine aH ?_ | refine aC ?_ _)); exact fF.out)) : iP ≠ jy)); have kY := aj.mk ((by rw [hg]; exact Nat.ne_of_gt (fB (g := iP) (o := .cells #[.int .i64 aY, .int .i64 bu, .slice bZ bn.length bY, .int .i64 dI, .int .i64 dL, .slice iT cZ.length iK] 31 (0, 0)) (by (with_reducible repeat (first | refine aA ?_ _ | refine aH ?_ | refine aC ?_ _)); exact fF.out)) : jy ≠ iP)); clear fF; clear HB; have fF := bJ; have HB := dP; have gz := dY; have ac8 := fH; have G_ := jM; have Bd := kQ; have Bc := kY; clear bJ dP dY fH jM kQ kY; clear hb hbox hg; have YY := Bd.out; have YX := Bc.out; have pW : w7.cell? ⟨iP, 0, none⟩ = some (.int .i64 aY) := (az fF.out 0).trans rfl; have qX : w7.cell? ⟨iP, 1, none⟩ = some (.int .i64 bu) := (az fF.out 1).trans rfl; have qW : w7.cell? ⟨iP, 2, none⟩ = some (.slice bZ bn.length bY) := (az fF.out 2).trans rfl; have ahc : w7.cell? ⟨iP, 3, none⟩ = some (.int .i64 dI) := (az fF.out 3).trans rfl; have ahb : w7.cell? ⟨iP, 4, none⟩ = some (.int .i64 dL) := (az fF.out 4).trans rfl; have aha : w7.cell? ⟨iP, 5, none⟩ = some (.slice iT cZ.length iK) := (az fF.out 5).trans rfl; have pV := ay fF.out 0; have qV := ay fF.out 1; have qU := ay fF.out 2; have ag2 := ay fF.out 3; have ag1 := ay fF.out 4; have ag0 := ay fF.out 5; have ou : w7.cell? ⟨jy, 0, none⟩ = some (.int .i64 bV) := (az gz.out 0).trans rfl; have oq : w7.cell? ⟨jy, 1, none⟩ = some (.int .i64 bW) := (az gz.out 1).trans rfl; have oh : w7.cell? ⟨jy, 2, none⟩ = some (.slice fV bK.length f_) := (az gz.out 2).trans rfl; have sD : w7.cell? ⟨jy, 3, none⟩ = some (.int .i64 qw) := (az gz.out 3).trans rfl; have r_ : w7.cell? ⟨jy, 4, none⟩ = some (.int .i64 qp) := (az gz.out 4).trans rfl; have rZ : w7.cell? ⟨jy, 5, none⟩ = some (.slice vI nC.length wB) := (az gz.out 5).trans rfl; have og := ay gz.out 0; have n_ := ay gz.out 1; have nZ := ay gz.out 2; have rX := ay gz.out 3; have rW := ay gz.out 4; have rV := ay gz.out 5) | ((with_reducible refine aJ (f := 79) rfl ?_); refine bF (some 9) rfl rfl Tryz.func79 (by kernel_rfl) rfl #[.agg #[.int .i64 aY, .int .i64 bu, .slice bZ bn.length bY], .agg #[.int .i64 bV, .int .i64 bW, .slice fV bK.length f_]] rfl (by (try simp only [List.map_toArray, List.map_cons, List.map_nil]); first | done | rfl | (simp only [List.length_drop, List.length_take]; rfl)) ?_; (with_reducible refine (bz.calls k aY bu _ _ bn bV bW _ _ bK true _ ?gX ?gW ?qH ?vM A3.out).mono ?_); (case gX => repeat (first | exact (Kd.gJ nK.out HB.out) | (with_reducible refine Kd.iD ?_ _) | (with_reducible refine Kd.iC ?_ _) | (with_reducible refine Kd.jv ?_))); (case gW => exact p_.out); (case qH => repeat (first | exact (Kd.gJ uj.out HB.out) | (with_reducible refine Kd.iD ?_ _) | (with_reducible refine Kd.iC ?_ _) | (with_reducible refine Kd.jv ?_))); (case vM => exact wL.out); rintro e BX ⟨rfl, hb⟩; refine ⟨_, rfl, ?_⟩; have bJ := aj.mk (bH (g := iP) (o := .cells #[.int .i64 aY, .int .i64 bu, .slice bZ bn.length bY, .int .i64 dI, .int .i64 dL, .slice iT cZ.length iK] 31 (0, 0)) (by (with_reducible repeat (first | refine aA ?_ _ | refine aH ?_ | refine aC ?_ _)); exact fF.out) hb); have dP := aj.mk (bH (g := jy) (o := .cells #[.int .i64 bV, .int .i64 bW, .slice fV bK.length f_, .int .i64 qw, .int .i64 qp, .slice vI nC.length wB] 31 (0, 0)) (by (with_reducible repeat (first | refine aA ?_ _ | refine aH ?_ | refine aC ?_ _)); exact gz.out) hb); have dY := aj.mk (aV (by repeat (first | (with_reducible first | exact HB.out | apply ak | apply ah | apply au | refine aG ?_ vF.out | refine aG ?_ G_.out) | exact HB.out)) hb); clear fF; clear gz; clear HB; have fF := bJ; have gz := dP; have HB := dY; clear bJ dP dY; (try clear hb); (try clear hb2); (try clear hk); (try clear hi); have qm : BX.cell? ⟨iP, 0, none⟩ = some (.int .i64 aY) := (az fF.out 0).trans rfl; have ql : BX.cell? ⟨iP, 1, none⟩ = some (.int .i64 bu) := (az fF.out 1).trans rfl; have qj : BX.cell? ⟨iP, 2, none⟩ = some (.slice bZ bn.length bY) := (az fF.out 2).trans rfl; have afv : BX.cell? ⟨iP, 3, none⟩ = some (.int .i64 dI) := (az fF.out 3).trans rfl; have afu : BX.cell? ⟨iP, 4, none⟩ = some (.int .i64 dL) := (az fF.out 4).trans rfl; have aft : BX.cell? ⟨iP, 5, none⟩ = some (.slice iT cZ.length iK) := (az fF.out 5).trans rfl; have qi := ay fF.out 0; have qh := ay fF.out 1; have qg := ay fF.out 2; have aeQ := ay fF.out 3; have aeP := ay fF.out 4; have aeO := ay fF.out 5; have Jf : BX.cell? ⟨jy, 0, none⟩ = some (.int .i64 bV) := (az gz.out 0).trans rfl; have Je : BX.cell? ⟨jy, 1, none⟩ = some (.int .i64 bW) := (az gz.out 1).trans rfl; have Jd : BX.cell? ⟨jy, 2, none⟩ = some (.slice fV bK.length f_) := (az gz.out 2).trans rfl; have afs : BX.cell? ⟨jy, 3, none⟩ = some (.int .i64 qw) := (az gz.out 3).trans rfl; have afr : BX.cell? ⟨jy, 4, none⟩ = some (.int .i64 qp) := (az gz.out 4).trans rfl; have afq : BX.cell? ⟨jy, 5, none⟩ = some (.slice vI nC.length wB) := (az gz.out 5).trans rfl; have IU := ay gz.out 0; have IQ := ay gz.out 1; have IP := ay gz.out 2; have aeN := ay gz.out 3; have aeM := ay gz.out 4; have aeL := ay gz.out 5) | (go_at_call 79; (with_reducible refine (bz.calls k dI dL _ _ cZ qw qp _ _ nC t237 _ ?gX ?gW ?qH ?vM A5.out).mono ?_); (case gX => repeat (first | exact (Kd.gJ vw.out HB.out) | (with_reducible refine Kd.iD ?_ _) | (with_reducible refine Kd.iC ?_ _) | (with_reducible refine Kd.jv ?_))); (case gW => exact G9.out); (case qH => repeat (first | exact (Kd.gJ acU.out HB.out) | (with_reducible refine Kd.iD ?_ _) | (with_reducible refine Kd.iC ?_ _) | (with_reducible refine Kd.jv ?_))); (case vM => exact ac5.out); rintro e w14 ⟨rfl, hb⟩; have bJ := aj.mk (bH (g := iP) (o := .cells #[.int .i64 aY, .int .i64 bu, .slice bZ bn.length bY, .int .i64 dI, .int .i64 dL, .slice iT cZ.length iK] 31 (0, 0)) (by (with_reducible repeat (first | refine aA ?_ _ | refine aH ?_ | refine aC ?_ _)); exact fF.out) hb); have dP := aj.mk (bH (g := jy) (o := .cells #[.int .i64 bV, .int .i64 bW, .slice fV bK.length f_, .int .i64 qw, .int .i64 qp, .slice vI nC.length wB] 31 (0, 0)) (by (with_reducible repeat (first | refine aA ?_ _ | refine aH ?_ | refine aC ?_ _)); exact gz.out) hb); have dY := aj.mk (aV (by repeat (first | (with_reducible first | exact HB.out | apply ak | apply ah | apply au | refine aG ?_ vF.out | refine aG ?_ G_.out) | exact HB.out)) hb); clear fF; clear gz; clear HB; have fF := bJ; have gz := dP; have HB := dY; clear bJ dP dY; (try clear hb); (try clear hb2); (try clear hk); (try clear hi)))
   go_ret
   exact ⟨by first | rfl | (simp [aQ, aN] <;> rfl) | (simp [*, aQ, aN] <;> rfl), by repeat (first | (with_reducible first | exact HB.out | apply ak | apply ah | apply au | refine aG ?_ vF.out | refine aG ?_ G_.out) | exact HB.out)⟩
 · replace c4 := Bool.eq_false_iff.mpr c4
   subst c4
   have H1 : (some false) = some r := by rw [if_neg (show ¬ (false = true) by decide)] at H; exact H
   clear H; have H := H1; clear H1; obtain rfl := Option.some.inj H
   go_enter Tryz.func38, Tryz.ntmps38
   go_wp2_with (first | ((with_reducible refine dH (N := 2) rfl ?_); refine dw ?hg (N := 2) ?hd (cs := #[.int .i64 aY, .int .i64 bu, .slice bZ bn.length bY, .int .i64 dI, .int .i64 dL, .slice iT cZ.length iK]) (t := 31) ?hr ?_; (case hd => rfl); (case hg => rfl); (case hr => first | (go_simp; done) | (go_simp; rfl)); intro iP hg w15 hbox hb; have bJ := aj.mk (aV (by repeat (first | (with_reducible first | exact HB.out | apply ak | apply ah | apply au) | exact HB.out)) hb); have dP := aj.mk (hbox); have dY := aj.mk ((by rw [hg]; exact (bg (by repeat (first | (with_reducible first | exact HB.out | apply ak | apply ah | apply au) | exact HB.out))) : w.heap.size ≤ iP)); have fH := aj.mk ((by rw [hg]; exact (bg (by repeat (first | (with_reducible first | exact HB.out | apply ak | apply ah | apply au) | exact HB.out))) : w.heap.size ≤ iP)); clear HB; have HB := bJ; have fF := dP; have ac9 := dY; have vF := fH; clear bJ dP dY fH; clear hb hbox hg) | ((with_reducible refine dH (N := 3) rfl ?_); refine dw ?hg (N := 3) ?hd (cs := #[.int .i64 bV, .int .i64 bW, .slice fV bK.length f_, .int .i64 qw, .int .i64 qp, .slice vI nC.length wB]) (t := 31) ?hr ?_; (case hd => rfl); (case hg => rfl); (case hr => first | (go_simp; done) | (go_simp; rfl)); intro jy hg w16 hbox hb; have bJ := aj.mk (bH (g := iP) (o := .cells #[.int .i64 aY, .int .i64 bu, .slice bZ bn.length bY, .int .i64 dI, .int .i64 dL, .slice iT cZ.length iK] 31 (0, 0)) (by (with_reducible repeat (first | refine aA ?_ _ | refine aH ?_ | refine aC ?_ _)); exact fF.out) hb); have dP := aj.mk (aV (by repeat (first | (with_reducible first | exact HB.out | apply ak | apply ah | apply au | refine aG ?_ vF.out) | exact HB.out)) hb); have dY := aj.mk (hbox); have fH := aj.mk ((by rw [hg]; exact (bg (by repeat (first | (with_reducible first | exact HB.out | apply ak | apply ah | apply au | refine aG ?_ vF.out) | exact HB.out))) : w.heap.size ≤ jy)); have jM := aj.mk ((by rw [hg]; exact (bg (by repeat (first | (with_reducible first | exact HB.out | apply ak | apply ah | apply au | refine aG ?_ vF.out) | exact HB.out))) : w.heap.size ≤ jy)); have kQ := aj.mk ((by rw [hg]; exact Nat.ne_of_lt (fB (g := iP) (o := .cells #[.int .i64 aY, .int .i64 bu, .slice bZ bn.length bY, .int .i64 dI, .int .i64 dL, .slice iT cZ.length iK] 31 (0, 0)) (by (with_reducible repeat (first | refine aA ?_ _ | refine aH ?_ | refine aC ?_ _)); exact fF.out)) : iP ≠ jy)); have kY := aj.mk ((by rw [hg]; exact Nat.ne_of_gt (fB (g := iP) (o := .cells #[.int .i64 aY, .int .i64 bu, .slice bZ bn.length bY, .int .i64 dI, .int .i64 dL, .slice iT cZ.length iK] 31 (0, 0)) (by (with_reducible repeat (first | refine aA ?_ _ | refine aH ?_ | refine aC ?_ _)); exact fF.out)) : jy ≠ iP)); clear fF; clear HB; have fF := bJ; have HB := dP; have gz := dY; have ac8 := fH; have G_ := jM; have Bd := kQ; have Bc := kY; clear bJ dP dY fH jM kQ kY; clear hb hbox hg; have ai7 := Bd.out; have aiZ := Bc.out; have Pz : w16.cell? ⟨iP, 0, none⟩ = some (.int .i64 aY) := (az fF.out 0).trans rfl; have WL : w16.cell? ⟨iP, 1, none⟩ = some (.int .i64 bu) := (az fF.out 1).trans rfl; have WJ : w16.cell? ⟨iP, 2, none⟩ = some (.slice bZ bn.length bY) := (az fF.out 2).trans rfl; have afp : w16.cell? ⟨iP, 3, none⟩ = some (.int .i64 dI) := (az fF.out 3).trans rfl; have afo : w16.cell? ⟨iP, 4, none⟩ = some (.int .i64 dL) := (az fF.out 4).trans rfl; have afn : w16.cell? ⟨iP, 5, none⟩ = some (.slice iT cZ.length iK) := (az fF.out 5).trans rfl; have Pg := ay fF.out 0; have V_ := ay fF.out 1; have V9 := ay fF.out 2; have aeK := ay fF.out 3; have aeJ := ay fF.out 4; have aeI := ay fF.out 5; have WI : w16.cell? ⟨jy, 0, none⟩ = some (.int .i64 bV) := (az gz.out 0).trans rfl; have WH : w16.cell? ⟨jy, 1, none⟩ = some (.int .i64 bW) := (az gz.out 1).trans rfl; have WG : w16.cell? ⟨jy, 2, none⟩ = some (.slice fV bK.length f_) := (az gz.out 2).trans rfl; have afm : w16.cell? ⟨jy, 3, none⟩ = some (.int .i64 qw) := (az gz.out 3).trans rfl; have afl : w16.cell? ⟨jy, 4, none⟩ = some (.int .i64 qp) := (az gz.out 4).trans rfl; have afk : w16.cell? ⟨jy, 5, none⟩ = some (.slice vI nC.length wB) := (az gz.out 5).trans rfl; have V8 := ay gz.out 0; have V7 := ay gz.out 1; have V6 := ay gz.out 2; have aeH := ay gz.out 3; have aeG := ay gz.out 4; have aeF := ay gz.out 5) | ((with_reducible refine aJ (f := 79) rfl ?_); refine bF (some 9) rfl rfl Tryz.func79 (by kernel_rfl) rfl #[.agg #[.int .i64 aY, .int .i64 bu, .slice bZ bn.length bY], .agg #[.int .i64 bV, .int .i64 bW, .slice fV bK.length f_]] rfl (by (try simp only [List.map_toArray, List.map_cons, List.map_nil]); first | done | rfl | (simp only [List.length_drop, List.length_take]; rfl)) ?_; (with_reducible refine (bz.calls k aY bu _ _ bn bV bW _ _ bK false _ ?gX ?gW ?qH ?vM A3.out).mono ?_); (case gX => repeat (first | exact (Kd.gJ nK.out HB.out) | (with_reducible refine Kd.iD ?_ _) | (with_reducible refine Kd.iC ?_ _) | (with_reducible refine Kd.jv ?_))); (case gW => exact p_.out); (case qH => repeat (first | exact (Kd.gJ uj.out HB.out) | (with_reducible refine Kd.iD ?_ _) | (with_reducible refine Kd.iC ?_ _) | (with_reducible refine Kd.jv ?_))); (case vM => exact wL.out); rintro e w20 ⟨rfl, hb⟩; refine ⟨_, rfl, ?_⟩; have bJ := aj.mk (bH (g := iP) (o := .cells #[.int .i64 aY, .int .i64 bu, .slice bZ bn.length bY, .int .i64 dI, .int .i64 dL, .slice iT cZ.length iK] 31 (0, 0)) (by (with_reducible repeat (first | refine aA ?_ _ | refine aH ?_ | refine aC ?_ _)); exact fF.out) hb); have dP := aj.mk (bH (g := jy) (o := .cells #[.int .i64 bV, .int .i64 bW, .slice fV bK.length f_, .int .i64 qw, .int .i64 qp, .slice vI nC.length wB] 31 (0, 0)) (by (with_reducible repeat (first | refine aA ?_ _ | refine aH ?_ | refine aC ?_ _)); exact gz.out) hb); have dY := aj.mk (aV (by repeat (first | (with_reducible first | exact HB.out | apply ak | apply ah | apply au | refine aG ?_ vF.out | refine aG ?_ G_.out) | exact HB.out)) hb); clear fF; clear gz; clear HB; have fF := bJ; have gz := dP; have HB := dY; clear bJ dP dY; (try clear hb); (try clear hb2); (try clear hk); (try clear hi)))
   go_ret
   exact ⟨by first | rfl | (simp [aQ, aN] <;> rfl) | (simp [*, aQ, aN] <;> rfl), by repeat (first | (with_reducible first | exact HB.out | apply ak | apply ah | apply au | refine aG ?_ vF.out | refine aG ?_ G_.out) | exact HB.out)⟩
end Go.Proofs.YtcfobekkchhbbaaGreat.PQ

namespace Go.Proofs.YtcfobekkchhbbaaGreat.PQ
open Go.RowKit Go.Proofs.af.aU Go.Proofs.af.a_ Go.Proofs.af.bf
attribute [local go_sem] jq jm kJ kH iM iL jo jl
set_option linter.unusedVariables false
set_option linter.unusedSimpArgs false
end Go.Proofs.YtcfobekkchhbbaaGreat.PQ

namespace Go.Proofs.YtcfobekkchhbbaaGreat.KK
open Go.RowKit Go.Proofs.af.aU Go.Proofs.af.a_ Go.Proofs.af.bf
set_option linter.unusedVariables false
set_option linter.unusedSimpArgs false
abbrev I (n : Int) : Value := .int .i64 n
def Row (w : World) (B : Nat) (t : TypeId) (cs : Array Value) : Prop := w.heap[B]? = some (.cells cs t (0, 0))
section
variable {w w' : World} {B : Nat} {t : TypeId} {cs : Array Value}
theorem Row.cell (h : Row w B t cs) (i : Nat) : w.cell? ⟨B, i, none⟩ = cs[i]? := by unfold Row at h; simp [World.cell?, h]
theorem Row.free (h : Row w B t cs) (i : Nat) : w.frozen? ⟨B, i, none⟩ = false := by unfold Row at h; simp [World.frozen?, h]
theorem Row.lt (h : Row w B t cs) : B < w.heap.size := by
 rcases Nat.lt_or_ge B w.heap.size with hl | hl
 · exact hl
 · unfold Row at h; rw [Array.getElem?_eq_none hl] at h; cases h
theorem Row.new (w : World) (t : TypeId) (cs : Array Value) : Row (w.alloc (.cells cs t)) w.heap.size t cs := heap_alloc_new w _
theorem Row.alloc (h : Row w B t cs) (o : Obj) : Row (w.alloc o) B t cs := (Below.heap_alloc w o B h.lt).trans h
theorem Row.drew (h : Row w B t cs) : Row w.drew B t cs := h
theorem Row.below {n : Nat} (h : Row w B t cs) (hb : Below n w w') (hn : B < n) : Row w' B t cs := (hb.block B hn).trans h
theorem Row.set (h : Row w B t cs) (i : Nat) (u : Value) : Row (w.setCell ⟨B, i, none⟩ u) B t (cs.setIfInBounds i u) := by
 unfold Row at h ⊢
 simp [World.setCell, Array.getElem?_modify, h]
theorem Row.far (h : Row w B t cs) {p : Addr} (hp : B ≠ p.block) (u : Value) : Row (w.setCell p u) B t cs := (Below.heap_setCell w p u B hp).trans h
theorem Row.grown {r : Option Nat} (h : Row w B t cs) (hg : w.grownBy w' r) (hr : some B ≠ r) : Row w' B t cs := (hg.block B h.lt hr).trans h
end
theorem gu {w w1 : World} (hb : Below w.heap.size w w1) (r : Option Nat) : w.grownBy w1 r := ⟨hb.os, hb.tape, hb.output, hb.size, fun k hk _ => hb.block k hk⟩
theorem dU {w w1 w2 : World} {r : Option Nat} (h : w.grownBy w1 r) (h' : w1.grownBy w2 r) : w.grownBy w2 r :=
 ⟨h'.os.trans h.os, h'.tape.trans h.tape, h'.output.trans h.output, Nat.le_trans h.size h'.size, fun k hk hr => (h'.block k (Nat.lt_of_lt_of_le hk h.size) hr).trans (h.block k hk hr)⟩
theorem cell_lt {w : World} {a : Addr} {v : Value} (h : w.cell? a = some v) : a.block < w.heap.size := by
 rcases Nat.lt_or_ge a.block w.heap.size with hl | hl
 · exact hl
 · simp [World.cell?, Array.getElem?_eq_none hl] at h
theorem uO (a : Addr) (n : Nat) : (a.add n).block = a.block := by unfold Addr.add; split <;> rfl
theorem yN {w : World} {a : Addr} {v : Value} (h : w.cell? a = some v) : a = ⟨a.block, a.off, none⟩ := by
 obtain ⟨b, o, s⟩ := a
 unfold World.cell? at h
 split at h
 · split at h
   · cases h
   · rename_i hs; cases s with
     | none => rfl
     | some y => simp at hs
 · cases h
def Rows (w : World) : Nat → List (TypeId × Array Value) → Prop
 | _, [] => True
 | b, x :: l => Row w b x.1 x.2 ∧ Rows w (b + 1) l
section
variable {w w' w0 : World} {b : Nat} {L : List (TypeId × Array Value)}
theorem Rows.imp (h : ∀ k t cs, b ≤ k → k < b + L.length → Row w k t cs → Row w' k t cs) (H : Rows w b L) : Rows w' b L := by
 induction L generalizing b with
 | nil => trivial
 | cons x l ih =>
   refine ⟨h b _ _ (Nat.le_refl _) (by simp) H.1, ih (fun k t cs h1 h2 => h k t cs (by omega) (by simp; omega)) H.2⟩
theorem Rows.le (H : Rows w b L) (hb : b ≤ w.heap.size) : b + L.length ≤ w.heap.size := by
 induction L generalizing b with
 | nil => simpa using hb
 | cons x l ih => have := ih H.2 H.1.lt; simp; omega
theorem Rows.alloc (h : Rows w b L) (o : Obj) : Rows (w.alloc o) b L := h.imp fun _ _ _ _ _ r => r.alloc o
theorem Rows.drew (h : Rows w b L) : Rows w.drew b L := h.imp fun _ _ _ _ _ r => r.drew
theorem Rows.below (h : Rows w b L) (hb : Below w.heap.size w w') : Rows w' b L := h.imp fun _ _ _ _ _ r => r.below hb r.lt
theorem Rows.OH (j : Nat) (t : TypeId) (cs : Array Value) (hr : Row w' (b + j) t cs) (h : ∀ k t cs, k ≠ b + j → Row w k t cs → Row w' k t cs) (H : Rows w b L) : Rows w' b (L.set j (t, cs)) := by
 induction L generalizing b j with
 | nil => trivial
 | cons x l ih =>
   cases j with
   | zero => exact ⟨hr, H.2.imp fun k t cs h1 h2 => h k t cs (by omega)⟩
   | succ j => exact ⟨h _ _ _ (by omega) H.1, ih j (by rwa [Nat.add_assoc, Nat.add_comm 1]) (fun k t cs h1 => h k t cs (by omega)) H.2⟩
theorem Rows.push (H : Rows w b L) (h : w.heap.size = b + L.length) (t : TypeId) (cs : Array Value) : Rows (w.alloc (.cells cs t)) b (L ++ [(t, cs)]) := by
 have := (H.alloc (.cells cs t))
 have e := Row.new w t cs; rw [h] at e; clear H h
 induction L generalizing b with
 | nil => exact ⟨e, trivial⟩
 | cons x l ih => exact ⟨this.1, ih this.2 (by simp only [List.length_cons] at e; rwa [Nat.add_assoc, Nat.add_comm 1])⟩
end
structure bD (w0 : World) (L : List (TypeId × Array Value)) (w : World) : Prop where
 rows : Rows w w0.heap.size L
 be : Below w0.heap.size w0 w
section
variable {w w' w0 : World} {L : List (TypeId × Array Value)}
theorem bD.none (w : World) : bD w [] w := ⟨trivial, Below.refl _ w⟩
theorem bD.push (h : bD w0 L w) (e : w.heap.size = w0.heap.size + L.length) (t : TypeId) (cs : Array Value) : bD w0 (L ++ [(t, cs)]) (w.alloc (.cells cs t)) :=
 ⟨h.rows.push e t cs, h.be.alloc h.be.size _⟩
theorem bD.alloc (h : bD w0 L w) (o : Obj) : bD w0 L (w.alloc o) := ⟨h.rows.alloc o, h.be.alloc h.be.size o⟩
theorem bD.drew (h : bD w0 L w) : bD w0 L w.drew := ⟨h.rows.drew, h.be.drew⟩
theorem bD.below (h : bD w0 L w) (hb : Below w.heap.size w w') : bD w0 L w' := ⟨h.rows.below hb, h.be.trans (hb.mono h.be.size)⟩
theorem bD.put (j : Nat) (h : bD w0 L w) (t : TypeId) (cs : Array Value) (hr : Row w (w0.heap.size + j) t cs) (i : Nat) (u : Value) : bD w0 (L.set j (t, cs.setIfInBounds i u)) (w.setCell ⟨w0.heap.size + j, i, .none⟩ u) :=
 ⟨h.rows.OH j t _ (hr.set i u) fun k t cs hk r => r.far (by simpa using hk) u, h.be.setCell (by simp) u⟩
variable {x0 x1 x2 x3 x4 x5 : TypeId × Array Value}
theorem bD.r0 (h : bD w0 (x0 :: L) w) : Row w w0.heap.size x0.1 x0.2 := h.rows.1
theorem bD.r1 (h : bD w0 (x0 :: x1 :: L) w) : Row w (w0.heap.size + 1) x1.1 x1.2 := h.rows.2.1
theorem bD.r2 (h : bD w0 (x0 :: x1 :: x2 :: L) w) : Row w (w0.heap.size + 1 + 1) x2.1 x2.2 := h.rows.2.2.1
theorem bD.r3 (h : bD w0 (x0 :: x1 :: x2 :: x3 :: L) w) : Row w (w0.heap.size + 1 + 1 + 1) x3.1 x3.2 := h.rows.2.2.2.1
theorem bD.r4 (h : bD w0 (x0 :: x1 :: x2 :: x3 :: x4 :: L) w) : Row w (w0.heap.size + 1 + 1 + 1 + 1) x4.1 x4.2 := h.rows.2.2.2.2.1
theorem bD.r5 (h : bD w0 (x0 :: x1 :: x2 :: x3 :: x4 :: x5 :: L) w) : Row w (w0.heap.size + 1 + 1 + 1 + 1 + 1) x5.1 x5.2 := h.rows.2.2.2.2.2.1
end
theorem bD.app {w0 w w' : World} {L : List (TypeId × Array Value)} {r : Option Nat} (h : bD w0 L w) (hg : w.grownBy w' r) (hr : ∀ g, r = some g → w0.heap.size + L.length ≤ g) : bD w0 L w' :=
 ⟨h.rows.imp fun k t cs _ hk r' => r'.grown hg (fun e => by have := hr k e.symm; omega), ⟨hg.os.trans h.be.os, hg.tape.trans h.be.tape, hg.output.trans h.be.output, Nat.le_trans h.be.size hg.size, fun k hk => (hg.block k (Nat.lt_of_lt_of_le hk h.be.size) (fun e => by have := hr k e.symm; omega)).trans (h.be.block k hk)⟩⟩
abbrev Rd (w : World) (A : Option Addr) (l : List Int) : Prop := Kd.C (Kd.int .i64) w A l.length l
abbrev Own (w : World) (base : Nat) (v : Value) (l : List Int) : Prop := Kd.R (Kd.int .i64) 22 w base (fun _ => True) v l
theorem Rd.cells {w : World} {A : Option Addr} {l : List Int} (h : Rd w A l) (hne : 0 < l.length) : ∃ b off, A = some ⟨b, off, none⟩ ∧ b < w.heap.size ∧ ∀ (j : Nat) (x : Int), l[j]? = some x → w.cell? ⟨b, off + j, none⟩ = some (I x) := by
 obtain ⟨ad, rfl, hc⟩ := h.2.2 hne
 have key : ∀ (j : Nat) (x : Int), l[j]? = some x → w.cell? (ad.add j) = some (I x) := fun j x hx => by
  obtain ⟨c, _, hr, hcell⟩ := hc j x hx; have e : c = [I x] := hr; subst e; have h1 : (Kd.int .i64).sz = 1 := rfl; have := hcell 0 _ rfl; rw [h1, Nat.mul_one, Nat.add_zero] at this; exact this
 have h0 := key 0 _ (List.getElem?_eq_getElem hne)
 have ea0 : ad.add 0 = ad := by simp [Addr.add]
 rw [ea0] at h0; have hs := yN h0; have hl := cell_lt h0; obtain ⟨ab, ao, asp⟩ := ad
 injection hs with _ _ hs
 subst hs; refine ⟨ab, ao, rfl, hl, fun j x hx => ?_⟩
 have := key j x hx
 unfold Addr.add at this
 by_cases hj : j = 0
 · subst hj
   rw [if_pos rfl] at this; exact this
 · rw [if_neg hj] at this
   exact this
theorem Rd.nil (w : World) (A : Option Addr) : Rd w A [] := ⟨rfl, by show (0:Nat) ≤ _; omega, fun h => absurd h (Nat.lt_irrefl 0)⟩
theorem Rd.below {w w' : World} {A : Option Addr} {l : List Int} (h : Rd w A l) (hb : Below w.heap.size w w') : Rd w' A l := Kd.gJ h hb
theorem Own.reads {w : World} {base : Nat} {v : Value} {l : List Int} (h : Own w base v l) : ∃ A c, v = .slice A l.length c ∧ l.length ≤ c ∧ Rd w A l := Kd.Di h
theorem Own.below {w w' : World} {base : Nat} {v : Value} {l : List Int} (h : Own w base v l) (hb : Below w.heap.size w w') : Own w' base v l := Kd.oI h hb
theorem Own.lower {w : World} {base base' : Nat} {v : Value} {l : List Int} (h : Own w base v l) (hb : base' ≤ base) : Own w base' v l := Kd.mY h hb
theorem Own.row {w : World} {base : Nat} {v : Value} {l : List Int} (h : Own w base v l) : w.ownsRow base 22 1 v l.length (l.map I) := by
 exact Kd.vV (enc := I) h
theorem Own.sS {w : World} {base : Nat} {v : Value} {l : List Int} (h : w.ownsRow base 22 1 v l.length (l.map I)) : Own w base v l := Kd.K_ (enc := I) h (fun _ _ => trivial)
end Go.Proofs.YtcfobekkchhbbaaGreat.KK

namespace Go.Proofs.YtcfobekkchhbbaaGreat.KK
open Go.RowKit Go.Proofs.af.aU Go.Proofs.af.a_ Go.Proofs.af.bf
set_option linter.unusedVariables false
set_option linter.unusedSimpArgs false
theorem L9 : (Tryz.prog.info? 22).map (fun i => (i.zero, i.size, i.bytes)) = some (some (I 0), 1, 8) := by kernel_rfl
theorem JB (w : World) {ops : Array Oper} {rest : List Oper} {o : Oper} {a : Act} {Q : Exit → Act → World → Prop} (hgd : o.guard = none) (s x : Operand)
 (ho : o.op = .call { callee := .builtin .append, args := #[s, x], argTypes := #[27, 27] })
 (base : Nat) (v : Value) (l : List Int) (q : Int) (bx : Nat) (hs : a.eval s = v) (hx : a.eval x = .slice (some ⟨bx, 0, none⟩) 1 1) (hown : Own w base v l) (hc : w.cell? ⟨bx, 0, none⟩ = some (I q)) (hbase : base ≤ w.heap.size) (hlen : l.length ≤ 1000000)
 (h : ∀ A c w', Own w' base (.slice A (l.length + 1) c) (l ++ [q]) → w.grownBy w' v.ownBlock → ((Value.slice A (l.length + 1) c).ownBlock = v.ownBlock ∨ (Value.slice A (l.length + 1) c).ownBlock = some w.heap.size) → wpList Tryz.prog ops Q rest (a.put o.dst (.slice A (l.length + 1) c)) w') :
 wpList Tryz.prog ops Q (o :: rest) a w := by
 obtain ⟨i0, hi0, hz0, hz1, hz2⟩ := info_parts L9; refine wpList_append_own_at w hgd s x 27 ho base 22 i0 (I 0) 1 8 Tryz.underlying27 hi0 hz0 hz1 hz2 rfl (by omega) v l.length (l.map I) hs hown.row ⟨bx, 0, none⟩ 1 1 [I q] hx rfl ?_ ?_ (by simp only [maxLen]; omega) (by omega) hbase ?_
 · intro j u hj
   match j, hj with
   | 0, hj =>
     simp at hj
     subst hj
     simpa [Addr.add] using hc
 · intro u hu
   simp at hu
   subst hu; rfl
 · intro v' w' hown' hg _ hat
   have hl : (l ++ [q]).length = l.length + 1 := by simp
   have ho2 : Own w' base v' (l ++ [q]) := Own.sS (by rw [hl, List.map_append]; exact hown'); obtain ⟨A, c, rfl, _, _⟩ := ho2.reads; rw [hl] at ho2 hat ⊢; exact h A c w' ho2 hg hat
theorem jw {l : List Int} {j : Nat} (h : j < l.length) : l[j]? = some (l.getD j 0) := by
 rw [List.getD_eq_getElem?_getD, List.getElem?_eq_getElem h]; rfl
theorem mV (r : Int) (c : Nat) (A : Option Addr) (cap : Nat) (l : List Int) (i k : Nat) (w : World) (hl : Rd w A l) (h : i * c + k < l.length) (hle : l.length ≤ 1000000) :
 Calls Tryz.prog 134 #[.agg #[I r, I c, .slice A l.length cap], I i, I k] w fun e w' => e = .returned (I (l.getD (i * c + k) 0)) ∧ Below w.heap.size w w' := by
 obtain ⟨b, off, rfl, hb, hc⟩ := hl.cells (by omega); have x := hc _ _ (jw h); have hb0 : Hid (Below w.heap.size w (w.alloc (.cells #[I r, I c, .slice (some ⟨b, off, none⟩) l.length cap] 29))) := Lib.hid ((Below.refl _ _).alloc (Nat.le_refl _) _)
 obtain ⟨q, hq⟩ : ∃ q, l.getD (i * c + k) 0 = q := ⟨_, rfl⟩
 rw [hq] at x ⊢
 obtain ⟨p, hp⟩ : ∃ p : Nat, i * c = p := ⟨_, rfl⟩
 have hp2 : (i : Int) * (c : Int) = (p : Int) := by rw [← hp]; push_cast; rfl
 have hw1 : IntKind.i64.wrap ((i : Int) * (c : Int)) = (p : Int) := by rw [hp2]; simp [IntKind.wrap, IntKind.bits, IntKind.signed]; omega
 rw [hp] at x h
 have hw2 : IntKind.i64.wrap ((p : Int) + (k : Int)) = ((p + k : Nat) : Int) := by simp [IntKind.wrap, IntKind.bits, IntKind.signed]; omega
 obtain ⟨j, hj⟩ : ∃ j : Nat, p + k = j := ⟨_, rfl⟩
 rw [hj] at x h hw2
 have hj0 : (0 : Int) ≤ (j : Int) := by omega
 have hj1 : (j : Int) < l.length := by omega
 clear hq hp hp2 hj hc hl h
 go_enter Tryz.func134, Tryz.ntmps134
 go_wp2
 go_ret
 exact ⟨rfl, hb0.out⟩
end Go.Proofs.YtcfobekkchhbbaaGreat.KK

namespace Go.Proofs.YtcfobekkchhbbaaGreat.KK
open Go.RowKit Go.Proofs.af.aU Go.Proofs.af.a_ Go.Proofs.af.bf
set_option linter.unusedVariables false
set_option linter.unusedSimpArgs false
abbrev dK (w : World) (C : Nat) (a b c : Value) : World := ((w.setCell ⟨C, 0, none⟩ a).setCell ⟨C, 1, none⟩ b).setCell ⟨C, 2, none⟩ c
section
variable {w w0 : World} {B C : Nat} {t : TypeId} {cs : Array Value} {a b c : Value}
theorem Row.dK {a' b' c' : Value} (h : Row w B t #[a', b', c']) (a b c : Value) : Row (dK w B a b c) B t #[a, b, c] := by
 simpa using ((h.set 0 a).set 1 b).set 2 c
theorem Row.rG (h : Row w B t cs) (hne : B ≠ C) : Row (KK.dK w C a b c) B t cs :=
 ((h.far (p := ⟨C, 0, none⟩) hne a).far (p := ⟨C, 1, none⟩) hne b).far (p := ⟨C, 2, none⟩) hne c
theorem Below.dK {B : Nat} (h : Below B w0 w) (hC : B ≤ C) (a b c : Value) : Below B w0 (KK.dK w C a b c) :=
 ((h.setCell (p := ⟨C, 0, none⟩) hC a).setCell (p := ⟨C, 1, none⟩) hC b).setCell (p := ⟨C, 2, none⟩) hC c
theorem Own.far {base : Nat} {v : Value} {l : List Int} (h : Own w base v l) {p : Addr} (hp : p.block < base) (u : Value) : Own (w.setCell p u) base v l :=
 Own.sS (nU h.row fun k hk => Below.heap_setCell w p u k (by have := (h.row.lt k hk).1; omega))
theorem Own.dK {base : Nat} {v : Value} {l : List Int} (h : Own w base v l) (hp : C < base) (a b c : Value) : Own (KK.dK w C a b c) base v l :=
 ((h.far (p := ⟨C, 0, none⟩) hp a).far (p := ⟨C, 1, none⟩) hp b).far (p := ⟨C, 2, none⟩) hp c
theorem Own.alloc {base : Nat} {v : Value} {l : List Int} (h : Own w base v l) (o : Obj) : Own (w.alloc o) base v l := h.below ((Below.refl _ _).alloc (Nat.le_refl _) o)
theorem Own.nil (w : World) (base : Nat) : Own w base (.slice none 0 0) [] := Kd.t_ _ _ _ _ _
end
section
variable {w : World} {B : Nat} {a b c : Value} {fn : Func} {k j m : Nat} {tmps : Array Value}
theorem Vu (h : fn.results = #[.cell k 29]) (hk : tmps.getD k undef = .pointer (some ⟨B, 0, none⟩)) (R : Row w B 29 #[a, b, c]) :
 (results fn tmps).run Tryz.prog w = .ok (.agg #[a, b, c]) w := by
 have c := R.cell
 have hk' : tmps[k]?.getD undef = .pointer (some ⟨B, 0, none⟩) := by simpa using hk
 simp only [results, h]
 simp [go_sem, hk', c]
theorem OI (h : fn.results = #[.cell k 29, .tmp j]) (hk : tmps.getD k undef = .pointer (some ⟨B, 0, none⟩)) (R : Row w B 29 #[a, b, c]) :
 (results fn tmps).run Tryz.prog w = .ok (.tuple #[.agg #[a, b, c], tmps.getD j undef]) w := by
 have c := R.cell
 have hk' : tmps[k]?.getD undef = .pointer (some ⟨B, 0, none⟩) := by simpa using hk
 simp only [results, h]
 simp [go_sem, hk', c]
theorem vO (h : fn.results = #[.cell k 29, .tmp j, .tmp m]) (hk : tmps.getD k undef = .pointer (some ⟨B, 0, none⟩)) (R : Row w B 29 #[a, b, c]) :
 (results fn tmps).run Tryz.prog w = .ok (.tuple #[.agg #[a, b, c], tmps.getD j undef, tmps.getD m undef]) w := by
 have c := R.cell
 have hk' : tmps[k]?.getD undef = .pointer (some ⟨B, 0, none⟩) := by simpa using hk
 simp only [results, h]
 simp [go_sem, hk', c]
end
def upto (c : Nat) (q : Nat → Nat → Int) (i : Nat) : List Int := (List.range i).flatMap fun i => (List.range c).map (q i)
def wI (c : Nat) (o : Nat → Nat → Bool) (i : Nat) : Bool := (List.range i).any fun i => (List.range c).any (o i)
section
variable {c i k : Nat} {q : Nat → Nat → Int} {o : Nat → Nat → Bool}
theorem upto_length : (upto c q i).length = i * c := by
 induction i with
 | zero => simp [upto]
 | succ i ih =>
   unfold upto at ih ⊢
   rw [List.range_succ, List.flatMap_append, List.length_append, ih]
   simp [Nat.succ_mul]
theorem upto_succ : upto c q (i + 1) = upto c q i ++ (List.range c).map (q i) := by
 unfold upto
 rw [List.range_succ, List.flatMap_append]
 simp
theorem Ob : wI c o (i + 1) = (wI c o i || (List.range c).any (o i)) := by
 unfold wI
 rw [List.range_succ, List.any_append]
 simp
theorem Tz : (List.range (k + 1)).map (q i) = (List.range k).map (q i) ++ [q i k] := by
 rw [List.range_succ, List.map_append]; rfl
theorem UG : (List.range (k + 1)).any (o i) = ((List.range k).any (o i) || o i k) := by
 rw [List.range_succ, List.any_append]; simp
end
def Enters (n : Nat) : Prop := ∀ (args : Array Value) (w : World), (callFunc n args).run Tryz.prog w = .ok (.enter n args) w
theorem enters {n : Nat} {fn : Func} (h : Tryz.prog.funcs[n]? = some fn) (hn : (fn.name == "runtime.NumGoroutine") = false) (hb : fn.body.isNone = false) : Enters n := fun args w => by
 unfold callFunc
 simp only [Sem.run_bind, go_sem, Result.andThen_ok]; show Sem.run Tryz.prog _ w = _; rw [h]; simp only [hn, hb, Sem.run_pure]; rfl
def zG (w : World) (n : Nat) (cap : Array Value) (r c : Nat) (q : Nat → Nat → Int) (o : Nat → Nat → Bool) : Prop :=
 ∀ (i k : Nat) (w' : World), i < r → k < c → Below w.heap.size w w' → Calls Tryz.prog n (#[I i, I k] ++ cap) w' fun e w'' => e = .returned (.tuple #[I (q i k), .bool (o i k)]) ∧ Below w'.heap.size w' w''
theorem Nl (n : Nat) (cap : Array Value) (r c : Nat) (q : Nat → Nat → Int) (o : Nat → Nat → Bool) (w : World) (hr : r ≤ 8) (hc : c ≤ 8) (he : Enters n) (ht : zG w n cap r c q o) :
 Calls Tryz.prog 128 #[.agg #[I r, I c], .func (.func n) #[] cap] w fun e w' => ∃ v, e = .returned (.tuple #[.agg #[I r, I c, v], .bool (wI c o r)]) ∧ Own w' w.heap.size v (upto c q r) ∧ Below w.heap.size w w' := by
 have HR := Lib.hid hr; have HC := Lib.hid hc; have HT := Lib.hid ht; have HE := Lib.hid he; clear hr hc ht he; have N : Hid (bD w [(186, #[I r, I c]), (29, #[I 0, I 0, .slice none 0 0]), (29, #[I r, I c, .slice none 0 0])] (((w.alloc (.cells #[I r, I c] 186)).alloc (.cells #[I 0, I 0, .slice none 0 0] 29)).alloc (.cells #[I r, I c, .slice none 0 0] 29))) := Lib.hid ((((bD.none w).push (by simp) _ _).push (by simp) _ _).push (by simp) _ _)
 go_enter Tryz.func128, Tryz.ntmps128
 go_wp2_with fail
 go_loopw [7, 19] (fun od ii wr => ∃ (i : Nat) (b : Bool) (l : List Int) (A : Option Addr) (cp : Nat), i ≤ r ∧ ii = .int .i64 i ∧ od = .bool b ∧ Hid (l = upto c q i ∧ b = wI c o i) ∧ Hid (bD w [(186, #[I r, I c]), (29, #[I 0, I 0, .slice none 0 0]), (29, #[I r, I c, .slice A l.length cp])] wr) ∧ Hid (Own wr (w.heap.size + 3) (.slice A l.length cp) l)) (fun _ ii _ => r - (intOf ii).toNat)
 case atStart => exact ⟨0, false, [], none, 0, by omega, rfl, rfl, Lib.hid ⟨rfl, rfl⟩, N, Lib.hid (Own.nil _ _)⟩
 case round =>
  clear N; obtain ⟨i, b, l, A, cp, hi, rfl, rfl, E, N, O⟩ := hrel; have x0 := N.out.r0.cell; have x2 := N.out.r2.cell; have t0 := N.out.r0.lt; have t2 := N.out.r2.lt
  by_cases hir : i = r
  · subst hir
    have x1 := N.out.r1.cell; have g1 := N.out.r1.free; have t1 := N.out.r1.lt; go_wp2
    refine bodyPost_ret (OI rfl rfl (N.out.r1.dK _ _ _)) rfl ⟨_, by rw [← E.out.2]; rfl, ?_, Below.dK N.out.be (by omega) _ _ _⟩
    rw [← E.out.1]; exact (O.out.dK (by omega) _ _ _).lower (by omega)
  have hlt : (i : Int) < r := by omega
  have STEP : Hid (i + 1 ≤ r ∧ r - (i + 1) < r - i) := Lib.hid (by omega)
  have hw64 : IntKind.i64.wrap ((i : Int) + 1) = (i : Int) + 1 := by have := HR.out; simp [IntKind.wrap, IntKind.bits, IntKind.signed]; omega
  have HI := Lib.hid (show i < r by omega); have HL : Hid (l.length = i * c) := Lib.hid (by rw [E.out.1]; exact upto_length); clear hi hir
  go_wp2_with fail
  go_loopw [7, 24] (fun od kk wr => ∃ (k : Nat) (b2 : Bool) (l2 : List Int) (A2 : Option Addr) (c2 : Nat), k ≤ c ∧ kk = .int .i64 k ∧ od = .bool b2 ∧ Hid (l2 = l ++ (List.range k).map (q i) ∧ b2 = (b || (List.range k).any (o i))) ∧ Hid (bD w [(186, #[I r, I c]), (29, #[I 0, I 0, .slice none 0 0]), (29, #[I r, I c, .slice A2 l2.length c2])] wr) ∧ Hid (Own wr (w.heap.size + 3) (.slice A2 l2.length c2) l2)) (fun _ kk _ => c - (intOf kk).toNat)
  case atStart => exact ⟨0, b, l, A, cp, by omega, rfl, rfl, Lib.hid ⟨by simp, by simp⟩, N, O⟩
  case round =>
   clear N O x0 x2 t0 t2; obtain ⟨k, b2, l2, A2, c2, hk, rfl, rfl, E2, N, O⟩ := hrel; have x0 := N.out.r0.cell; have x2 := N.out.r2.cell; have g2 := N.out.r2.free; have t0 := N.out.r0.lt; have t2 := N.out.r2.lt
   by_cases hkc : k = c
   · subst hkc
     go_wp2
     go_roundw
     case rel => exact ⟨i + 1, b2, l2, A2, c2, STEP.out.1, by go_num, rfl, Lib.hid ⟨by rw [upto_succ, ← E.out.1]; exact E2.out.1, by rw [Ob, ← E.out.2]; exact E2.out.2⟩, N, O⟩
     case measure =>
      have h := STEP.out.2; show r - ((i : Int) + 1).toNat < r - ((i : Int)).toNat; rw [show ((i : Int) + 1).toNat = i + 1 by omega, show ((i : Int)).toNat = i by omega]; exact h
   have hlt2 : (k : Int) < c := by omega
   have X6 : Hid (k + 1 ≤ c ∧ c - (k + 1) < c - k) := Lib.hid (by omega)
   have alI : IntKind.i64.wrap ((k : Int) + 1) = (k : Int) + 1 := by have := HC.out; simp [IntKind.wrap, IntKind.bits, IntKind.signed]; omega
   have HK := Lib.hid (show k < c by omega); have HL2 : Hid (l2.length ≤ 1000) := Lib.hid (by rw [E2.out.1, List.length_append, List.length_map, List.length_range, HL.out]; have := HI.out; have := HR.out; have := HC.out; have := HK.out; have : i * c ≤ 7 * 8 := Nat.mul_le_mul (by omega) (by omega); omega); clear hk hkc
   go_wp2_with fail
   rw [HE.out _ _, Oper.upon_enter]; refine (HT.out i k _ HI.out HK.out N.out.be).mono ?_
   rintro e w2 ⟨rfl, hb⟩; replace N := Lib.hid (N.out.below hb); replace O := Lib.hid (O.out.below hb); clear hb x0 x2 g2 t0 t2
   obtain ⟨y, hy⟩ : ∃ y, q i k = y := ⟨_, rfl⟩
   obtain ⟨z, hz⟩ : ∃ z, o i k = z := ⟨_, rfl⟩
   rw [hy, hz]; have HY := Lib.hid hy; have HZ := Lib.hid hz; clear hy hz; have x0 := N.out.r0.cell; have x2 := N.out.r2.cell; have g2 := N.out.r2.free; have t0 := N.out.r0.lt; have t2 := N.out.r2.lt
   have hB : w.heap.size + 3 ≤ w2.heap.size := by omega
   have ob : Hid (∀ A3 c3, (Value.slice A3 (l2.length + 1) c3).ownBlock = (Value.slice A2 l2.length c2).ownBlock ∨ (Value.slice A3 (l2.length + 1) c3).ownBlock = some w2.heap.size → True) := Lib.hid (fun _ _ _ => trivial)
   cases b2
   all_goals
    go_wp2_with (at_builtin
                 refine JB _ rfl (.tmp 35) (.tmp 37) rfl (w.heap.size + 3) _ l2 y w2.heap.size rfl rfl ?own ?cell ?base ?len ?_
                 case own => exact O.out.alloc _
                 case cell => exact (Row.new w2 22 #[I y]).cell 0
                 case base => (simp; omega)
                 case len => (have := HL2.out; omega)
                 intro A3 c3 w3 hown hg hat; have O3 := Lib.hid hown; have N3 := Lib.hid ((N.out.alloc (.cells #[I y] 22)).app hg (fun g h => by have := (O.out.row.lt g h).1; simp; omega)); have x2 := N3.out.r2.cell; have g2 := N3.out.r2.free; have t2 := N3.out.r2.lt
                 clear hown hg hat)
    have N4 := Lib.hid (N3.out.put 2 29 _ N3.out.r2 2 (.slice A3 (l2.length + 1) c3)); have O4 := Lib.hid (O3.out.far (p := ⟨w.heap.size + 1 + 1, 2, none⟩) (by dsimp only; omega) (.slice A3 (l2.length + 1) c3))
    go_roundw
    case rel => exact ⟨k + 1, _, l2 ++ [y], A3, c3, X6.out.1, by go_num, rfl, Lib.hid ⟨by rw [Tz, HY.out, ← List.append_assoc, ← E2.out.1], by rw [UG, HZ.out, ← Bool.or_assoc, ← E2.out.2]; simp⟩, by simpa using N4, by simpa using O4⟩
    case measure =>
     have h := X6.out.2; show c - ((k : Int) + 1).toNat < c - ((k : Int)).toNat; rw [show ((k : Int) + 1).toNat = k + 1 by omega, show ((k : Int)).toNat = k by omega]; exact h
end Go.Proofs.YtcfobekkchhbbaaGreat.KK

namespace Go.Proofs.YtcfobekkchhbbaaGreat.PQ
open Go.RowKit Go.Proofs.af.aU Go.Proofs.af.a_ Go.Proofs.af.bf
theorem fD (n : Int) : IntKind.u64.wrap n = n % 18446744073709551616 := by simp [IntKind.wrap, IntKind.bits, IntKind.signed]
theorem wraps_u64 (n : Int) (h₀ : 0 ≤ n) (h₁ : n < 2 ^ 64) : IntKind.u64.wrap n = n := by rw [fD]; omega
theorem Lp {n : Int} (h0 : -9223372036854775808 ≤ n) (h1 : n ≤ 9223372036854775807) : wrap64 n = n := by unfold wrap64; omega
theorem YH (x : Int) (h0 : 0 ≤ x) (h1 : x < 18446744073709551616) : Go.bits .and .u64 x 16777215 = x % 16777216 :=
 bits_mask .u64 64 (by decide) wraps_u64 24 (by decide) x h0 h1
theorem XE (x : Int) (h0 : 0 ≤ x) (h1 : x < 18446744073709551616) : Go.bits .and .u64 x 1 = x % 2 :=
 bits_mask .u64 64 (by decide) wraps_u64 1 (by decide) x h0 h1
theorem agd (x y : Int) (hx₀ : 0 ≤ x) (hx₁ : x < 1099511627776) (hy₀ : 0 ≤ y) (hy₁ : y < 18446744073709551616) (hy : y % 1099511627776 = 0) : Go.bits .or .u64 x y = y + x := by
 have h := bits_join .u64 64 (by decide) wraps_u64 40 y x hy₀ hy hy₁ hx₀ hx₁ (by omega); rw [← h]; show IntKind.u64.wrap _ = IntKind.u64.wrap _; rw [BitVec.or_comm]
def cl (a : Int) : Int := if a < -70368744177664 then -70368744177664 else if 70368744177663 < a then 70368744177663 else a
def od (a : Int) : Bool := decide (a < -70368744177664 ∨ 70368744177663 < a)
theorem yu (a : Int) : -70368744177664 ≤ cl a := by unfold cl; repeat' split <;> omega
theorem yw (a : Int) : cl a ≤ 70368744177663 := by unfold cl; repeat' split <;> omega
theorem xN (a : Int) : uM a = cl a := by unfold uM mn mx cl; repeat' split <;> omega
theorem Gx (a : Int) : AV a = od a := by
 have e : (mn (mx a (-70368744177664)) 70368744177663) = cl a := xN a
 unfold AV
 rw [e, Bool.eq_iff_iff, bne_iff_ne]
 unfold cl od
 simp only [decide_eq_true_eq]
 repeat' split <;> omega
theorem zx (a : Int) : dW.f a = some (cl a, od a) := by
 have h1 := xN a; have h2 := Gx a
 unfold uM at h1
 unfold AV at h2
 unfold dW.f
 rw [h2, h1]
theorem AY (a b : Int) : dD.f a b = some (cl a, cl b, od a || od b) := by
 unfold dD.f
 rw [zx, zx]; simp only [Option.bind_some]
 cases od a <;> simp
def sz (a : Int) : Int := if a < 0 then -a else a
theorem Vq (a : Int) : 0 ≤ sz a := by unfold sz; split <;> omega
theorem OD (a : Int) : sz (cl a) ≤ 70368744177664 := by have := yu a; have := yw a; unfold sz; split <;> omega
theorem zV (a : Int) (h0 : -70368744177664 ≤ a) (h1 : a ≤ 70368744177664) : bI.f a = some (sz a) := by
 unfold bI.f sz
 split
 · rw [Lp (by omega) (by omega), fD, Int.emod_eq_of_lt (by omega) (by omega)]
 · rw [fD, Int.emod_eq_of_lt (by omega) (by omega)]
def lw (X : Int) : Int :=
 let l := (X / 16777216) % 18446744073709551616
 if X % 16777216 > 8388608 then (l + 1) % 18446744073709551616 else if X % 16777216 = 8388608 then (if l % 2 = 1 then (l + 1) % 18446744073709551616 else l) else l
def sg (h l : Int) (s : Bool) : Int × Bool :=
 if h = 0 then (if l > 70368744177664 then (cl (if s = true then -70368744177664 else 70368744177664), true) else (cl (if s = true then -l else l), od (if s = true then -l else l))) else (cl (if s = true then -70368744177664 else 70368744177664), true)
theorem Dt (h l : Int) (s : Bool) (hl : 0 ≤ l) : aX.f h l s = some (sg h l s) := by
 unfold aX.f sg
 have e1 : rJ s 70368744177664 = if s = true then -70368744177664 else 70368744177664 := by unfold rJ; cases s <;> simp [wrap64]
 rw [xN, e1]
 split
 · split
   · rfl
   · have e2 : rJ s (wrap64 l) = if s = true then -l else l := by
      rw [Lp (by omega) (by omega)]
      unfold rJ
      cases s <;> simp
      rw [Lp (by omega) (by omega)]
     rw [e2, xN, Gx]
 · rfl
def flag (o : Bool) (p : Int × Bool) : Int × Bool := (p.1, o || p.2)
theorem Gi (o : Bool) (p : Int × Bool) : (if o = true then (some (p.1, true)) else (some (p.1, p.2))) = some (flag o p) := by cases o <;> simp [flag]
theorem aaL (a b : Int) : vS.f a b = some (flag (od a || od b) (sg (sz (cl a) * sz (cl b) / 309485009821345068724781056) (lw (sz (cl a) * sz (cl b))) ((decide (cl a < 0)) != (decide (cl b < 0))))) := by
 have ha := OD a; have hb := OD b; have ha0 := Vq (cl a); have hb0 := Vq (cl b); have hX0 : 0 ≤ sz (cl a) * sz (cl b) := Int.mul_nonneg ha0 hb0; have hX1 : sz (cl a) * sz (cl b) ≤ 70368744177664 * 70368744177664 := Int.mul_le_mul ha hb hb0 (by omega)
 unfold vS.f
 rw [AY]; simp only [Option.bind_some]; have c1 := yu a; have c2 := yw a; have c3 := yu b; have c4 := yw b; rw [zV _ (by omega) (by omega), zV _ (by omega) (by omega)]; simp only [Option.bind_some]
 unfold bits_Mul64.f
 rw [if_pos ⟨ha0, by omega, hb0, by omega⟩]; simp only [Option.bind_some]; generalize ((decide (cl a < 0)) != (decide (cl b < 0))) = s; generalize (od a || od b) = o; generalize sz (cl a) * sz (cl b) = X at *; rw [YH _ (by omega) (by omega), fD (X / _ * _)]
 have e1 : Go.bits .or .u64 (X % 18446744073709551616 / 16777216) (X / 18446744073709551616 * 1099511627776 % 18446744073709551616) = (X / 16777216) % 18446744073709551616 := by
  rw [agd _ _ (by omega) (by omega) (by omega) (by omega) (by omega)]; omega
 rw [e1, XE _ (by omega) (by omega), fD]
 have e2 : X % 18446744073709551616 % 16777216 = X % 16777216 := by omega
 have e3 : X / 18446744073709551616 / 16777216 = X / 309485009821345068724781056 := by omega
 rw [e2, e3]
 have k0 : 0 ≤ lw X := by unfold lw; simp only []; repeat' split <;> omega
 rw [show (some (flag o (sg (X / 309485009821345068724781056) (lw X) s))) = (aX.f (X / 309485009821345068724781056) (lw X) s).bind fun bt => (if o = true then (some (bt.1, true)) else (some (bt.1, bt.2))) from by
  rw [Dt _ _ _ k0]; simp only [Option.bind_some]; rw [Gi]]
 unfold lw
 simp only []
 split
 · rfl
 · split
   · split <;> rfl
   · rfl
end Go.Proofs.YtcfobekkchhbbaaGreat.PQ

namespace Go.Proofs.YtcfobekkchhbbaaGreat.PQ
open Go.RowKit Go.Proofs.af.aU Go.Proofs.af.a_ Go.Proofs.af.bf
theorem mask32 (x : Int) (h0 : 0 ≤ x) (h1 : x < 18446744073709551616) : Go.bits .and .u64 x 4294967295 = x % 4294967296 :=
 bits_mask .u64 64 (by decide) wraps_u64 32 (by decide) x h0 h1
section
variable {n1 n0 D U u q r : Int}
theorem KG (hD : D = n1 * 4294967296 + n0) (hp : 0 < D) (e : q * n1 + r = U) (h : q * n0 ≤ 4294967296 * r + u) : q ≤ (U * 4294967296 + u) / D := by
 refine Int.le_ediv_of_mul_le hp ?_
 rw [hD, Int.mul_add, ← Int.mul_assoc]; omega
theorem xM (hp : 0 < D) (hU : U < D) (hu : u < 4294967296) : (U * 4294967296 + u) / D < 4294967296 := by
 refine Int.ediv_lt_of_lt_mul hp ?_
 omega
theorem Gu (hD : D = n1 * 4294967296 + n0) (hp : 0 < D) (e : q * n1 + r = U) (h : 4294967296 * r + u < q * n0) : (U * 4294967296 + u) / D < q := by
 refine Int.ediv_lt_of_lt_mul hp ?_
 rw [hD, Int.mul_add, ← Int.mul_assoc]; omega
theorem Gv (hD : D = n1 * 4294967296 + n0) (hp : 0 < D) (h0 : 0 ≤ n0) (h0' : n0 < 4294967296) (hu0 : 0 ≤ u) (e : q * n1 + r = U) (hq0 : 1 ≤ q) (hq : q ≤ 4294967297) (h : 4294967296 ≤ r + n1) :
 q - 1 ≤ (U * 4294967296 + u) / D := by
 refine Int.le_ediv_of_mul_le hp ?_
 have h1 : (q - 1) * n0 ≤ 4294967296 * 4294967295 := Int.mul_le_mul (by omega) (by omega) h0 (by omega); rw [hD, Int.mul_add, ← Int.mul_assoc, Int.sub_mul q 1 n1]; omega
theorem BG (hD : D = n1 * 4294967296 + n0) (h1 : 2147483648 ≤ n1) (h0 : 0 ≤ n0) (h0' : n0 < 4294967296) (WR : 0 ≤ U) (hU : U < D) (hu0 : 0 ≤ u) (hu : u < 4294967296) :
 (U * 4294967296 + u) / D ≤ U / n1 ∧ U / n1 ≤ 4294967297 := by
 constructor
 · refine Int.le_ediv_of_mul_le (by omega) ?_
   have hp : 0 < D := by omega
   have h := Int.ediv_mul_le (U * 4294967296 + u) (b := D) (by omega); have hq0 : 0 ≤ (U * 4294967296 + u) / D := Int.ediv_nonneg (by omega) (by omega); generalize (U * 4294967296 + u) / D = Q at *; have hn : 0 ≤ Q * n0 := Int.mul_nonneg hq0 h0; rw [hD, Int.mul_add, ← Int.mul_assoc] at h; omega
 · have := Int.ediv_lt_of_lt_mul (a := U) (b := 4294967298) (c := n1) (by omega) (by omega)
   omega
end
theorem VB {a b : Int} (ha0 : 0 ≤ a) (ha : a < 4294967296) (hb0 : 0 ≤ b) (hb : b < 4294967296) : 0 ≤ a * b ∧ a * b < 18446744073709551616 := by
 have h1 : a * b ≤ 4294967295 * 4294967295 := Int.mul_le_mul (by omega) (by omega) hb0 (by omega); have h2 := Int.mul_nonneg ha0 hb0; omega
theorem aaO {n1 n0 D U u : Int} (hD : D = n1 * 4294967296 + n0) (h1 : 2147483648 ≤ n1) (h1' : n1 < 4294967296) (h0 : 0 ≤ n0) (h0' : n0 < 4294967296) (WR : 0 ≤ U) (hU : U < D) (hu0 : 0 ≤ u) (hu : u < 4294967296) (x8 x14 : Int) (res : Int × Int)
 (hres : Ev (fun k => aW.j2 k D x8 n1 n0 U u x14 ((U * 4294967296 + u) / D)) res) :
 ∀ (d : Nat) (q r : Int), q * n1 + r = U → 0 ≤ r → r < 4294967296 → (U * 4294967296 + u) / D ≤ q → q ≤ 4294967297 → q - (U * 4294967296 + u) / D = d → Ev (fun k => aW.l0 k D x8 n1 n0 U u x14 q r) res := by
 have hp : 0 < D := by omega
 have hQ0 : 0 ≤ (U * 4294967296 + u) / D := Int.ediv_nonneg (by omega) (by omega); have hQt := xM hp hU hu; have hmore : ∀ (q r : Int), q * n1 + r = U → 0 ≤ r → r < 4294967296 → (U * 4294967296 + u) / D < q → q ≤ 4294967297 →
  (∀ r', (q - 1) * n1 + r' = U → 0 ≤ r' → r' < 4294967296 → Ev (fun k => aW.l0 k D x8 n1 n0 U u x14 (q - 1) r') res) → Ev (fun k => aW.j1 k D x8 n1 n0 U u x14 q r true) res := by
  intro q r e hr0 hr hlt hq ih; have w1 : IntKind.u64.wrap (r + n1) = r + n1 := wraps_u64 _ (by omega) (by omega); have w2 : IntKind.u64.wrap (q - 1) = q - 1 := wraps_u64 _ (by omega) (by omega)
  by_cases hb : r + n1 ≥ 4294967296
  · refine Ev.step (f := fun k => aW.j2 k D x8 n1 n0 U u x14 (q - 1)) ?_ ?_
    · intro k
      simp only [aW.j1, if_true]; rw [w1, if_pos hb, w2]
    · have := Gv hD hp h0 h0' hu0 e (by omega) hq hb
      rw [show q - 1 = (U * 4294967296 + u) / D by omega]; exact hres
  · refine Ev.step (f := fun k => aW.l0 k D x8 n1 n0 U u x14 (q - 1) (r + n1)) ?_ (ih (r + n1) (by rw [Int.sub_mul]; omega) (by omega) (by omega))
    intro k; simp only [aW.j1, if_true]; rw [w1, if_neg hb, w2]
 intro d
 induction d with
 | zero =>
   intro q r e hr0 hr hle hq hd
   have hq' : q = (U * 4294967296 + u) / D := by omega
   have hq4 : q < 4294967296 := by omega
   have hn : ¬ (4294967296 * r + u < q * n0) := fun h => by
    have := Gu hD hp e h; omega
   have hm := VB (a := q) (b := n0) (by omega) hq4 h0 h0'; refine Ev.step (f := fun k => aW.j1 k D x8 n1 n0 U u x14 q r false) ?_ (Ev.step (f := fun k => aW.j2 k D x8 n1 n0 U u x14 q) ?_ (by rw [hq']; exact hres))
   · intro k
     simp only [aW.l0]; rw [if_neg (by omega), wraps_u64 (q * n0) (by omega) (by omega), wraps_u64 (4294967296 * r) (by omega) (by omega), wraps_u64 (4294967296 * r + u) (by omega) (by omega), decide_eq_false (by omega)]
   · intro k
     simp [aW.j1]
 | succ d ih =>
   intro q r e hr0 hr hle hq hd
   have hlt : (U * 4294967296 + u) / D < q := by omega
   have hy : q < 4294967296 → 4294967296 * r + u < q * n0 := fun _ => by
    rcases Int.lt_or_le (4294967296 * r + u) (q * n0) with h | h
    · exact h
    · have := KG hD hp e h
      omega
   refine Ev.step (f := fun k => aW.j1 k D x8 n1 n0 U u x14 q r true) ?_ (hmore q r e hr0 hr hlt hq fun r' e' a b => ih (q - 1) r' e' a b (by omega) (by omega) (by omega))
   intro k; simp only [aW.l0]
   by_cases hq4 : q ≥ 4294967296
   · rw [if_pos hq4]
   · have hm := VB (a := q) (b := n0) (by omega) (by omega) h0 h0'
     have := hy (by omega); rw [if_neg hq4, wraps_u64 (q * n0) (by omega) (by omega), wraps_u64 (4294967296 * r) (by omega) (by omega), wraps_u64 (4294967296 * r + u) (by omega) (by omega), decide_eq_true (by omega)]
theorem aaN {n1 n0 D U u : Int} (hD : D = n1 * 4294967296 + n0) (h1 : 2147483648 ≤ n1) (h1' : n1 < 4294967296) (h0 : 0 ≤ n0) (h0' : n0 < 4294967296) (WR : 0 ≤ U) (hU : U < D) (hu0 : 0 ≤ u) (hu : u < 4294967296) (x8 x15 : Int) (h8 : 0 ≤ x8) :
 ∀ (d : Nat) (q r : Int), q * n1 + r = U → 0 ≤ r → r < 4294967296 → (U * 4294967296 + u) / D ≤ q → q ≤ 4294967297 → q - (U * 4294967296 + u) / D = d →
   Ev (fun k => aW.l1 k D x8 n1 n0 u x15 r U q) (IntKind.u64.wrap (IntKind.u64.wrap (x15 * 4294967296) + (U * 4294967296 + u) / D),
    shr .u64 (IntKind.u64.wrap (IntKind.u64.wrap (IntKind.u64.wrap (U * 4294967296) + u) - IntKind.u64.wrap ((U * 4294967296 + u) / D * D))) x8) := by
 have hp : 0 < D := by omega
 have hQ0 : 0 ≤ (U * 4294967296 + u) / D := Int.ediv_nonneg (by omega) (by omega); have hQt := xM hp hU hu; have hmore : ∀ (res : Int × Int), res = (IntKind.u64.wrap (IntKind.u64.wrap (x15 * 4294967296) + (U * 4294967296 + u) / D), shr .u64 (IntKind.u64.wrap (IntKind.u64.wrap (IntKind.u64.wrap (U * 4294967296) + u) - IntKind.u64.wrap ((U * 4294967296 + u) / D * D))) x8) →
  ∀ (q r : Int), q * n1 + r = U → 0 ≤ r → r < 4294967296 → (U * 4294967296 + u) / D < q → q ≤ 4294967297 →
  (∀ r', (q - 1) * n1 + r' = U → 0 ≤ r' → r' < 4294967296 → Ev (fun k => aW.l1 k D x8 n1 n0 u x15 r' U (q - 1)) res) → Ev (fun k => aW.j4 k D x8 n1 n0 u x15 r U q true) res := by
  intro res hres q r e hr0 hr hlt hq ih; have w1 : IntKind.u64.wrap (r + n1) = r + n1 := wraps_u64 _ (by omega) (by omega); have w2 : IntKind.u64.wrap (q - 1) = q - 1 := wraps_u64 _ (by omega) (by omega)
  by_cases hb : r + n1 ≥ 4294967296
  · refine Ev.step (f := fun _ => some res) ?_ (Ev.now _)
    intro k; have := Gv hD hp h0 h0' hu0 e (by omega) hq hb
    have hqe : q - 1 = (U * 4294967296 + u) / D := by omega
    simp only [aW.j4, if_true]; rw [w1, if_pos hb, w2, if_pos h8, hqe, hres]
  · refine Ev.step (f := fun k => aW.l1 k D x8 n1 n0 u x15 (r + n1) U (q - 1)) ?_ (ih (r + n1) (by rw [Int.sub_mul]; omega) (by omega) (by omega))
    intro k; simp only [aW.j4, if_true]; rw [w1, if_neg hb, w2]
 intro d
 induction d with
 | zero =>
   intro q r e hr0 hr hle hq hd
   have hq' : q = (U * 4294967296 + u) / D := by omega
   have hq4 : q < 4294967296 := by omega
   have hn : ¬ (4294967296 * r + u < q * n0) := fun h => by
    have := Gu hD hp e h; omega
   have hm := VB (a := q) (b := n0) (by omega) hq4 h0 h0'; rw [← hq']; refine Ev.step (f := fun k => aW.j4 k D x8 n1 n0 u x15 r U q false) ?_ (Ev.step (f := fun _ => some (_, _)) ?_ (Ev.now _))
   · intro k
     simp only [aW.l1]; rw [if_neg (by omega), wraps_u64 (q * n0) (by omega) (by omega), wraps_u64 (4294967296 * r) (by omega) (by omega), wraps_u64 (4294967296 * r + u) (by omega) (by omega), decide_eq_false (by omega)]
   · intro k
     simp only [aW.j4, Bool.false_eq_true, if_false]; rw [if_pos h8]
 | succ d ih =>
   intro q r e hr0 hr hle hq hd
   have hlt : (U * 4294967296 + u) / D < q := by omega
   have hy : q < 4294967296 → 4294967296 * r + u < q * n0 := fun _ => by
    rcases Int.lt_or_le (4294967296 * r + u) (q * n0) with h | h
    · exact h
    · have := KG hD hp e h
      omega
   refine Ev.step (f := fun k => aW.j4 k D x8 n1 n0 u x15 r U q true) ?_ (hmore _ rfl q r e hr0 hr hlt hq fun r' e' a b => ih (q - 1) r' e' a b (by omega) (by omega) (by omega))
   intro k; simp only [aW.l1]
   by_cases hq4 : q ≥ 4294967296
   · rw [if_pos hq4]
   · have hm := VB (a := q) (b := n0) (by omega) (by omega) h0 h0'
     have := hy (by omega); rw [if_neg hq4, wraps_u64 (q * n0) (by omega) (by omega), wraps_u64 (4294967296 * r) (by omega) (by omega), wraps_u64 (4294967296 * r + u) (by omega) (by omega), decide_eq_true (by omega)]
end Go.Proofs.YtcfobekkchhbbaaGreat.PQ

namespace Go.Proofs.YtcfobekkchhbbaaGreat.PQ
open Go.RowKit Go.Proofs.af.aU Go.Proofs.af.a_ Go.Proofs.af.bf
theorem Bv (f : Nat) : Lib.bitLenAux f 0 = 0 := by cases f <;> simp [Lib.bitLenAux]
theorem yc : ∀ (f x : Nat), x < 2 ^ f → x < 2 ^ Lib.bitLenAux f x ∧ (x ≠ 0 → 2 ^ Lib.bitLenAux f x ≤ 2 * x)
 | 0, x, h => by simp at h; subst h; simp [Lib.bitLenAux]
 | f + 1, x, h => by
   by_cases hx : x = 0
   · subst hx
     rw [Bv]
     simp
   · obtain ⟨h1, h2⟩ := yc f (x / 2) (by rw [Nat.pow_succ] at h; omega)
     simp only [Lib.bitLenAux, if_neg hx]; rw [Nat.pow_add]; generalize hA : 2 ^ Lib.bitLenAux f (x / 2) = A at *; refine ⟨by omega, fun _ => ?_⟩
     by_cases h0 : x / 2 = 0
     · have : x = 1 := by omega
       subst this; rw [h0, Bv] at hA
       simp at hA
       omega
     · have := h2 h0
       omega
theorem CW (n : Nat) : ((2 ^ n : Nat) : Int) = (2 : Int) ^ n := by simp
theorem YF (y : Int) (h0 : 0 < y) (h1 : y < 18446744073709551616) :
 ∃ s : Nat, s ≤ 63 ∧ bits_LeadingZeros64.f y = some (s : Int) ∧ 9223372036854775808 ≤ y * 2 ^ s ∧ y * 2 ^ s < 18446744073709551616 := by
 obtain ⟨n, rfl⟩ := Int.eq_ofNat_of_zero_le (Int.le_of_lt h0); have hb := yc 64 n (by omega); have hle : Lib.bitLen n ≤ 64 := Lib.bitLen_le n 64 (by decide) (by omega)
 have hn0 : n ≠ 0 := by omega
 have hb2 := hb.2 hn0; have hb1 := hb.1; change n < 2 ^ Lib.bitLen n at hb1; change 2 ^ Lib.bitLen n ≤ 2 * n at hb2
 have hpos : 1 ≤ Lib.bitLen n := by
  rcases Nat.eq_zero_or_pos (Lib.bitLen n) with h | h
  · rw [h] at hb1
    omega
  · exact h
 have hp : 2 ^ Lib.bitLen n * 2 ^ (64 - Lib.bitLen n) = 18446744073709551616 := by
  rw [← Nat.pow_add, show Lib.bitLen n + (64 - Lib.bitLen n) = 64 by omega]
 have hP : 0 < 2 ^ (64 - Lib.bitLen n) := Nat.two_pow_pos _; have e1 := Nat.mul_le_mul_right (2 ^ (64 - Lib.bitLen n)) hb2; have e2 := Nat.mul_lt_mul_of_pos_right hb1 hP; rw [Nat.mul_assoc] at e1; refine ⟨64 - Lib.bitLen n, by omega, ?_, ?_, ?_⟩
 · unfold bits_LeadingZeros64.f
   rw [if_pos ⟨by omega, by omega⟩]
   simp
   omega
 · rw [← CW, ← Int.natCast_mul]
   omega
 · rw [← CW, ← Int.natCast_mul]
   omega
theorem Rt (hi lo y : Int) (h0 : 0 ≤ hi) (h1 : hi < y) (hy : y < 18446744073709551616) (hl0 : 0 ≤ lo) (hl1 : lo < 18446744073709551616) (hne : hi ≠ 0) :
 Ev (fun k => aW.f k hi lo y) ((hi * 18446744073709551616 + lo) / y, (hi * 18446744073709551616 + lo) % y) := by
 obtain ⟨s, hs, hlz, hD1, hD2⟩ := YF y (by omega) hy
 have hP : (0 : Int) < 2 ^ s := by rw [← CW]; have := Nat.two_pow_pos s; omega
 have hR : (0 : Int) < 2 ^ (64 - s) := by rw [← CW]; have := Nat.two_pow_pos (64 - s); omega
 have hPR : (2 : Int) ^ (64 - s) * 2 ^ s = 18446744073709551616 := by
  rw [← Int.pow_add, show 64 - s + s = 64 by omega]; rfl
 have hS : shl .u64 y s = y * 2 ^ s := by
  unfold shl
  rw [show min (s : Int).toNat IntKind.u64.bits = s by simp [IntKind.bits]; omega, fD, Int.emod_eq_of_lt (by omega) (by omega)]
 have hhi : hi * 2 ^ s + 2 ^ s ≤ y * 2 ^ s := by
  have := Int.mul_le_mul_of_nonneg_right (show hi + 1 ≤ y by omega) (Int.le_of_lt hP); rw [Int.add_mul] at this; omega
 have hhi0 : 0 ≤ hi * 2 ^ s := Int.mul_nonneg h0 (Int.le_of_lt hP)
 have hS2 : shl .u64 hi s = hi * 2 ^ s := by
  unfold shl
  rw [show min (s : Int).toNat IntKind.u64.bits = s by simp [IntKind.bits]; omega, fD, Int.emod_eq_of_lt (by omega) (by omega)]
 have hT : IntKind.u64.wrap (64 - (s : Int)) = ((64 - s : Nat) : Int) := by rw [fD]; omega
 have hS3 : shr .u64 lo ((64 - s : Nat) : Int) = lo / 2 ^ (64 - s) := by
  unfold shr
  rw [show min ((64 - s : Nat) : Int).toNat IntKind.u64.bits = 64 - s by simp [IntKind.bits]]
 have ha := Int.mul_ediv_add_emod lo (2 ^ (64 - s)); have hb0 := Int.emod_nonneg lo (Int.ne_of_gt hR); have hb1 := Int.emod_lt_of_pos lo hR; have ha0 : 0 ≤ lo / 2 ^ (64 - s) := Int.ediv_nonneg hl0 (Int.le_of_lt hR); have ha1 : lo / 2 ^ (64 - s) < 2 ^ s := Int.ediv_lt_of_lt_mul hR (by rw [Int.mul_comm, hPR]; exact hl1)
 have hL : lo * 2 ^ s = lo / 2 ^ (64 - s) * 18446744073709551616 + lo % 2 ^ (64 - s) * 2 ^ s := by
  have e : (2 ^ (64 - s) * (lo / 2 ^ (64 - s)) + lo % 2 ^ (64 - s)) * 2 ^ s = lo * 2 ^ s := by rw [ha]
  rw [Int.add_mul, Int.mul_comm (2 ^ (64 - s)) (lo / _), Int.mul_assoc, hPR] at e; exact e.symm
 have alK : 0 ≤ lo % 2 ^ (64 - s) * 2 ^ s := Int.mul_nonneg hb0 (Int.le_of_lt hP)
 have alJ : lo % 2 ^ (64 - s) * 2 ^ s < 18446744073709551616 := by
  rw [← hPR]; exact Int.mul_lt_mul_of_pos_right hb1 hP
 have hS4 : shl .u64 lo s = lo % 2 ^ (64 - s) * 2 ^ s := by
  unfold shl
  rw [show min (s : Int).toNat IntKind.u64.bits = s by simp [IntKind.bits]; omega, fD, hL]; omega
 have hor : Go.bits .or .u64 (hi * 2 ^ s) (lo / 2 ^ (64 - s)) = hi * 2 ^ s + lo / 2 ^ (64 - s) := by
  refine bits_join .u64 64 (by decide) wraps_u64 s _ _ hhi0 (Int.mul_emod_left _ _) (by omega) ha0 ha1 (by omega)
 have hN : (hi * 18446744073709551616 + lo) * 2 ^ s = (hi * 2 ^ s + lo / 2 ^ (64 - s)) * 18446744073709551616 + lo % 2 ^ (64 - s) * 2 ^ s := by
  rw [Int.add_mul, hL, Int.mul_assoc, Int.mul_comm 18446744073709551616 (2 ^ s), ← Int.mul_assoc, Int.add_mul]; omega
 have hz : (y * 2 ^ s) / 4294967296 ≠ 0 := by omega
 have hres : ∀ D U L : Int, D = y * 2 ^ s → U = hi * 2 ^ s + lo / 2 ^ (64 - s) → L = lo % 2 ^ (64 - s) * 2 ^ s →
  Ev (fun k => aW.l0 k D s (D / 4294967296) (D % 4294967296) U (L / 4294967296) (L % 4294967296) (U / (D / 4294967296)) (U - U / (D / 4294967296) * (D / 4294967296)))
   ((hi * 18446744073709551616 + lo) / y, (hi * 18446744073709551616 + lo) % y) := by
  intro D U L eD eU eL; rw [← eU, ← eL] at hN
  have WR : 0 ≤ U := by omega
  have hUD : U < D := by omega
  have hD : D = D / 4294967296 * 4294967296 + D % 4294967296 := by omega
  have hDB : D < 18446744073709551616 := by omega
  have hDp : 0 < D := by omega
  have hr0 := Int.emod_nonneg U (show D / 4294967296 ≠ 0 by omega); have hr1 := Int.emod_lt_of_pos U (show 0 < D / 4294967296 by omega); have hre := Int.ediv_mul_add_emod U (D / 4294967296); have hf := BG (u := L / 4294967296) hD (by omega) (by omega) (by omega) WR hUD (by omega) (by omega); refine aaO hD (by omega) (by omega) (by omega) (by omega) WR hUD (by omega) (by omega) s (L % 4294967296) _ ?_ ((U / (D / 4294967296) - (U * 4294967296 + L / 4294967296) / D).toNat) _ _ (by omega) (by omega) (by omega) hf.1 hf.2 (by omega)
  have hm1 := Int.ediv_mul_add_emod (U * 4294967296 + L / 4294967296) D; have hm2 := Int.emod_nonneg (U * 4294967296 + L / 4294967296) (show D ≠ 0 by omega); have hm3 := Int.emod_lt_of_pos (U * 4294967296 + L / 4294967296) hDp; have hq1 := xM hDp hUD (show L / 4294967296 < 4294967296 by omega); have hq0 : 0 ≤ (U * 4294967296 + L / 4294967296) / D := Int.ediv_nonneg (by omega) (by omega); generalize (U * 4294967296 + L / 4294967296) / D = Q1 at *; generalize hR1 : (U * 4294967296 + L / 4294967296) % D = R1 at *
  have hw : IntKind.u64.wrap (IntKind.u64.wrap (IntKind.u64.wrap (U * 4294967296) + L / 4294967296) - IntKind.u64.wrap (Q1 * D)) = R1 := by
   rw [fD, fD, fD, fD]; omega
  have alN := Int.emod_nonneg R1 (show D / 4294967296 ≠ 0 by omega); have alM := Int.emod_lt_of_pos R1 (show 0 < D / 4294967296 by omega); have alL := Int.ediv_mul_add_emod R1 (D / 4294967296)
  have hd1 : IntKind.u64.wrap (Int.tdiv R1 (D / 4294967296)) = R1 / (D / 4294967296) := by
   rw [Int.tdiv_eq_ediv_of_nonneg hm2]; refine wraps_u64 _ (Int.ediv_nonneg hm2 (by omega)) ?_
   have := Int.ediv_le_self (a := R1) (D / 4294967296) hm2; omega
  have hf2 := BG (u := L % 4294967296) hD (by omega) (by omega) (by omega) hm2 hm3 (by omega) (by omega); refine Ev.step (f := fun k => aW.l1 k D s (D / 4294967296) (D % 4294967296) (L % 4294967296) Q1 (R1 - R1 / (D / 4294967296) * (D / 4294967296)) R1 (R1 / (D / 4294967296))) ?_ ?_
  · intro k
    simp only [aW.j2]; rw [if_neg (by omega), hw, hd1]
    congr 1
    have hmul : R1 / (D / 4294967296) * (D / 4294967296) ≤ R1 := by omega
    have ai9 : 0 ≤ R1 / (D / 4294967296) * (D / 4294967296) := Int.mul_nonneg (Int.ediv_nonneg hm2 (by omega)) (by omega); generalize R1 / (D / 4294967296) * (D / 4294967296) = Z at *; rw [fD, fD]; omega
  · have hl := aaN hD (by omega) (by omega) (by omega) (by omega) hm2 hm3 (show 0 ≤ L % 4294967296 by omega) (by omega) s Q1 (by omega) ((R1 / (D / 4294967296) - (R1 * 4294967296 + L % 4294967296) / D).toNat) (R1 / (D / 4294967296)) (R1 - R1 / (D / 4294967296) * (D / 4294967296)) (by omega) (by omega) (by omega) hf2.1 hf2.2 (by omega)
    have hn1 := Int.ediv_mul_add_emod (R1 * 4294967296 + L % 4294967296) D; have hn2 := Int.emod_nonneg (R1 * 4294967296 + L % 4294967296) (show D ≠ 0 by omega); have hn3 := Int.emod_lt_of_pos (R1 * 4294967296 + L % 4294967296) hDp; have hp1 := xM hDp hm3 (show L % 4294967296 < 4294967296 by omega); have hp0 : 0 ≤ (R1 * 4294967296 + L % 4294967296) / D := Int.ediv_nonneg (by omega) (by omega); generalize (R1 * 4294967296 + L % 4294967296) / D = Q0 at *; generalize (R1 * 4294967296 + L % 4294967296) % D = R0 at *
    have hw2 : IntKind.u64.wrap (IntKind.u64.wrap (IntKind.u64.wrap (R1 * 4294967296) + L % 4294967296) - IntKind.u64.wrap (Q0 * D)) = R0 := by
     rw [fD, fD, fD, fD]; omega
    have hw3 : IntKind.u64.wrap (IntKind.u64.wrap (Q1 * 4294967296) + Q0) = Q1 * 4294967296 + Q0 := by
     rw [fD, fD]; omega
    rw [hw2, hw3] at hl
    have hsr : shr .u64 R0 s = R0 / 2 ^ s := by
     unfold shr
     rw [show min (s : Int).toNat IntKind.u64.bits = s by simp [IntKind.bits]; omega]
    rw [hsr] at hl
    have hfin : (hi * 18446744073709551616 + lo) * 2 ^ s = (Q1 * 4294967296 + Q0) * D + R0 := by
     have e : (Q1 * 4294967296 + Q0) * D = Q1 * D * 4294967296 + Q0 * D := by
      rw [Int.add_mul, Int.mul_assoc Q1, Int.mul_comm 4294967296 D, ← Int.mul_assoc]
     rw [hN, e]; omega
    have hdm := Int.ediv_mul_add_emod (hi * 18446744073709551616 + lo) y; have ag_ := Int.emod_nonneg (hi * 18446744073709551616 + lo) (show y ≠ 0 by omega); have ag9 := Int.emod_lt_of_pos (hi * 18446744073709551616 + lo) (show 0 < y by omega); generalize hi * 18446744073709551616 + lo = N at *
    have e1 : (N / y) * D + (N % y) * 2 ^ s = (Q1 * 4294967296 + Q0) * D + R0 := by
     rw [← hfin, eD, ← Int.mul_assoc, ← Int.add_mul, hdm]
    have hx0 : 0 ≤ (N % y) * 2 ^ s := Int.mul_nonneg ag_ (Int.le_of_lt hP)
    have hx1 : (N % y) * 2 ^ s < D := by rw [eD]; exact Int.mul_lt_mul_of_pos_right ag9 hP
    have f1 : ((N / y) * D + (N % y) * 2 ^ s) / D = N / y := by
     rw [Int.add_comm, Int.add_mul_ediv_right _ _ (Int.ne_of_gt hDp), Int.ediv_eq_zero_of_lt hx0 hx1, Int.zero_add]
    have f2 : ((Q1 * 4294967296 + Q0) * D + R0) / D = Q1 * 4294967296 + Q0 := by
     rw [Int.add_comm, Int.add_mul_ediv_right _ _ (Int.ne_of_gt hDp), Int.ediv_eq_zero_of_lt hn2 hn3, Int.zero_add]
    have f3 : N / y = Q1 * 4294967296 + Q0 := by rw [← f1, e1, f2]
    rw [f3] at e1
    have f4 : R0 = (N % y) * 2 ^ s := by omega
    rw [f3, show N % y = R0 / 2 ^ s by rw [f4, Int.mul_ediv_cancel _ (Int.ne_of_gt hP)]]; exact hl
 have hgo := hres _ _ _ rfl rfl rfl; refine Ev.congr (f := fun k => aW.l0 k (y * 2 ^ s) s (y * 2 ^ s / 4294967296) (y * 2 ^ s % 4294967296) (hi * 2 ^ s + lo / 2 ^ (64 - s)) (lo % 2 ^ (64 - s) * 2 ^ s / 4294967296) (lo % 2 ^ (64 - s) * 2 ^ s % 4294967296) ((hi * 2 ^ s + lo / 2 ^ (64 - s)) / (y * 2 ^ s / 4294967296)) (hi * 2 ^ s + lo / 2 ^ (64 - s) - (hi * 2 ^ s + lo / 2 ^ (64 - s)) / (y * 2 ^ s / 4294967296) * (y * 2 ^ s / 4294967296))) ?_ hgo
 intro k
 unfold aW.f
 rw [if_neg (by omega), if_neg (by omega), if_neg hne, hlz]; simp only [Option.bind_some]
 have hws : IntKind.u64.wrap (s : Int) = s := by rw [fD]; omega
 rw [hws, if_pos (by omega), hT, if_pos (by omega), hS, if_neg hz, hS2, hS3, hor, hS4]; generalize eU : hi * 2 ^ s + lo / 2 ^ (64 - s) = U; generalize eL : lo % 2 ^ (64 - s) * 2 ^ s = L at *; generalize eD : y * 2 ^ s = D at *; rw [mask32 _ (by omega) (by omega), mask32 _ (by omega) (by omega)]
 have WR : 0 ≤ U := by omega
 have hq0 : 0 ≤ U / (D / 4294967296) := Int.ediv_nonneg WR (by omega); have hq1 := Int.ediv_le_self (a := U) (D / 4294967296) WR; have hc := Int.ediv_mul_add_emod U (D / 4294967296); have hr0 := Int.emod_nonneg U (show D / 4294967296 ≠ 0 by omega); have hz0 : 0 ≤ U / (D / 4294967296) * (D / 4294967296) := Int.mul_nonneg hq0 (by omega)
 have hd1 : IntKind.u64.wrap (Int.tdiv U (D / 4294967296)) = U / (D / 4294967296) := by
  rw [Int.tdiv_eq_ediv_of_nonneg WR]; exact wraps_u64 _ hq0 (by omega)
 rw [hd1]
 congr 1
 generalize U / (D / 4294967296) * (D / 4294967296) = Z at *; rw [fD, fD]; omega
theorem abm (hi lo y : Int) (h0 : 0 ≤ hi) (h1 : hi < y) (hy : y < 18446744073709551616) (hl0 : 0 ≤ lo) (hl1 : lo < 18446744073709551616) :
 Ev (fun k => aW.f k hi lo y) ((hi * 18446744073709551616 + lo) / y, (hi * 18446744073709551616 + lo) % y) := by
 by_cases hne : hi = 0
 · refine ⟨0, fun k _ => ?_⟩
   subst hne; show aW.f k 0 lo y = _
   unfold aW.f
   rw [if_neg (by omega), if_neg (by omega), if_pos rfl, Int.zero_mul, Int.zero_add, Int.tdiv_eq_ediv_of_nonneg hl0, Int.tmod_eq_emod_of_nonneg hl0]; have := Int.ediv_le_self (a := lo) y hl0; rw [wraps_u64 _ (Int.ediv_nonneg hl0 (by omega)) (by omega)]
 · exact Rt hi lo y h0 h1 hy hl0 hl1 hne
end Go.Proofs.YtcfobekkchhbbaaGreat.PQ

namespace Go.Proofs.YtcfobekkchhbbaaGreat.PQ
open Go.RowKit Go.Proofs.af.aU Go.Proofs.af.a_ Go.Proofs.af.bf
theorem abL (a b : Int) : vT.f a b = some (cl (cl a + cl b), (od a || od b) || od (cl a + cl b)) := by
 have := yu a; have := yw a; have := yu b; have := yw b
 unfold vT.f
 rw [AY]; simp only [Option.bind_some]; rw [Lp (by omega) (by omega), zx]; simp only [Option.bind_some]
 cases (od a || od b) <;> simp
theorem aaD (a b : Int) : vP.f a b = some (cl (cl a - cl b), (od a || od b) || od (cl a - cl b)) := by
 have := yu a; have := yw a; have := yu b; have := yw b
 unfold vP.f
 rw [AY]; simp only [Option.bind_some]; rw [Lp (by omega) (by omega), zx]; simp only [Option.bind_some]
 cases (od a || od b) <;> simp
def rn (N y : Int) : Int := if N % y > y - N % y then (N / y + 1) % 18446744073709551616 else if N % y = y - N % y then (if N / y % 2 = 1 then (N / y + 1) % 18446744073709551616 else N / y) else N / y
def Gs (a b : Int) : Int × Bool :=
 if cl b = 0 then (if cl a > 0 then (70368744177663, true) else if cl a < 0 then (-70368744177664, true) else (0, true))
 else if sz (cl a) / 1099511627776 ≥ sz (cl b) then ((sg 1 0 ((decide (cl a < 0)) != (decide (cl b < 0)))).1, true)
 else flag (od a || od b) (sg 0 (rn (sz (cl a) * 16777216) (sz (cl b))) ((decide (cl a < 0)) != (decide (cl b < 0))))
theorem abl (a b : Int) : Ev (fun k => pz.f k a b) (Gs a b) := by
 have c1 := yu a; have c2 := yw a; have c3 := yu b; have c4 := yw b; have ha := OD a; have hb := OD b; have ha0 := Vq (cl a); have hb0 := Vq (cl b)
 have hbz : cl b ≠ 0 → 0 < sz (cl b) := fun h => by unfold sz at *; split at hb0 <;> split <;> omega
 by_cases h0 : cl b = 0
 · refine Ev.congr (f := fun _ => some (Gs a b)) ?_ (Ev.now _)
   intro k
   unfold pz.f Gs
   rw [AY]; simp only [Option.bind_some]; rw [if_pos h0, if_pos h0]
   repeat' split
   all_goals rfl
 · have hy := hbz h0
   by_cases h1 : sz (cl a) / 1099511627776 ≥ sz (cl b)
   · refine Ev.congr (f := fun _ => some (Gs a b)) ?_ (Ev.now _)
     intro k
     unfold pz.f Gs
     rw [AY]; simp only [Option.bind_some]; rw [if_neg h0, if_neg h0, zV _ (by omega) (by omega), zV _ (by omega) (by omega)]; simp only [Option.bind_some]; rw [if_pos h1, if_pos h1, Dt _ _ _ (by omega)]; rfl
   · have hdv := abm (sz (cl a) / 1099511627776) (IntKind.u64.wrap (sz (cl a) * 16777216)) (sz (cl b)) (by omega) (by omega) (by omega) (by rw [fD]; omega) (by rw [fD]; omega)
     have hN : sz (cl a) / 1099511627776 * 18446744073709551616 + IntKind.u64.wrap (sz (cl a) * 16777216) = sz (cl a) * 16777216 := by rw [fD]; omega
     rw [hN] at hdv; obtain ⟨K, hK⟩ := hdv; refine ⟨K, fun k hk => ?_⟩
     have hk' := hK k hk; show pz.f k a b = _
     unfold pz.f Gs
     rw [AY]; simp only [Option.bind_some]; rw [if_neg h0, if_neg h0, zV _ (by omega) (by omega), zV _ (by omega) (by omega)]; simp only [Option.bind_some]; rw [if_neg h1, if_neg h1]; simp only [] at hk'; rw [hk']; simp only [Option.bind_some]; generalize ((decide (cl a < 0)) != (decide (cl b < 0))) = s; generalize (od a || od b) = o; have hq0 : 0 ≤ sz (cl a) * 16777216 / sz (cl b) := Int.ediv_nonneg (by omega) (by omega); have hq1 : sz (cl a) * 16777216 / sz (cl b) < 18446744073709551616 := Int.ediv_lt_of_lt_mul hy (by omega); have hr0 := Int.emod_nonneg (sz (cl a) * 16777216) (show sz (cl b) ≠ 0 by omega); have hr1 := Int.emod_lt_of_pos (sz (cl a) * 16777216) hy; rw [XE _ hq0 hq1, wraps_u64 (sz (cl b) - _) (by omega) (by omega), fD]
     have k0 : 0 ≤ rn (sz (cl a) * 16777216) (sz (cl b)) := by unfold rn; repeat' split <;> omega
     rw [show (some (flag o (sg 0 (rn (sz (cl a) * 16777216) (sz (cl b))) s))) = (aX.f 0 (rn (sz (cl a) * 16777216) (sz (cl b))) s).bind fun bt => (if o = true then (some (bt.1, true)) else (some (bt.1, bt.2))) from by
      rw [Dt _ _ _ k0]; simp only [Option.bind_some]; rw [Gi]]
     unfold rn
     split
     · rfl
     · split
       · split <;> rfl
       · rfl
theorem aaU (a : Int) : dQ.f a = some (decide (-70368744177664 ≤ a ∧ a ≤ 70368744177663)) := by
 unfold dQ.f
 by_cases h : a ≥ -70368744177664
 · rw [if_pos h]
   congr 1
   rw [decide_eq_decide]; omega
 · rw [if_neg h]
   congr 1
   symm
   simp
   omega
end Go.Proofs.YtcfobekkchhbbaaGreat.PQ

namespace Go.Proofs.YtcfobekkchhbbaaGreat.KK
open Go.RowKit Go.Proofs.af.aU Go.Proofs.af.a_ Go.Proofs.af.bf
set_option linter.unusedVariables false
set_option linter.unusedSimpArgs false
def kE (a b : Int) : Int × Bool := PQ.flag (PQ.od a || PQ.od b) (PQ.sg (PQ.sz (PQ.cl a) * PQ.sz (PQ.cl b) / 309485009821345068724781056) (PQ.lw (PQ.sz (PQ.cl a) * PQ.sz (PQ.cl b))) ((decide (PQ.cl a < 0)) != (decide (PQ.cl b < 0))))
def jL (a b : Int) : Int × Bool := (PQ.cl (PQ.cl a + PQ.cl b), (PQ.od a || PQ.od b) || PQ.od (PQ.cl a + PQ.cl b))
def ng (a b : Int) : Int × Bool := (PQ.cl (PQ.cl a - PQ.cl b), (PQ.od a || PQ.od b) || PQ.od (PQ.cl a - PQ.cl b))
def oz (a b : Int) : Int × Bool := ((PQ.qB.f (wrap64 (a + b)) 1).getD 0, false)
theorem jW (a b : Int) (w : World) : Calls Tryz.prog 92 #[I a, I b] w fun e w' => e = .returned (.tuple #[I (kE a b).1, .bool (kE a b).2]) ∧ Below w.heap.size w w' := PQ.vS.calls a b _ _ w (PQ.aaL a b)
theorem xP (a b : Int) (w : World) : Calls Tryz.prog 94 #[I a, I b] w fun e w' => e = .returned (.tuple #[I (jL a b).1, .bool (jL a b).2]) ∧ Below w.heap.size w w' := PQ.vT.calls a b _ _ w (PQ.abL a b)
theorem zT (a b : Int) (w : World) : Calls Tryz.prog 91 #[I a, I b] w fun e w' => e = .returned (.tuple #[I (ng a b).1, .bool (ng a b).2]) ∧ Below w.heap.size w w' := PQ.vP.calls a b _ _ w (PQ.aaD a b)
theorem Q4 (a : Int) : ∃ h, PQ.qB.f a 1 = some h := by
 have e1 : mn (mx 1 0) 62 = 1 := by decide
 unfold PQ.qB.f
 rw [e1]
 repeat' split
 all_goals first | exact ⟨_, rfl⟩ | omega
theorem NH (a b : Int) (w : World) : Calls Tryz.prog 201 #[I a, I b] w fun e w' => e = .returned (.tuple #[I (oz a b).1, .bool (oz a b).2]) ∧ Below w.heap.size w w' := by
 obtain ⟨h, hh⟩ := Q4 (wrap64 (a + b)); have HH := Lib.hid (PQ.qB.calls _ 1 h · hh)
 unfold oz
 rw [hh]
 go_enter Tryz.func201, Tryz.ntmps201
 go_wp2_with fail
 refine (HH.out _).mono ?_
 rintro e w' ⟨rfl, hb⟩; have HB := Lib.hid hb; clear hb; go_wp2
 go_ret2
 exact ⟨rfl, HB.out⟩
theorem kX {r c i k : Nat} (hk : k < r) (hi : i < c) : k * c + i < r * c := by
 have : (k + 1) * c ≤ r * c := Nat.mul_le_mul_right c hk; rw [Nat.succ_mul] at this; omega
theorem JE (r c : Nat) (A : Option Addr) (cp g : Nat) (l : List Int) (w : World) (hr : r ≤ 8) (hc : c ≤ 8) (hl : l.length = r * c) (hA : Rd w A l) (R : Row w g 29 #[I r, I c, .slice A l.length cp]) :
 zG w 133 #[.pointer (some ⟨g, 0, none⟩)] c r (fun i k => l.getD (k * c + i) 0) (fun _ _ => false) := by
 intro i k w' hi hk hb; have R' := R.below hb R.lt; have x := R'.cell; have hle : r * c ≤ 8 * 8 := Nat.mul_le_mul hr hc; have HC := Lib.hid (mV r c A cp l k i w' (hA.below hb) (by rw [hl]; exact kX hk hi) (by rw [hl]; omega)); clear hb R R' hA hr hc hle hl; show Calls Tryz.prog 133 #[I i, I k, .pointer (some ⟨g, 0, none⟩)] w' _
 go_enter Tryz.func133, Tryz.ntmps133
 go_wp2_with fail
 refine HC.out.mono ?_
 rintro e w2 ⟨rfl, hb⟩; have HB := Lib.hid hb; clear hb; go_wp2
 go_ret2
 exact ⟨rfl, HB.out⟩
theorem uz (n : Nat) (cap : Array Value) (r c : Nat) (q : Nat → Nat → Int) (o : Nat → Nat → Bool) (w : World) (L : List Int) (b : Bool) (hL : upto c q r = L) (hb : wI c o r = b) (hr : r ≤ 8) (hc : c ≤ 8) (he : Enters n) (ht : zG w n cap r c q o) :
 Calls Tryz.prog 128 #[.agg #[I r, I c], .func (.func n) #[] cap] w fun e w' => ∃ A cp, e = .returned (.tuple #[.agg #[I r, I c, .slice A L.length cp], .bool b]) ∧ Own w' w.heap.size (.slice A L.length cp) L ∧ Below w.heap.size w w' := by
 subst hL hb; refine (Nl n cap r c q o w hr hc he ht).mono ?_
 rintro e w' ⟨v, rfl, ho, hb⟩; obtain ⟨A, cp, rfl, _, _⟩ := ho.reads; exact ⟨A, cp, rfl, ho, hb⟩
theorem BK (c r : Nat) : wI c (fun _ _ => false) r = false := by simp [wI]
def yM (r c : Nat) (l : List Int) : List Int := upto r (fun i k => l.getD (k * c + i) 0) c
theorem Uw : Enters 133 := enters Tryz.func133 rfl rfl
theorem hmf (fn : Fn) (first cap : Array Value) (w : World) : (Instr.makeFunc fn first cap).run Tryz.prog w = .ok (.func fn first cap) w := rfl
theorem nG (r c : Nat) (A : Option Addr) (cp : Nat) (l : List Int) (w : World) (hr : r ≤ 8) (hc : c ≤ 8) (hl : l.length = r * c) (hA : Rd w A l) :
 Calls Tryz.prog 82 #[.agg #[I r, I c, .slice A l.length cp]] w fun e w' => ∃ v, e = .returned (.agg #[I c, I r, v]) ∧ Own w' w.heap.size v (yM r c l) ∧ Below w.heap.size w w' := by
 have N : Hid (bD w [(29, #[I r, I c, .slice A l.length cp]), (29, #[I 0, I 0, .slice none 0 0])] ((w.alloc (.cells #[I r, I c, .slice A l.length cp] 29)).alloc (.cells #[I 0, I 0, .slice none 0 0] 29))) := Lib.hid (((bD.none w).push (by simp) _ _).push (by simp) _ _)
 obtain ⟨L, hL⟩ : ∃ L, yM r c l = L := ⟨_, rfl⟩
 have HM := Lib.hid (uz 133 #[.pointer (some ⟨w.heap.size, 0, none⟩)] c r _ _ _ L false hL (BK _ _) hc hr Uw (JE r c A cp w.heap.size l _ hr hc hl (hA.below N.out.be) N.out.r0)); rw [hL]; clear hr hc hl hA hL; have hmf := hmf
 go_enter Tryz.func82, Tryz.ntmps82
 go_wp2_with fail
 refine HM.out.mono ?_
 rintro e w2 ⟨A2, c2, rfl, ho, hb⟩; have O := Lib.hid ho; have N2 := Lib.hid (N.out.below hb); clear ho hb N HM; have x1 := N2.out.r1.cell; have g1 := N2.out.r1.free; have t1 := N2.out.r1.lt; go_wp2
 refine bodyPost_ret (Vu rfl rfl ((N2.out.r1.dK _ _ _).alloc _)) rfl ⟨_, rfl, ?_, (Below.dK N2.out.be (by omega) _ _ _).alloc (by have := N2.out.be.size; simp; omega) _⟩
 exact ((O.out.dK (by simp) _ _ _).alloc _).lower (by simp; omega)
end Go.Proofs.YtcfobekkchhbbaaGreat.KK

namespace Go.Proofs.YtcfobekkchhbbaaGreat.KK
open Go.RowKit Go.Proofs.af.aU Go.Proofs.af.a_ Go.Proofs.af.bf
set_option linter.unusedVariables false
set_option linter.unusedSimpArgs false
def kC (f : Int → Int → Int × Bool) (r c : Nat) (l m : List Int) : List Int := upto c (fun i k => (f (l.getD (i * c + k) 0) (m.getD (i * c + k) 0)).1) r
def kZ (f : Int → Int → Int × Bool) (r c : Nat) (l m : List Int) : Bool := wI c (fun i k => (f (l.getD (i * c + k) 0) (m.getD (i * c + k) 0)).2) r
attribute [local go_sem high] PQ.Un
theorem qK (r c : Int) (A : Option Addr) (l : List Int) (cp : Nat) (w : World) (hA : Rd w A l) (hc : l.length ≤ cp) : Calls Tryz.prog 131 #[.agg #[I r, I c, .slice A l.length cp]] w fun e w' => e = .returned (.agg #[I r, I c]) ∧ Below w.heap.size w w' :=
 PQ.pU.calls r c A cp l r c w hA hc rfl
theorem Em : Enters 200 := enters Tryz.func200 rfl rfl
theorem Qu (r c : Nat) (A A' : Option Addr) (cp cp' : Nat) (n g : Nat) (l m : List Int) (w : World) (hr : r ≤ 8) (hc : c ≤ 8) (hl : l.length = r * c) (hm : m.length = r * c) (hA : Rd w A l) (hA' : Rd w A' m)
 (D : Row w n 151 #[.func (.func 94) #[] #[]]) (R : Row w g 29 #[I r, I c, .slice A l.length cp]) (R' : Row w (g + 1) 29 #[I r, I c, .slice A' m.length cp']) (hn : True) :
 zG w 200 #[.pointer (some ⟨n, 0, none⟩), .pointer (some ⟨g, 0, none⟩), .pointer (some ⟨g + 1, 0, none⟩)] r c (fun i k => (jL (l.getD (i * c + k) 0) (m.getD (i * c + k) 0)).1) (fun i k => (jL (l.getD (i * c + k) 0) (m.getD (i * c + k) 0)).2) := by
 intro i k w' hi hk hb; have D1 := Lib.hid (D.below hb D.lt); have R1 := Lib.hid (R.below hb R.lt); have R2 := Lib.hid (R'.below hb R'.lt); have hle : r * c ≤ 8 * 8 := Nat.mul_le_mul hr hc; have hlt : i * c + k < r * c := kX hi hk; have H1 := Lib.hid (fun w' h => mV r c A cp l i k w' h (by rw [hl]; exact hlt) (by rw [hl]; omega)); have H2 := Lib.hid (fun w' h => mV r c A' cp' m i k w' h (by rw [hm]; exact hlt) (by rw [hm]; omega)); have A1 := Lib.hid (hA.below hb); have A2 := Lib.hid (hA'.below hb)
 obtain ⟨x, hx⟩ : ∃ x, l.getD (i * c + k) 0 = x := ⟨_, rfl⟩
 obtain ⟨y, hy⟩ : ∃ y, m.getD (i * c + k) 0 = y := ⟨_, rfl⟩
 rw [hx] at H1; rw [hy] at H2
 show Calls Tryz.prog 200 #[I i, I k, .pointer (some ⟨n, 0, none⟩), .pointer (some ⟨g, 0, none⟩), .pointer (some ⟨g + 1, 0, none⟩)] w' fun e w'' => e = .returned (.tuple #[I (jL (l.getD (i * c + k) 0) (m.getD (i * c + k) 0)).1, .bool (jL (l.getD (i * c + k) 0) (m.getD (i * c + k) 0)).2]) ∧ Below w'.heap.size w' w''
 rw [hx, hy]; have H3 := Lib.hid (fun w => xP x y w)
 obtain ⟨z, hz⟩ : ∃ z, jL x y = z := ⟨_, rfl⟩
 rw [hz] at H3 ⊢; obtain ⟨z1, z2⟩ := z; clear hb R R' D hA hA' hr hc hle hl hm hx hy hz hlt; have K : Hid (∀ w2, Below w'.heap.size w' w2 → (∀ o, w2.cell? ⟨n, o, none⟩ = #[.func (.func 94) #[] #[]][o]?) ∧ (∀ o, w2.cell? ⟨g, o, none⟩ = #[I r, I c, .slice A l.length cp][o]?) ∧ (∀ o, w2.cell? ⟨g + 1, o, none⟩ = #[I r, I c, .slice A' m.length cp'][o]?)) := Lib.hid (fun w2 hb => ⟨(D1.out.below hb D1.out.lt).cell, (R1.out.below hb R1.out.lt).cell, (R2.out.below hb R2.out.lt).cell⟩); have B0 := Lib.hid (Below.refl w'.heap.size w'); have B1 := Lib.hid B0.out.drew; have x1 := D1.out.cell; have x2 := R1.out.cell; have x3 := R2.out.cell; clear D1 R1 R2
 go_enter Tryz.func200, Tryz.ntmps200
 go_wp2_with fail
 go_region_held3 (fun w2 => (∀ o, w2.cell? ⟨n, o, none⟩ = #[.func (.func 94) #[] #[]][o]?) ∧ (∀ o, w2.cell? ⟨g, o, none⟩ = #[I r, I c, .slice A l.length cp][o]?) ∧ (∀ o, w2.cell? ⟨g + 1, o, none⟩ = #[I r, I c, .slice A' m.length cp'][o]?))
  (first | with_reducible exact K.out _ B4.out | with_reducible exact K.out _ B3.out | with_reducible exact K.out _ B2.out | with_reducible exact K.out _ B1.out | with_reducible exact K.out _ B0.out)
  (first
    | (go_at_call 94
       refine (H3.out _).mono ?_
       rintro e w4 ⟨rfl, hb⟩; have B4 := Lib.hid (B3.out.trans (hb.mono B3.out.size))
       clear hb)
    | (go_at_call 134
       refine (H2.out _ (A2.out.below B2.out)).mono ?_
       rintro e w3 ⟨rfl, hb⟩; have B3 := Lib.hid (B2.out.trans (hb.mono B2.out.size))
       clear hb)
    | (go_at_call 134
       refine (H1.out _ (A1.out.below B1.out)).mono ?_
       rintro e w2 ⟨rfl, hb⟩; have B2 := Lib.hid (B1.out.trans (hb.mono B1.out.size))
       clear hb))
 all_goals
  go_wp2
  go_ret2
  exact ⟨rfl, B4.out⟩
theorem UA (r c : Nat) (A A' : Option Addr) (cp cp' : Nat) (l m : List Int) (w : World) (hr : r ≤ 8) (hc : c ≤ 8) (hl : l.length = r * c) (hm : m.length = r * c) (hA : Rd w A l) (hA' : Rd w A' m) (hcp : l.length ≤ cp) (y9 : m.length ≤ cp') :
 Calls Tryz.prog 187 #[.agg #[I r, I c, (.slice A l.length cp)], .agg #[I r, I c, (.slice A' m.length cp')], .func (.func 94) #[] #[]] w fun e w' => ∃ A2 c2, e = .returned (.tuple #[.agg #[I r, I c, .slice A2 (kC jL r c l m).length c2], .bool (kZ jL r c l m), I 0]) ∧ Own w' w.heap.size (.slice A2 (kC jL r c l m).length c2) (kC jL r c l m) ∧ Below w.heap.size w w' := by
 have N : Hid (bD w [(29, #[I r, I c, (.slice A l.length cp)]), (29, #[I r, I c, (.slice A' m.length cp')]), (151, #[.func (.func 94) #[] #[]]), (29, #[I 0, I 0, .slice none 0 0])] ((((w.alloc (.cells #[I r, I c, (.slice A l.length cp)] 29)).alloc (.cells #[I r, I c, (.slice A' m.length cp')] 29)).alloc (.cells #[.func (.func 94) #[] #[]] 151)).alloc (.cells #[I 0, I 0, .slice none 0 0] 29))) := Lib.hid (((((bD.none w).push (by simp) _ _).push (by simp) _ _).push (by simp) _ _).push (by simp) _ _); have O1 := Lib.hid (fun w' h => qK r c A l cp w' h hcp); have O2 := Lib.hid (fun w' h => qK r c A' m cp' w' h y9); have HA := Lib.hid hA; have HA' := Lib.hid hA'
 obtain ⟨L, hL⟩ : ∃ L, kC jL r c l m = L := ⟨_, rfl⟩
 obtain ⟨b, hb⟩ : ∃ b, kZ jL r c l m = b := ⟨_, rfl⟩
 have HM := Lib.hid (fun w' (h : bD w [(29, #[I r, I c, (.slice A l.length cp)]), (29, #[I r, I c, (.slice A' m.length cp')]), (151, #[.func (.func 94) #[] #[]]), (29, #[I 0, I 0, .slice none 0 0])] w') => uz 200 #[.pointer (some ⟨w.heap.size + 1 + 1, 0, none⟩), .pointer (some ⟨w.heap.size, 0, none⟩), .pointer (some ⟨w.heap.size + 1, 0, none⟩)] r c _ _ w' L b hL hb hr hc Em (Qu r c A A' cp cp' _ w.heap.size l m w' hr hc hl hm (hA.below h.be) (hA'.below h.be) h.r2 h.r0 h.r1 trivial)); rw [hL, hb]; clear hr hc hl hm hA hA' hcp y9 hL hb; have KK : Hid (∀ w', bD w [(29, #[I r, I c, (.slice A l.length cp)]), (29, #[I r, I c, (.slice A' m.length cp')]), (151, #[.func (.func 94) #[] #[]]), (29, #[I 0, I 0, .slice none 0 0])] w' → (∀ o, w'.cell? ⟨w.heap.size, o, none⟩ = #[I r, I c, (.slice A l.length cp)][o]?) ∧ (∀ o, w'.cell? ⟨w.heap.size + 1, o, none⟩ = #[I r, I c, (.slice A' m.length cp')][o]?)) := Lib.hid (fun w' h => ⟨h.r0.cell, h.r1.cell⟩); have y0 := N.out.r0.cell; have y1 := N.out.r1.cell
 go_enter Tryz.func187, Tryz.ntmps187
 go_wp2_with fail
 go_region_held3 (fun w' => (∀ o, w'.cell? ⟨w.heap.size, o, none⟩ = #[I r, I c, (.slice A l.length cp)][o]?) ∧ (∀ o, w'.cell? ⟨w.heap.size + 1, o, none⟩ = #[I r, I c, (.slice A' m.length cp')][o]?))
  (first | with_reducible exact KK.out _ N3.out | with_reducible exact KK.out _ N2.out | with_reducible exact KK.out _ N.out.drew | with_reducible exact KK.out _ N.out)
  (first
    | (go_at_call 131
       refine (O2.out _ (HA'.out.below N2.out.be)).mono ?_
       rintro e w3 ⟨rfl, hb⟩; have N3 := Lib.hid (N2.out.below hb)
       clear hb)
    | (go_at_call 131
       refine (O1.out _ (HA.out.below N.out.drew.be)).mono ?_
       rintro e w2 ⟨rfl, hb⟩; have N2 := Lib.hid (N.out.drew.below hb)
       clear hb))
 have x1 := N3.out.r0.cell; have t1 := N3.out.r0.lt; have hmf := hmf
 go_wp2_with (go_at_call 131
              refine (O1.out _ (HA.out.below N3.out.be)).mono ?_
              rintro e w4 ⟨rfl, hb⟩; have N4 := Lib.hid (N3.out.below hb)
              clear hb)
 refine (HM.out _ N4.out).mono ?_
 rintro e w5 ⟨A2, c2, rfl, ho, hb⟩; have O := Lib.hid ho; have N5 := Lib.hid (N4.out.below hb); have S4 := N4.out.be.size; have L4 := N4.out.r3.lt; clear ho hb x1 t1; have x3 := N5.out.r3.cell; have g3 := N5.out.r3.free; have t3 := N5.out.r3.lt; go_wp2
 refine bodyPost_ret (vO rfl rfl ((N5.out.r3.dK _ _ _).alloc _)) rfl ⟨_, _, rfl, ?_, (Below.dK N5.out.be (by omega) _ _ _).alloc (by have := N5.out.be.size; simp; omega) _⟩
 exact ((O.out.dK (by omega) _ _ _).alloc _).lower (by omega)
theorem Qr (r c : Nat) (A A' : Option Addr) (cp cp' : Nat) (n g : Nat) (l m : List Int) (w : World) (hr : r ≤ 8) (hc : c ≤ 8) (hl : l.length = r * c) (hm : m.length = r * c) (hA : Rd w A l) (hA' : Rd w A' m)
 (D : Row w n 151 #[.func (.func 91) #[] #[]]) (R : Row w g 29 #[I r, I c, .slice A l.length cp]) (R' : Row w (g + 1) 29 #[I r, I c, .slice A' m.length cp']) (hn : True) :
 zG w 200 #[.pointer (some ⟨n, 0, none⟩), .pointer (some ⟨g, 0, none⟩), .pointer (some ⟨g + 1, 0, none⟩)] r c (fun i k => (ng (l.getD (i * c + k) 0) (m.getD (i * c + k) 0)).1) (fun i k => (ng (l.getD (i * c + k) 0) (m.getD (i * c + k) 0)).2) := by
 intro i k w' hi hk hb; have D1 := Lib.hid (D.below hb D.lt); have R1 := Lib.hid (R.below hb R.lt); have R2 := Lib.hid (R'.below hb R'.lt); have hle : r * c ≤ 8 * 8 := Nat.mul_le_mul hr hc; have hlt : i * c + k < r * c := kX hi hk; have H1 := Lib.hid (fun w' h => mV r c A cp l i k w' h (by rw [hl]; exact hlt) (by rw [hl]; omega)); have H2 := Lib.hid (fun w' h => mV r c A' cp' m i k w' h (by rw [hm]; exact hlt) (by rw [hm]; omega)); have A1 := Lib.hid (hA.below hb); have A2 := Lib.hid (hA'.below hb)
 obtain ⟨x, hx⟩ : ∃ x, l.getD (i * c + k) 0 = x := ⟨_, rfl⟩
 obtain ⟨y, hy⟩ : ∃ y, m.getD (i * c + k) 0 = y := ⟨_, rfl⟩
 rw [hx] at H1; rw [hy] at H2
 show Calls Tryz.prog 200 #[I i, I k, .pointer (some ⟨n, 0, none⟩), .pointer (some ⟨g, 0, none⟩), .pointer (some ⟨g + 1, 0, none⟩)] w' fun e w'' => e = .returned (.tuple #[I (ng (l.getD (i * c + k) 0) (m.getD (i * c + k) 0)).1, .bool (ng (l.getD (i * c + k) 0) (m.getD (i * c + k) 0)).2]) ∧ Below w'.heap.size w' w''
 rw [hx, hy]; have H3 := Lib.hid (fun w => zT x y w)
 obtain ⟨z, hz⟩ : ∃ z, ng x y = z := ⟨_, rfl⟩
 rw [hz] at H3 ⊢; obtain ⟨z1, z2⟩ := z; clear hb R R' D hA hA' hr hc hle hl hm hx hy hz hlt; have K : Hid (∀ w2, Below w'.heap.size w' w2 → (∀ o, w2.cell? ⟨n, o, none⟩ = #[.func (.func 91) #[] #[]][o]?) ∧ (∀ o, w2.cell? ⟨g, o, none⟩ = #[I r, I c, .slice A l.length cp][o]?) ∧ (∀ o, w2.cell? ⟨g + 1, o, none⟩ = #[I r, I c, .slice A' m.length cp'][o]?)) := Lib.hid (fun w2 hb => ⟨(D1.out.below hb D1.out.lt).cell, (R1.out.below hb R1.out.lt).cell, (R2.out.below hb R2.out.lt).cell⟩); have B0 := Lib.hid (Below.refl w'.heap.size w'); have B1 := Lib.hid B0.out.drew; have x1 := D1.out.cell; have x2 := R1.out.cell; have x3 := R2.out.cell; clear D1 R1 R2
 go_enter Tryz.func200, Tryz.ntmps200
 go_wp2_with fail
 go_region_held3 (fun w2 => (∀ o, w2.cell? ⟨n, o, none⟩ = #[.func (.func 91) #[] #[]][o]?) ∧ (∀ o, w2.cell? ⟨g, o, none⟩ = #[I r, I c, .slice A l.length cp][o]?) ∧ (∀ o, w2.cell? ⟨g + 1, o, none⟩ = #[I r, I c, .slice A' m.length cp'][o]?))
  (first | with_reducible exact K.out _ B4.out | with_reducible exact K.out _ B3.out | with_reducible exact K.out _ B2.out | with_reducible exact K.out _ B1.out | with_reducible exact K.out _ B0.out)
  (first
    | (go_at_call 91
       refine (H3.out _).mono ?_
       rintro e w4 ⟨rfl, hb⟩; have B4 := Lib.hid (B3.out.trans (hb.mono B3.out.size))
       clear hb)
    | (go_at_call 134
       refine (H2.out _ (A2.out.below B2.out)).mono ?_
       rintro e w3 ⟨rfl, hb⟩; have B3 := Lib.hid (B2.out.trans (hb.mono B2.out.size))
       clear hb)
    | (go_at_call 134
       refine (H1.out _ (A1.out.below B1.out)).mono ?_
       rintro e w2 ⟨rfl, hb⟩; have B2 := Lib.hid (B1.out.trans (hb.mono B1.out.size))
       clear hb))
 all_goals
  go_wp2
  go_ret2
  exact ⟨rfl, B4.out⟩
theorem Uz (r c : Nat) (A A' : Option Addr) (cp cp' : Nat) (l m : List Int) (w : World) (hr : r ≤ 8) (hc : c ≤ 8) (hl : l.length = r * c) (hm : m.length = r * c) (hA : Rd w A l) (hA' : Rd w A' m) (hcp : l.length ≤ cp) (y9 : m.length ≤ cp') :
 Calls Tryz.prog 187 #[.agg #[I r, I c, (.slice A l.length cp)], .agg #[I r, I c, (.slice A' m.length cp')], .func (.func 91) #[] #[]] w fun e w' => ∃ A2 c2, e = .returned (.tuple #[.agg #[I r, I c, .slice A2 (kC ng r c l m).length c2], .bool (kZ ng r c l m), I 0]) ∧ Own w' w.heap.size (.slice A2 (kC ng r c l m).length c2) (kC ng r c l m) ∧ Below w.heap.size w w' := by
 have N : Hid (bD w [(29, #[I r, I c, (.slice A l.length cp)]), (29, #[I r, I c, (.slice A' m.length cp')]), (151, #[.func (.func 91) #[] #[]]), (29, #[I 0, I 0, .slice none 0 0])] ((((w.alloc (.cells #[I r, I c, (.slice A l.length cp)] 29)).alloc (.cells #[I r, I c, (.slice A' m.length cp')] 29)).alloc (.cells #[.func (.func 91) #[] #[]] 151)).alloc (.cells #[I 0, I 0, .slice none 0 0] 29))) := Lib.hid (((((bD.none w).push (by simp) _ _).push (by simp) _ _).push (by simp) _ _).push (by simp) _ _); have O1 := Lib.hid (fun w' h => qK r c A l cp w' h hcp); have O2 := Lib.hid (fun w' h => qK r c A' m cp' w' h y9); have HA := Lib.hid hA; have HA' := Lib.hid hA'
 obtain ⟨L, hL⟩ : ∃ L, kC ng r c l m = L := ⟨_, rfl⟩
 obtain ⟨b, hb⟩ : ∃ b, kZ ng r c l m = b := ⟨_, rfl⟩
 have HM := Lib.hid (fun w' (h : bD w [(29, #[I r, I c, (.slice A l.length cp)]), (29, #[I r, I c, (.slice A' m.length cp')]), (151, #[.func (.func 91) #[] #[]]), (29, #[I 0, I 0, .slice none 0 0])] w') => uz 200 #[.pointer (some ⟨w.heap.size + 1 + 1, 0, none⟩), .pointer (some ⟨w.heap.size, 0, none⟩), .pointer (some ⟨w.heap.size + 1, 0, none⟩)] r c _ _ w' L b hL hb hr hc Em (Qr r c A A' cp cp' _ w.heap.size l m w' hr hc hl hm (hA.below h.be) (hA'.below h.be) h.r2 h.r0 h.r1 trivial)); rw [hL, hb]; clear hr hc hl hm hA hA' hcp y9 hL hb; have KK : Hid (∀ w', bD w [(29, #[I r, I c, (.slice A l.length cp)]), (29, #[I r, I c, (.slice A' m.length cp')]), (151, #[.func (.func 91) #[] #[]]), (29, #[I 0, I 0, .slice none 0 0])] w' → (∀ o, w'.cell? ⟨w.heap.size, o, none⟩ = #[I r, I c, (.slice A l.length cp)][o]?) ∧ (∀ o, w'.cell? ⟨w.heap.size + 1, o, none⟩ = #[I r, I c, (.slice A' m.length cp')][o]?)) := Lib.hid (fun w' h => ⟨h.r0.cell, h.r1.cell⟩); have y0 := N.out.r0.cell; have y1 := N.out.r1.cell
 go_enter Tryz.func187, Tryz.ntmps187
 go_wp2_with fail
 go_region_held3 (fun w' => (∀ o, w'.cell? ⟨w.heap.size, o, none⟩ = #[I r, I c, (.slice A l.length cp)][o]?) ∧ (∀ o, w'.cell? ⟨w.heap.size + 1, o, none⟩ = #[I r, I c, (.slice A' m.length cp')][o]?))
  (first | with_reducible exact KK.out _ N3.out | with_reducible exact KK.out _ N2.out | with_reducible exact KK.out _ N.out.drew | with_reducible exact KK.out _ N.out)
  (first
    | (go_at_call 131
       refine (O2.out _ (HA'.out.below N2.out.be)).mono ?_
       rintro e w3 ⟨rfl, hb⟩; have N3 := Lib.hid (N2.out.below hb)
       clear hb)
    | (go_at_call 131
       refine (O1.out _ (HA.out.below N.out.drew.be)).mono ?_
       rintro e w2 ⟨rfl, hb⟩; have N2 := Lib.hid (N.out.drew.below hb)
       clear hb))
 have x1 := N3.out.r0.cell; have t1 := N3.out.r0.lt; have hmf := hmf
 go_wp2_with (go_at_call 131
              refine (O1.out _ (HA.out.below N3.out.be)).mono ?_
              rintro e w4 ⟨rfl, hb⟩; have N4 := Lib.hid (N3.out.below hb)
              clear hb)
 refine (HM.out _ N4.out).mono ?_
 rintro e w5 ⟨A2, c2, rfl, ho, hb⟩; have O := Lib.hid ho; have N5 := Lib.hid (N4.out.below hb); have S4 := N4.out.be.size; have L4 := N4.out.r3.lt; clear ho hb x1 t1; have x3 := N5.out.r3.cell; have g3 := N5.out.r3.free; have t3 := N5.out.r3.lt; go_wp2
 refine bodyPost_ret (vO rfl rfl ((N5.out.r3.dK _ _ _).alloc _)) rfl ⟨_, _, rfl, ?_, (Below.dK N5.out.be (by omega) _ _ _).alloc (by have := N5.out.be.size; simp; omega) _⟩
 exact ((O.out.dK (by omega) _ _ _).alloc _).lower (by omega)
theorem LP (r c : Nat) (A A' : Option Addr) (cp cp' : Nat) (n g : Nat) (l m : List Int) (w : World) (hr : r ≤ 8) (hc : c ≤ 8) (hl : l.length = r * c) (hm : m.length = r * c) (hA : Rd w A l) (hA' : Rd w A' m)
 (D : Row w n 151 #[.func (.func 201) #[] #[]]) (R : Row w g 29 #[I r, I c, .slice A l.length cp]) (R' : Row w (g + 1) 29 #[I r, I c, .slice A' m.length cp']) (hn : True) :
 zG w 200 #[.pointer (some ⟨n, 0, none⟩), .pointer (some ⟨g, 0, none⟩), .pointer (some ⟨g + 1, 0, none⟩)] r c (fun i k => (oz (l.getD (i * c + k) 0) (m.getD (i * c + k) 0)).1) (fun i k => (oz (l.getD (i * c + k) 0) (m.getD (i * c + k) 0)).2) := by
 intro i k w' hi hk hb; have D1 := Lib.hid (D.below hb D.lt); have R1 := Lib.hid (R.below hb R.lt); have R2 := Lib.hid (R'.below hb R'.lt); have hle : r * c ≤ 8 * 8 := Nat.mul_le_mul hr hc; have hlt : i * c + k < r * c := kX hi hk; have H1 := Lib.hid (fun w' h => mV r c A cp l i k w' h (by rw [hl]; exact hlt) (by rw [hl]; omega)); have H2 := Lib.hid (fun w' h => mV r c A' cp' m i k w' h (by rw [hm]; exact hlt) (by rw [hm]; omega)); have A1 := Lib.hid (hA.below hb); have A2 := Lib.hid (hA'.below hb)
 obtain ⟨x, hx⟩ : ∃ x, l.getD (i * c + k) 0 = x := ⟨_, rfl⟩
 obtain ⟨y, hy⟩ : ∃ y, m.getD (i * c + k) 0 = y := ⟨_, rfl⟩
 rw [hx] at H1; rw [hy] at H2
 show Calls Tryz.prog 200 #[I i, I k, .pointer (some ⟨n, 0, none⟩), .pointer (some ⟨g, 0, none⟩), .pointer (some ⟨g + 1, 0, none⟩)] w' fun e w'' => e = .returned (.tuple #[I (oz (l.getD (i * c + k) 0) (m.getD (i * c + k) 0)).1, .bool (oz (l.getD (i * c + k) 0) (m.getD (i * c + k) 0)).2]) ∧ Below w'.heap.size w' w''
 rw [hx, hy]; have H3 := Lib.hid (fun w => NH x y w)
 obtain ⟨z, hz⟩ : ∃ z, oz x y = z := ⟨_, rfl⟩
 rw [hz] at H3 ⊢; obtain ⟨z1, z2⟩ := z; clear hb R R' D hA hA' hr hc hle hl hm hx hy hz hlt; have K : Hid (∀ w2, Below w'.heap.size w' w2 → (∀ o, w2.cell? ⟨n, o, none⟩ = #[.func (.func 201) #[] #[]][o]?) ∧ (∀ o, w2.cell? ⟨g, o, none⟩ = #[I r, I c, .slice A l.length cp][o]?) ∧ (∀ o, w2.cell? ⟨g + 1, o, none⟩ = #[I r, I c, .slice A' m.length cp'][o]?)) := Lib.hid (fun w2 hb => ⟨(D1.out.below hb D1.out.lt).cell, (R1.out.below hb R1.out.lt).cell, (R2.out.below hb R2.out.lt).cell⟩); have B0 := Lib.hid (Below.refl w'.heap.size w'); have B1 := Lib.hid B0.out.drew; have x1 := D1.out.cell; have x2 := R1.out.cell; have x3 := R2.out.cell; clear D1 R1 R2
 go_enter Tryz.func200, Tryz.ntmps200
 go_wp2_with fail
 go_region_held3 (fun w2 => (∀ o, w2.cell? ⟨n, o, none⟩ = #[.func (.func 201) #[] #[]][o]?) ∧ (∀ o, w2.cell? ⟨g, o, none⟩ = #[I r, I c, .slice A l.length cp][o]?) ∧ (∀ o, w2.cell? ⟨g + 1, o, none⟩ = #[I r, I c, .slice A' m.length cp'][o]?))
  (first | with_reducible exact K.out _ B4.out | with_reducible exact K.out _ B3.out | with_reducible exact K.out _ B2.out | with_reducible exact K.out _ B1.out | with_reducible exact K.out _ B0.out)
  (first
    | (go_at_call 201
       refine (H3.out _).mono ?_
       rintro e w4 ⟨rfl, hb⟩; have B4 := Lib.hid (B3.out.trans (hb.mono B3.out.size))
       clear hb)
    | (go_at_call 134
       refine (H2.out _ (A2.out.below B2.out)).mono ?_
       rintro e w3 ⟨rfl, hb⟩; have B3 := Lib.hid (B2.out.trans (hb.mono B2.out.size))
       clear hb)
    | (go_at_call 134
       refine (H1.out _ (A1.out.below B1.out)).mono ?_
       rintro e w2 ⟨rfl, hb⟩; have B2 := Lib.hid (B1.out.trans (hb.mono B1.out.size))
       clear hb))
 all_goals
  go_wp2
  go_ret2
  exact ⟨rfl, B4.out⟩
theorem Rj (r c : Nat) (A A' : Option Addr) (cp cp' : Nat) (l m : List Int) (w : World) (hr : r ≤ 8) (hc : c ≤ 8) (hl : l.length = r * c) (hm : m.length = r * c) (hA : Rd w A l) (hA' : Rd w A' m) (hcp : l.length ≤ cp) (y9 : m.length ≤ cp') :
 Calls Tryz.prog 187 #[.agg #[I r, I c, (.slice A l.length cp)], .agg #[I r, I c, (.slice A' m.length cp')], .func (.func 201) #[] #[]] w fun e w' => ∃ A2 c2, e = .returned (.tuple #[.agg #[I r, I c, .slice A2 (kC oz r c l m).length c2], .bool (kZ oz r c l m), I 0]) ∧ Own w' w.heap.size (.slice A2 (kC oz r c l m).length c2) (kC oz r c l m) ∧ Below w.heap.size w w' := by
 have N : Hid (bD w [(29, #[I r, I c, (.slice A l.length cp)]), (29, #[I r, I c, (.slice A' m.length cp')]), (151, #[.func (.func 201) #[] #[]]), (29, #[I 0, I 0, .slice none 0 0])] ((((w.alloc (.cells #[I r, I c, (.slice A l.length cp)] 29)).alloc (.cells #[I r, I c, (.slice A' m.length cp')] 29)).alloc (.cells #[.func (.func 201) #[] #[]] 151)).alloc (.cells #[I 0, I 0, .slice none 0 0] 29))) := Lib.hid (((((bD.none w).push (by simp) _ _).push (by simp) _ _).push (by simp) _ _).push (by simp) _ _); have O1 := Lib.hid (fun w' h => qK r c A l cp w' h hcp); have O2 := Lib.hid (fun w' h => qK r c A' m cp' w' h y9); have HA := Lib.hid hA; have HA' := Lib.hid hA'
 obtain ⟨L, hL⟩ : ∃ L, kC oz r c l m = L := ⟨_, rfl⟩
 obtain ⟨b, hb⟩ : ∃ b, kZ oz r c l m = b := ⟨_, rfl⟩
 have HM := Lib.hid (fun w' (h : bD w [(29, #[I r, I c, (.slice A l.length cp)]), (29, #[I r, I c, (.slice A' m.length cp')]), (151, #[.func (.func 201) #[] #[]]), (29, #[I 0, I 0, .slice none 0 0])] w') => uz 200 #[.pointer (some ⟨w.heap.size + 1 + 1, 0, none⟩), .pointer (some ⟨w.heap.size, 0, none⟩), .pointer (some ⟨w.heap.size + 1, 0, none⟩)] r c _ _ w' L b hL hb hr hc Em (LP r c A A' cp cp' _ w.heap.size l m w' hr hc hl hm (hA.below h.be) (hA'.below h.be) h.r2 h.r0 h.r1 trivial)); rw [hL, hb]; clear hr hc hl hm hA hA' hcp y9 hL hb; have KK : Hid (∀ w', bD w [(29, #[I r, I c, (.slice A l.length cp)]), (29, #[I r, I c, (.slice A' m.length cp')]), (151, #[.func (.func 201) #[] #[]]), (29, #[I 0, I 0, .slice none 0 0])] w' → (∀ o, w'.cell? ⟨w.heap.size, o, none⟩ = #[I r, I c, (.slice A l.length cp)][o]?) ∧ (∀ o, w'.cell? ⟨w.heap.size + 1, o, none⟩ = #[I r, I c, (.slice A' m.length cp')][o]?)) := Lib.hid (fun w' h => ⟨h.r0.cell, h.r1.cell⟩); have y0 := N.out.r0.cell; have y1 := N.out.r1.cell
 go_enter Tryz.func187, Tryz.ntmps187
 go_wp2_with fail
 go_region_held3 (fun w' => (∀ o, w'.cell? ⟨w.heap.size, o, none⟩ = #[I r, I c, (.slice A l.length cp)][o]?) ∧ (∀ o, w'.cell? ⟨w.heap.size + 1, o, none⟩ = #[I r, I c, (.slice A' m.length cp')][o]?))
  (first | with_reducible exact KK.out _ N3.out | with_reducible exact KK.out _ N2.out | with_reducible exact KK.out _ N.out.drew | with_reducible exact KK.out _ N.out)
  (first
    | (go_at_call 131
       refine (O2.out _ (HA'.out.below N2.out.be)).mono ?_
       rintro e w3 ⟨rfl, hb⟩; have N3 := Lib.hid (N2.out.below hb)
       clear hb)
    | (go_at_call 131
       refine (O1.out _ (HA.out.below N.out.drew.be)).mono ?_
       rintro e w2 ⟨rfl, hb⟩; have N2 := Lib.hid (N.out.drew.below hb)
       clear hb))
 have x1 := N3.out.r0.cell; have t1 := N3.out.r0.lt; have hmf := hmf
 go_wp2_with (go_at_call 131
              refine (O1.out _ (HA.out.below N3.out.be)).mono ?_
              rintro e w4 ⟨rfl, hb⟩; have N4 := Lib.hid (N3.out.below hb)
              clear hb)
 refine (HM.out _ N4.out).mono ?_
 rintro e w5 ⟨A2, c2, rfl, ho, hb⟩; have O := Lib.hid ho; have N5 := Lib.hid (N4.out.below hb); have S4 := N4.out.be.size; have L4 := N4.out.r3.lt; clear ho hb x1 t1; have x3 := N5.out.r3.cell; have g3 := N5.out.r3.free; have t3 := N5.out.r3.lt; go_wp2
 refine bodyPost_ret (vO rfl rfl ((N5.out.r3.dK _ _ _).alloc _)) rfl ⟨_, _, rfl, ?_, (Below.dK N5.out.be (by omega) _ _ _).alloc (by have := N5.out.be.size; simp; omega) _⟩
 exact ((O.out.dK (by omega) _ _ _).alloc _).lower (by omega)
theorem Io (r c : Nat) (A A' : Option Addr) (cp cp' : Nat) (l m : List Int) (w : World) (hr : r ≤ 8) (hc : c ≤ 8) (hl : l.length = r * c) (hm : m.length = r * c) (hA : Rd w A l) (hA' : Rd w A' m) (hcp : l.length ≤ cp) (y9 : m.length ≤ cp') :
 Calls Tryz.prog 153 #[.agg #[I r, I c, (.slice A l.length cp)], .agg #[I r, I c, (.slice A' m.length cp')]] w fun e w' => ∃ v, e = .returned (.tuple #[.agg #[I r, I c, v], .bool (kZ jL r c l m), I 0]) ∧ Own w' w.heap.size v (kC jL r c l m) ∧ Below w.heap.size w w' := by
 have N : Hid (bD w [(29, #[I r, I c, (.slice A l.length cp)]), (29, #[I r, I c, (.slice A' m.length cp')]), (29, #[I 0, I 0, .slice none 0 0])] (((w.alloc (.cells #[I r, I c, (.slice A l.length cp)] 29)).alloc (.cells #[I r, I c, (.slice A' m.length cp')] 29)).alloc (.cells #[I 0, I 0, .slice none 0 0] 29))) := Lib.hid ((((bD.none w).push (by simp) _ _).push (by simp) _ _).push (by simp) _ _); have HM := Lib.hid (UA r c A A' cp cp' l m _ hr hc hl hm (hA.below N.out.be) (hA'.below N.out.be) hcp y9)
 obtain ⟨L, hL⟩ : ∃ L, kC jL r c l m = L := ⟨_, rfl⟩
 obtain ⟨b, hb⟩ : ∃ b, kZ jL r c l m = b := ⟨_, rfl⟩
 rw [hL, hb] at HM ⊢; clear hr hc hl hm hA hA' hcp y9 hL hb
 go_enter Tryz.func153, Tryz.ntmps153
 go_wp2_with fail
 refine HM.out.mono ?_
 rintro e w5 ⟨A2, c2, rfl, ho, hb⟩; have O := Lib.hid ho; have N5 := Lib.hid (N.out.below hb); clear ho hb N HM; have x3 := N5.out.r2.cell; have g3 := N5.out.r2.free; have t3 := N5.out.r2.lt; go_wp2
 refine bodyPost_ret (vO rfl rfl (N5.out.r2.dK _ _ _)) rfl ⟨_, rfl, ?_, Below.dK N5.out.be (by omega) _ _ _⟩
 exact (O.out.dK (by simp) _ _ _).lower (by simp; omega)
theorem VD (r c : Nat) (A A' : Option Addr) (cp cp' : Nat) (l m : List Int) (w : World) (hr : r ≤ 8) (hc : c ≤ 8) (hl : l.length = r * c) (hm : m.length = r * c) (hA : Rd w A l) (hA' : Rd w A' m) (hcp : l.length ≤ cp) (y9 : m.length ≤ cp') :
 Calls Tryz.prog 205 #[.agg #[I r, I c, (.slice A l.length cp)], .agg #[I r, I c, (.slice A' m.length cp')]] w fun e w' => ∃ v, e = .returned (.tuple #[.agg #[I r, I c, v], .bool (kZ ng r c l m), I 0]) ∧ Own w' w.heap.size v (kC ng r c l m) ∧ Below w.heap.size w w' := by
 have N : Hid (bD w [(29, #[I r, I c, (.slice A l.length cp)]), (29, #[I r, I c, (.slice A' m.length cp')]), (29, #[I 0, I 0, .slice none 0 0])] (((w.alloc (.cells #[I r, I c, (.slice A l.length cp)] 29)).alloc (.cells #[I r, I c, (.slice A' m.length cp')] 29)).alloc (.cells #[I 0, I 0, .slice none 0 0] 29))) := Lib.hid ((((bD.none w).push (by simp) _ _).push (by simp) _ _).push (by simp) _ _); have HM := Lib.hid (Uz r c A A' cp cp' l m _ hr hc hl hm (hA.below N.out.be) (hA'.below N.out.be) hcp y9)
 obtain ⟨L, hL⟩ : ∃ L, kC ng r c l m = L := ⟨_, rfl⟩
 obtain ⟨b, hb⟩ : ∃ b, kZ ng r c l m = b := ⟨_, rfl⟩
 rw [hL, hb] at HM ⊢; clear hr hc hl hm hA hA' hcp y9 hL hb
 go_enter Tryz.func205, Tryz.ntmps205
 go_wp2_with fail
 refine HM.out.mono ?_
 rintro e w5 ⟨A2, c2, rfl, ho, hb⟩; have O := Lib.hid ho; have N5 := Lib.hid (N.out.below hb); clear ho hb N HM; have x3 := N5.out.r2.cell; have g3 := N5.out.r2.free; have t3 := N5.out.r2.lt; go_wp2
 refine bodyPost_ret (vO rfl rfl (N5.out.r2.dK _ _ _)) rfl ⟨_, rfl, ?_, Below.dK N5.out.be (by omega) _ _ _⟩
 exact (O.out.dK (by simp) _ _ _).lower (by simp; omega)
end Go.Proofs.YtcfobekkchhbbaaGreat.KK

