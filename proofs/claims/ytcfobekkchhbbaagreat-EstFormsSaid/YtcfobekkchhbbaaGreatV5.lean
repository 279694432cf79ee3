import Derived.Test.YtcfobekkchhbbaaGreatV2
import Derived.Test.YtcfobekkchhbbaaGreatV4
/- Joined and thinned by a program of this session's own (wip/pack2.py) out of its texts (wip/ of its repo); parts were laid by its own program (wip/print-patch.py over the kit's print) out of the translation; Lean checks all. -/
set_option maxRecDepth 100000
set_option maxHeartbeats 8000000
namespace Go.Proofs.YtcfobekkchhbbaaGreat.PQ
open Go.RowKit Go.Proofs.af.aU Go.Proofs.af.a_ Go.Proofs.af.bf
attribute [local go_sem] jq jm kJ kH iM iL jo jl
set_option linter.unusedVariables false
set_option linter.unusedSimpArgs false
mutual
def bG.j0 : Nat → List Int → List Int → Bool → Int → Int → List Int → Option (Int × Int × List Int × Int × Int × List Int × Int)
 | 0, _, _, _, _, _, _ => none
 | k + 1, x0, x1, x23, CG, CB, Cm => if x23 = true then (some (0, 0, ([] : List Int), 0, 0, ([] : List Int), 1)) else (bG.l0 k x0 x1 0 CG CB Cm)
def bG.l0 : Nat → List Int → List Int → Int → Int → Int → List Int → Option (Int × Int × List Int × Int × Int × List Int × Int)
 | 0, _, _, _, _, _, _ => none
 | k + 1, x0, x1, x8, CG, CB, Cm => if x8 < (x0.length : Int) then (if 0 ≤ x8 then ((dQ.f (rd x0 x8)).bind fun t213 => (if t213 = true then (if x8 < (x1.length : Int) then (if (rd x1 x8) < 0 then (some (0, 0, ([] : List Int), 0, 0, ([] : List Int), 1)) else (bG.l0 k x0 x1 (wrap64 (x8 + 1)) CG CB Cm)) else (none)) else (some (0, 0, ([] : List Int), 0, 0, ([] : List Int), 1)))) else (none)) else ((some (([] : List Int) : List Int)).bind fun Jy => (if Jy.length + x0.length < 17592186044416 then (some ((x0.length : Int), 1, (Jy ++ x0), CG, CB, Cm, 0)) else (none)))
end
def bG.f (k : Nat) (l0 : List Int) (l1 : List Int) : Option (Int × Int × List Int × Int × Int × List Int × Int) := (bC.f k l1).bind fun ru => (if ru.2.2.2 = 0 then (bG.j0 k l0 l1 ((l0.length : Int) != (l1.length : Int)) ru.1 ru.2.1 ru.2.2.1) else (bG.j0 k l0 l1 true ru.1 ru.2.1 ru.2.2.1))
def bG.T10 : Bool × List (List Nat × List Nat) := (true, [([], []), ([0], [0]), ([], []), ([], []), ([2, 3], [2, 3]), ([1, 4], [1, 4]), ([], []), ([5, 6], [5, 6]), ([7, 4, 0, 1, 2, 3, 4, 5, 6, 7], [7]), ([8, 0, 1, 2, 3, 4, 5, 6, 7, 8], [])])
def bG.B10 : List Nat := [0, 1, 0, 0, 12, 31, 0, 127, 255, 511]
theorem bG.aaB : pO .any (opsOf Tryz.f34 10) = bG.T10 := by kernel_rfl
theorem bG.Zw : qc bG.T10.2 bG.B10 = true := by kernel_rfl
theorem bG.calls (k : Nat) (A0 : Option Addr) (c0 : Nat) (l0 : List Int) (A1 : Option Addr) (c1 : Nat) (l1 : List Int) (r1 : Int) (r2 : Int) (r3 : List Int) (r4 : Int) (r5 : Int) (r6 : List Int) (r7 : Int) (w : World) (hr0 : Kd.C (Kd.int .i64) w A0 l0.length l0) (hc0 : l0.length ≤ c0) (hr1 : Kd.C (Kd.int .i64) w A1 l1.length l1) (hc1 : l1.length ≤ c1) (h : bG.f k l0 l1 = some (r1, r2, r3, r4, r5, r6, r7)) :
 Calls Tryz.prog 34 #[.slice A0 l0.length c0, .slice A1 l1.length c1] w fun e w' => ∃ zS v5_ : Value, e = .returned (.tuple #[.agg #[.int .i64 r1, .int .i64 r2, zS, .int .i64 r4, .int .i64 r5, v5_], .int .i64 r7]) ∧ Kd.R (Kd.int .i64) 22 w' w.heap.size (fun k_ => some k_ ≠ (v5_ : Value).ownBlock) zS r3 ∧ Kd.R (Kd.int .i64) 22 w' w.heap.size (fun k_ => some k_ ≠ (zS : Value).ownBlock) v5_ r6 ∧ Below w.heap.size w w' := by
 have YS := Tryz.underlying31; have Cc := Tryz.underlying29; have HR0 := aj.mk hr0; have HC0 := aj.mk hc0; clear hr0 hc0; have HR1 := aj.mk hr1; have HC1 := aj.mk hc1; clear hr1 hc1; have HB := aj.mk (Below.refl w.heap.size w); have H : ((bC.f k l1).bind fun ru => (if ru.2.2.2 = 0 then (bG.j0 k l0 l1 ((l0.length : Int) != (l1.length : Int)) ru.1 ru.2.1 ru.2.2.1) else (bG.j0 k l0 l1 true ru.1 ru.2.1 ru.2.2.1))) = some (r1, r2, r3, r4, r5, r6, r7) := h; clear h; replace H := Option.bind_eq_some_iff.mp H; obtain ⟨⟨t205, t206, t207, t210⟩, zO, H⟩ := H; replace H : (if t210 = 0 then (bG.j0 k l0 l1 ((l0.length : Int) != (l1.length : Int)) t205 t206 t207) else (bG.j0 k l0 l1 true t205 t206 t207)) = some (r1, r2, r3, r4, r5, r6, r7) := H; have A3 := aj.mk zO; clear zO; have Vd := aj.mk H; clear H
 go_enter Tryz.func34, Tryz.ntmps34
 go_upto_region 2 with (first | ((with_reducible refine dH (N := 4) rfl ?_); (try (refine kK (by rfl) ?_; dsimp only)); refine dw ?hg (N := 4) ?hd (cs := #[.int .i64 0, .int .i64 0, .slice none 0 0, .int .i64 0, .int .i64 0, .slice none 0 0]) (t := 31) ?hr ?_; (case hd => rfl); (case hg => rfl); (case hr => first | (go_simp; done) | (go_simp; rfl)); intro dR hg w5 hbox hb; have bJ := aj.mk (aV (by repeat (first | (with_reducible first | exact HB.out | apply ak | apply ah | apply au) | exact HB.out)) hb); have dP := aj.mk (hbox); have dY := aj.mk ((by rw [hg]; exact (bg (by repeat (first | (with_reducible first | exact HB.out | apply ak | apply ah | apply au) | exact HB.out))) : w.heap.size ≤ dR)); have fH := aj.mk ((by rw [hg]; exact (bg (by repeat (first | (with_reducible first | exact HB.out | apply ak | apply ah | apply au) | exact HB.out))) : w.heap.size ≤ dR)); clear HB; have HB := bJ; have dF := dP; have akw := dY; have oL := fH; clear bJ dP dY fH; clear hb hbox hg) | ((with_reducible refine aJ (f := 76) rfl ?_); refine bF (some 12) rfl rfl Tryz.func76 (by kernel_rfl) rfl #[.slice A1 l1.length c1] rfl (by (try simp only [List.map_toArray, List.map_cons, List.map_nil]); first | done | rfl | (simp only [List.length_drop, List.length_take]; rfl)) ?_; (with_reducible refine (bC.calls k _ _ l1 t205 t206 t207 t210 _ ?gX ?gW A3.out).mono ?_); (case gX => repeat (first | exact (Kd.gJ HR1.out HB.out) | (with_reducible refine Kd.iD ?_ _) | (with_reducible refine Kd.iC ?_ _) | (with_reducible refine Kd.jv ?_))); (case gW => exact HC1.out); rintro e w6 ⟨v208, rfl, ho0, hb⟩; refine ⟨_, rfl, ?_⟩; have bJ := aj.mk (Kd.mY ho0 (bg (by repeat (first | (with_reducible first | exact HB.out | apply ak | apply ah | apply au | refine aG ?_ oL.out) | exact HB.out)))); have dP := aj.mk (bH (g := dR) (o := .cells #[.int .i64 0, .int .i64 0, .slice none 0 0, .int .i64 0, .int .i64 0, .slice none 0 0] 31 (0, 0)) (by (with_reducible repeat (first | refine aA ?_ _ | refine aH ?_ | refine aC ?_ _)); exact dF.out) hb); have dY := aj.mk (aV (by repeat (first | (with_reducible first | exact HB.out | apply ak | apply ah | apply au | refine aG ?_ oL.out) | exact HB.out)) hb); clear dF; clear HB; have G8 := bJ; have dF := dP; have HB := dY; clear bJ dP dY; (try clear hb); (try clear hb2); (try clear hk); (try clear hi); (try clear ho0)) | ((with_reducible refine dH (N := 6) rfl ?_); (try (refine kK (by rfl) ?_; dsimp only)); refine dw ?hg (N := 6) ?hd (cs := #[.int .i64 0, .int .i64 0, .slice none 0 0]) (t := 29) ?hr ?_; (case hd => rfl); (case hg => rfl); (case hr => first | (go_simp; done) | (go_simp; rfl)); intro mg hg w7 hbox hb; have bJ := aj.mk (Kd.oI (by (with_reducible repeat (first | apply Kd.dO | apply Kd.dN | apply Kd.eG)); exact G8.out) hb); have dP := aj.mk (bH (g := dR) (o := .cells #[.int .i64 0, .int .i64 0, .slice none 0 0, .int .i64 0, .int .i64 0, .slice none 0 0] 31 (0, 0)) (by (with_reducible repeat (first | refine aA ?_ _ | refine aH ?_ | refine aC ?_ _)); exact dF.out) hb); have dY := aj.mk (aV (by repeat (first | (with_reducible first | exact HB.out | apply ak | apply ah | apply au | refine aG ?_ oL.out) | exact HB.out)) hb); have fH := aj.mk (hbox); have jM := aj.mk ((by rw [hg]; exact (bg (by repeat (first | (with_reducible first | exact HB.out | apply ak | apply ah | apply au | refine aG ?_ oL.out) | exact HB.out))) : w.heap.size ≤ mg)); have kQ := aj.mk ((by rw [hg]; exact (bg (by repeat (first | (with_reducible first | exact HB.out | apply ak | apply ah | apply au | refine aG ?_ oL.out) | exact HB.out))) : w.heap.size ≤ mg)); have kY := aj.mk ((by rw [hg]; exact Nat.ne_of_lt (fB (g := dR) (o := .cells #[.int .i64 0, .int .i64 0, .slice none 0 0, .int .i64 0, .int .i64 0, .slice none 0 0] 31 (0, 0)) (by (with_reducible repeat (first | refine aA ?_ _ | refine aH ?_ | refine aC ?_ _)); exact dF.out)) : dR ≠ mg)); have uV := aj.mk ((by rw [hg]; exact Nat.ne_of_gt (fB (g := dR) (o := .cells #[.int .i64 0, .int .i64 0, .slice none 0 0, .int .i64 0, .int .i64 0, .slice none 0 0] 31 (0, 0)) (by (with_reducible repeat (first | refine aA ?_ _ | refine aH ?_ | refine aC ?_ _)); exact dF.out)) : mg ≠ dR)); clear G8; clear dF; clear HB; have G8 := bJ; have dF := dP; have HB := dY; have ig := fH; have akv := jM; have sK := kQ; have iG := kY; have dZ := uV; clear bJ dP dY fH jM kQ kY uV; clear hb hbox hg; have YY := dZ.out; have YX := iG.out; have pW : w7.cell? ⟨mg, 0, none⟩ = some (.int .i64 0) := (az ig.out 0).trans rfl; have qX : w7.cell? ⟨mg, 1, none⟩ = some (.int .i64 0) := (az ig.out 1).trans rfl; have qW : w7.cell? ⟨mg, 2, none⟩ = some (.slice none 0 0) := (az ig.out 2).trans rfl; have pV := ay ig.out 0; have qV := ay ig.out 1; have qU := ay ig.out 2; obtain ⟨wP, wu, aht⟩ := Kd.je G8.out; subst aht))
 (try simp only [Act.put, List.setIfInBounds_toArray, List.set_cons_zero, List.set_cons_succ])
 go_cut [23] (fun v23 wc => ∃ (kq : Nat) (Ou : Bool), v23 = .bool Ou ∧ aj (bG.j0 kq l0 l1 Ou t205 t206 t207 = some (r1, r2, r3, r4, r5, r6, r7)) ∧ aj (kq ≤ k) ∧ aj (Kd.R (Kd.int .i64) 22 wc w.heap.size (fun _ => True) (.slice wP t207.length wu) t207) ∧ aj (wc.heap[dR]? = some (.cells #[.int .i64 0, .int .i64 0, (.slice none 0 0), .int .i64 0, .int .i64 0, (.slice none 0 0)] 31 (0, 0))) ∧ aj (wc.heap[mg]? = some (.cells #[.int .i64 t205, .int .i64 t206, (.slice wP t207.length wu)] 29 (0, 0))) ∧ aj (Below w.heap.size w wc))
 case first =>
  have H := Vd.out; clear Vd
  by_cases c11 : t210 = 0
  · rw [if_pos c11] at H
    have qZ : (t210 == 0) = true := beq_iff_eq.mpr c11; have KP : (t210 != 0) = false := bne_eq_false_iff_eq.mpr c11; clear c11
    (first | rw [qZ] | (simp only [bT, b_]; rw [qZ]) | skip)
    have H' := aj.mk H; clear H; go_wp2
    go_meet
    case rel => exact ⟨_, (((l0.length : Int) != (l1.length : Int))), (by first | rfl | (simp; done) | (simp [*]; done)), H', ⟨by first | omega | exact Nat.le_refl _⟩, ⟨by (with_reducible repeat (first | apply Kd.dO | apply Kd.dN | apply Kd.eG)); exact Kd.jc (Kd.gI (p := ⟨mg, 2, none⟩) (Kd.gI (p := ⟨mg, 1, none⟩) (Kd.gI (p := ⟨mg, 0, none⟩) (Kd.l_ G8.out ig.out (by decide)) (fun _ hk => hk.2) (.int .i64 t205)) (fun _ hk => hk.2) (.int .i64 t206)) (fun _ hk => hk.2) (.slice wP t207.length wu)) (fun _ hk => trivial)⟩, ⟨by (with_reducible repeat (first | refine aA ?_ _ | refine aH ?_ | refine aC ?_ _)); refine iw ?_ iG.out _; (with_reducible repeat (first | refine aA ?_ _ | refine aH ?_ | refine aC ?_ _)); refine iw ?_ iG.out _; (with_reducible repeat (first | refine aA ?_ _ | refine aH ?_ | refine aC ?_ _)); refine iw ?_ iG.out _; (with_reducible repeat (first | refine aA ?_ _ | refine aH ?_ | refine aC ?_ _)); exact dF.out⟩, ⟨by (with_reducible repeat (first | refine aA ?_ _ | refine aH ?_ | refine aC ?_ _)); refine bM (cs := #[.int .i64 t205, .int .i64 t206, .slice none 0 0]) ?_ 2 _ rfl; (with_reducible repeat (first | refine aA ?_ _ | refine aH ?_ | refine aC ?_ _)); refine bM (cs := #[.int .i64 t205, .int .i64 0, .slice none 0 0]) ?_ 1 _ rfl; (with_reducible repeat (first | refine aA ?_ _ | refine aH ?_ | refine aC ?_ _)); refine bM (cs := #[.int .i64 0, .int .i64 0, .slice none 0 0]) ?_ 0 _ rfl; (with_reducible repeat (first | refine aA ?_ _ | refine aH ?_ | refine aC ?_ _)); exact ig.out⟩, ⟨by repeat (first | (with_reducible first | exact HB.out | apply ak | apply ah | apply au | refine aG ?_ oL.out | refine aG ?_ sK.out) | exact HB.out)⟩⟩
  · rw [if_neg c11] at H
    have qZ : (t210 == 0) = false := beq_eq_false_iff_ne.mpr c11; have KP : (t210 != 0) = true := bne_iff_ne.mpr c11
    (first | rw [qZ] | (simp only [bT, b_]; rw [qZ]) | skip)
    have H' := aj.mk H; clear H; go_wp2
    go_meet
    case rel => exact ⟨_, (true), (by first | rfl | (simp; done) | (simp [*]; done)), H', ⟨by first | omega | exact Nat.le_refl _⟩, ⟨by (with_reducible repeat (first | apply Kd.dO | apply Kd.dN | apply Kd.eG)); exact Kd.jc (Kd.gI (p := ⟨mg, 2, none⟩) (Kd.gI (p := ⟨mg, 1, none⟩) (Kd.gI (p := ⟨mg, 0, none⟩) (Kd.l_ G8.out ig.out (by decide)) (fun _ hk => hk.2) (.int .i64 t205)) (fun _ hk => hk.2) (.int .i64 t206)) (fun _ hk => hk.2) (.slice wP t207.length wu)) (fun _ hk => trivial)⟩, ⟨by (with_reducible repeat (first | refine aA ?_ _ | refine aH ?_ | refine aC ?_ _)); refine iw ?_ iG.out _; (with_reducible repeat (first | refine aA ?_ _ | refine aH ?_ | refine aC ?_ _)); refine iw ?_ iG.out _; (with_reducible repeat (first | refine aA ?_ _ | refine aH ?_ | refine aC ?_ _)); refine iw ?_ iG.out _; (with_reducible repeat (first | refine aA ?_ _ | refine aH ?_ | refine aC ?_ _)); exact dF.out⟩, ⟨by (with_reducible repeat (first | refine aA ?_ _ | refine aH ?_ | refine aC ?_ _)); refine bM (cs := #[.int .i64 t205, .int .i64 t206, .slice none 0 0]) ?_ 2 _ rfl; (with_reducible repeat (first | refine aA ?_ _ | refine aH ?_ | refine aC ?_ _)); refine bM (cs := #[.int .i64 t205, .int .i64 0, .slice none 0 0]) ?_ 1 _ rfl; (with_reducible repeat (first | refine aA ?_ _ | refine aH ?_ | refine aC ?_ _)); refine bM (cs := #[.int .i64 0, .int .i64 0, .slice none 0 0]) ?_ 0 _ rfl; (with_reducible repeat (first | refine aA ?_ _ | refine aH ?_ | refine aC ?_ _)); exact ig.out⟩, ⟨by repeat (first | (with_reducible first | exact HB.out | apply ak | apply ah | apply au | refine aG ?_ oL.out | refine aG ?_ sK.out) | exact HB.out)⟩⟩
 case rest =>
  clear Vd; (try clear c1); (try clear p2); (try clear c3); (try clear c7); (try clear c8); (try clear c11); (try clear qZ); (try clear KP); (try clear pW); (try clear qX); (try clear qW); (try clear pV); (try clear qV); (try clear qU); obtain ⟨kq, Ou, rfl, HA, Ye, fK, dF, ig, HB⟩ := hcut
  cases kq with
  | zero => exact absurd HA.out (by simp [bG.j0])
  | succ XI =>
    have H := HA.out; clear HA; simp only [bG.j0] at H
    by_cases c12 : Ou = true
    · subst c12
      rw [if_pos rfl] at H; simp only [Option.some.injEq, Prod.mk.injEq] at H; obtain ⟨rfl, rfl, rfl, rfl, rfl, rfl, rfl⟩ := H; have aa5 := iG.out; have aa2 := dZ.out; have PI : wc.cell? ⟨dR, 0, none⟩ = some (.int .i64 0) := (az dF.out 0).trans rfl; have PE : wc.cell? ⟨dR, 1, none⟩ = some (.int .i64 0) := (az dF.out 1).trans rfl; have PD : wc.cell? ⟨dR, 2, none⟩ = some (.slice none 0 0) := (az dF.out 2).trans rfl; have WO : wc.cell? ⟨dR, 3, none⟩ = some (.int .i64 0) := (az dF.out 3).trans rfl; have WN : wc.cell? ⟨dR, 4, none⟩ = some (.int .i64 0) := (az dF.out 4).trans rfl; have WM : wc.cell? ⟨dR, 5, none⟩ = some (.slice none 0 0) := (az dF.out 5).trans rfl; have Pm := ay dF.out 0; have Pj := ay dF.out 1; have Ph := ay dF.out 2; have Wi := ay dF.out 3; have Wh := ay dF.out 4; have We := ay dF.out 5; go_wp2
      refine bodyPost_ret (ni rfl _ _ dR 31 #[.int .i64 0, .int .i64 0, .slice none 0 0, .int .i64 0, .int .i64 0, .slice none 0 0] (0, 0) _ rfl (by (with_reducible repeat (first | refine aA ?_ _ | refine aH ?_ | refine aC ?_ _)); refine bM (cs := #[.int .i64 0, .int .i64 0, .slice none 0 0, .int .i64 0, .int .i64 0, .slice none 0 0]) ?_ 5 _ rfl; (with_reducible repeat (first | refine aA ?_ _ | refine aH ?_ | refine aC ?_ _)); refine bM (cs := #[.int .i64 0, .int .i64 0, .slice none 0 0, .int .i64 0, .int .i64 0, .slice none 0 0]) ?_ 4 _ rfl; (with_reducible repeat (first | refine aA ?_ _ | refine aH ?_ | refine aC ?_ _)); refine bM (cs := #[.int .i64 0, .int .i64 0, .slice none 0 0, .int .i64 0, .int .i64 0, .slice none 0 0]) ?_ 3 _ rfl; (with_reducible repeat (first | refine aA ?_ _ | refine aH ?_ | refine aC ?_ _)); refine bM (cs := #[.int .i64 0, .int .i64 0, .slice none 0 0, .int .i64 0, .int .i64 0, .slice none 0 0]) ?_ 2 _ rfl; (with_reducible repeat (first | refine aA ?_ _ | refine aH ?_ | refine aC ?_ _)); refine bM (cs := #[.int .i64 0, .int .i64 0, .slice none 0 0, .int .i64 0, .int .i64 0, .slice none 0 0]) ?_ 1 _ rfl; (with_reducible repeat (first | refine aA ?_ _ | refine aH ?_ | refine aC ?_ _)); refine bM (cs := #[.int .i64 0, .int .i64 0, .slice none 0 0, .int .i64 0, .int .i64 0, .slice none 0 0]) ?_ 0 _ rfl; (with_reducible repeat (first | refine aA ?_ _ | refine aH ?_ | refine aC ?_ _)); exact dF.out) Tryz.underlying31 rfl (by kernel_rfl)) rfl ?_
      exact ⟨_, _, by first | rfl | (simp [aQ, aN] <;> rfl) | (simp [*, aQ, aN] <;> rfl), by first | exact Kd.t_ _ _ _ _ _ | exact Kd.zL _ _ _ _ _ | exact Kd.zF _ _ _ _ _ | exact Kd.zK _ _ _ _ _ | exact Kd.zH _ _ _ _ _, by first | exact Kd.t_ _ _ _ _ _ | exact Kd.zL _ _ _ _ _ | exact Kd.zF _ _ _ _ _ | exact Kd.zK _ _ _ _ _ | exact Kd.zH _ _ _ _ _, by repeat (first | (with_reducible first | exact HB.out | apply ak | apply ah | apply au | refine aG ?_ oL.out | refine aG ?_ sK.out) | exact HB.out)⟩
    · replace c12 := Bool.eq_false_iff.mpr c12
      subst c12
      have H1 : (bG.l0 XI l0 l1 0 t205 t206 t207) = some (r1, r2, r3, r4, r5, r6, r7) := by rw [if_neg (show ¬ (false = true) by decide)] at H; exact H
      clear H; have H := H1; clear H1; have H' := aj.mk H; clear H; go_wp2
      go_loopg [8] XI (fun kq v8 w' => ∃ (kP : Int) (ji : Int) (iF : Int) (fJ : Int) (eY : Int), v8 = .int .i64 kP ∧ aj (bG.l0 kq l0 l1 kP t205 t206 t207 = some (r1, r2, r3, r4, r5, r6, r7)) ∧ aj (kq ≤ XI) ∧ aj (Kd.R (Kd.int .i64) 22 w' w.heap.size (fun _ => True) (.slice wP t207.length wu) t207) ∧ aj (w'.heap[dR]? = some (.cells #[.int .i64 ji, .int .i64 iF, (.slice none 0 0), .int .i64 fJ, .int .i64 eY, (.slice none 0 0)] 31 (0, 0))) ∧ aj (w'.heap[mg]? = some (.cells #[.int .i64 t205, .int .i64 t206, (.slice wP t207.length wu)] 29 (0, 0))) ∧ aj (Below w.heap.size w w'))
      case atStart => exact ⟨(0), (0), (0), (0), (0), (by first | rfl | (simp; done) | (simp [*]; done)), H', ⟨Nat.le_refl _⟩, ⟨by (with_reducible repeat (first | apply Kd.dO | apply Kd.dN | apply Kd.eG)); exact fK.out⟩, ⟨by (with_reducible repeat (first | refine aA ?_ _ | refine aH ?_ | refine aC ?_ _)); exact dF.out⟩, ⟨by (with_reducible repeat (first | refine aA ?_ _ | refine aH ?_ | refine aC ?_ _)); exact ig.out⟩, ⟨by repeat (first | (with_reducible first | exact HB.out | apply ak | apply ah | apply au | refine aG ?_ oL.out | refine aG ?_ sK.out) | exact HB.out)⟩⟩
      case round =>
       clear H'; (try clear c1); (try clear p2); (try clear c3); (try clear c7); (try clear c8); (try clear c11); (try clear qZ); (try clear KP); (try clear c12); (try clear c13); (try clear PI); (try clear PE); (try clear PD); (try clear WO); (try clear WN); (try clear WM); (try clear pW); (try clear qX); (try clear qW); (try clear Pm); (try clear Pj); (try clear Ph); (try clear Wi); (try clear Wh); (try clear We); (try clear pV); (try clear qV); (try clear qU); (try clear p2); obtain ⟨kP, ji, iF, fJ, eY, rfl, HA, Dj, fK, dF, ig, HB⟩ := hrel
       cases gk with
       | zero => exact absurd HA.out (by simp [bG.l0])
       | succ k2 =>
         have H := HA.out; clear HA; simp only [bG.l0] at H
         by_cases c15 : kP < (l0.length : Int)
         · rw [if_pos c15] at H
           have Gy : decide (kP < (l0.length : Int)) = true := decide_eq_true c15; clear c15
           by_cases c16 : 0 ≤ kP
           · rw [if_pos c16] at H
             have EG : decide (0 ≤ kP) = true := decide_eq_true c16; clear c16; replace H := Option.bind_eq_some_iff.mp H; obtain ⟨t213, adA, H⟩ := H; replace H : (if t213 = true then (if kP < (l1.length : Int) then (if (rd l1 kP) < 0 then (some (0, 0, ([] : List Int), 0, 0, ([] : List Int), 1)) else (bG.l0 k2 l0 l1 (wrap64 (kP + 1)) t205 t206 t207)) else (none)) else (some (0, 0, ([] : List Int), 0, 0, ([] : List Int), 1))) = some (r1, r2, r3, r4, r5, r6, r7) := H; have A17 := aj.mk adA; clear adA
             by_cases c18 : t213 = true
             · subst c18
               rw [if_pos rfl] at H
               by_cases c19 : kP < (l1.length : Int)
               · rw [if_pos c19] at H
                 have KN : decide (kP < (l1.length : Int)) = true := decide_eq_true c19; clear c19
                 by_cases c20 : (rd l1 kP) < 0
                 · rw [if_pos c20] at H
                   have UE : decide ((rd l1 kP) < 0) = true := decide_eq_true c20; clear c20; simp only [Option.some.injEq, Prod.mk.injEq] at H; obtain ⟨rfl, rfl, rfl, rfl, rfl, rfl, rfl⟩ := H; have DI : 0 ≤ (kP : Int) := of_decide_eq_true (by first | (with_reducible assumption) | assumption); have DD : kP < (l0.length : Int) := of_decide_eq_true (by first | (with_reducible assumption) | assumption); obtain ⟨XZ, e212, nX⟩ := Kd.gZ HR0.out kP DI DD
                   cases e212
                   replace nX := (HB.out.cell (World.block_lt_of_cell? w _ nX)).trans nX; replace DI := eq_true DI; replace DD := eq_true DD
                   go_wp2_with (first | ((with_reducible refine aJ (f := 51) rfl ?_); refine bF (some 35) rfl rfl Tryz.func51 (by kernel_rfl) rfl #[.int .i64 (rd l0 kP)] rfl (by (try simp only [List.map_toArray, List.map_cons, List.map_nil]); first | done | rfl | (simp only [List.length_drop, List.length_take]; rfl)) ?_; (with_reducible refine (dQ.calls (rd l0 kP) true _ A17.out).mono ?_); rintro e w' ⟨rfl, ⟨nd, rfl⟩⟩; refine ⟨_, rfl, ?_⟩; (try (rw [uK wr]; generalize DW : World.drewN wr _ = wr; have bJ : aj (Kd.R (Kd.int .i64) 22 wr w.heap.size (fun _ => True) (.slice wP t207.length wu) t207) := ⟨by rw [← DW]; exact (by (with_reducible repeat (first | apply Kd.dO | apply Kd.dN | apply Kd.eG)); exact fK.out)⟩; have dP : aj (wr.heap[dR]? = some (.cells #[.int .i64 ji, .int .i64 iF, .slice none 0 0, .int .i64 fJ, .int .i64 eY, .slice none 0 0] 31 (0, 0))) := ⟨by rw [← DW]; exact (by (with_reducible repeat (first | refine aA ?_ _ | refine aH ?_ | refine aC ?_ _)); exact dF.out)⟩; have dY : aj (wr.heap[mg]? = some (.cells #[.int .i64 t205, .int .i64 t206, .slice wP t207.length wu] 29 (0, 0))) := ⟨by rw [← DW]; exact (by (with_reducible repeat (first | refine aA ?_ _ | refine aH ?_ | refine aC ?_ _)); exact ig.out)⟩; have fH : aj (Below w.heap.size w wr) := ⟨by rw [← DW]; exact (by repeat (first | (with_reducible first | exact HB.out | apply ak | apply ah | apply au | refine aG ?_ oL.out | refine aG ?_ sK.out) | exact HB.out))⟩; clear fK dF ig HB DW; have fK := bJ; have dF := dP; have ig := dY; have HB := fH; clear bJ dP dY fH)); have MS : 0 ≤ (kP : Int) := of_decide_eq_true (by first | (with_reducible assumption) | assumption); have MH : kP < (l1.length : Int) := of_decide_eq_true (by first | (with_reducible assumption) | assumption); obtain ⟨abP, e214, uG⟩ := Kd.gZ HR1.out kP MS MH; cases e214; replace uG := (HB.out.cell (World.block_lt_of_cell? w _ uG)).trans uG; replace MS := eq_true MS; replace MH := eq_true MH; have ai4 := iG.out; have aiW := dZ.out; have afd : wr.cell? ⟨dR, 0, none⟩ = some (.int .i64 ji) := (az dF.out 0).trans rfl; have afc : wr.cell? ⟨dR, 1, none⟩ = some (.int .i64 iF) := (az dF.out 1).trans rfl; have afb : wr.cell? ⟨dR, 2, none⟩ = some (.slice none 0 0) := (az dF.out 2).trans rfl; have afa : wr.cell? ⟨dR, 3, none⟩ = some (.int .i64 fJ) := (az dF.out 3).trans rfl; have ae_ : wr.cell? ⟨dR, 4, none⟩ = some (.int .i64 eY) := (az dF.out 4).trans rfl; have ae9 : wr.cell? ⟨dR, 5, none⟩ = some (.slice none 0 0) := (az dF.out 5).trans rfl; have aey := ay dF.out 0; have aex := ay dF.out 1; have aew := ay dF.out 2; have aev := ay dF.out 3; have aeu := ay dF.out 4; have aet := ay dF.out 5))
                   refine bodyPost_ret (ni rfl _ _ dR 31 #[.int .i64 0, .int .i64 0, .slice none 0 0, .int .i64 0, .int .i64 0, .slice none 0 0] (0, 0) _ rfl (by (with_reducible repeat (first | refine aA ?_ _ | refine aH ?_ | refine aC ?_ _)); refine bM (cs := #[.int .i64 0, .int .i64 0, .slice none 0 0, .int .i64 0, .int .i64 0, .slice none 0 0]) ?_ 5 _ rfl; (with_reducible repeat (first | refine aA ?_ _ | refine aH ?_ | refine aC ?_ _)); refine bM (cs := #[.int .i64 0, .int .i64 0, .slice none 0 0, .int .i64 0, .int .i64 eY, .slice none 0 0]) ?_ 4 _ rfl; (with_reducible repeat (first | refine aA ?_ _ | refine aH ?_ | refine aC ?_ _)); refine bM (cs := #[.int .i64 0, .int .i64 0, .slice none 0 0, .int .i64 fJ, .int .i64 eY, .slice none 0 0]) ?_ 3 _ rfl; (with_reducible repeat (first | refine aA ?_ _ | refine aH ?_ | refine aC ?_ _)); refine bM (cs := #[.int .i64 0, .int .i64 0, .slice none 0 0, .int .i64 fJ, .int .i64 eY, .slice none 0 0]) ?_ 2 _ rfl; (with_reducible repeat (first | refine aA ?_ _ | refine aH ?_ | refine aC ?_ _)); refine bM (cs := #[.int .i64 0, .int .i64 iF, .slice none 0 0, .int .i64 fJ, .int .i64 eY, .slice none 0 0]) ?_ 1 _ rfl; (with_reducible repeat (first | refine aA ?_ _ | refine aH ?_ | refine aC ?_ _)); refine bM (cs := #[.int .i64 ji, .int .i64 iF, .slice none 0 0, .int .i64 fJ, .int .i64 eY, .slice none 0 0]) ?_ 0 _ rfl; (with_reducible repeat (first | refine aA ?_ _ | refine aH ?_ | refine aC ?_ _)); exact dF.out) Tryz.underlying31 rfl (by kernel_rfl)) rfl ?_
                   exact ⟨_, _, by first | rfl | (simp [aQ, aN] <;> rfl) | (simp [*, aQ, aN] <;> rfl), by first | exact Kd.t_ _ _ _ _ _ | exact Kd.zL _ _ _ _ _ | exact Kd.zF _ _ _ _ _ | exact Kd.zK _ _ _ _ _ | exact Kd.zH _ _ _ _ _, by first | exact Kd.t_ _ _ _ _ _ | exact Kd.zL _ _ _ _ _ | exact Kd.zF _ _ _ _ _ | exact Kd.zK _ _ _ _ _ | exact Kd.zH _ _ _ _ _, by repeat (first | (with_reducible first | exact HB.out | apply ak | apply ah | apply au | refine aG ?_ oL.out | refine aG ?_ sK.out) | exact HB.out)⟩
                 · rw [if_neg c20] at H
                   have UE : decide ((rd l1 kP) < 0) = false := decide_eq_false c20; clear c20; have H' := aj.mk H; clear H; have DI : 0 ≤ (kP : Int) := of_decide_eq_true (by first | (with_reducible assumption) | assumption); have DD : kP < (l0.length : Int) := of_decide_eq_true (by first | (with_reducible assumption) | assumption); obtain ⟨XZ, e212, nX⟩ := Kd.gZ HR0.out kP DI DD
                   cases e212
                   replace nX := (HB.out.cell (World.block_lt_of_cell? w _ nX)).trans nX; replace DI := eq_true DI; replace DD := eq_true DD
                   go_wp2_with (first | ((with_reducible refine aJ (f := 51) rfl ?_); refine bF (some 35) rfl rfl Tryz.func51 (by kernel_rfl) rfl #[.int .i64 (rd l0 kP)] rfl (by (try simp only [List.map_toArray, List.map_cons, List.map_nil]); first | done | rfl | (simp only [List.length_drop, List.length_take]; rfl)) ?_; (with_reducible refine (dQ.calls (rd l0 kP) true _ A17.out).mono ?_); rintro e w' ⟨rfl, ⟨nd, rfl⟩⟩; refine ⟨_, rfl, ?_⟩; have MS : 0 ≤ (kP : Int) := of_decide_eq_true (by first | (with_reducible assumption) | assumption); have MH : kP < (l1.length : Int) := of_decide_eq_true (by first | (with_reducible assumption) | assumption); obtain ⟨abP, e214, uG⟩ := Kd.gZ HR1.out kP MS MH; cases e214; replace uG := (HB.out.cell (World.block_lt_of_cell? w _ uG)).trans uG; replace MS := eq_true MS; replace MH := eq_true MH))
                   go_roundg k2
                   case measure => have := Ye.out; have := Dj.out; omega
                   case rel => exact ⟨(wrap64 (kP + 1)), (ji), (iF), (fJ), (eY), (by first | rfl | (simp; done) | (simp [*]; done)), H', ⟨by have := Ye.out; have := Dj.out; omega⟩, ⟨by (with_reducible repeat (first | apply Kd.dO | apply Kd.dN | apply Kd.eG)); exact fK.out⟩, ⟨by (with_reducible repeat (first | refine aA ?_ _ | refine aH ?_ | refine aC ?_ _)); exact dF.out⟩, ⟨by (with_reducible repeat (first | refine aA ?_ _ | refine aH ?_ | refine aC ?_ _)); exact ig.out⟩, ⟨by repeat (first | (with_reducible first | exact HB.out | apply ak | apply ah | apply au | refine aG ?_ oL.out | refine aG ?_ sK.out) | exact HB.out)⟩⟩
               · rw [if_neg c19] at H
                 exact absurd H (by simp)
             · replace c18 := Bool.eq_false_iff.mpr c18
               subst c18
               have H1 : (some (0, 0, ([] : List Int), 0, 0, ([] : List Int), 1)) = some (r1, r2, r3, r4, r5, r6, r7) := by rw [if_neg (show ¬ (false = true) by decide)] at H; exact H
               clear H; have H := H1; clear H1; simp only [Option.some.injEq, Prod.mk.injEq] at H; obtain ⟨rfl, rfl, rfl, rfl, rfl, rfl, rfl⟩ := H; have DI : 0 ≤ (kP : Int) := of_decide_eq_true (by first | (with_reducible assumption) | assumption); have DD : kP < (l0.length : Int) := of_decide_eq_true (by first | (with_reducible assumption) | assumption); obtain ⟨XZ, e212, nX⟩ := Kd.gZ HR0.out kP DI DD
               cases e212
               replace nX := (HB.out.cell (World.block_lt_of_cell? w _ nX)).trans nX; replace DI := eq_true DI; replace DD := eq_true DD
               go_wp2_with (first | ((with_reducible refine aJ (f := 51) rfl ?_); refine bF (some 35) rfl rfl Tryz.func51 (by kernel_rfl) rfl #[.int .i64 (rd l0 kP)] rfl (by (try simp only [List.map_toArray, List.map_cons, List.map_nil]); first | done | rfl | (simp only [List.length_drop, List.length_take]; rfl)) ?_; (with_reducible refine (dQ.calls (rd l0 kP) false _ A17.out).mono ?_); rintro e w' ⟨rfl, ⟨nd, rfl⟩⟩; refine ⟨_, rfl, ?_⟩; (try (rw [uK wr]; generalize DW : World.drewN wr _ = wr; have bJ : aj (Kd.R (Kd.int .i64) 22 wr w.heap.size (fun _ => True) (.slice wP t207.length wu) t207) := ⟨by rw [← DW]; exact (by (with_reducible repeat (first | apply Kd.dO | apply Kd.dN | apply Kd.eG)); exact fK.out)⟩; have dP : aj (wr.heap[dR]? = some (.cells #[.int .i64 ji, .int .i64 iF, .slice none 0 0, .int .i64 fJ, .int .i64 eY, .slice none 0 0] 31 (0, 0))) := ⟨by rw [← DW]; exact (by (with_reducible repeat (first | refine aA ?_ _ | refine aH ?_ | refine aC ?_ _)); exact dF.out)⟩; have dY : aj (wr.heap[mg]? = some (.cells #[.int .i64 t205, .int .i64 t206, .slice wP t207.length wu] 29 (0, 0))) := ⟨by rw [← DW]; exact (by (with_reducible repeat (first | refine aA ?_ _ | refine aH ?_ | refine aC ?_ _)); exact ig.out)⟩; have fH : aj (Below w.heap.size w wr) := ⟨by rw [← DW]; exact (by repeat (first | (with_reducible first | exact HB.out | apply ak | apply ah | apply au | refine aG ?_ oL.out | refine aG ?_ sK.out) | exact HB.out))⟩; clear fK dF ig HB DW; have fK := bJ; have dF := dP; have ig := dY; have HB := fH; clear bJ dP dY fH)); have aa4 := iG.out; have aa1 := dZ.out; have Df : wr.cell? ⟨dR, 0, none⟩ = some (.int .i64 ji) := (az dF.out 0).trans rfl; have Dc : wr.cell? ⟨dR, 1, none⟩ = some (.int .i64 iF) := (az dF.out 1).trans rfl; have C_ : wr.cell? ⟨dR, 2, none⟩ = some (.slice none 0 0) := (az dF.out 2).trans rfl; have Py : wr.cell? ⟨dR, 3, none⟩ = some (.int .i64 fJ) := (az dF.out 3).trans rfl; have Px : wr.cell? ⟨dR, 4, none⟩ = some (.int .i64 eY) := (az dF.out 4).trans rfl; have Pv : wr.cell? ⟨dR, 5, none⟩ = some (.slice none 0 0) := (az dF.out 5).trans rfl; have C9 := ay dF.out 0; have CZ := ay dF.out 1; have CY := ay dF.out 2; have Pe := ay dF.out 3; have O_ := ay dF.out 4; have O9 := ay dF.out 5))
               refine bodyPost_ret (ni rfl _ _ dR 31 #[.int .i64 0, .int .i64 0, .slice none 0 0, .int .i64 0, .int .i64 0, .slice none 0 0] (0, 0) _ rfl (by (with_reducible repeat (first | refine aA ?_ _ | refine aH ?_ | refine aC ?_ _)); refine bM (cs := #[.int .i64 0, .int .i64 0, .slice none 0 0, .int .i64 0, .int .i64 0, .slice none 0 0]) ?_ 5 _ rfl; (with_reducible repeat (first | refine aA ?_ _ | refine aH ?_ | refine aC ?_ _)); refine bM (cs := #[.int .i64 0, .int .i64 0, .slice none 0 0, .int .i64 0, .int .i64 eY, .slice none 0 0]) ?_ 4 _ rfl; (with_reducible repeat (first | refine aA ?_ _ | refine aH ?_ | refine aC ?_ _)); refine bM (cs := #[.int .i64 0, .int .i64 0, .slice none 0 0, .int .i64 fJ, .int .i64 eY, .slice none 0 0]) ?_ 3 _ rfl; (with_reducible repeat (first | refine aA ?_ _ | refine aH ?_ | refine aC ?_ _)); refine bM (cs := #[.int .i64 0, .int .i64 0, .slice none 0 0, .int .i64 fJ, .int .i64 eY, .slice none 0 0]) ?_ 2 _ rfl; (with_reducible repeat (first | refine aA ?_ _ | refine aH ?_ | refine aC ?_ _)); refine bM (cs := #[.int .i64 0, .int .i64 iF, .slice none 0 0, .int .i64 fJ, .int .i64 eY, .slice none 0 0]) ?_ 1 _ rfl; (with_reducible repeat (first | refine aA ?_ _ | refine aH ?_ | refine aC ?_ _)); refine bM (cs := #[.int .i64 ji, .int .i64 iF, .slice none 0 0, .int .i64 fJ, .int .i64 eY, .slice none 0 0]) ?_ 0 _ rfl; (with_reducible repeat (first | refine aA ?_ _ | refine aH ?_ | refine aC ?_ _)); exact dF.out) Tryz.underlying31 rfl (by kernel_rfl)) rfl ?_
               exact ⟨_, _, by first | rfl | (simp [aQ, aN] <;> rfl) | (simp [*, aQ, aN] <;> rfl), by first | exact Kd.t_ _ _ _ _ _ | exact Kd.zL _ _ _ _ _ | exact Kd.zF _ _ _ _ _ | exact Kd.zK _ _ _ _ _ | exact Kd.zH _ _ _ _ _, by first | exact Kd.t_ _ _ _ _ _ | exact Kd.zL _ _ _ _ _ | exact Kd.zF _ _ _ _ _ | exact Kd.zK _ _ _ _ _ | exact Kd.zH _ _ _ _ _, by repeat (first | (with_reducible first | exact HB.out | apply ak | apply ah | apply au | refine aG ?_ oL.out | refine aG ?_ sK.out) | exact HB.out)⟩
           · rw [if_neg c16] at H
             exact absurd H (by simp)
         · rw [if_neg c15] at H
           have Gy : decide (kP < (l0.length : Int)) = false := decide_eq_false c15; clear c15
           obtain ⟨Jy, J5⟩ : ∃ y_ : List Int, y_ = (([] : List Int)) := ⟨_, rfl⟩
           replace H : (if Jy.length + l0.length < 17592186044416 then (some ((l0.length : Int), 1, (Jy ++ l0), t205, t206, t207, 0)) else (none)) = some (r1, r2, r3, r4, r5, r6, r7) := by first | (rw [J5]; with_reducible exact H) | (have ES := (Option.bind_some _ _).symm.trans H; rw [J5]; with_reducible exact ES) | (have ES := (Option.bind_some _ _).symm.trans H; with_reducible exact ES) | with_reducible exact H | (rw [J5]; exact H) | exact H
           have X_ := aj.mk J5; clear J5
           by_cases c25 : Jy.length + l0.length < 17592186044416
           · rw [if_pos c25] at H
             have acD := aj.mk c25; clear c25
             obtain ⟨Lu, J4⟩ : ∃ y_ : List Int, y_ = (Jy ++ l0) := ⟨_, rfl⟩
             replace H : (some ((l0.length : Int), 1, Lu, t205, t206, t207, 0)) = some (r1, r2, r3, r4, r5, r6, r7) := by first | (rw [J4]; with_reducible exact H) | (have ES := (Option.bind_some _ _).symm.trans H; rw [J4]; with_reducible exact ES) | (have ES := (Option.bind_some _ _).symm.trans H; with_reducible exact ES) | with_reducible exact H | (rw [J4]; exact H) | exact H
             have acy := aj.mk J4; clear J4; simp only [Option.some.injEq, Prod.mk.injEq] at H; obtain ⟨rfl, rfl, rfl, rfl, rfl, rfl, rfl⟩ := H
             try go_wp2
             have bJ := aj.mk (Kd.eG fK.out); have dP := aj.mk (aH dF.out); have dY := aj.mk (aH ig.out); have fH := aj.mk (au HB.out); clear fK; clear dF; clear ig; clear HB; have fK := bJ; have dF := dP; have ig := dY; have HB := fH; clear bJ dP dY fH; refine zU (n := 10) (S := fun w' => w'.cell? ⟨mg, 0, none⟩ = some (.int .i64 t205) ∧ w'.cell? ⟨mg, 1, none⟩ = some (.int .i64 t206) ∧ w'.cell? ⟨mg, 2, none⟩ = some (.slice wP t207.length wu)) (ds := []) #[false, false, false, false, false, false, false, false, false, false] (by kernel_rfl) rfl rfl ⟨(az ig.out 0).trans rfl, (az ig.out 1).trans rfl, (az ig.out 2).trans rfl⟩ (fun hHeld => ?_); refine qA bG.aaB bG.Zw (fun jh Fa => ?_)
             generalize wr.drew = Yr at fK dF ig HB hHeld ⊢; refine fG (i := 0) (N := some 46) (v := ?_) (a' := ?_) #[true, false, false, false, false, false, false, false, false, false] rfl rfl (dM jh.out (by kernel_rfl)) (fun _ _ _ h => h) (Or.inl ⟨by rfl, ?_⟩) ?_ ?_
             rotate_left
             · intro w'
               go_simp
               with_reducible rfl
             rotate_left
             · simp only [Act.put, List.setIfInBounds_toArray, List.set_cons_zero, List.set_cons_succ, bT, b_]
               rfl
             refine fG (i := 1) (N := some 47) (v := ?_) (a' := ?_) #[true, true, false, false, false, false, false, false, false, false] rfl rfl (dM jh.out (by kernel_rfl)) (fun _ _ _ h => h) (Or.inl ⟨by rfl, ?_⟩) ?_ ?_
             rotate_left
             · intro w'
               go_simp
               with_reducible rfl
             rotate_left
             · simp only [Act.put, List.setIfInBounds_toArray, List.set_cons_zero, List.set_cons_succ, bT, b_]
               rfl
             refine fG (i := 3) (N := some 49) (v := ?_) (a' := ?_) #[true, true, false, true, false, false, false, false, false, false] rfl rfl (dM jh.out (by kernel_rfl)) (fun _ _ _ h => h) (Or.inl ⟨by rfl, ?_⟩) ?_ ?_
             rotate_left
             · intro w'
               go_simp
               with_reducible rfl
             rotate_left
             · simp only [Act.put, List.setIfInBounds_toArray, List.set_cons_zero, List.set_cons_succ, bT, b_]
               rfl
             refine pq (i := 6) (N := some 52) (v := ?_) (a' := ?_) #[true, true, false, true, false, false, true, false, false, false] rfl rfl (iR jh.out Fa.out (by kernel_rfl)) (fun _ _ _ h => h) (Or.inl ⟨by rfl, ?_⟩) hHeld ?_ ?_
             rotate_left
             · rintro w' ⟨s0, s1, s2⟩
               go_simp
               with_reducible rfl
             rotate_left
             · simp only [Act.put, List.setIfInBounds_toArray, List.set_cons_zero, List.set_cons_succ, bT, b_]
               rfl
             refine yV (i := 2) (N := some 48) #[true, true, true, true, false, false, true, false, false, false] rfl rfl (mG jh.out (by kernel_rfl)) (by decide) (fun K hK => ?_)
             refine Kd.Og (Kd.int .i64) _ 22 ?hg (N := 48) ?hd (xs := ([] : List Int)) (inner := []) (ok := fun _ => True) (Ik := fun _ => True) ?hr ?hp (fun _ hk => hk) trivial (Below.refl _ _) (Nat.le_refl _) (by simp) ?_; (case hd => rfl); (case hg => rfl); (case hr => first | (go_simp; done) | (go_simp; rfl)); (case hp => exact (fP.none _ _))
             intro af2 Yq QY hb hg_ TS; clear hg_ TS
             (first | rw [← X_.out] at QY | (simp only [Int.reduceToNat] at QY; rw [← X_.out] at QY))
             have bJ := aj.mk (Kd.zJ (by (with_reducible repeat (first | apply Kd.dO | apply Kd.dN | apply Kd.eG)); exact fK.out) (Kd.wJ QY) hb); have dP := aj.mk (Kd.mY (Kd.Jp QY (Kd.Oe (by (with_reducible repeat (first | apply Kd.dO | apply Kd.dN | apply Kd.eG)); exact fK.out))) (bg (by repeat (first | (with_reducible first | exact HB.out | apply ak | apply ah | apply au | refine aG ?_ oL.out | refine aG ?_ sK.out) | exact HB.out)))); have dY := aj.mk (bH (g := dR) (o := .cells #[.int .i64 ji, .int .i64 iF, .slice none 0 0, .int .i64 fJ, .int .i64 eY, .slice none 0 0] 31 (0, 0)) (by (with_reducible repeat (first | refine aA ?_ _ | refine aH ?_ | refine aC ?_ _)); exact dF.out) hb); have fH := aj.mk (bH (g := mg) (o := .cells #[.int .i64 t205, .int .i64 t206, .slice wP t207.length wu] 29 (0, 0)) (by (with_reducible repeat (first | refine aA ?_ _ | refine aH ?_ | refine aC ?_ _)); exact ig.out) hb); have jM := aj.mk (aV (by repeat (first | (with_reducible first | exact HB.out | apply ak | apply ah | apply au | refine aG ?_ oL.out | refine aG ?_ sK.out) | exact HB.out)) hb); clear fK; clear dF; clear ig; clear HB; have fK := bJ; have Qm := dP; have dF := dY; have ig := fH; have HB := jM; clear bJ dP dY fH jM; clear hb QY; refine hK.out _ _ ⟨(az ig.out 0).trans rfl, (az ig.out 1).trans rfl, (az ig.out 2).trans rfl⟩ (fun hHeld => ?_)
             clear hK K; refine uU (a' := ?_) ?_ ?_
             rotate_left
             · show Act.put _ (some 48) _ = _
               simp only [Act.put, List.setIfInBounds_toArray, List.set_cons_zero, List.set_cons_succ, bT, b_]; rfl
             refine yV (i := 4) (N := some 50) #[true, true, true, true, true, false, true, false, false, false] rfl rfl (mG jh.out (by kernel_rfl)) (by decide) (fun K hK => ?_)
             refine Kd.yE (Kd.int .i64) (w0 := w) w.heap.size (by rfl) (.tmp 48) (.tmp 49) 27 22 (.int .i64 0) 8 rfl Tryz.underlying27 info22 rfl (by decide) (by omega) af2 Jy l0 _ _ _ (fun k_ => some k_ ≠ (.slice wP t207.length wu : Value).ownBlock) (fun _ => False) rfl rfl ?aO ?aR (fun _ _ h => h) (fun _ h => h.elim) ?aF ?aB ?aS ?aL ?_
             (case aR => repeat (first | exact (Kd.gJ HR0.out HB.out) | (with_reducible refine Kd.iD ?_ _) | (with_reducible refine Kd.iC ?_ _) | (with_reducible refine Kd.jv ?_)))
             (case aB => exact (by repeat (first | (with_reducible first | exact HB.out | apply ak | apply ah | apply au | refine aG ?_ oL.out | refine aG ?_ sK.out) | exact HB.out)))
             (case aF => exact (fun k_ hk => Kd.fresh' (Kd.Oe (by (with_reducible repeat (first | apply Kd.dO | apply Kd.dN | apply Kd.eG)); exact fK.out)) k_ hk))
             (case aO => exact (by (with_reducible repeat (first | apply Kd.dO | apply Kd.dN | apply Kd.eG)); exact Kd.jc Qm.out (fun _ hk => hk.2)))
             (case aS => exact (bg (by repeat (first | (with_reducible first | exact HB.out | apply ak | apply ah | apply au | refine aG ?_ oL.out | refine aG ?_ sK.out) | exact HB.out))))
             (case aL => have := acD.out; omega)
             intro ak3 Yp ho hb hg hat; rw [← acy.out] at ho; have bJ := aj.mk (Kd.Xd (ok := (fun _ => True)) (by (with_reducible repeat (first | apply Kd.dO | apply Kd.dN | apply Kd.eG)); exact fK.out) hg hat); have dP := aj.mk (xO (g := dR) (o := .cells #[.int .i64 ji, .int .i64 iF, .slice none 0 0, .int .i64 fJ, .int .i64 eY, .slice none 0 0] 31 (0, 0)) (by (with_reducible repeat (first | refine aA ?_ _ | refine aH ?_ | refine aC ?_ _)); exact dF.out) hg (Kd.zI Qm.out dF.out (by decide))); have dY := aj.mk (xO (g := mg) (o := .cells #[.int .i64 t205, .int .i64 t206, .slice wP t207.length wu] 29 (0, 0)) (by (with_reducible repeat (first | refine aA ?_ _ | refine aH ?_ | refine aC ?_ _)); exact ig.out) hg (Kd.zI Qm.out ig.out (by decide))); have fH := aj.mk (hb); have jM := aj.mk (ho); clear fK; clear dF; clear ig; clear HB; clear Qm; have fK := bJ; have dF := dP; have ig := dY; have HB := fH; have Yc := jM; clear bJ dP dY fH jM; clear ho hb hg hat; obtain ⟨Sz, Rz, abf⟩ := Kd.je Yc.out
             (first | subst abf | (injection abf with Gm Rf Gl; have Q_ := Gm.symm; have Q9 := Gl.symm; clear Gm Rf Gl; subst Q_; subst Q9))
             refine hK.out _ _ ⟨(az ig.out 0).trans rfl, (az ig.out 1).trans rfl, (az ig.out 2).trans rfl⟩ (fun hHeld => ?_)
             clear hK K; refine uU (a' := ?_) ?_ ?_
             rotate_left
             · show Act.put _ (some 50) _ = _
               simp only [Act.put, List.setIfInBounds_toArray, List.set_cons_zero, List.set_cons_succ, bT, b_]; rfl
             refine fG (i := 5) (N := some 51) (v := ?_) (a' := ?_) #[true, true, true, true, true, true, true, false, false, false] rfl rfl (dM jh.out (by kernel_rfl)) (fun _ _ _ h => h) (Or.inl ⟨by rfl, ?_⟩) ?_ ?_
             rotate_left
             · intro w'
               go_simp
               with_reducible rfl
             rotate_left
             · simp only [Act.put, List.setIfInBounds_toArray, List.set_cons_zero, List.set_cons_succ, bT, b_]
               rfl
             refine fG (i := 7) (N := some 53) (v := ?_) (a' := ?_) #[true, true, true, true, true, true, true, true, false, false] rfl rfl (dM jh.out (by kernel_rfl)) (fun _ _ _ h => h) (Or.inl ⟨by rfl, ?_⟩) ?_ ?_
             rotate_left
             · intro w'
               go_simp
               with_reducible rfl
             rotate_left
             · simp only [Act.put, List.setIfInBounds_toArray, List.set_cons_zero, List.set_cons_succ, bT, b_]
               rfl
             refine yV (i := 8) (N := none) #[true, true, true, true, true, true, true, true, true, false] rfl rfl (mG jh.out (by kernel_rfl)) (by decide) (fun K hK => ?_)
             have alx : Yp.cell? ⟨dR, 0, none⟩ = some (.int .i64 ji) := (az dF.out 0).trans rfl; have ajk := ay dF.out 0; have adP := dZ.out; have ad2 := iG.out; have alv : Yp.cell? ⟨dR, 1, none⟩ = some (.int .i64 iF) := (az dF.out 1).trans rfl; have ajj := ay dF.out 1; have adO := dZ.out; have ad1 := iG.out; have alu : Yp.cell? ⟨dR, 2, none⟩ = some (.slice none 0 0) := (az dF.out 2).trans rfl; have aji := ay dF.out 2; have adN := dZ.out; have adZ := iG.out; have als : Yp.cell? ⟨dR, 3, none⟩ = some (.int .i64 fJ) := (az dF.out 3).trans rfl; have ajh := ay dF.out 3; have adM := dZ.out; have adY := iG.out; have alr : Yp.cell? ⟨dR, 4, none⟩ = some (.int .i64 eY) := (az dF.out 4).trans rfl; have ajg := ay dF.out 4; have adL := dZ.out; have adX := iG.out; have alq : Yp.cell? ⟨dR, 5, none⟩ = some (.slice none 0 0) := (az dF.out 5).trans rfl; have ajf := ay dF.out 5; have adK := dZ.out; have adW := iG.out; refine OE (w1 := ?_) (by rfl) rfl ?_ ?_
             rotate_left
             · go_simp
               rfl
             refine hK.out _ _ ⟨((cell_far (p := ⟨dR, _, none⟩) dZ.out _).trans (((cell_far (p := ⟨dR, _, none⟩) dZ.out _).trans (((cell_far (p := ⟨dR, _, none⟩) dZ.out _).trans (((cell_far (p := ⟨dR, _, none⟩) dZ.out _).trans (((cell_far (p := ⟨dR, _, none⟩) dZ.out _).trans (((cell_far (p := ⟨dR, _, none⟩) dZ.out _).trans (hHeld.1)))))))))))), ((cell_far (p := ⟨dR, _, none⟩) dZ.out _).trans (((cell_far (p := ⟨dR, _, none⟩) dZ.out _).trans (((cell_far (p := ⟨dR, _, none⟩) dZ.out _).trans (((cell_far (p := ⟨dR, _, none⟩) dZ.out _).trans (((cell_far (p := ⟨dR, _, none⟩) dZ.out _).trans (((cell_far (p := ⟨dR, _, none⟩) dZ.out _).trans (hHeld.2.1)))))))))))), ((cell_far (p := ⟨dR, _, none⟩) dZ.out _).trans (((cell_far (p := ⟨dR, _, none⟩) dZ.out _).trans (((cell_far (p := ⟨dR, _, none⟩) dZ.out _).trans (((cell_far (p := ⟨dR, _, none⟩) dZ.out _).trans (((cell_far (p := ⟨dR, _, none⟩) dZ.out _).trans (((cell_far (p := ⟨dR, _, none⟩) dZ.out _).trans (hHeld.2.2))))))))))))⟩ (fun hHeld => ?_)
             clear hK K; refine fG (i := 9) (N := some 5) (v := ?_) (a' := ?_) #[true, true, true, true, true, true, true, true, true, true] rfl rfl (dM jh.out (by kernel_rfl)) (fun _ _ _ h => h) (Or.inl ⟨by rfl, ?_⟩) ?_ ?_
             rotate_left
             · intro w'
               go_simp
               with_reducible rfl
             rotate_left
             · simp only [Act.put, List.setIfInBounds_toArray, List.set_cons_zero, List.set_cons_succ, bT, b_]
               rfl
             refine Gt (xK jh.out (by kernel_rfl)) ?_
             try go_wp2
             refine bodyPost_ret (ni rfl _ _ dR 31 #[.int .i64 (l0.length : Int), .int .i64 1, .slice Sz Lu.length Rz, .int .i64 t205, .int .i64 t206, .slice wP t207.length wu] (0, 0) _ rfl (by (with_reducible repeat (first | refine aA ?_ _ | refine aH ?_ | refine aC ?_ _)); refine bM (cs := #[.int .i64 (l0.length : Int), .int .i64 1, .slice Sz Lu.length Rz, .int .i64 t205, .int .i64 t206, .slice none 0 0]) ?_ 5 _ rfl; (with_reducible repeat (first | refine aA ?_ _ | refine aH ?_ | refine aC ?_ _)); refine bM (cs := #[.int .i64 (l0.length : Int), .int .i64 1, .slice Sz Lu.length Rz, .int .i64 t205, .int .i64 eY, .slice none 0 0]) ?_ 4 _ rfl; (with_reducible repeat (first | refine aA ?_ _ | refine aH ?_ | refine aC ?_ _)); refine bM (cs := #[.int .i64 (l0.length : Int), .int .i64 1, .slice Sz Lu.length Rz, .int .i64 fJ, .int .i64 eY, .slice none 0 0]) ?_ 3 _ rfl; (with_reducible repeat (first | refine aA ?_ _ | refine aH ?_ | refine aC ?_ _)); refine bM (cs := #[.int .i64 (l0.length : Int), .int .i64 1, .slice none 0 0, .int .i64 fJ, .int .i64 eY, .slice none 0 0]) ?_ 2 _ rfl; (with_reducible repeat (first | refine aA ?_ _ | refine aH ?_ | refine aC ?_ _)); refine bM (cs := #[.int .i64 (l0.length : Int), .int .i64 iF, .slice none 0 0, .int .i64 fJ, .int .i64 eY, .slice none 0 0]) ?_ 1 _ rfl; (with_reducible repeat (first | refine aA ?_ _ | refine aH ?_ | refine aC ?_ _)); refine bM (cs := #[.int .i64 ji, .int .i64 iF, .slice none 0 0, .int .i64 fJ, .int .i64 eY, .slice none 0 0]) ?_ 0 _ rfl; (with_reducible repeat (first | refine aA ?_ _ | refine aH ?_ | refine aC ?_ _)); exact dF.out) Tryz.underlying31 rfl (by kernel_rfl)) rfl ?_
             exact ⟨_, _, by first | rfl | (simp [aQ, aN] <;> rfl) | (simp [*, aQ, aN] <;> rfl), by (with_reducible repeat (first | apply Kd.dO | apply Kd.dN | apply Kd.eG)); exact Kd.jc (Kd.gI (p := ⟨dR, 5, none⟩) (Kd.gI (p := ⟨dR, 4, none⟩) (Kd.gI (p := ⟨dR, 3, none⟩) (Kd.gI (p := ⟨dR, 2, none⟩) (Kd.gI (p := ⟨dR, 1, none⟩) (Kd.gI (p := ⟨dR, 0, none⟩) (Kd.l_ Yc.out dF.out (by decide)) (fun _ hk => hk.2) (.int .i64 (l0.length : Int))) (fun _ hk => hk.2) (.int .i64 1)) (fun _ hk => hk.2) (.slice Sz Lu.length Rz)) (fun _ hk => hk.2) (.int .i64 t205)) (fun _ hk => hk.2) (.int .i64 t206)) (fun _ hk => hk.2) (.slice wP t207.length wu)) (fun _ hk => hk.1), by (with_reducible repeat (first | apply Kd.dO | apply Kd.dN | apply Kd.eG)); exact Kd.jc (Kd.gI (p := ⟨dR, 5, none⟩) (Kd.gI (p := ⟨dR, 4, none⟩) (Kd.gI (p := ⟨dR, 3, none⟩) (Kd.gI (p := ⟨dR, 2, none⟩) (Kd.gI (p := ⟨dR, 1, none⟩) (Kd.gI (p := ⟨dR, 0, none⟩) (Kd.l_ fK.out dF.out (by decide)) (fun _ hk => hk.2) (.int .i64 (l0.length : Int))) (fun _ hk => hk.2) (.int .i64 1)) (fun _ hk => hk.2) (.slice Sz Lu.length Rz)) (fun _ hk => hk.2) (.int .i64 t205)) (fun _ hk => hk.2) (.int .i64 t206)) (fun _ hk => hk.2) (.slice wP t207.length wu)) (fun _ hk => hk.1.2), by repeat (first | (with_reducible first | exact HB.out | apply ak | apply ah | apply au | refine aG ?_ oL.out | refine aG ?_ sK.out) | exact HB.out)⟩
           · rw [if_neg c25] at H
             exact absurd H (by simp)
mutual
def aI.j0 : Nat → Bool → Int → Int → List Int → Option (Bool)
 | 0, _, _, _, _ => none
 | k + 1, x33, Hu, Ht, yJ => if x33 = true then (some false) else (aI.l0 k 0 Hu Ht yJ)
def aI.l0 : Nat → Int → Int → Int → List Int → Option (Bool)
 | 0, _, _, _, _ => none
 | k + 1, x3, Hu, Ht, yJ => if x3 < (yJ.length : Int) then (if 0 ≤ x3 then ((dQ.f (rd yJ x3)).bind fun t223 => (if t223 = true then (aI.l0 k (wrap64 (x3 + 1)) Hu Ht yJ) else (some false))) else (none)) else (some true)
end
def aI.f (k : Nat) (aY : Int) (bu : Int) (bn : List Int) : Option (Bool) := if aY < 1 then (aI.j0 k true aY bu bn) else (if aY > 8 then (aI.j0 k true aY bu bn) else (if bu < 1 then (aI.j0 k true aY bu bn) else (if bu > 8 then (aI.j0 k true aY bu bn) else (aI.j0 k ((bn.length : Int) != (wrap64 (aY * bu))) aY bu bn))))
theorem aI.Tu : ∀ k, (∀ y0 y1 y2 y3, qF (aI.j0 k y0 y1 y2 y3) (aI.j0 (k + 1) y0 y1 y2 y3)) ∧ (∀ y0 y1 y2 y3, qF (aI.l0 k y0 y1 y2 y3) (aI.l0 (k + 1) y0 y1 y2 y3))
 | 0 => ⟨fun _ _ _ _ r h => by simp [aI.j0] at h, fun _ _ _ _ r h => by simp [aI.l0] at h⟩
 | k + 1 => by
   obtain ⟨YP, ih1⟩ := aI.Tu k; refine ⟨?_, ?_⟩
   · intro y0 y1 y2 y3
     unfold aI.j0
     repeat' first
     | (with_reducible exact YP _ _ _ _)
     | (with_reducible exact ih1 _ _ _ _)
     | (with_reducible exact qF.refl _)
     | (with_reducible exact qF.none _)
     | (with_reducible refine qF.ite ?_ ?_)
     | (with_reducible refine qF.bind ?_ (fun _ => ?_))
     | exact YP _ _ _ _
     | exact ih1 _ _ _ _
     | exact qF.none _
     | refine qF.ite ?_ ?_
     | refine qF.bind ?_ (fun _ => ?_)
   · intro y0 y1 y2 y3
     unfold aI.l0
     repeat' first
     | (with_reducible exact YP _ _ _ _)
     | (with_reducible exact ih1 _ _ _ _)
     | (with_reducible exact qF.refl _)
     | (with_reducible exact qF.none _)
     | (with_reducible refine qF.ite ?_ ?_)
     | (with_reducible refine qF.bind ?_ (fun _ => ?_))
     | exact YP _ _ _ _
     | exact ih1 _ _ _ _
     | exact qF.none _
     | refine qF.ite ?_ ?_
     | refine qF.bind ?_ (fun _ => ?_)
theorem aI.mono : ∀ a0 a1 a2 k, qF (aI.f k a0 a1 a2) (aI.f (k + 1) a0 a1 a2) := by
 intro a0 a1 a2 k; obtain ⟨YP, ih1⟩ := aI.Tu k
 unfold aI.f
 repeat' first
  | (with_reducible exact YP _ _ _ _)
  | (with_reducible exact ih1 _ _ _ _)
  | (with_reducible exact qF.refl _)
  | (with_reducible exact qF.none _)
  | (with_reducible refine qF.ite ?_ ?_)
  | (with_reducible refine qF.bind ?_ (fun _ => ?_))
  | exact YP _ _ _ _
  | exact ih1 _ _ _ _
  | exact qF.none _
  | refine qF.ite ?_ ?_
  | refine qF.bind ?_ (fun _ => ?_)
theorem aI.calls (k : Nat) (aY : Int) (bu : Int) (bZ : Option Addr) (bY : Nat) (bn : List Int) (r : Bool) (w : World) (jE : Kd.C (Kd.int .i64) w bZ bn.length bn) (jY : bn.length ≤ bY) (h : aI.f k aY bu bn = some r) :
 Calls Tryz.prog 77 #[.agg #[.int .i64 aY, .int .i64 bu, .slice bZ bn.length bY]] w fun e w' => e = .returned (.bool r) ∧ Below w.heap.size w w' := by
 have Cc := Tryz.underlying29; have nK := aj.mk jE; have p_ := aj.mk jY; clear jE jY; have HB := aj.mk (Below.refl w.heap.size w); have H : (if aY < 1 then (aI.j0 k true aY bu bn) else (if aY > 8 then (aI.j0 k true aY bu bn) else (if bu < 1 then (aI.j0 k true aY bu bn) else (if bu > 8 then (aI.j0 k true aY bu bn) else (aI.j0 k ((bn.length : Int) != (wrap64 (aY * bu))) aY bu bn))))) = some r := h; clear h; have HC2 := aj.mk H; clear H
 go_enter Tryz.func77, Tryz.ntmps77
 go_upto_region 1 with (first | ((with_reducible refine dH (N := 1) rfl ?_); (try (refine kK (by rfl) ?_; dsimp only)); refine dw ?hg (N := 1) ?hd (cs := #[.int .i64 aY, .int .i64 bu, .slice bZ bn.length bY]) (t := 29) ?hr ?_; (case hd => rfl); (case hg => rfl); (case hr => first | (go_simp; done) | (go_simp; rfl)); intro jO hg w3 hbox hb; have bJ := aj.mk (aV (by repeat (first | (with_reducible first | exact HB.out | apply ak | apply ah | apply au) | exact HB.out)) hb); have dP := aj.mk (hbox); have dY := aj.mk ((by rw [hg]; exact (bg (by repeat (first | (with_reducible first | exact HB.out | apply ak | apply ah | apply au) | exact HB.out))) : w.heap.size ≤ jO)); have fH := aj.mk ((by rw [hg]; exact (bg (by repeat (first | (with_reducible first | exact HB.out | apply ak | apply ah | apply au) | exact HB.out))) : w.heap.size ≤ jO)); clear HB; have HB := bJ; have fE := dP; have aku := dY; have yA := fH; clear bJ dP dY fH; clear hb hbox hg))
 (try simp only [Act.put, List.setIfInBounds_toArray, List.set_cons_zero, List.set_cons_succ])
 go_cut [33] (fun v33 wc => ∃ (kq : Nat) (Oq : Bool), v33 = .bool Oq ∧ aj (aI.j0 kq Oq aY bu bn = some r) ∧ aj (kq ≤ k) ∧ aj (wc.heap[jO]? = some (.cells #[.int .i64 aY, .int .i64 bu, (.slice bZ bn.length bY)] 29 (0, 0))) ∧ aj (Below w.heap.size w wc))
 case first =>
  have H := HC2.out; clear HC2
  by_cases c4 : aY < 1
  · rw [if_pos c4] at H
    have oZ : decide (aY < 1) = true := decide_eq_true c4; clear c4
    (first | rw [oZ] | (simp only [bT, b_]; rw [oZ]) | skip)
    have H' := aj.mk H; clear H; have NF : w3.cell? ⟨jO, 0, none⟩ = some (.int .i64 aY) := (az fE.out 0).trans rfl; have ND : w3.cell? ⟨jO, 1, none⟩ = some (.int .i64 bu) := (az fE.out 1).trans rfl; have NC : w3.cell? ⟨jO, 2, none⟩ = some (.slice bZ bn.length bY) := (az fE.out 2).trans rfl; have Ny := ay fE.out 0; have Nv := ay fE.out 1; have Nu := ay fE.out 2; go_wp2
    go_meet
    case rel => exact ⟨_, (true), (by first | rfl | (simp; done) | (simp [*]; done)), H', ⟨by first | omega | exact Nat.le_refl _⟩, ⟨by (with_reducible repeat (first | refine aA ?_ _ | refine aH ?_ | refine aC ?_ _)); exact fE.out⟩, ⟨by repeat (first | (with_reducible first | exact HB.out | apply ak | apply ah | apply au | refine aG ?_ yA.out) | exact HB.out)⟩⟩
  · rw [if_neg c4] at H
    have oZ : decide (aY < 1) = false := decide_eq_false c4; clear c4
    (first | rw [oZ] | (simp only [bT, b_]; rw [oZ]) | skip)
    by_cases c6 : aY > 8
    · rw [if_pos c6] at H
      have tC : decide (8 < aY) = true := decide_eq_true c6; clear c6; have H' := aj.mk H; clear H; have Uh : w3.cell? ⟨jO, 0, none⟩ = some (.int .i64 aY) := (az fE.out 0).trans rfl; have Ug : w3.cell? ⟨jO, 1, none⟩ = some (.int .i64 bu) := (az fE.out 1).trans rfl; have Uf : w3.cell? ⟨jO, 2, none⟩ = some (.slice bZ bn.length bY) := (az fE.out 2).trans rfl; have Ud := ay fE.out 0; have Uc := ay fE.out 1; have Ub := ay fE.out 2; go_wp2
      go_meet
      case rel => exact ⟨_, (true), (by first | rfl | (simp; done) | (simp [*]; done)), H', ⟨by first | omega | exact Nat.le_refl _⟩, ⟨by (with_reducible repeat (first | refine aA ?_ _ | refine aH ?_ | refine aC ?_ _)); exact fE.out⟩, ⟨by repeat (first | (with_reducible first | exact HB.out | apply ak | apply ah | apply au | refine aG ?_ yA.out) | exact HB.out)⟩⟩
    · rw [if_neg c6] at H
      have tC : decide (8 < aY) = false := decide_eq_false c6; clear c6
      by_cases c8 : bu < 1
      · rw [if_pos c8] at H
        have Ey : decide (bu < 1) = true := decide_eq_true c8; clear c8; have H' := aj.mk H; clear H; have pW : w3.cell? ⟨jO, 0, none⟩ = some (.int .i64 aY) := (az fE.out 0).trans rfl; have qX : w3.cell? ⟨jO, 1, none⟩ = some (.int .i64 bu) := (az fE.out 1).trans rfl; have qW : w3.cell? ⟨jO, 2, none⟩ = some (.slice bZ bn.length bY) := (az fE.out 2).trans rfl; have pV := ay fE.out 0; have qV := ay fE.out 1; have qU := ay fE.out 2; go_wp2
        go_meet
        case rel => exact ⟨_, (true), (by first | rfl | (simp; done) | (simp [*]; done)), H', ⟨by first | omega | exact Nat.le_refl _⟩, ⟨by (with_reducible repeat (first | refine aA ?_ _ | refine aH ?_ | refine aC ?_ _)); exact fE.out⟩, ⟨by repeat (first | (with_reducible first | exact HB.out | apply ak | apply ah | apply au | refine aG ?_ yA.out) | exact HB.out)⟩⟩
      · rw [if_neg c8] at H
        have Ey : decide (bu < 1) = false := decide_eq_false c8; clear c8
        by_cases c10 : bu > 8
        · rw [if_pos c10] at H
          have zy : decide (8 < bu) = true := decide_eq_true c10; clear c10; have H' := aj.mk H; clear H; have xI : w3.cell? ⟨jO, 0, none⟩ = some (.int .i64 aY) := (az fE.out 0).trans rfl; have xH : w3.cell? ⟨jO, 1, none⟩ = some (.int .i64 bu) := (az fE.out 1).trans rfl; have xG : w3.cell? ⟨jO, 2, none⟩ = some (.slice bZ bn.length bY) := (az fE.out 2).trans rfl; have xw := ay fE.out 0; have xu := ay fE.out 1; have xq := ay fE.out 2; go_wp2
          go_meet
          case rel => exact ⟨_, (true), (by first | rfl | (simp; done) | (simp [*]; done)), H', ⟨by first | omega | exact Nat.le_refl _⟩, ⟨by (with_reducible repeat (first | refine aA ?_ _ | refine aH ?_ | refine aC ?_ _)); exact fE.out⟩, ⟨by repeat (first | (with_reducible first | exact HB.out | apply ak | apply ah | apply au | refine aG ?_ yA.out) | exact HB.out)⟩⟩
        · rw [if_neg c10] at H
          have zy : decide (8 < bu) = false := decide_eq_false c10; clear c10; have H' := aj.mk H; clear H; have qm : w3.cell? ⟨jO, 0, none⟩ = some (.int .i64 aY) := (az fE.out 0).trans rfl; have ql : w3.cell? ⟨jO, 1, none⟩ = some (.int .i64 bu) := (az fE.out 1).trans rfl; have qj : w3.cell? ⟨jO, 2, none⟩ = some (.slice bZ bn.length bY) := (az fE.out 2).trans rfl; have qi := ay fE.out 0; have qh := ay fE.out 1; have qg := ay fE.out 2; go_wp2
          go_meet
          case rel => exact ⟨_, (((bn.length : Int) != (wrap64 (aY * bu)))), (by first | rfl | (simp; done) | (simp [*]; done)), H', ⟨by first | omega | exact Nat.le_refl _⟩, ⟨by (with_reducible repeat (first | refine aA ?_ _ | refine aH ?_ | refine aC ?_ _)); exact fE.out⟩, ⟨by repeat (first | (with_reducible first | exact HB.out | apply ak | apply ah | apply au | refine aG ?_ yA.out) | exact HB.out)⟩⟩
 case rest =>
  clear HC2; (try clear c1); (try clear p2); (try clear c4); (try clear oZ); (try clear c6); (try clear tC); (try clear p6); (try clear c7); (try clear c8); (try clear Ey); (try clear c10); (try clear zy); (try clear xI); (try clear xH); (try clear xG); (try clear qm); (try clear ql); (try clear qj); (try clear NF); (try clear ND); (try clear NC); (try clear Uh); (try clear Ug); (try clear Uf); (try clear pW); (try clear qX); (try clear qW); (try clear xw); (try clear xu); (try clear xq); (try clear qi); (try clear qh); (try clear qg); (try clear Ny); (try clear Nv); (try clear Nu); (try clear Ud); (try clear Uc); (try clear Ub); (try clear pV); (try clear qV); (try clear qU); obtain ⟨kq, Oq, rfl, HA, HJ1, fE, HB⟩ := hcut
  cases kq with
  | zero => exact absurd HA.out (by simp [aI.j0])
  | succ Vh =>
    have H := HA.out; clear HA; simp only [aI.j0] at H
    by_cases c13 : Oq = true
    · subst c13
      rw [if_pos rfl] at H; obtain rfl := Option.some.inj H; go_wp2
      go_ret
      exact ⟨by first | rfl | (simp [aQ, aN] <;> rfl) | (simp [*, aQ, aN] <;> rfl), by repeat (first | (with_reducible first | exact HB.out | apply ak | apply ah | apply au | refine aG ?_ yA.out) | exact HB.out)⟩
    · replace c13 := Bool.eq_false_iff.mpr c13
      subst c13
      have H1 : (aI.l0 Vh 0 aY bu bn) = some r := by rw [if_neg (show ¬ (false = true) by decide)] at H; exact H
      clear H; have H := H1; clear H1; have H' := aj.mk H; clear H; go_wp2
      go_loopg [3] Vh (fun kq v3 w' => ∃ (tJ : Int), v3 = .int .i64 tJ ∧ aj (aI.l0 kq tJ aY bu bn = some r) ∧ aj (kq ≤ Vh) ∧ aj (w'.heap[jO]? = some (.cells #[.int .i64 aY, .int .i64 bu, (.slice bZ bn.length bY)] 29 (0, 0))) ∧ aj (Below w.heap.size w w'))
      case atStart => exact ⟨(0), (by first | rfl | (simp; done) | (simp [*]; done)), H', ⟨Nat.le_refl _⟩, ⟨by (with_reducible repeat (first | refine aA ?_ _ | refine aH ?_ | refine aC ?_ _)); exact fE.out⟩, ⟨by repeat (first | (with_reducible first | exact HB.out | apply ak | apply ah | apply au | refine aG ?_ yA.out) | exact HB.out)⟩⟩
      case round =>
       clear H'; (try clear c1); (try clear p2); (try clear c4); (try clear oZ); (try clear c6); (try clear tC); (try clear p6); (try clear c7); (try clear c8); (try clear Ey); (try clear c10); (try clear zy); (try clear c13); (try clear xI); (try clear xH); (try clear xG); (try clear qm); (try clear ql); (try clear qj); (try clear NF); (try clear ND); (try clear NC); (try clear Uh); (try clear Ug); (try clear Uf); (try clear pW); (try clear qX); (try clear qW); (try clear xw); (try clear xu); (try clear xq); (try clear qi); (try clear qh); (try clear qg); (try clear Ny); (try clear Nv); (try clear Nu); (try clear Ud); (try clear Uc); (try clear Ub); (try clear pV); (try clear qV); (try clear qU); (try clear p2); (try clear p6); obtain ⟨tJ, rfl, HA, Dj, fE, HB⟩ := hrel
       cases gk with
       | zero => exact absurd HA.out (by simp [aI.l0])
       | succ k2 =>
         have H := HA.out; clear HA; simp only [aI.l0] at H
         by_cases c14 : tJ < (bn.length : Int)
         · rw [if_pos c14] at H
           have pI : decide (tJ < (bn.length : Int)) = true := decide_eq_true c14; clear c14
           by_cases c15 : 0 ≤ tJ
           · rw [if_pos c15] at H
             have Gy : decide (0 ≤ tJ) = true := decide_eq_true c15; clear c15; replace H := Option.bind_eq_some_iff.mp H; obtain ⟨t223, E8, H⟩ := H; replace H : (if t223 = true then (aI.l0 k2 (wrap64 (tJ + 1)) aY bu bn) else (some false)) = some r := H; have Jw := aj.mk E8; clear E8
             by_cases c17 : t223 = true
             · subst c17
               rw [if_pos rfl] at H; have H' := aj.mk H; clear H; have Pz : wr.cell? ⟨jO, 0, none⟩ = some (.int .i64 aY) := (az fE.out 0).trans rfl; have WL : wr.cell? ⟨jO, 1, none⟩ = some (.int .i64 bu) := (az fE.out 1).trans rfl; have WJ : wr.cell? ⟨jO, 2, none⟩ = some (.slice bZ bn.length bY) := (az fE.out 2).trans rfl; have Pg := ay fE.out 0; have V_ := ay fE.out 1; have V9 := ay fE.out 2; have MR : 0 ≤ (tJ : Int) := of_decide_eq_true (by first | (with_reducible assumption) | assumption); have MG : tJ < (bn.length : Int) := of_decide_eq_true (by first | (with_reducible assumption) | assumption); obtain ⟨abO, e222, uF⟩ := Kd.gZ nK.out tJ MR MG
               cases e222
               replace uF := (HB.out.cell (World.block_lt_of_cell? w _ uF)).trans uF; replace MR := eq_true MR; replace MG := eq_true MG
               go_wp2_with (first | ((with_reducible refine aJ (f := 51) rfl ?_); refine bF (some 46) rfl rfl Tryz.func51 (by kernel_rfl) rfl #[.int .i64 (rd bn tJ)] rfl (by (try simp only [List.map_toArray, List.map_cons, List.map_nil]); first | done | rfl | (simp only [List.length_drop, List.length_take]; rfl)) ?_; (with_reducible refine (dQ.calls (rd bn tJ) true _ Jw.out).mono ?_); rintro e w' ⟨rfl, ⟨nd, rfl⟩⟩; refine ⟨_, rfl, ?_⟩))
               go_roundg k2
               case measure => have := HJ1.out; have := Dj.out; omega
               case rel => exact ⟨(wrap64 (tJ + 1)), (by first | rfl | (simp; done) | (simp [*]; done)), H', ⟨by have := HJ1.out; have := Dj.out; omega⟩, ⟨by (with_reducible repeat (first | refine aA ?_ _ | refine aH ?_ | refine aC ?_ _)); exact fE.out⟩, ⟨by repeat (first | (with_reducible first | exact HB.out | apply ak | apply ah | apply au | refine aG ?_ yA.out) | exact HB.out)⟩⟩
             · replace c17 := Bool.eq_false_iff.mpr c17
               subst c17
               have H1 : (some false) = some r := by rw [if_neg (show ¬ (false = true) by decide)] at H; exact H
               clear H; have H := H1; clear H1; obtain rfl := Option.some.inj H; have WI : wr.cell? ⟨jO, 0, none⟩ = some (.int .i64 aY) := (az fE.out 0).trans rfl; have WH : wr.cell? ⟨jO, 1, none⟩ = some (.int .i64 bu) := (az fE.out 1).trans rfl; have WG : wr.cell? ⟨jO, 2, none⟩ = some (.slice bZ bn.length bY) := (az fE.out 2).trans rfl; have V8 := ay fE.out 0; have V7 := ay fE.out 1; have V6 := ay fE.out 2; have MR : 0 ≤ (tJ : Int) := of_decide_eq_true (by first | (with_reducible assumption) | assumption); have MG : tJ < (bn.length : Int) := of_decide_eq_true (by first | (with_reducible assumption) | assumption); obtain ⟨abO, e222, uF⟩ := Kd.gZ nK.out tJ MR MG
               cases e222
               replace uF := (HB.out.cell (World.block_lt_of_cell? w _ uF)).trans uF; replace MR := eq_true MR; replace MG := eq_true MG
               go_wp2_with (first | ((with_reducible refine aJ (f := 51) rfl ?_); refine bF (some 46) rfl rfl Tryz.func51 (by kernel_rfl) rfl #[.int .i64 (rd bn tJ)] rfl (by (try simp only [List.map_toArray, List.map_cons, List.map_nil]); first | done | rfl | (simp only [List.length_drop, List.length_take]; rfl)) ?_; (with_reducible refine (dQ.calls (rd bn tJ) false _ Jw.out).mono ?_); rintro e w' ⟨rfl, ⟨nd, rfl⟩⟩; refine ⟨_, rfl, ?_⟩))
               go_ret
               exact ⟨by first | rfl | (simp [aQ, aN] <;> rfl) | (simp [*, aQ, aN] <;> rfl), by repeat (first | (with_reducible first | exact HB.out | apply ak | apply ah | apply au | refine aG ?_ yA.out) | exact HB.out)⟩
           · rw [if_neg c15] at H
             exact absurd H (by simp)
         · rw [if_neg c14] at H
           have pI : decide (tJ < (bn.length : Int)) = false := decide_eq_false c14; clear c14; obtain rfl := Option.some.inj H; have afj : wr.cell? ⟨jO, 0, none⟩ = some (.int .i64 aY) := (az fE.out 0).trans rfl; have afi : wr.cell? ⟨jO, 1, none⟩ = some (.int .i64 bu) := (az fE.out 1).trans rfl; have afh : wr.cell? ⟨jO, 2, none⟩ = some (.slice bZ bn.length bY) := (az fE.out 2).trans rfl; have aeE := ay fE.out 0; have aeD := ay fE.out 1; have aeC := ay fE.out 2; go_wp2
           go_ret
           exact ⟨by first | rfl | (simp [aQ, aN] <;> rfl) | (simp [*, aQ, aN] <;> rfl), by repeat (first | (with_reducible first | exact HB.out | apply ak | apply ah | apply au | refine aG ?_ yA.out) | exact HB.out)⟩
end Go.Proofs.YtcfobekkchhbbaaGreat.PQ

namespace Go.Proofs.YtcfobekkchhbbaaGreat.PQ
open Go.RowKit Go.Proofs.af.aU Go.Proofs.af.a_ Go.Proofs.af.bf
attribute [local go_sem] jq jm kJ kH iM iL jo jl
set_option linter.unusedVariables false
set_option linter.unusedSimpArgs false
mutual
def aT.j0 : Nat → Int → Bool → Int → Int → List Int → Int → Int → List Int → Option (Bool)
 | 0, _, _, _, _, _, _, _, _ => none
 | k + 1, x5, x42, wV, wU, wS, wR, wQ, mX => if x42 = true then (some false) else (aT.l0 k x5 0 wV wU wS wR wQ mX)
def aT.l0 : Nat → Int → Int → Int → Int → List Int → Int → Int → List Int → Option (Bool)
 | 0, _, _, _, _, _, _, _, _ => none
 | k + 1, x5, x6, wV, wU, wS, wR, wQ, mX => if x6 < x5 then (if 0 ≤ (wrap64 ((wrap64 (x6 * x5)) + x6)) then (if (wrap64 ((wrap64 (x6 * x5)) + x6)) < (mX.length : Int) then (if (rd mX (wrap64 ((wrap64 (x6 * x5)) + x6))) < 0 then (some false) else (aT.l1 k x5 x6 0 wV wU wS wR wQ mX)) else (none)) else (none)) else (some true)
def aT.l1 : Nat → Int → Int → Int → Int → Int → List Int → Int → Int → List Int → Option (Bool)
 | 0, _, _, _, _, _, _, _, _, _ => none
 | k + 1, x5, x6, x7, wV, wU, wS, wR, wQ, mX => if x7 < x6 then (if 0 ≤ (wrap64 ((wrap64 (x6 * x5)) + x7)) then (if (wrap64 ((wrap64 (x6 * x5)) + x7)) < (mX.length : Int) then (if 0 ≤ (wrap64 ((wrap64 (x7 * x5)) + x6)) then (if (wrap64 ((wrap64 (x7 * x5)) + x6)) < (mX.length : Int) then (if (rd mX (wrap64 ((wrap64 (x6 * x5)) + x7))) = (rd mX (wrap64 ((wrap64 (x7 * x5)) + x6))) then (aT.l1 k x5 x6 (wrap64 (x7 + 1)) wV wU wS wR wQ mX) else (some false)) else (none)) else (none)) else (none)) else (none)) else (aT.l0 k x5 (wrap64 (x6 + 1)) wV wU wS wR wQ mX)
end
def aT.f (k : Nat) (aY : Int) (bu : Int) (bn : List Int) (dI : Int) (dL : Int) (cZ : List Int) : Option (Bool) := (aI.f k aY bu bn).bind fun t225 => ((aI.f k dI dL cZ).bind fun t226 => (if t225 = true then (if t226 = true then (if bu = 1 then (if dI = aY then (aT.j0 k aY (dL != aY) aY bu bn dI dL cZ) else (aT.j0 k aY true aY bu bn dI dL cZ)) else (aT.j0 k aY true aY bu bn dI dL cZ)) else (aT.j0 k aY true aY bu bn dI dL cZ)) else (aT.j0 k aY true aY bu bn dI dL cZ)))
theorem aT.calls (k : Nat) (aY : Int) (bu : Int) (bZ : Option Addr) (bY : Nat) (bn : List Int) (dI : Int) (dL : Int) (iT : Option Addr) (iK : Nat) (cZ : List Int) (r : Bool) (w : World) (jE : Kd.C (Kd.int .i64) w bZ bn.length bn) (jY : bn.length ≤ bY) (Bz : Kd.C (Kd.int .i64) w iT cZ.length cZ) (BA : cZ.length ≤ iK) (h : aT.f k aY bu bn dI dL cZ = some r) :
 Calls Tryz.prog 35 #[.agg #[.int .i64 aY, .int .i64 bu, .slice bZ bn.length bY, .int .i64 dI, .int .i64 dL, .slice iT cZ.length iK]] w fun e w' => e = .returned (.bool r) ∧ Below w.heap.size w w' := by
 have YS := Tryz.underlying31; have Cc := Tryz.underlying29; have nK := aj.mk jE; have p_ := aj.mk jY; clear jE jY; have vw := aj.mk Bz; have G9 := aj.mk BA; clear Bz BA; have HB := aj.mk (Below.refl w.heap.size w); have H : ((aI.f k aY bu bn).bind fun t225 => ((aI.f k dI dL cZ).bind fun t226 => (if t225 = true then (if t226 = true then (if bu = 1 then (if dI = aY then (aT.j0 k aY (dL != aY) aY bu bn dI dL cZ) else (aT.j0 k aY true aY bu bn dI dL cZ)) else (aT.j0 k aY true aY bu bn dI dL cZ)) else (aT.j0 k aY true aY bu bn dI dL cZ)) else (aT.j0 k aY true aY bu bn dI dL cZ)))) = some r := h; clear h; replace H := Option.bind_eq_some_iff.mp H; obtain ⟨t225, A20, H⟩ := H; replace H : ((aI.f k dI dL cZ).bind fun t226 => (if t225 = true then (if t226 = true then (if bu = 1 then (if dI = aY then (aT.j0 k aY (dL != aY) aY bu bn dI dL cZ) else (aT.j0 k aY true aY bu bn dI dL cZ)) else (aT.j0 k aY true aY bu bn dI dL cZ)) else (aT.j0 k aY true aY bu bn dI dL cZ)) else (aT.j0 k aY true aY bu bn dI dL cZ))) = some r := H; have A2 := aj.mk A20; clear A20; replace H := Option.bind_eq_some_iff.mp H; obtain ⟨t226, zO, H⟩ := H; replace H : (if t225 = true then (if t226 = true then (if bu = 1 then (if dI = aY then (aT.j0 k aY (dL != aY) aY bu bn dI dL cZ) else (aT.j0 k aY true aY bu bn dI dL cZ)) else (aT.j0 k aY true aY bu bn dI dL cZ)) else (aT.j0 k aY true aY bu bn dI dL cZ)) else (aT.j0 k aY true aY bu bn dI dL cZ)) = some r := H; have A3 := aj.mk zO; clear zO; have Vd := aj.mk H; clear H
 go_enter Tryz.func35, Tryz.ntmps35
 go_upto_region 4 with (first | ((with_reducible refine dH (N := 1) rfl ?_); refine dw ?hg (N := 1) ?hd (cs := #[.int .i64 aY, .int .i64 bu, .slice bZ bn.length bY, .int .i64 dI, .int .i64 dL, .slice iT cZ.length iK]) (t := 31) ?hr ?_; (case hd => rfl); (case hg => rfl); (case hr => first | (go_simp; done) | (go_simp; rfl)); intro bQ hg w5 hbox hb; have bJ := aj.mk (aV (by repeat (first | (with_reducible first | exact HB.out | apply ak | apply ah | apply au) | exact HB.out)) hb); have dP := aj.mk (hbox); have dY := aj.mk ((by rw [hg]; exact (bg (by repeat (first | (with_reducible first | exact HB.out | apply ak | apply ah | apply au) | exact HB.out))) : w.heap.size ≤ bQ)); have fH := aj.mk ((by rw [hg]; exact (bg (by repeat (first | (with_reducible first | exact HB.out | apply ak | apply ah | apply au) | exact HB.out))) : w.heap.size ≤ bQ)); clear HB; have HB := bJ; have aZ := dP; have Yi := dY; have mW := fH; clear bJ dP dY fH; clear hb hbox hg; have sZ : w5.cell? ⟨bQ, 0, none⟩ = some (.int .i64 aY) := (az aZ.out 0).trans rfl; have sW : w5.cell? ⟨bQ, 1, none⟩ = some (.int .i64 bu) := (az aZ.out 1).trans rfl; have uJ : w5.cell? ⟨bQ, 2, none⟩ = some (.slice bZ bn.length bY) := (az aZ.out 2).trans rfl; have Ed : w5.cell? ⟨bQ, 3, none⟩ = some (.int .i64 dI) := (az aZ.out 3).trans rfl; have Ec : w5.cell? ⟨bQ, 4, none⟩ = some (.int .i64 dL) := (az aZ.out 4).trans rfl; have Eb : w5.cell? ⟨bQ, 5, none⟩ = some (.slice iT cZ.length iK) := (az aZ.out 5).trans rfl; have sV := ay aZ.out 0; have sU := ay aZ.out 1; have uI := ay aZ.out 2; have D8 := ay aZ.out 3; have D7 := ay aZ.out 4; have D6 := ay aZ.out 5) | (go_at_call 77; (with_reducible refine (aI.calls k aY bu _ _ bn t225 _ ?gX ?gW A2.out).mono ?_); (case gX => repeat (first | exact (Kd.gJ nK.out HB.out) | (with_reducible refine Kd.iD ?_ _) | (with_reducible refine Kd.iC ?_ _) | (with_reducible refine Kd.jv ?_))); (case gW => exact p_.out); rintro e w7 ⟨rfl, hb⟩; have bJ := aj.mk (bH (g := bQ) (o := .cells #[.int .i64 aY, .int .i64 bu, .slice bZ bn.length bY, .int .i64 dI, .int .i64 dL, .slice iT cZ.length iK] 31 (0, 0)) (by (with_reducible repeat (first | refine aA ?_ _ | refine aH ?_ | refine aC ?_ _)); exact aZ.out) hb); have dP := aj.mk (aV (by repeat (first | (with_reducible first | exact HB.out | apply ak | apply ah | apply au | refine aG ?_ mW.out) | exact HB.out)) hb); clear aZ; clear HB; have aZ := bJ; have HB := dP; clear bJ dP; (try clear hb); (try clear hb2); (try clear hk); (try clear hi); have AO : w7.cell? ⟨bQ, 0, none⟩ = some (.int .i64 aY) := (az aZ.out 0).trans rfl; have AL : w7.cell? ⟨bQ, 1, none⟩ = some (.int .i64 bu) := (az aZ.out 1).trans rfl; have AB : w7.cell? ⟨bQ, 2, none⟩ = some (.slice bZ bn.length bY) := (az aZ.out 2).trans rfl; have Ea : w7.cell? ⟨bQ, 3, none⟩ = some (.int .i64 dI) := (az aZ.out 3).trans rfl; have D_ : w7.cell? ⟨bQ, 4, none⟩ = some (.int .i64 dL) := (az aZ.out 4).trans rfl; have D9 : w7.cell? ⟨bQ, 5, none⟩ = some (.slice iT cZ.length iK) := (az aZ.out 5).trans rfl; have Az := ay aZ.out 0; have Aw := ay aZ.out 1; have Au := ay aZ.out 2; have D5 := ay aZ.out 3; have DZ := ay aZ.out 4; have DY := ay aZ.out 5) | (go_at_call 77; (with_reducible refine (aI.calls k dI dL _ _ cZ t226 _ ?gX ?gW A3.out).mono ?_); (case gX => repeat (first | exact (Kd.gJ vw.out HB.out) | (with_reducible refine Kd.iD ?_ _) | (with_reducible refine Kd.iC ?_ _) | (with_reducible refine Kd.jv ?_))); (case gW => exact G9.out); rintro e w9 ⟨rfl, hb⟩; have bJ := aj.mk (bH (g := bQ) (o := .cells #[.int .i64 aY, .int .i64 bu, .slice bZ bn.length bY, .int .i64 dI, .int .i64 dL, .slice iT cZ.length iK] 31 (0, 0)) (by (with_reducible repeat (first | refine aA ?_ _ | refine aH ?_ | refine aC ?_ _)); exact aZ.out) hb); have dP := aj.mk (aV (by repeat (first | (with_reducible first | exact HB.out | apply ak | apply ah | apply au | refine aG ?_ mW.out) | exact HB.out)) hb); clear aZ; clear HB; have aZ := bJ; have HB := dP; clear bJ dP; (try clear hb); (try clear hb2); (try clear hk); (try clear hi); have ou : w9.cell? ⟨bQ, 0, none⟩ = some (.int .i64 aY) := (az aZ.out 0).trans rfl; have oq : w9.cell? ⟨bQ, 1, none⟩ = some (.int .i64 bu) := (az aZ.out 1).trans rfl; have oh : w9.cell? ⟨bQ, 2, none⟩ = some (.slice bZ bn.length bY) := (az aZ.out 2).trans rfl; have sD : w9.cell? ⟨bQ, 3, none⟩ = some (.int .i64 dI) := (az aZ.out 3).trans rfl; have r_ : w9.cell? ⟨bQ, 4, none⟩ = some (.int .i64 dL) := (az aZ.out 4).trans rfl; have rZ : w9.cell? ⟨bQ, 5, none⟩ = some (.slice iT cZ.length iK) := (az aZ.out 5).trans rfl; have og := ay aZ.out 0; have n_ := ay aZ.out 1; have nZ := ay aZ.out 2; have rX := ay aZ.out 3; have rW := ay aZ.out 4; have rV := ay aZ.out 5))
 repeat (go_quiet (first | ((with_reducible refine dH (N := 1) rfl ?_); refine dw ?hg (N := 1) ?hd (cs := #[.int .i64 aY, .int .i64 bu, .slice bZ bn.length bY, .int .i64 dI, .int .i64 dL, .slice iT cZ.length iK]) (t := 31) ?hr ?_; (case hd => rfl); (case hg => rfl); (case hr => first | (go_simp; done) | (go_simp; rfl)); intro bQ hg w5 hbox hb; have bJ := aj.mk (aV (by repeat (first | (with_reducible first | exact HB.out | apply ak | apply ah | apply au) | exact HB.out)) hb); have dP := aj.mk (hbox); have dY := aj.mk ((by rw [hg]; exact (bg (by repeat (first | (with_reducible first | exact HB.out | apply ak | apply ah | apply au) | exact HB.out))) : w.heap.size ≤ bQ)); have fH := aj.mk ((by rw [hg]; exact (bg (by repeat (first | (with_reducible first | exact HB.out | apply ak | apply ah | apply au) | exact HB.out))) : w.heap.size ≤ bQ)); clear HB; have HB := bJ; have aZ := dP; have Yi := dY; have mW := fH; clear bJ dP dY fH; clear hb hbox hg; have sZ : w5.cell? ⟨bQ, 0, none⟩ = some (.int .i64 aY) := (az aZ.out 0).trans rfl; have sW : w5.cell? ⟨bQ, 1, none⟩ = some (.int .i64 bu) := (az aZ.out 1).trans rfl; have uJ : w5.cell? ⟨bQ, 2, none⟩ = some (.slice bZ bn.length bY) := (az aZ.out 2).trans rfl; have Ed : w5.cell? ⟨bQ, 3, none⟩ = some (.int .i64 dI) := (az aZ.out 3).trans rfl; have Ec : w5.cell? ⟨bQ, 4, none⟩ = some (.int .i64 dL) := (az aZ.out 4).trans rfl; have Eb : w5.cell? ⟨bQ, 5, none⟩ = some (.slice iT cZ.length iK) := (az aZ.out 5).trans rfl; have sV := ay aZ.out 0; have sU := ay aZ.out 1; have uI := ay aZ.out 2; have D8 := ay aZ.out 3; have D7 := ay aZ.out 4; have D6 := ay aZ.out 5) | (go_at_call 77; (with_reducible refine (aI.calls k aY bu _ _ bn t225 _ ?gX ?gW A2.out).mono ?_); (case gX => repeat (first | exact (Kd.gJ nK.out HB.out) | (with_reducible refine Kd.iD ?_ _) | (with_reducible refine Kd.iC ?_ _) | (with_reducible refine Kd.jv ?_))); (case gW => exact p_.out); rintro e w7 ⟨rfl, hb⟩; have bJ := aj.mk (bH (g := bQ) (o := .cells #[.int .i64 aY, .int .i64 bu, .slice bZ bn.length bY, .int .i64 dI, .int .i64 dL, .slice iT cZ.length iK] 31 (0, 0)) (by (with_reducible repeat (first | refine aA ?_ _ | refine aH ?_ | refine aC ?_ _)); exact aZ.out) hb); have dP := aj.mk (aV (by repeat (first | (with_reducible first | exact HB.out | apply ak | apply ah | apply au | refine aG ?_ mW.out) | exact HB.out)) hb); clear aZ; clear HB; have aZ := bJ; have HB := dP; clear bJ dP; (try clear hb); (try clear hb2); (try clear hk); (try clear hi); have AO : w7.cell? ⟨bQ, 0, none⟩ = some (.int .i64 aY) := (az aZ.out 0).trans rfl; have AL : w7.cell? ⟨bQ, 1, none⟩ = some (.int .i64 bu) := (az aZ.out 1).trans rfl; have AB : w7.cell? ⟨bQ, 2, none⟩ = some (.slice bZ bn.length bY) := (az aZ.out 2).trans rfl; have Ea : w7.cell? ⟨bQ, 3, none⟩ = some (.int .i64 dI) := (az aZ.out 3).trans rfl; have D_ : w7.cell? ⟨bQ, 4, none⟩ = some (.int .i64 dL) := (az aZ.out 4).trans rfl; have D9 : w7.cell? ⟨bQ, 5, none⟩ = some (.slice iT cZ.length iK) := (az aZ.out 5).trans rfl; have Az := ay aZ.out 0; have Aw := ay aZ.out 1; have Au := ay aZ.out 2; have D5 := ay aZ.out 3; have DZ := ay aZ.out 4; have DY := ay aZ.out 5) | (go_at_call 77; (with_reducible refine (aI.calls k dI dL _ _ cZ t226 _ ?gX ?gW A3.out).mono ?_); (case gX => repeat (first | exact (Kd.gJ vw.out HB.out) | (with_reducible refine Kd.iD ?_ _) | (with_reducible refine Kd.iC ?_ _) | (with_reducible refine Kd.jv ?_))); (case gW => exact G9.out); rintro e w9 ⟨rfl, hb⟩; have bJ := aj.mk (bH (g := bQ) (o := .cells #[.int .i64 aY, .int .i64 bu, .slice bZ bn.length bY, .int .i64 dI, .int .i64 dL, .slice iT cZ.length iK] 31 (0, 0)) (by (with_reducible repeat (first | refine aA ?_ _ | refine aH ?_ | refine aC ?_ _)); exact aZ.out) hb); have dP := aj.mk (aV (by repeat (first | (with_reducible first | exact HB.out | apply ak | apply ah | apply au | refine aG ?_ mW.out) | exact HB.out)) hb); clear aZ; clear HB; have aZ := bJ; have HB := dP; clear bJ dP; (try clear hb); (try clear hb2); (try clear hk); (try clear hi); have ou : w9.cell? ⟨bQ, 0, none⟩ = some (.int .i64 aY) := (az aZ.out 0).trans rfl; have oq : w9.cell? ⟨bQ, 1, none⟩ = some (.int .i64 bu) := (az aZ.out 1).trans rfl; have oh : w9.cell? ⟨bQ, 2, none⟩ = some (.slice bZ bn.length bY) := (az aZ.out 2).trans rfl; have sD : w9.cell? ⟨bQ, 3, none⟩ = some (.int .i64 dI) := (az aZ.out 3).trans rfl; have r_ : w9.cell? ⟨bQ, 4, none⟩ = some (.int .i64 dL) := (az aZ.out 4).trans rfl; have rZ : w9.cell? ⟨bQ, 5, none⟩ = some (.slice iT cZ.length iK) := (az aZ.out 5).trans rfl; have og := ay aZ.out 0; have n_ := ay aZ.out 1; have nZ := ay aZ.out 2; have rX := ay aZ.out 3; have rW := ay aZ.out 4; have rV := ay aZ.out 5)); go_upto_region 4 with (first | ((with_reducible refine dH (N := 1) rfl ?_); refine dw ?hg (N := 1) ?hd (cs := #[.int .i64 aY, .int .i64 bu, .slice bZ bn.length bY, .int .i64 dI, .int .i64 dL, .slice iT cZ.length iK]) (t := 31) ?hr ?_; (case hd => rfl); (case hg => rfl); (case hr => first | (go_simp; done) | (go_simp; rfl)); intro bQ hg w5 hbox hb; have bJ := aj.mk (aV (by repeat (first | (with_reducible first | exact HB.out | apply ak | apply ah | apply au) | exact HB.out)) hb); have dP := aj.mk (hbox); have dY := aj.mk ((by rw [hg]; exact (bg (by repeat (first | (with_reducible first | exact HB.out | apply ak | apply ah | apply au) | exact HB.out))) : w.heap.size ≤ bQ)); have fH := aj.mk ((by rw [hg]; exact (bg (by repeat (first | (with_reducible first | exact HB.out | apply ak | apply ah | apply au) | exact HB.out))) : w.heap.size ≤ bQ)); clear HB; have HB := bJ; have aZ := dP; have Yi := dY; have mW := fH; clear bJ dP dY fH; clear hb hbox hg; have sZ : w5.cell? ⟨bQ, 0, none⟩ = some (.int .i64 aY) := (az aZ.out 0).trans rfl; have sW : w5.cell? ⟨bQ, 1, none⟩ = some (.int .i64 bu) := (az aZ.out 1).trans rfl; have uJ : w5.cell? ⟨bQ, 2, none⟩ = some (.slice bZ bn.length bY) := (az aZ.out 2).trans rfl; have Ed : w5.cell? ⟨bQ, 3, none⟩ = some (.int .i64 dI) := (az aZ.out 3).trans rfl; have Ec : w5.cell? ⟨bQ, 4, none⟩ = some (.int .i64 dL) := (az aZ.out 4).trans rfl; have Eb : w5.cell? ⟨bQ, 5, none⟩ = some (.slice iT cZ.length iK) := (az aZ.out 5).trans rfl; have sV := ay aZ.out 0; have sU := ay aZ.out 1; have uI := ay aZ.out 2; have D8 := ay aZ.out 3; have D7 := ay aZ.out 4; have D6 := ay aZ.out 5) | (go_at_call 77; (with_reducible refine (aI.calls k aY bu _ _ bn t225 _ ?gX ?gW A2.out).mono ?_); (case gX => repeat (first | exact (Kd.gJ nK.out HB.out) | (with_reducible refine Kd.iD ?_ _) | (with_reducible refine Kd.iC ?_ _) | (with_reducible refine Kd.jv ?_))); (case gW => exact p_.out); rintro e w7 ⟨rfl, hb⟩; have bJ := aj.mk (bH (g := bQ) (o := .cells #[.int .i64 aY, .int .i64 bu, .slice bZ bn.length bY, .int .i64 dI, .int .i64 dL, .slice iT cZ.length iK] 31 (0, 0)) (by (with_reducible repeat (first | refine aA ?_ _ | refine aH ?_ | refine aC ?_ _)); exact aZ.out) hb); have dP := aj.mk (aV (by repeat (first | (with_reducible first | exact HB.out | apply ak | apply ah | apply au | refine aG ?_ mW.out) | exact HB.out)) hb); clear aZ; clear HB; have aZ := bJ; have HB := dP; clear bJ dP; (try clear hb); (try clear hb2); (try clear hk); (try clear hi); have AO : w7.cell? ⟨bQ, 0, none⟩ = some (.int .i64 aY) := (az aZ.out 0).trans rfl; have AL : w7.cell? ⟨bQ, 1, none⟩ = some (.int .i64 bu) := (az aZ.out 1).trans rfl; have AB : w7.cell? ⟨bQ, 2, none⟩ = some (.slice bZ bn.length bY) := (az aZ.out 2).trans rfl; have Ea : w7.cell? ⟨bQ, 3, none⟩ = some (.int .i64 dI) := (az aZ.out 3).trans rfl; have D_ : w7.cell? ⟨bQ, 4, none⟩ = some (.int .i64 dL) := (az aZ.out 4).trans rfl; have D9 : w7.cell? ⟨bQ, 5, none⟩ = some (.slice iT cZ.length iK) := (az aZ.out 5).trans rfl; have Az := ay aZ.out 0; have Aw := ay aZ.out 1; have Au := ay aZ.out 2; have D5 := ay aZ.out 3; have DZ := ay aZ.out 4; have DY := ay aZ.out 5) | (go_at_call 77; (with_reducible refine (aI.calls k dI dL _ _ cZ t226 _ ?gX ?gW A3.out).mono ?_); (case gX => repeat (first | exact (Kd.gJ vw.out HB.out) | (with_reducible refine Kd.iD ?_ _) | (with_reducible refine Kd.iC ?_ _) | (with_reducible refine Kd.jv ?_))); (case gW => exact G9.out); rintro e w9 ⟨rfl, hb⟩; have bJ := aj.mk (bH (g := bQ) (o := .cells #[.int .i64 aY, .int .i64 bu, .slice bZ bn.length bY, .int .i64 dI, .int .i64 dL, .slice iT cZ.length iK] 31 (0, 0)) (by (with_reducible repeat (first | refine aA ?_ _ | refine aH ?_ | refine aC ?_ _)); exact aZ.out) hb); have dP := aj.mk (aV (by repeat (first | (with_reducible first | exact HB.out | apply ak | apply ah | apply au | refine aG ?_ mW.out) | exact HB.out)) hb); clear aZ; clear HB; have aZ := bJ; have HB := dP; clear bJ dP; (try clear hb); (try clear hb2); (try clear hk); (try clear hi); have ou : w9.cell? ⟨bQ, 0, none⟩ = some (.int .i64 aY) := (az aZ.out 0).trans rfl; have oq : w9.cell? ⟨bQ, 1, none⟩ = some (.int .i64 bu) := (az aZ.out 1).trans rfl; have oh : w9.cell? ⟨bQ, 2, none⟩ = some (.slice bZ bn.length bY) := (az aZ.out 2).trans rfl; have sD : w9.cell? ⟨bQ, 3, none⟩ = some (.int .i64 dI) := (az aZ.out 3).trans rfl; have r_ : w9.cell? ⟨bQ, 4, none⟩ = some (.int .i64 dL) := (az aZ.out 4).trans rfl; have rZ : w9.cell? ⟨bQ, 5, none⟩ = some (.slice iT cZ.length iK) := (az aZ.out 5).trans rfl; have og := ay aZ.out 0; have n_ := ay aZ.out 1; have nZ := ay aZ.out 2; have rX := ay aZ.out 3; have rW := ay aZ.out 4; have rV := ay aZ.out 5)))
 (try simp only [Act.put, List.setIfInBounds_toArray, List.set_cons_zero, List.set_cons_succ])
 go_cut [42] (fun v42 wc => ∃ (kq : Nat) (Oo : Bool), v42 = .bool Oo ∧ aj (aT.j0 kq aY Oo aY bu bn dI dL cZ = some r) ∧ aj (kq ≤ k) ∧ aj (wc.heap[bQ]? = some (.cells #[.int .i64 aY, .int .i64 bu, (.slice bZ bn.length bY), .int .i64 dI, .int .i64 dL, (.slice iT cZ.length iK)] 31 (0, 0))) ∧ aj (Below w.heap.size w wc))
 case first =>
  have H := Vd.out; clear Vd
  by_cases c11 : t225 = true
  · subst c11
    rw [if_pos rfl] at H
    by_cases c12 : t226 = true
    · subst c12
      rw [if_pos rfl] at H
      by_cases c13 : bu = 1
      · rw [if_pos c13] at H
        have uZ : (bu == 1) = true := beq_iff_eq.mpr c13; have PT : (bu != 1) = false := bne_eq_false_iff_eq.mpr c13; clear c13
        (first | rw [uZ] | (simp only [bT, b_]; rw [uZ]) | skip)
        by_cases c14 : dI = aY
        · rw [if_pos c14] at H
          have pI : (dI == aY) = true := beq_iff_eq.mpr c14; have uY : (dI != aY) = false := bne_eq_false_iff_eq.mpr c14; clear c14; have H' := aj.mk H; clear H; have xE : w9.cell? ⟨bQ, 0, none⟩ = some (.int .i64 aY) := (az aZ.out 0).trans rfl; have xC : w9.cell? ⟨bQ, 1, none⟩ = some (.int .i64 bu) := (az aZ.out 1).trans rfl; have xB : w9.cell? ⟨bQ, 2, none⟩ = some (.slice bZ bn.length bY) := (az aZ.out 2).trans rfl; have Jc : w9.cell? ⟨bQ, 3, none⟩ = some (.int .i64 dI) := (az aZ.out 3).trans rfl; have Jb : w9.cell? ⟨bQ, 4, none⟩ = some (.int .i64 dL) := (az aZ.out 4).trans rfl; have Ja : w9.cell? ⟨bQ, 5, none⟩ = some (.slice iT cZ.length iK) := (az aZ.out 5).trans rfl; have xm := ay aZ.out 0; have xk := ay aZ.out 1; have xh := ay aZ.out 2; have IM := ay aZ.out 3; have IL := ay aZ.out 4; have IK := ay aZ.out 5; go_wp2
          repeat (go_quiet (fail); try go_wp2)
          go_meet
          case rel => exact ⟨_, ((dL != aY)), (by first | rfl | (simp; done) | (simp [*]; done)), H', ⟨by first | omega | exact Nat.le_refl _⟩, ⟨by (with_reducible repeat (first | refine aA ?_ _ | refine aH ?_ | refine aC ?_ _)); exact aZ.out⟩, ⟨by repeat (first | (with_reducible first | exact HB.out | apply ak | apply ah | apply au | refine aG ?_ mW.out) | exact HB.out)⟩⟩
        · rw [if_neg c14] at H
          have pI : (dI == aY) = false := beq_eq_false_iff_ne.mpr c14; have uY : (dI != aY) = true := bne_iff_ne.mpr c14; have H' := aj.mk H; clear H; have xA : w9.cell? ⟨bQ, 0, none⟩ = some (.int .i64 aY) := (az aZ.out 0).trans rfl; have xy : w9.cell? ⟨bQ, 1, none⟩ = some (.int .i64 bu) := (az aZ.out 1).trans rfl; have xx : w9.cell? ⟨bQ, 2, none⟩ = some (.slice bZ bn.length bY) := (az aZ.out 2).trans rfl; have I_ : w9.cell? ⟨bQ, 3, none⟩ = some (.int .i64 dI) := (az aZ.out 3).trans rfl; have I9 : w9.cell? ⟨bQ, 4, none⟩ = some (.int .i64 dL) := (az aZ.out 4).trans rfl; have I8 : w9.cell? ⟨bQ, 5, none⟩ = some (.slice iT cZ.length iK) := (az aZ.out 5).trans rfl; have xg := ay aZ.out 0; have xe := ay aZ.out 1; have w_ := ay aZ.out 2; have IJ := ay aZ.out 3; have II := ay aZ.out 4; have IG := ay aZ.out 5; go_wp2
          repeat (go_quiet (fail); try go_wp2)
          go_meet
          case rel => exact ⟨_, (true), (by first | rfl | (simp; done) | (simp [*]; done)), H', ⟨by first | omega | exact Nat.le_refl _⟩, ⟨by (with_reducible repeat (first | refine aA ?_ _ | refine aH ?_ | refine aC ?_ _)); exact aZ.out⟩, ⟨by repeat (first | (with_reducible first | exact HB.out | apply ak | apply ah | apply au | refine aG ?_ mW.out) | exact HB.out)⟩⟩
      · rw [if_neg c13] at H
        have uZ : (bu == 1) = false := beq_eq_false_iff_ne.mpr c13; have PT : (bu != 1) = true := bne_iff_ne.mpr c13
        (first | rw [uZ] | (simp only [bT, b_]; rw [uZ]) | skip)
        have H' := aj.mk H; clear H; have I7 : w9.cell? ⟨bQ, 0, none⟩ = some (.int .i64 aY) := (az aZ.out 0).trans rfl; have I5 : w9.cell? ⟨bQ, 1, none⟩ = some (.int .i64 bu) := (az aZ.out 1).trans rfl; have I4 : w9.cell? ⟨bQ, 2, none⟩ = some (.slice bZ bn.length bY) := (az aZ.out 2).trans rfl; have IZ : w9.cell? ⟨bQ, 3, none⟩ = some (.int .i64 dI) := (az aZ.out 3).trans rfl; have IY : w9.cell? ⟨bQ, 4, none⟩ = some (.int .i64 dL) := (az aZ.out 4).trans rfl; have IW : w9.cell? ⟨bQ, 5, none⟩ = some (.slice iT cZ.length iK) := (az aZ.out 5).trans rfl; have IE := ay aZ.out 0; have IC := ay aZ.out 1; have IB := ay aZ.out 2; have Iz := ay aZ.out 3; have Iy := ay aZ.out 4; have Iw := ay aZ.out 5; go_wp2
        repeat (go_quiet (fail); try go_wp2)
        go_meet
        case rel => exact ⟨_, (true), (by first | rfl | (simp; done) | (simp [*]; done)), H', ⟨by first | omega | exact Nat.le_refl _⟩, ⟨by (with_reducible repeat (first | refine aA ?_ _ | refine aH ?_ | refine aC ?_ _)); exact aZ.out⟩, ⟨by repeat (first | (with_reducible first | exact HB.out | apply ak | apply ah | apply au | refine aG ?_ mW.out) | exact HB.out)⟩⟩
    · replace c12 := Bool.eq_false_iff.mpr c12
      subst c12
      have H1 : (aT.j0 k aY true aY bu bn dI dL cZ) = some r := by rw [if_neg (show ¬ (false = true) by decide)] at H; exact H
      clear H; have H := H1; clear H1; have H' := aj.mk H; clear H; go_wp2
      repeat (go_quiet (fail); try go_wp2)
      go_meet
      case rel => exact ⟨_, (true), (by first | rfl | (simp; done) | (simp [*]; done)), H', ⟨by first | omega | exact Nat.le_refl _⟩, ⟨by (with_reducible repeat (first | refine aA ?_ _ | refine aH ?_ | refine aC ?_ _)); exact aZ.out⟩, ⟨by repeat (first | (with_reducible first | exact HB.out | apply ak | apply ah | apply au | refine aG ?_ mW.out) | exact HB.out)⟩⟩
  · replace c11 := Bool.eq_false_iff.mpr c11
    subst c11
    have H1 : (aT.j0 k aY true aY bu bn dI dL cZ) = some r := by rw [if_neg (show ¬ (false = true) by decide)] at H; exact H
    clear H; have H := H1; clear H1; have H' := aj.mk H; clear H; go_wp2
    repeat (go_quiet (fail); try go_wp2)
    go_meet
    case rel => exact ⟨_, (true), (by first | rfl | (simp; done) | (simp [*]; done)), H', ⟨by first | omega | exact Nat.le_refl _⟩, ⟨by (with_reducible repeat (first | refine aA ?_ _ | refine aH ?_ | refine aC ?_ _)); exact aZ.out⟩, ⟨by repeat (first | (with_reducible first | exact HB.out | apply ak | apply ah | apply au | refine aG ?_ mW.out) | exact HB.out)⟩⟩
 case rest =>
  clear Vd; (try clear c1); (try clear p2); (try clear c3); (try clear c11); (try clear c12); (try clear c13); (try clear uZ); (try clear PT); (try clear c14); (try clear pI); (try clear uY); (try clear ou); (try clear oq); (try clear oh); (try clear sD); (try clear r_); (try clear rZ); (try clear xE); (try clear xC); (try clear xB); (try clear Jc); (try clear Jb); (try clear Ja); (try clear xA); (try clear xy); (try clear xx); (try clear I_); (try clear I9); (try clear I8); (try clear I7); (try clear I5); (try clear I4); (try clear IZ); (try clear IY); (try clear IW); (try clear sZ); (try clear sW); (try clear uJ); (try clear Ed); (try clear Ec); (try clear Eb); (try clear AO); (try clear AL); (try clear AB); (try clear Ea); (try clear D_); (try clear D9); (try clear og); (try clear n_); (try clear nZ); (try clear rX); (try clear rW); (try clear rV); (try clear xm); (try clear xk); (try clear xh); (try clear IM); (try clear IL); (try clear IK); (try clear xg); (try clear xe); (try clear w_); (try clear IJ); (try clear II); (try clear IG); (try clear IE); (try clear IC); (try clear IB); (try clear Iz); (try clear Iy); (try clear Iw); (try clear sV); (try clear sU); (try clear uI); (try clear D8); (try clear D7); (try clear D6); (try clear Az); (try clear Aw); (try clear Au); (try clear D5); (try clear DZ); (try clear DY); obtain ⟨kq, Oo, rfl, HA, Ye, aZ, HB⟩ := hcut
  cases kq with
  | zero => exact absurd HA.out (by simp [aT.j0])
  | succ XI =>
    have H := HA.out; clear HA; simp only [aT.j0] at H
    by_cases c18 : Oo = true
    · subst c18
      rw [if_pos rfl] at H; obtain rfl := Option.some.inj H; go_wp2
      repeat (go_quiet (fail); try go_wp2)
      go_ret
      exact ⟨by first | rfl | (simp [aQ, aN] <;> rfl) | (simp [*, aQ, aN] <;> rfl), by repeat (first | (with_reducible first | exact HB.out | apply ak | apply ah | apply au | refine aG ?_ mW.out) | exact HB.out)⟩
    · replace c18 := Bool.eq_false_iff.mpr c18
      subst c18
      have H1 : (aT.l0 XI aY 0 aY bu bn dI dL cZ) = some r := by rw [if_neg (show ¬ (false = true) by decide)] at H; exact H
      clear H; have H := H1; clear H1; have H' := aj.mk H; clear H; go_wp2
      repeat (go_quiet (fail); try go_wp2)
      go_loopg [6] XI (fun kq v6 w' => ∃ (gB : Int), v6 = .int .i64 gB ∧ aj (aT.l0 kq aY gB aY bu bn dI dL cZ = some r) ∧ aj (kq ≤ XI) ∧ aj (w'.heap[bQ]? = some (.cells #[.int .i64 aY, .int .i64 bu, (.slice bZ bn.length bY), .int .i64 dI, .int .i64 dL, (.slice iT cZ.length iK)] 31 (0, 0))) ∧ aj (Below w.heap.size w w'))
      case atStart => exact ⟨(0), (by first | rfl | (simp; done) | (simp [*]; done)), H', ⟨Nat.le_refl _⟩, ⟨by (with_reducible repeat (first | refine aA ?_ _ | refine aH ?_ | refine aC ?_ _)); exact aZ.out⟩, ⟨by repeat (first | (with_reducible first | exact HB.out | apply ak | apply ah | apply au | refine aG ?_ mW.out) | exact HB.out)⟩⟩
      case round =>
       clear H'; (try clear c1); (try clear p2); (try clear c3); (try clear c11); (try clear c12); (try clear c13); (try clear uZ); (try clear PT); (try clear c14); (try clear pI); (try clear uY); (try clear c18); (try clear ou); (try clear oq); (try clear oh); (try clear sD); (try clear r_); (try clear rZ); (try clear xE); (try clear xC); (try clear xB); (try clear Jc); (try clear Jb); (try clear Ja); (try clear xA); (try clear xy); (try clear xx); (try clear I_); (try clear I9); (try clear I8); (try clear I7); (try clear I5); (try clear I4); (try clear IZ); (try clear IY); (try clear IW); (try clear sZ); (try clear sW); (try clear uJ); (try clear Ed); (try clear Ec); (try clear Eb); (try clear AO); (try clear AL); (try clear AB); (try clear Ea); (try clear D_); (try clear D9); (try clear og); (try clear n_); (try clear nZ); (try clear rX); (try clear rW); (try clear rV); (try clear xm); (try clear xk); (try clear xh); (try clear IM); (try clear IL); (try clear IK); (try clear xg); (try clear xe); (try clear w_); (try clear IJ); (try clear II); (try clear IG); (try clear IE); (try clear IC); (try clear IB); (try clear Iz); (try clear Iy); (try clear Iw); (try clear sV); (try clear sU); (try clear uI); (try clear D8); (try clear D7); (try clear D6); (try clear Az); (try clear Aw); (try clear Au); (try clear D5); (try clear DZ); (try clear DY); (try clear p2); obtain ⟨gB, rfl, HA, Dj, aZ, HB⟩ := hrel
       cases gk with
       | zero => exact absurd HA.out (by simp [aT.l0])
       | succ k2 =>
         have H := HA.out; clear HA; simp only [aT.l0] at H
         by_cases c19 : gB < aY
         · rw [if_pos c19] at H
           have KN : decide (gB < aY) = true := decide_eq_true c19; clear c19
           obtain ⟨vW, Ku⟩ : ∃ j_ : Int, (wrap64 ((wrap64 (gB * aY)) + gB)) = j_ := ⟨_, rfl⟩
           replace H : (if 0 ≤ (vW) then (if (vW) < (cZ.length : Int) then (if (rd cZ (vW)) < 0 then (some false) else (aT.l1 k2 aY gB 0 aY bu bn dI dL cZ)) else (none)) else (none)) = some r := by first | (rw [Ku] at H; exact H) | (simp only [Ku] at H ⊢; exact H)
           have agO : (IntKind.i64.wrap ((wrap64 (gB * aY)) + gB)) = vW := (bT _).trans Ku
           by_cases c21 : 0 ≤ (vW)
           · rw [if_pos c21] at H
             have tY : decide (0 ≤ (vW)) = true := decide_eq_true c21; clear c21
             by_cases Jv : (vW) < (cZ.length : Int)
             · rw [if_pos Jv] at H
               have abB : decide ((vW) < (cZ.length : Int)) = true := decide_eq_true Jv; clear Jv
               by_cases c23 : (rd cZ (vW)) < 0
               · rw [if_pos c23] at H
                 have ED : decide ((rd cZ (vW)) < 0) = true := decide_eq_true c23; clear c23; obtain rfl := Option.some.inj H; have Df : wr.cell? ⟨bQ, 0, none⟩ = some (.int .i64 aY) := (az aZ.out 0).trans rfl; have Dc : wr.cell? ⟨bQ, 1, none⟩ = some (.int .i64 bu) := (az aZ.out 1).trans rfl; have C_ : wr.cell? ⟨bQ, 2, none⟩ = some (.slice bZ bn.length bY) := (az aZ.out 2).trans rfl; have Py : wr.cell? ⟨bQ, 3, none⟩ = some (.int .i64 dI) := (az aZ.out 3).trans rfl; have Px : wr.cell? ⟨bQ, 4, none⟩ = some (.int .i64 dL) := (az aZ.out 4).trans rfl; have Pv : wr.cell? ⟨bQ, 5, none⟩ = some (.slice iT cZ.length iK) := (az aZ.out 5).trans rfl; have C9 := ay aZ.out 0; have CZ := ay aZ.out 1; have CY := ay aZ.out 2; have Pe := ay aZ.out 3; have O_ := ay aZ.out 4; have O9 := ay aZ.out 5; have JR : 0 ≤ ((vW) : Int) := of_decide_eq_true (by first | (with_reducible assumption) | assumption); have JQ : (vW) < (cZ.length : Int) := of_decide_eq_true (by first | (with_reducible assumption) | assumption); obtain ⟨BL, e227, rU⟩ := Kd.gZ vw.out (vW) JR JQ
                 cases e227
                 replace rU := (HB.out.cell (World.block_lt_of_cell? w _ rU)).trans rU; replace JR := eq_true JR; replace JQ := eq_true JQ; go_wp2
                 repeat (go_quiet (fail); try go_wp2)
                 go_ret
                 exact ⟨by first | rfl | (simp [aQ, aN] <;> rfl) | (simp only [← Ku]; first | rfl | (simp [aQ, aN] <;> rfl)) | (simp [*, aQ, aN] <;> rfl), by repeat (first | (with_reducible first | exact HB.out | apply ak | apply ah | apply au | refine aG ?_ mW.out) | exact HB.out)⟩
               · rw [if_neg c23] at H
                 have ED : decide ((rd cZ (vW)) < 0) = false := decide_eq_false c23; clear c23; have H' := aj.mk H; clear H; have Pq : wr.cell? ⟨bQ, 0, none⟩ = some (.int .i64 aY) := (az aZ.out 0).trans rfl; have Po : wr.cell? ⟨bQ, 1, none⟩ = some (.int .i64 bu) := (az aZ.out 1).trans rfl; have Pn : wr.cell? ⟨bQ, 2, none⟩ = some (.slice bZ bn.length bY) := (az aZ.out 2).trans rfl; have Wy : wr.cell? ⟨bQ, 3, none⟩ = some (.int .i64 dI) := (az aZ.out 3).trans rfl; have Wx : wr.cell? ⟨bQ, 4, none⟩ = some (.int .i64 dL) := (az aZ.out 4).trans rfl; have Wv : wr.cell? ⟨bQ, 5, none⟩ = some (.slice iT cZ.length iK) := (az aZ.out 5).trans rfl; have OZ := ay aZ.out 0; have OY := ay aZ.out 1; have OW := ay aZ.out 2; have VX := ay aZ.out 3; have VW := ay aZ.out 4; have VU := ay aZ.out 5; have JR : 0 ≤ ((vW) : Int) := of_decide_eq_true (by first | (with_reducible assumption) | assumption); have JQ : (vW) < (cZ.length : Int) := of_decide_eq_true (by first | (with_reducible assumption) | assumption); obtain ⟨BL, e227, rU⟩ := Kd.gZ vw.out (vW) JR JQ
                 cases e227
                 replace rU := (HB.out.cell (World.block_lt_of_cell? w _ rU)).trans rU; replace JR := eq_true JR; replace JQ := eq_true JQ; go_wp2
                 repeat (go_quiet (fail); try go_wp2)
                 go_loopg [7] k2 (fun kq v7 w' => ∃ (sO : Int), v7 = .int .i64 sO ∧ aj (aT.l1 kq aY gB sO aY bu bn dI dL cZ = some r) ∧ aj (kq ≤ k2) ∧ aj (w'.heap[bQ]? = some (.cells #[.int .i64 aY, .int .i64 bu, (.slice bZ bn.length bY), .int .i64 dI, .int .i64 dL, (.slice (some BL) cZ.length iK)] 31 (0, 0))) ∧ aj (Below w.heap.size w w'))
                 case atStart => exact ⟨(0), (by first | rfl | (simp; done) | (simp [*]; done)), H', ⟨Nat.le_refl _⟩, ⟨by (with_reducible repeat (first | refine aA ?_ _ | refine aH ?_ | refine aC ?_ _)); exact aZ.out⟩, ⟨by repeat (first | (with_reducible first | exact HB.out | apply ak | apply ah | apply au | refine aG ?_ mW.out) | exact HB.out)⟩⟩
                 case round =>
                  clear H'; (try clear c1); (try clear c2); (try clear p2); (try clear q2); (try clear hx2); (try clear c3); (try clear p6); (try clear c11); (try clear c12); (try clear c13); (try clear uZ); (try clear PT); (try clear c14); (try clear pI); (try clear uY); (try clear c18); (try clear c19); (try clear KN); (try clear c21); (try clear tY); (try clear Jv); (try clear abB); (try clear p22); (try clear q22); (try clear alo); (try clear c23); (try clear ED); (try clear ou); (try clear oq); (try clear oh); (try clear sD); (try clear r_); (try clear rZ); (try clear xE); (try clear xC); (try clear xB); (try clear Jc); (try clear Jb); (try clear Ja); (try clear xA); (try clear xy); (try clear xx); (try clear I_); (try clear I9); (try clear I8); (try clear I7); (try clear I5); (try clear I4); (try clear IZ); (try clear IY); (try clear IW); (try clear Df); (try clear Dc); (try clear C_); (try clear Py); (try clear Px); (try clear Pv); (try clear Pq); (try clear Po); (try clear Pn); (try clear Wy); (try clear Wx); (try clear Wv); (try clear sZ); (try clear sW); (try clear uJ); (try clear Ed); (try clear Ec); (try clear Eb); (try clear AO); (try clear AL); (try clear AB); (try clear Ea); (try clear D_); (try clear D9); (try clear og); (try clear n_); (try clear nZ); (try clear rX); (try clear rW); (try clear rV); (try clear xm); (try clear xk); (try clear xh); (try clear IM); (try clear IL); (try clear IK); (try clear xg); (try clear xe); (try clear w_); (try clear IJ); (try clear II); (try clear IG); (try clear IE); (try clear IC); (try clear IB); (try clear Iz); (try clear Iy); (try clear Iw); (try clear C9); (try clear CZ); (try clear CY); (try clear Pe); (try clear O_); (try clear O9); (try clear OZ); (try clear OY); (try clear OW); (try clear VX); (try clear VW); (try clear VU); (try clear sV); (try clear sU); (try clear uI); (try clear D8); (try clear D7); (try clear D6); (try clear Az); (try clear Aw); (try clear Au); (try clear D5); (try clear DZ); (try clear DY); (try clear rU); (try clear p2); (try clear JR); (try clear JQ); obtain ⟨sO, rfl, HA, HK3, aZ, HB⟩ := hrel
                  cases gk with
                  | zero => exact absurd HA.out (by simp [aT.l1])
                  | succ k3 =>
                    have H := HA.out; clear HA; simp only [aT.l1] at H
                    by_cases Jo : sO < gB
                    · rw [if_pos Jo] at H
                      have BI : decide (sO < gB) = true := decide_eq_true Jo; clear Jo
                      obtain ⟨tN, OU⟩ : ∃ j_ : Int, (wrap64 ((wrap64 (gB * aY)) + sO)) = j_ := ⟨_, rfl⟩
                      replace H : (if 0 ≤ (tN) then (if (tN) < (cZ.length : Int) then (if 0 ≤ (wrap64 ((wrap64 (sO * aY)) + gB)) then (if (wrap64 ((wrap64 (sO * aY)) + gB)) < (cZ.length : Int) then (if (rd cZ (tN)) = (rd cZ (wrap64 ((wrap64 (sO * aY)) + gB))) then (aT.l1 k3 aY gB (wrap64 (sO + 1)) aY bu bn dI dL cZ) else (some false)) else (none)) else (none)) else (none)) else (none)) = some r := by first | (rw [OU] at H; exact H) | (simp only [OU] at H ⊢; exact H)
                      have agN : (IntKind.i64.wrap ((wrap64 (gB * aY)) + sO)) = tN := (bT _).trans OU
                      by_cases c28 : 0 ≤ (tN)
                      · rw [if_pos c28] at H
                        have XY : decide (0 ≤ (tN)) = true := decide_eq_true c28; clear c28
                        by_cases c29 : (tN) < (cZ.length : Int)
                        · rw [if_pos c29] at H
                          have aby : decide ((tN) < (cZ.length : Int)) = true := decide_eq_true c29; clear c29
                          obtain ⟨qN, yf⟩ : ∃ j_ : Int, (wrap64 ((wrap64 (sO * aY)) + gB)) = j_ := ⟨_, rfl⟩
                          replace H : (if 0 ≤ (qN) then (if (qN) < (cZ.length : Int) then (if (rd cZ (tN)) = (rd cZ (qN)) then (aT.l1 k3 aY gB (wrap64 (sO + 1)) aY bu bn dI dL cZ) else (some false)) else (none)) else (none)) = some r := by first | (rw [yf] at H; exact H) | (simp only [yf] at H ⊢; exact H)
                          have agL : (IntKind.i64.wrap ((wrap64 (sO * aY)) + gB)) = qN := (bT _).trans yf
                          by_cases c31 : 0 ≤ (qN)
                          · rw [if_pos c31] at H
                            have abx : decide (0 ≤ (qN)) = true := decide_eq_true c31; clear c31
                            by_cases c32 : (qN) < (cZ.length : Int)
                            · rw [if_pos c32] at H
                              have ajz : decide ((qN) < (cZ.length : Int)) = true := decide_eq_true c32; clear c32
                              by_cases SE : (rd cZ (tN)) = (rd cZ (qN))
                              · rw [if_pos SE] at H
                                have abw : ((rd cZ (tN)) == (rd cZ (qN))) = true := beq_iff_eq.mpr SE; have abv : ((rd cZ (tN)) != (rd cZ (qN))) = false := bne_eq_false_iff_eq.mpr SE; clear SE; have H' := aj.mk H; clear H; have ae2 : wr.cell? ⟨bQ, 0, none⟩ = some (.int .i64 aY) := (az aZ.out 0).trans rfl; have ae1 : wr.cell? ⟨bQ, 1, none⟩ = some (.int .i64 bu) := (az aZ.out 1).trans rfl; have ae0 : wr.cell? ⟨bQ, 2, none⟩ = some (.slice bZ bn.length bY) := (az aZ.out 2).trans rfl; have aeZ : wr.cell? ⟨bQ, 3, none⟩ = some (.int .i64 dI) := (az aZ.out 3).trans rfl; have aeY : wr.cell? ⟨bQ, 4, none⟩ = some (.int .i64 dL) := (az aZ.out 4).trans rfl; have aeX : wr.cell? ⟨bQ, 5, none⟩ = some (.slice (some BL) cZ.length iK) := (az aZ.out 5).trans rfl; have ael := ay aZ.out 0; have aek := ay aZ.out 1; have aej := ay aZ.out 2; have aei := ay aZ.out 3; have aeh := ay aZ.out 4; have aeg := ay aZ.out 5; have MQ : 0 ≤ ((tN) : Int) := of_decide_eq_true (by first | (with_reducible assumption) | assumption); have Me : (tN) < (cZ.length : Int) := of_decide_eq_true (by first | (with_reducible assumption) | assumption); obtain ⟨UJ, e228, uD⟩ := Kd.gZ vw.out (tN) MQ Me
                                obtain rfl : BL = UJ := (by injection e228)
                                replace uD := (HB.out.cell (World.block_lt_of_cell? w _ uD)).trans uD; replace MQ := eq_true MQ; replace Me := eq_true Me; have MP : 0 ≤ ((qN) : Int) := of_decide_eq_true (by first | (with_reducible assumption) | assumption); have Md : (qN) < (cZ.length : Int) := of_decide_eq_true (by first | (with_reducible assumption) | assumption); obtain ⟨UI, e229, uC⟩ := Kd.gZ vw.out (qN) MP Md
                                obtain rfl : BL = UI := (by injection e229)
                                replace uC := (HB.out.cell (World.block_lt_of_cell? w _ uC)).trans uC; replace MP := eq_true MP; replace Md := eq_true Md; go_wp2
                                repeat (go_quiet (fail); try go_wp2)
                                go_roundg k3
                                case measure => have := Ye.out; have := Dj.out; have := HK3.out; omega
                                case rel => exact ⟨(wrap64 (sO + 1)), (by first | rfl | (simp; done) | (simp [*]; done)), H', ⟨by have := Ye.out; have := Dj.out; have := HK3.out; omega⟩, ⟨by (with_reducible repeat (first | refine aA ?_ _ | refine aH ?_ | refine aC ?_ _)); exact aZ.out⟩, ⟨by repeat (first | (with_reducible first | exact HB.out | apply ak | apply ah | apply au | refine aG ?_ mW.out) | exact HB.out)⟩⟩
                              · rw [if_neg SE] at H
                                have abw : ((rd cZ (tN)) == (rd cZ (qN))) = false := beq_eq_false_iff_ne.mpr SE; have abv : ((rd cZ (tN)) != (rd cZ (qN))) = true := bne_iff_ne.mpr SE; obtain rfl := Option.some.inj H; have aeW : wr.cell? ⟨bQ, 0, none⟩ = some (.int .i64 aY) := (az aZ.out 0).trans rfl; have aeV : wr.cell? ⟨bQ, 1, none⟩ = some (.int .i64 bu) := (az aZ.out 1).trans rfl; have aeU : wr.cell? ⟨bQ, 2, none⟩ = some (.slice bZ bn.length bY) := (az aZ.out 2).trans rfl; have aeT : wr.cell? ⟨bQ, 3, none⟩ = some (.int .i64 dI) := (az aZ.out 3).trans rfl; have aeS : wr.cell? ⟨bQ, 4, none⟩ = some (.int .i64 dL) := (az aZ.out 4).trans rfl; have aeR : wr.cell? ⟨bQ, 5, none⟩ = some (.slice (some BL) cZ.length iK) := (az aZ.out 5).trans rfl; have aef := ay aZ.out 0; have aee := ay aZ.out 1; have aed := ay aZ.out 2; have aec := ay aZ.out 3; have aeb := ay aZ.out 4; have aea := ay aZ.out 5; have MQ : 0 ≤ ((tN) : Int) := of_decide_eq_true (by first | (with_reducible assumption) | assumption); have Me : (tN) < (cZ.length : Int) := of_decide_eq_true (by first | (with_reducible assumption) | assumption); obtain ⟨UJ, e228, uD⟩ := Kd.gZ vw.out (tN) MQ Me
                                obtain rfl : BL = UJ := (by injection e228)
                                replace uD := (HB.out.cell (World.block_lt_of_cell? w _ uD)).trans uD; replace MQ := eq_true MQ; replace Me := eq_true Me; have MP : 0 ≤ ((qN) : Int) := of_decide_eq_true (by first | (with_reducible assumption) | assumption); have Md : (qN) < (cZ.length : Int) := of_decide_eq_true (by first | (with_reducible assumption) | assumption); obtain ⟨UI, e229, uC⟩ := Kd.gZ vw.out (qN) MP Md
                                obtain rfl : BL = UI := (by injection e229)
                                replace uC := (HB.out.cell (World.block_lt_of_cell? w _ uC)).trans uC; replace MP := eq_true MP; replace Md := eq_true Md; go_wp2
                                repeat (go_quiet (fail); try go_wp2)
                                go_ret
                                exact ⟨by first | rfl | (simp [aQ, aN] <;> rfl) | (simp only [← Ku, ← OU, ← yf]; first | rfl | (simp [aQ, aN] <;> rfl)) | (simp [*, aQ, aN] <;> rfl), by repeat (first | (with_reducible first | exact HB.out | apply ak | apply ah | apply au | refine aG ?_ mW.out) | exact HB.out)⟩
                            · rw [if_neg c32] at H
                              exact absurd H (by simp)
                          · rw [if_neg c31] at H
                            exact absurd H (by simp)
                        · rw [if_neg c29] at H
                          exact absurd H (by simp)
                      · rw [if_neg c28] at H
                        exact absurd H (by simp)
                    · rw [if_neg Jo] at H
                      have BI : decide (sO < gB) = false := decide_eq_false Jo; clear Jo; have H' := aj.mk H; clear H; go_wp2
                      repeat (go_quiet (fail); try go_wp2)
                      go_roundg k3
                      case measure => have := Ye.out; have := Dj.out; have := HK3.out; omega
                      case rel => exact ⟨(wrap64 (gB + 1)), (by first | rfl | (simp; done) | (simp [*]; done)), H', ⟨by have := Ye.out; have := Dj.out; have := HK3.out; omega⟩, ⟨by (with_reducible repeat (first | refine aA ?_ _ | refine aH ?_ | refine aC ?_ _)); exact aZ.out⟩, ⟨by repeat (first | (with_reducible first | exact HB.out | apply ak | apply ah | apply au | refine aG ?_ mW.out) | exact HB.out)⟩⟩
             · rw [if_neg Jv] at H
               exact absurd H (by simp)
           · rw [if_neg c21] at H
             exact absurd H (by simp)
         · rw [if_neg c19] at H
           have KN : decide (gB < aY) = false := decide_eq_false c19; clear c19; obtain rfl := Option.some.inj H; go_wp2
           repeat (go_quiet (fail); try go_wp2)
           go_ret
           exact ⟨by first | rfl | (simp [aQ, aN] <;> rfl) | (simp [*, aQ, aN] <;> rfl), by repeat (first | (with_reducible first | exact HB.out | apply ak | apply ah | apply au | refine aG ?_ mW.out) | exact HB.out)⟩
end Go.Proofs.YtcfobekkchhbbaaGreat.PQ

