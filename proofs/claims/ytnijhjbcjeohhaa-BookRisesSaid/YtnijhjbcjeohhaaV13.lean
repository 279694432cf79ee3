import Derived.Test.YtnijhjbcjeohhaaV12
/- Joined and thinned by a program of this session's own (wip/pack2.py) out of its texts (wip/ of its repo); parts were laid by its own program (wip/print-patch.py over the kit's print) out of the translation; Lean checks all. -/
set_option maxRecDepth 100000
set_option maxHeartbeats 4000000
namespace Go.Proofs.Ytnijhjbcjeohhaa.BB
open Go.ChangeShapes Go.WideShapes Go.ChangeAt Go.RowKit Go.Deep Go.Proofs.Ytnijhjbcjeohhaa.KK Go.Proofs.Ytnijhjbcjeohhaa.EE
set_option linter.unusedVariables false
set_option linter.unusedSimpArgs false
theorem z76 : Try.prog.cellsOf 76 = 4 := by kernel_rfl
instance : Inhabited Sm := ⟨Gv⟩
instance : Inhabited Ou := ⟨⟨0, 0, 0, 0⟩⟩
theorem jX.samples {w : World} {A : Option Addr} {l : List Sm} (h : jX 13 w A (l.map Sm.R)) : nR w A l :=
 ⟨by simpa using h.len, fun hp => by
   obtain ⟨b, o, e, hb, hc⟩ := h.at_ (by simpa using hp)
   exact ⟨b, o, e, hb, fun j s hj => hc j s.R (by simp [hj])⟩⟩
section
variable {H : Type} {enc : TypeId × Value → H} {W : World} {base : Nat} {sp : Nat → Bool} {held : Bool} {fuel : Nat} {cs : List Value} {x : DataW H × List MemPlace}
theorem Du (h : DataW.trod enc Try.prog W base sp held fuel 57 cs = some x) : ∃ A c l, cs = [.slice A (l : List Sm).length c] ∧ l.length ≤ c ∧ (l.length ≤ 1000000 → nR W A l) := by
 obtain ⟨A, c, l, e, hc, hr⟩ := wL (R := Sm.R) Try.underlying57 z46 (by decide) (fun _ => rfl) (fun _ _ _ h => EF h) h
 exact ⟨A, c, l, e, hc, fun hl => (hr hl).samples⟩
theorem KI (h : DataW.trod enc Try.prog W base sp held fuel 76 cs = some x) : ∃ t : Ou, cs = t.R.toList := by
 obtain ⟨xs, n, _, _, hl, hlen, hf⟩ := DataW.trod_struct Try.underlying76 h
 rw [z76] at hl
 obtain ⟨c0, c1, c2, c3, rfl⟩ := Tz hl
 have hl2 : xs.length = 2 := hlen
 have get : ∀ i (h : i < 2), xs[i]? = some (xs[i]'(by omega)) := fun i h => List.getElem?_eq_getElem (by omega)
 obtain ⟨k, e1, _, _⟩ := DataW.trod_int Try.underlying2 ((uK hf 0 2 0 1 rfl z2).trans (get 0 (by omega)))
 obtain ⟨a, b, c, e2⟩ := rJ ((uK hf 1 42 1 3 rfl z42).trans (get 1 (by omega)))
 simp at e1 e2
 obtain ⟨rfl, rfl, rfl⟩ := e2
 subst e1
 exact ⟨⟨k, a, b, c⟩, rfl⟩
theorem Ho (h : DataW.trod enc Try.prog W base sp held fuel 64 cs = some x) : ∃ A c l, cs = [.slice A (l : List Ou).length c] ∧ l.length ≤ c ∧ (l.length ≤ 1000000 → jX 4 W A (l.map Ou.R)) :=
 wL Try.underlying64 z76 (by decide) (fun _ => rfl) (fun _ _ _ h => KI h) h
end
theorem Og (c : Cf) (hm : c.may = true) (log : List Sm) : ∃ N : Nat → En, N 0 = en0 ∧ (∀ k, k ≤ log.length → Gd (N k)) ∧ ∀ k s, log[k]? = some s → kX c (N k) s (N (k + 1)) := by
 have hp := Jh hm
 have key : ∀ (n : En) (s : Sm), ∃ n', Gd n → kX c n s n' ∧ Gd n' := fun n s => by
  by_cases hG : Gd n
  · obtain ⟨n', h1, h2, _⟩ := Eh c n s hG hp.1 hp.2.1
    exact ⟨n', fun _ => ⟨h1, h2⟩⟩
  · exact ⟨n, fun h => absurd h hG⟩
 let f : En → Sm → En := fun n s => Classical.choose (key n s)
 have hf : ∀ n s, Gd n → kX c n s (f n s) ∧ Gd (f n s) := fun n s => Classical.choose_spec (key n s)
 let N : Nat → En := fun k => (log.take k).foldl f en0
 have hN : ∀ k s, log[k]? = some s → N (k + 1) = f (N k) s := fun k s h => by
  show (log.take (k + 1)).foldl f en0 = _
  rw [List.take_add_one, h]
  simp [N]
 have hG : ∀ k, k ≤ log.length → Gd (N k) := by
  intro k
  induction k with
  | zero => intro _; exact wU
  | succ k ih =>
    intro h
    obtain ⟨s, hs⟩ : ∃ s, log[k]? = some s := ⟨_, List.getElem?_eq_getElem (by omega)⟩
    rw [hN k s hs]
    exact (hf _ _ (ih (by omega))).2
 refine ⟨N, rfl, hG, fun k s h => ?_⟩
 rw [hN k s h]
 exact (hf _ _ (hG k (by have := (List.getElem?_eq_some_iff.1 h).1; omega))).1
end Go.Proofs.Ytnijhjbcjeohhaa.BB

namespace Go.Proofs.Ytnijhjbcjeohhaa.BB
open Go.RowKit Go.Proofs.Ytnijhjbcjeohhaa.KK Go.Proofs.Ytnijhjbcjeohhaa.EE Go.Proofs.af.aA Go.Proofs.af.aN Go.Proofs.af.aP
set_option linter.unusedVariables false
set_option linter.unusedSimpArgs false
theorem nR.rows {w : World} {A : Option Addr} {l : List Sm} (h : nR w A l) : jX 13 w A (l.map Sm.R) :=
 ⟨by simpa using h.len, fun hp => by
   obtain ⟨b, o, e, hb, hc⟩ := h.at_ (by simpa using hp)
   refine ⟨b, o, e, hb, fun j s hj => ?_⟩
   simp only [List.getElem?_map, Option.map_eq_some_iff] at hj
   obtain ⟨s', hs, rfl⟩ := hj
   exact hc j s' hs⟩
def XL (s t : Ou) : Bool := (s.k == t.k) && (v3 s.y0 s.y1 s.y2 t.y0 t.y1 t.y2 && true)
def Xv (s t : Vc) : Bool := v3 s.y0 s.y1 s.y2 t.y0 t.y1 t.y2
theorem Ja {s t : Ou} : XL s t = true ↔ s = t := by
 obtain ⟨a, b, c, d⟩ := s
 obtain ⟨a', b', c', d'⟩ := t
 simp only [XL, Bool.and_eq_true, yF, beq_iff_eq, Ou.mk.injEq, and_true]
theorem IY {s t : Vc} : Xv s t = true ↔ s = t := by
 obtain ⟨b, c, d⟩ := s
 obtain ⟨b', c', d'⟩ := t
 simp only [Xv, yF, Vc.mk.injEq]
theorem acL (s t : Ou) (w : World) : (Op.equalIn 10000 76 (.agg s.R) (.agg t.R)).run Try.prog w = .ok (XL s t) w := by
 have hF : Try.prog.underlying 76 = some (.struct (Try.prog.fieldsOf 76)) := by simp only [Program.fieldsOf, Try.underlying76]
 rw [run_equalIn_struct (P := Try.prog) w 9999 76 s.R t.R hF (by kernel_rfl)]
 simp only [Program.fieldsOf, Try.underlying76]
 refine kV w 9999 _ _ _ _ _ _ _ _ (by decide) (Tm _ 0 s.k rfl w) (Tm _ 0 t.k rfl w) (run_equalIn_int w 9998 2 .i64 .i64 _ _ rfl) ?_
 refine kV w 9999 _ _ _ _ _ _ _ _ (by decide) (rH _ 1 #[I s.y0, I s.y1, I s.y2] rfl w) (rH _ 1 #[I t.y0, I t.y1, I t.y2] rfl w) (Ig 9997 _ _ _ _ _ _ w) ?_
 simp [Op.eqFields]
theorem eqV (s t : Vc) (w : World) : (Op.equalIn 10000 42 (.agg s.R) (.agg t.R)).run Try.prog w = .ok (Xv s t) w := Ig 9998 _ _ _ _ _ _ w
theorem Ot : Try.prog.eqGuardType Try.prog.depth 76 = false := by kernel_rfl
theorem xQ (a0 b0 : List Sm) (A B : Option Addr) (ca cb : Nat) (w : World) (ha : jX 13 w A (a0.map Sm.R)) (hb : jX 13 w B (b0.map Sm.R)) :
 Calls Try.prog 25 #[.slice A a0.length ca, .slice B b0.length cb] w fun x w' => ∃ r : Bool, x = .returned (.bool r) ∧ (r = true ↔ a0 = b0.take a0.length) ∧ Below w.heap.size w w' := by
 have HA := Lib.hid ha
 have HB := Lib.hid hb
 have la : Hid (a0.length ≤ 1000000) := Lib.hid (by simpa using ha.len)
 clear ha hb
 go_enter Try.func25, Try.ntmps25
 by_cases hl : a0.length ≤ b0.length
 case neg =>
  have hd : decide ((b0.length : Int) < (a0.length : Int)) = true := decide_eq_true (by omega)
  have hd2 : decide (b0.length < a0.length) = true := decide_eq_true (by omega)
  go_wp2
  go_ret
  refine ⟨false, rfl, ⟨fun h => (by cases h), fun e => absurd (congrArg List.length e) ?_⟩, Below.refl _ _⟩
  rw [List.length_take]
  omega
 case pos =>
  have hd : decide ((b0.length : Int) < (a0.length : Int)) = false := decide_eq_false (by omega)
  have hd2 : decide (b0.length < a0.length) = false := decide_eq_false (by omega)
  have HL := Lib.hid hl
  clear hl
  go_wp2
  clear hd hd2
  go_loopw [5] (fun i wr => ∃ k : Nat, k ≤ a0.length ∧ i = .int .i64 k ∧ Hid (Below w.heap.size w wr ∧ ∀ j, j < k → a0[j]? = b0[j]?)) (fun i _ => a0.length - (intOf i).toNat)
  case atStart => exact ⟨0, by omega, rfl, Below.refl _ _, fun j hj => by omega⟩
  case round =>
   obtain ⟨k, hk, rfl, F⟩ := hrel
   obtain rfl | hlt : k = a0.length ∨ k < a0.length := by omega
   · go_wp2
     go_ret
     refine ⟨true, rfl, ⟨fun _ => ?_, fun _ => rfl⟩, F.out.1⟩
     apply List.ext_getElem?
     intro j
     have HLL := HL.out
     by_cases hj : j < a0.length
     · rw [List.getElem?_take, if_pos hj]; exact F.out.2 j hj
     · rw [List.getElem?_eq_none (by omega), List.getElem?_eq_none (by rw [List.length_take]; omega)]
   · have hlb : k < b0.length := by have := HL.out; omega
     obtain ⟨s, hs⟩ : ∃ s, a0[k]? = some s := ⟨_, List.getElem?_eq_getElem hlt⟩
     obtain ⟨t, ht⟩ : ∃ t, b0[k]? = some t := ⟨_, List.getElem?_eq_getElem hlb⟩
     obtain ⟨b1, o1, rfl, _, h1⟩ := HA.out.at_ (by simp; omega)
     obtain ⟨b2, o2, rfl, _, h2⟩ := HB.out.at_ (by simp; omega)
     have H1 : Hid (wr.drew.rangeAt b1 (o1 + k * 13) s.R.toList) := Lib.hid (fun j v hj => ((jX.below HA.out F.out.1).at_ (by simp; omega)).elim (fun b' h => by obtain ⟨o', e, _, hh⟩ := h; injection e with e; injection e with e1 e2 e3; subst e1 e2; exact hh k s.R (by simp [hs]) j v hj))
     have H2 : Hid (wr.drew.rangeAt b2 (o2 + k * 13) t.R.toList) := Lib.hid (fun j v hj => ((jX.below HB.out F.out.1).at_ (by simp; omega)).elim (fun b' h => by obtain ⟨o', e, _, hh⟩ := h; injection e with e; injection e with e1 e2 e3; subst e1 e2; exact hh k t.R (by simp [ht]) j v hj))
     have iE : Hid ((Try.prog.info? 46).map (·.size) = some 13) := Lib.hid (by kernel_rfl)
     have HST := Lib.hid (And.intro hs ht)
     have fO := Lib.hid hlt
     have SG := Lib.hid hlb
     have hd : decide ((k : Int) < (a0.length : Int)) = true := decide_eq_true (by omega)
     clear h1 h2 hs ht hlt hlb hk
     go_upto_region 6 with fail
     clear hd
     rw [show decide (k < a0.length) = true from decide_eq_true fO.out]
     refine OG.fF (by kernel_rfl) (fun l a w => a = { tmps := List.toArray (Value.slice (some ⟨b1, o1, none⟩) a0.length ca :: Value.slice (some ⟨b2, o2, none⟩) b0.length cb :: undef :: undef :: u4 :: Value.int .i64 (k : Int) :: Value.slice (some ⟨b1, o1, none⟩) a0.length ca :: Value.int .i64 (a0.length : Int) :: Value.slice (some ⟨b2, o2, none⟩) b0.length cb :: Value.int .i64 (b0.length : Int) :: Value.bool false :: Value.int .i64 (k : Int) :: Value.slice (some ⟨b1, o1, none⟩) a0.length ca :: Value.int .i64 (a0.length : Int) :: Value.bool true :: u15 :: u16 :: (bif l 0 then Value.slice (some ⟨b1, o1, none⟩) a0.length ca else u17) :: (bif l 1 then Value.int .i64 (k : Int) else u18) :: (bif l 2 then Value.pointer (some ⟨b1, o1 + k * 13, none⟩) else u19) :: (bif l 3 then .agg s.R else u20) :: (bif l 4 then Value.slice (some ⟨b2, o2, none⟩) b0.length cb else u21) :: (bif l 5 then Value.int .i64 (k : Int) else u22) :: (bif l 6 then Value.pointer (some ⟨b2, o2 + k * 13, none⟩) else u23) :: (bif l 7 then .agg t.R else u24) :: (bif l 8 then .bool (!MK s t) else u25) :: []), defers := [] } ∧ (w = wr.drew)) (by kernel_rfl) ?s0 ?ss ?se
     case s0 => exact ⟨rfl, rfl⟩
     case ss =>
      refine OG.Steps.cons rfl (fun l a w K hK hJ hcl h0 hd => ?_) (OG.Steps.cons rfl (fun l a w K hK hJ hcl h0 hd => ?_) (OG.Steps.cons rfl (fun l a w K hK hJ hcl h0 hd => ?_) (OG.Steps.cons rfl (fun l a w K hK hJ hcl h0 hd => ?_) (OG.Steps.cons rfl (fun l a w K hK hJ hcl h0 hd => ?_) (OG.Steps.cons rfl (fun l a w K hK hJ hcl h0 hd => ?_) (OG.Steps.cons rfl (fun l a w K hK hJ hcl h0 hd => ?_) (OG.Steps.cons rfl (fun l a w K hK hJ hcl h0 hd => ?_) (OG.Steps.cons rfl (fun l a w K hK hJ hcl h0 hd => ?_) OG.Steps.nil))))))))
      · obtain ⟨rfl, hP0⟩ := hJ
        have HJ := Lib.hid (hP0)
        clear hP0 hd hcl h0
        go_simp
        exact hK.out _ _ ⟨(rfl), (HJ.out)⟩
      · obtain ⟨rfl, hP0⟩ := hJ
        have HJ := Lib.hid (hP0)
        clear hP0 hd hcl h0
        go_simp
        exact hK.out _ _ ⟨(rfl), (HJ.out)⟩
      · obtain ⟨rfl, hP0⟩ := hJ
        have d0 := hd.get 0 (by rfl)
        have d1 := hd.get 1 (by rfl)
        have HJ := Lib.hid (hP0)
        clear hP0 hd hcl h0
        have g0 : (0 : Int) ≤ (k : Int) := by omega
        have g1 : (k : Int) < (a0.length : Int) := by have := fO.out; omega
        go_simp
        exact hK.out _ _ ⟨(by simp only [OG.upd, d0, d1]; rfl), (HJ.out)⟩
      · obtain ⟨rfl, hP0⟩ := hJ
        have d2 := hd.get 2 (by rfl)
        have HJ := Lib.hid (hP0)
        clear hP0 hd hcl h0
        rw [HJ.out]
        refine wp_load_mid 46 (.tmp 19) rfl b1 (o1 + k * 13) (by show cond (l 2) _ _ = _; rw [d2]; rfl) s.R.toList _ H1.out Try.underlying46 rfl iE.out ?_
        exact hK.out _ _ ⟨(by simp only [OG.upd, d2]; rfl), (rfl)⟩
      · obtain ⟨rfl, hP0⟩ := hJ
        have HJ := Lib.hid (hP0)
        clear hP0 hd hcl h0
        go_simp
        exact hK.out _ _ ⟨(rfl), (HJ.out)⟩
      · obtain ⟨rfl, hP0⟩ := hJ
        have HJ := Lib.hid (hP0)
        clear hP0 hd hcl h0
        go_simp
        exact hK.out _ _ ⟨(rfl), (HJ.out)⟩
      · obtain ⟨rfl, hP0⟩ := hJ
        have d4 := hd.get 4 (by rfl)
        have d5 := hd.get 5 (by rfl)
        have HJ := Lib.hid (hP0)
        clear hP0 hd hcl h0
        have g0 : (0 : Int) ≤ (k : Int) := by omega
        have g1 : (k : Int) < (b0.length : Int) := by have := SG.out; omega
        go_simp
        exact hK.out _ _ ⟨(by simp only [OG.upd, d4, d5]; rfl), (HJ.out)⟩
      · obtain ⟨rfl, hP0⟩ := hJ
        have d6 := hd.get 6 (by rfl)
        have HJ := Lib.hid (hP0)
        clear hP0 hd hcl h0
        rw [HJ.out]
        refine wp_load_mid 46 (.tmp 23) rfl b2 (o2 + k * 13) (by show cond (l 6) _ _ = _; rw [d6]; rfl) t.R.toList _ H2.out Try.underlying46 rfl iE.out ?_
        exact hK.out _ _ ⟨(by simp only [OG.upd, d6]; rfl), (rfl)⟩
      · obtain ⟨rfl, hP0⟩ := hJ
        have d3 := hd.get 3 (by rfl)
        have d7 := hd.get 7 (by rfl)
        have HJ := Lib.hid (hP0)
        clear hP0 hd hcl h0
        refine CU 46 46 (.tmp 20) (.tmp 24) rfl s.R t.R (by show cond (l 3) _ _ = _; rw [d3]; rfl) (by show cond (l 7) _ _ = _; rw [d7]; rfl) zl _ (VG s t w) ?_
        exact hK.out _ _ ⟨(by simp only [OG.upd, d3, d7]; rfl), (HJ.out)⟩
     case se =>
      intro l a w hJ he
      obtain ⟨rfl, hP0⟩ := hJ
      rw [he 0 (by decide), he 1 (by decide), he 2 (by decide), he 3 (by decide), he 4 (by decide), he 5 (by decide), he 6 (by decide), he 7 (by decide), he 8 (by decide)]
      subst hP0
      simp only [cond_true]
      clear he
      cases hE : MK s t
      · simp only [Bool.not_false]
        go_wp2
        go_ret
        refine ⟨false, rfl, ⟨fun h => (by cases h), fun e => ?_⟩, F.out.1.drew⟩
        have h1 := HST.out.1
        rw [e, List.getElem?_take, if_pos fO.out, HST.out.2] at h1
        injection h1 with h1
        rw [sS.2 h1.symm] at hE
        cases hE
      · simp only [Bool.not_true]
        have g0 : (0 : Int) ≤ (k : Int) := by omega
        have g1 : (k : Int) < 1000000 := by have := fO.out; have := la.out; omega
        have hw : IntKind.i64.wrap ((k : Int) + 1) = ((k + 1 : Nat) : Int) := by rw [IntWalk.i64_in _ (by omega)]; omega
        go_wp2
        go_roundw
        case rel =>
         refine ⟨k + 1, fO.out, by first | rfl | (simp [hw]) | (rw [hw]), Lib.hid ⟨F.out.1.drew, fun j hj => ?_⟩⟩
         obtain rfl | h : j = k ∨ j < k := by omega
         · rw [HST.out.1, HST.out.2, sS.1 hE]
         · exact F.out.2 j h
        case measure =>
         have := fO.out
         simp [intOf, hw]
         omega
theorem Au (a0 b0 : List Ou) (A B : Option Addr) (ca cb : Nat) (w : World) (ha : jX 4 w A (a0.map Ou.R)) (hb : jX 4 w B (b0.map Ou.R)) :
 Calls Try.prog 28 #[.slice A a0.length ca, .slice B b0.length cb] w fun x w' => ∃ r : Bool, x = .returned (.bool r) ∧ (r = true ↔ a0 = b0) ∧ Below w.heap.size w w' := by
 have HA := Lib.hid ha
 have HB := Lib.hid hb
 have la : Hid (a0.length ≤ 1000000) := Lib.hid (by simpa using ha.len)
 clear ha hb
 go_enter Try.func28, Try.ntmps28
 by_cases hl : a0.length = b0.length
 case neg =>
  have hd : ((a0.length : Int) != (b0.length : Int)) = true := by rw [bne_iff_ne]; omega
  go_wp2
  go_ret
  exact ⟨false, rfl, ⟨fun h => (by cases h), fun e => absurd (congrArg List.length e) hl⟩, Below.refl _ _⟩
 case pos =>
  have hd : ((a0.length : Int) != (b0.length : Int)) = false := by simp [hl]
  have HL := Lib.hid hl
  clear hl
  go_wp2
  clear hd
  go_loopw [5] (fun i wr => ∃ k : Nat, k ≤ a0.length ∧ i = .int .i64 k ∧ Hid (Below w.heap.size w wr ∧ ∀ j, j < k → a0[j]? = b0[j]?)) (fun i _ => a0.length - (intOf i).toNat)
  case atStart => exact ⟨0, by omega, rfl, Below.refl _ _, fun j hj => by omega⟩
  case round =>
   obtain ⟨k, hk, rfl, F⟩ := hrel
   obtain rfl | hlt : k = a0.length ∨ k < a0.length := by omega
   · go_wp2
     go_ret
     refine ⟨true, rfl, ⟨fun _ => ?_, fun _ => rfl⟩, F.out.1⟩
     apply List.ext_getElem?
     intro j
     have HLL := HL.out
     by_cases hj : j < a0.length
     · exact F.out.2 j hj
     · rw [List.getElem?_eq_none (by omega), List.getElem?_eq_none (by omega)]
   · have hlb : k < b0.length := by have := HL.out; omega
     obtain ⟨s, hs⟩ : ∃ s, a0[k]? = some s := ⟨_, List.getElem?_eq_getElem hlt⟩
     obtain ⟨t, ht⟩ : ∃ t, b0[k]? = some t := ⟨_, List.getElem?_eq_getElem hlb⟩
     obtain ⟨b1, o1, rfl, _, h1⟩ := HA.out.at_ (by simp; omega)
     obtain ⟨b2, o2, rfl, _, h2⟩ := HB.out.at_ (by simp; omega)
     have H1 : Hid (wr.drew.rangeAt b1 (o1 + k * 4) s.R.toList) := Lib.hid (fun j v hj => ((jX.below HA.out F.out.1).at_ (by simp; omega)).elim (fun b' h => by obtain ⟨o', e, _, hh⟩ := h; injection e with e; injection e with e1 e2 e3; subst e1 e2; exact hh k s.R (by simp [hs]) j v hj))
     have H2 : Hid (wr.drew.rangeAt b2 (o2 + k * 4) t.R.toList) := Lib.hid (fun j v hj => ((jX.below HB.out F.out.1).at_ (by simp; omega)).elim (fun b' h => by obtain ⟨o', e, _, hh⟩ := h; injection e with e; injection e with e1 e2 e3; subst e1 e2; exact hh k t.R (by simp [ht]) j v hj))
     have iE : Hid ((Try.prog.info? 76).map (·.size) = some 4) := Lib.hid (by kernel_rfl)
     have HST := Lib.hid (And.intro hs ht)
     have fO := Lib.hid hlt
     have SG := Lib.hid hlb
     have hd : decide ((k : Int) < (a0.length : Int)) = true := decide_eq_true (by omega)
     clear h1 h2 hs ht hlt hlb hk
     go_upto_region 6 with fail
     clear hd
     rw [show decide (k < a0.length) = true from decide_eq_true fO.out]
     refine OG.fF (by kernel_rfl) (fun l a w => a = { tmps := List.toArray (Value.slice (some ⟨b1, o1, none⟩) a0.length ca :: Value.slice (some ⟨b2, o2, none⟩) b0.length cb :: undef :: undef :: u4 :: Value.int .i64 (k : Int) :: Value.slice (some ⟨b1, o1, none⟩) a0.length ca :: Value.int .i64 (a0.length : Int) :: Value.slice (some ⟨b2, o2, none⟩) b0.length cb :: Value.int .i64 (b0.length : Int) :: Value.bool false :: Value.int .i64 (k : Int) :: Value.slice (some ⟨b1, o1, none⟩) a0.length ca :: Value.int .i64 (a0.length : Int) :: Value.bool true :: u15 :: u16 :: (bif l 0 then Value.slice (some ⟨b1, o1, none⟩) a0.length ca else u17) :: (bif l 1 then Value.int .i64 (k : Int) else u18) :: (bif l 2 then Value.pointer (some ⟨b1, o1 + k * 4, none⟩) else u19) :: (bif l 3 then .agg s.R else u20) :: (bif l 4 then Value.slice (some ⟨b2, o2, none⟩) b0.length cb else u21) :: (bif l 5 then Value.int .i64 (k : Int) else u22) :: (bif l 6 then Value.pointer (some ⟨b2, o2 + k * 4, none⟩) else u23) :: (bif l 7 then .agg t.R else u24) :: (bif l 8 then .bool (!XL s t) else u25) :: []), defers := [] } ∧ (w = wr.drew)) (by kernel_rfl) ?s0 ?ss ?se
     case s0 => exact ⟨rfl, rfl⟩
     case ss =>
      refine OG.Steps.cons rfl (fun l a w K hK hJ hcl h0 hd => ?_) (OG.Steps.cons rfl (fun l a w K hK hJ hcl h0 hd => ?_) (OG.Steps.cons rfl (fun l a w K hK hJ hcl h0 hd => ?_) (OG.Steps.cons rfl (fun l a w K hK hJ hcl h0 hd => ?_) (OG.Steps.cons rfl (fun l a w K hK hJ hcl h0 hd => ?_) (OG.Steps.cons rfl (fun l a w K hK hJ hcl h0 hd => ?_) (OG.Steps.cons rfl (fun l a w K hK hJ hcl h0 hd => ?_) (OG.Steps.cons rfl (fun l a w K hK hJ hcl h0 hd => ?_) (OG.Steps.cons rfl (fun l a w K hK hJ hcl h0 hd => ?_) OG.Steps.nil))))))))
      · obtain ⟨rfl, hP0⟩ := hJ
        have HJ := Lib.hid (hP0)
        clear hP0 hd hcl h0
        go_simp
        exact hK.out _ _ ⟨(rfl), (HJ.out)⟩
      · obtain ⟨rfl, hP0⟩ := hJ
        have HJ := Lib.hid (hP0)
        clear hP0 hd hcl h0
        go_simp
        exact hK.out _ _ ⟨(rfl), (HJ.out)⟩
      · obtain ⟨rfl, hP0⟩ := hJ
        have d0 := hd.get 0 (by rfl)
        have d1 := hd.get 1 (by rfl)
        have HJ := Lib.hid (hP0)
        clear hP0 hd hcl h0
        have g0 : (0 : Int) ≤ (k : Int) := by omega
        have g1 : (k : Int) < (a0.length : Int) := by have := fO.out; omega
        go_simp
        exact hK.out _ _ ⟨(by simp only [OG.upd, d0, d1]; rfl), (HJ.out)⟩
      · obtain ⟨rfl, hP0⟩ := hJ
        have d2 := hd.get 2 (by rfl)
        have HJ := Lib.hid (hP0)
        clear hP0 hd hcl h0
        rw [HJ.out]
        refine wp_load_mid 76 (.tmp 19) rfl b1 (o1 + k * 4) (by show cond (l 2) _ _ = _; rw [d2]; rfl) s.R.toList _ H1.out Try.underlying76 rfl iE.out ?_
        exact hK.out _ _ ⟨(by simp only [OG.upd, d2]; rfl), (rfl)⟩
      · obtain ⟨rfl, hP0⟩ := hJ
        have HJ := Lib.hid (hP0)
        clear hP0 hd hcl h0
        go_simp
        exact hK.out _ _ ⟨(rfl), (HJ.out)⟩
      · obtain ⟨rfl, hP0⟩ := hJ
        have HJ := Lib.hid (hP0)
        clear hP0 hd hcl h0
        go_simp
        exact hK.out _ _ ⟨(rfl), (HJ.out)⟩
      · obtain ⟨rfl, hP0⟩ := hJ
        have d4 := hd.get 4 (by rfl)
        have d5 := hd.get 5 (by rfl)
        have HJ := Lib.hid (hP0)
        clear hP0 hd hcl h0
        have g0 : (0 : Int) ≤ (k : Int) := by omega
        have g1 : (k : Int) < (b0.length : Int) := by have := SG.out; omega
        go_simp
        exact hK.out _ _ ⟨(by simp only [OG.upd, d4, d5]; rfl), (HJ.out)⟩
      · obtain ⟨rfl, hP0⟩ := hJ
        have d6 := hd.get 6 (by rfl)
        have HJ := Lib.hid (hP0)
        clear hP0 hd hcl h0
        rw [HJ.out]
        refine wp_load_mid 76 (.tmp 23) rfl b2 (o2 + k * 4) (by show cond (l 6) _ _ = _; rw [d6]; rfl) t.R.toList _ H2.out Try.underlying76 rfl iE.out ?_
        exact hK.out _ _ ⟨(by simp only [OG.upd, d6]; rfl), (rfl)⟩
      · obtain ⟨rfl, hP0⟩ := hJ
        have d3 := hd.get 3 (by rfl)
        have d7 := hd.get 7 (by rfl)
        have HJ := Lib.hid (hP0)
        clear hP0 hd hcl h0
        refine CU 76 76 (.tmp 20) (.tmp 24) rfl s.R t.R (by show cond (l 3) _ _ = _; rw [d3]; rfl) (by show cond (l 7) _ _ = _; rw [d7]; rfl) Ot _ (acL s t w) ?_
        exact hK.out _ _ ⟨(by simp only [OG.upd, d3, d7]; rfl), (HJ.out)⟩
     case se =>
      intro l a w hJ he
      obtain ⟨rfl, hP0⟩ := hJ
      rw [he 0 (by decide), he 1 (by decide), he 2 (by decide), he 3 (by decide), he 4 (by decide), he 5 (by decide), he 6 (by decide), he 7 (by decide), he 8 (by decide)]
      subst hP0
      simp only [cond_true]
      clear he
      cases hE : XL s t
      · simp only [Bool.not_false]
        go_wp2
        go_ret
        refine ⟨false, rfl, ⟨fun h => (by cases h), fun e => ?_⟩, F.out.1.drew⟩
        have h1 := HST.out.1
        rw [e, HST.out.2] at h1
        injection h1 with h1
        rw [Ja.2 h1.symm] at hE
        cases hE
      · simp only [Bool.not_true]
        have g0 : (0 : Int) ≤ (k : Int) := by omega
        have g1 : (k : Int) < 1000000 := by have := fO.out; have := la.out; omega
        have hw : IntKind.i64.wrap ((k : Int) + 1) = ((k + 1 : Nat) : Int) := by rw [IntWalk.i64_in _ (by omega)]; omega
        go_wp2
        go_roundw
        case rel =>
         refine ⟨k + 1, fO.out, by first | rfl | (simp [hw]) | (rw [hw]), Lib.hid ⟨F.out.1.drew, fun j hj => ?_⟩⟩
         obtain rfl | h : j = k ∨ j < k := by omega
         · rw [HST.out.1, HST.out.2, Ja.1 hE]
         · exact F.out.2 j h
        case measure =>
         have := fO.out
         simp [intOf, hw]
         omega
theorem Ar (a0 b0 : List Vc) (A B : Option Addr) (ca cb : Nat) (w : World) (ha : jX 3 w A (a0.map Vc.R)) (hb : jX 3 w B (b0.map Vc.R)) :
 Calls Try.prog 32 #[.slice A a0.length ca, .slice B b0.length cb] w fun x w' => ∃ r : Bool, x = .returned (.bool r) ∧ (r = true ↔ a0 = b0) ∧ Below w.heap.size w w' := by
 have HA := Lib.hid ha
 have HB := Lib.hid hb
 have la : Hid (a0.length ≤ 1000000) := Lib.hid (by simpa using ha.len)
 clear ha hb
 go_enter Try.func32, Try.ntmps32
 by_cases hl : a0.length = b0.length
 case neg =>
  have hd : ((a0.length : Int) != (b0.length : Int)) = true := by rw [bne_iff_ne]; omega
  go_wp2
  go_ret
  exact ⟨false, rfl, ⟨fun h => (by cases h), fun e => absurd (congrArg List.length e) hl⟩, Below.refl _ _⟩
 case pos =>
  have hd : ((a0.length : Int) != (b0.length : Int)) = false := by simp [hl]
  have HL := Lib.hid hl
  clear hl
  go_wp2
  clear hd
  go_loopw [5] (fun i wr => ∃ k : Nat, k ≤ a0.length ∧ i = .int .i64 k ∧ Hid (Below w.heap.size w wr ∧ ∀ j, j < k → a0[j]? = b0[j]?)) (fun i _ => a0.length - (intOf i).toNat)
  case atStart => exact ⟨0, by omega, rfl, Below.refl _ _, fun j hj => by omega⟩
  case round =>
   obtain ⟨k, hk, rfl, F⟩ := hrel
   obtain rfl | hlt : k = a0.length ∨ k < a0.length := by omega
   · go_wp2
     go_ret
     refine ⟨true, rfl, ⟨fun _ => ?_, fun _ => rfl⟩, F.out.1⟩
     apply List.ext_getElem?
     intro j
     have HLL := HL.out
     by_cases hj : j < a0.length
     · exact F.out.2 j hj
     · rw [List.getElem?_eq_none (by omega), List.getElem?_eq_none (by omega)]
   · have hlb : k < b0.length := by have := HL.out; omega
     obtain ⟨s, hs⟩ : ∃ s, a0[k]? = some s := ⟨_, List.getElem?_eq_getElem hlt⟩
     obtain ⟨t, ht⟩ : ∃ t, b0[k]? = some t := ⟨_, List.getElem?_eq_getElem hlb⟩
     obtain ⟨b1, o1, rfl, _, h1⟩ := HA.out.at_ (by simp; omega)
     obtain ⟨b2, o2, rfl, _, h2⟩ := HB.out.at_ (by simp; omega)
     have H1 : Hid (wr.drew.rangeAt b1 (o1 + k * 3) s.R.toList) := Lib.hid (fun j v hj => ((jX.below HA.out F.out.1).at_ (by simp; omega)).elim (fun b' h => by obtain ⟨o', e, _, hh⟩ := h; injection e with e; injection e with e1 e2 e3; subst e1 e2; exact hh k s.R (by simp [hs]) j v hj))
     have H2 : Hid (wr.drew.rangeAt b2 (o2 + k * 3) t.R.toList) := Lib.hid (fun j v hj => ((jX.below HB.out F.out.1).at_ (by simp; omega)).elim (fun b' h => by obtain ⟨o', e, _, hh⟩ := h; injection e with e; injection e with e1 e2 e3; subst e1 e2; exact hh k t.R (by simp [ht]) j v hj))
     have iE : Hid ((Try.prog.info? 42).map (·.size) = some 3) := Lib.hid (by kernel_rfl)
     have HST := Lib.hid (And.intro hs ht)
     have fO := Lib.hid hlt
     have SG := Lib.hid hlb
     have hd : decide ((k : Int) < (a0.length : Int)) = true := decide_eq_true (by omega)
     clear h1 h2 hs ht hlt hlb hk
     go_upto_region 6 with fail
     clear hd
     rw [show decide (k < a0.length) = true from decide_eq_true fO.out]
     refine OG.fF (by kernel_rfl) (fun l a w => a = { tmps := List.toArray (Value.slice (some ⟨b1, o1, none⟩) a0.length ca :: Value.slice (some ⟨b2, o2, none⟩) b0.length cb :: undef :: undef :: u4 :: Value.int .i64 (k : Int) :: Value.slice (some ⟨b1, o1, none⟩) a0.length ca :: Value.int .i64 (a0.length : Int) :: Value.slice (some ⟨b2, o2, none⟩) b0.length cb :: Value.int .i64 (b0.length : Int) :: Value.bool false :: Value.int .i64 (k : Int) :: Value.slice (some ⟨b1, o1, none⟩) a0.length ca :: Value.int .i64 (a0.length : Int) :: Value.bool true :: u15 :: u16 :: (bif l 0 then Value.slice (some ⟨b1, o1, none⟩) a0.length ca else u17) :: (bif l 1 then Value.int .i64 (k : Int) else u18) :: (bif l 2 then Value.pointer (some ⟨b1, o1 + k * 3, none⟩) else u19) :: (bif l 3 then .agg s.R else u20) :: (bif l 4 then Value.slice (some ⟨b2, o2, none⟩) b0.length cb else u21) :: (bif l 5 then Value.int .i64 (k : Int) else u22) :: (bif l 6 then Value.pointer (some ⟨b2, o2 + k * 3, none⟩) else u23) :: (bif l 7 then .agg t.R else u24) :: (bif l 8 then .bool (!Xv s t) else u25) :: []), defers := [] } ∧ (w = wr.drew)) (by kernel_rfl) ?s0 ?ss ?se
     case s0 => exact ⟨rfl, rfl⟩
     case ss =>
      refine OG.Steps.cons rfl (fun l a w K hK hJ hcl h0 hd => ?_) (OG.Steps.cons rfl (fun l a w K hK hJ hcl h0 hd => ?_) (OG.Steps.cons rfl (fun l a w K hK hJ hcl h0 hd => ?_) (OG.Steps.cons rfl (fun l a w K hK hJ hcl h0 hd => ?_) (OG.Steps.cons rfl (fun l a w K hK hJ hcl h0 hd => ?_) (OG.Steps.cons rfl (fun l a w K hK hJ hcl h0 hd => ?_) (OG.Steps.cons rfl (fun l a w K hK hJ hcl h0 hd => ?_) (OG.Steps.cons rfl (fun l a w K hK hJ hcl h0 hd => ?_) (OG.Steps.cons rfl (fun l a w K hK hJ hcl h0 hd => ?_) OG.Steps.nil))))))))
      · obtain ⟨rfl, hP0⟩ := hJ
        have HJ := Lib.hid (hP0)
        clear hP0 hd hcl h0
        go_simp
        exact hK.out _ _ ⟨(rfl), (HJ.out)⟩
      · obtain ⟨rfl, hP0⟩ := hJ
        have HJ := Lib.hid (hP0)
        clear hP0 hd hcl h0
        go_simp
        exact hK.out _ _ ⟨(rfl), (HJ.out)⟩
      · obtain ⟨rfl, hP0⟩ := hJ
        have d0 := hd.get 0 (by rfl)
        have d1 := hd.get 1 (by rfl)
        have HJ := Lib.hid (hP0)
        clear hP0 hd hcl h0
        have g0 : (0 : Int) ≤ (k : Int) := by omega
        have g1 : (k : Int) < (a0.length : Int) := by have := fO.out; omega
        go_simp
        exact hK.out _ _ ⟨(by simp only [OG.upd, d0, d1]; rfl), (HJ.out)⟩
      · obtain ⟨rfl, hP0⟩ := hJ
        have d2 := hd.get 2 (by rfl)
        have HJ := Lib.hid (hP0)
        clear hP0 hd hcl h0
        rw [HJ.out]
        refine wp_load_mid 42 (.tmp 19) rfl b1 (o1 + k * 3) (by show cond (l 2) _ _ = _; rw [d2]; rfl) s.R.toList _ H1.out Try.underlying42 rfl iE.out ?_
        exact hK.out _ _ ⟨(by simp only [OG.upd, d2]; rfl), (rfl)⟩
      · obtain ⟨rfl, hP0⟩ := hJ
        have HJ := Lib.hid (hP0)
        clear hP0 hd hcl h0
        go_simp
        exact hK.out _ _ ⟨(rfl), (HJ.out)⟩
      · obtain ⟨rfl, hP0⟩ := hJ
        have HJ := Lib.hid (hP0)
        clear hP0 hd hcl h0
        go_simp
        exact hK.out _ _ ⟨(rfl), (HJ.out)⟩
      · obtain ⟨rfl, hP0⟩ := hJ
        have d4 := hd.get 4 (by rfl)
        have d5 := hd.get 5 (by rfl)
        have HJ := Lib.hid (hP0)
        clear hP0 hd hcl h0
        have g0 : (0 : Int) ≤ (k : Int) := by omega
        have g1 : (k : Int) < (b0.length : Int) := by have := SG.out; omega
        go_simp
        exact hK.out _ _ ⟨(by simp only [OG.upd, d4, d5]; rfl), (HJ.out)⟩
      · obtain ⟨rfl, hP0⟩ := hJ
        have d6 := hd.get 6 (by rfl)
        have HJ := Lib.hid (hP0)
        clear hP0 hd hcl h0
        rw [HJ.out]
        refine wp_load_mid 42 (.tmp 23) rfl b2 (o2 + k * 3) (by show cond (l 6) _ _ = _; rw [d6]; rfl) t.R.toList _ H2.out Try.underlying42 rfl iE.out ?_
        exact hK.out _ _ ⟨(by simp only [OG.upd, d6]; rfl), (rfl)⟩
      · obtain ⟨rfl, hP0⟩ := hJ
        have d3 := hd.get 3 (by rfl)
        have d7 := hd.get 7 (by rfl)
        have HJ := Lib.hid (hP0)
        clear hP0 hd hcl h0
        refine CU 42 42 (.tmp 20) (.tmp 24) rfl s.R t.R (by show cond (l 3) _ _ = _; rw [d3]; rfl) (by show cond (l 7) _ _ = _; rw [d7]; rfl) Ov _ (eqV s t w) ?_
        exact hK.out _ _ ⟨(by simp only [OG.upd, d3, d7]; rfl), (HJ.out)⟩
     case se =>
      intro l a w hJ he
      obtain ⟨rfl, hP0⟩ := hJ
      rw [he 0 (by decide), he 1 (by decide), he 2 (by decide), he 3 (by decide), he 4 (by decide), he 5 (by decide), he 6 (by decide), he 7 (by decide), he 8 (by decide)]
      subst hP0
      simp only [cond_true]
      clear he
      cases hE : Xv s t
      · simp only [Bool.not_false]
        go_wp2
        go_ret
        refine ⟨false, rfl, ⟨fun h => (by cases h), fun e => ?_⟩, F.out.1.drew⟩
        have h1 := HST.out.1
        rw [e, HST.out.2] at h1
        injection h1 with h1
        rw [IY.2 h1.symm] at hE
        cases hE
      · simp only [Bool.not_true]
        have g0 : (0 : Int) ≤ (k : Int) := by omega
        have g1 : (k : Int) < 1000000 := by have := fO.out; have := la.out; omega
        have hw : IntKind.i64.wrap ((k : Int) + 1) = ((k + 1 : Nat) : Int) := by rw [IntWalk.i64_in _ (by omega)]; omega
        go_wp2
        go_roundw
        case rel =>
         refine ⟨k + 1, fO.out, by first | rfl | (simp [hw]) | (rw [hw]), Lib.hid ⟨F.out.1.drew, fun j hj => ?_⟩⟩
         obtain rfl | h : j = k ∨ j < k := by omega
         · rw [HST.out.1, HST.out.2, IY.1 hE]
         · exact F.out.2 j h
        case measure =>
         have := fO.out
         simp [intOf, hw]
         omega
end Go.Proofs.Ytnijhjbcjeohhaa.BB

namespace Go.Proofs.Ytnijhjbcjeohhaa.BB
open Go.RowKit Go.Proofs.Ytnijhjbcjeohhaa.KK Go.Proofs.Ytnijhjbcjeohhaa.EE Go.Proofs.af.aA Go.Proofs.af.aN Go.Proofs.af.aP
set_option linter.unusedVariables false
set_option linter.unusedSimpArgs false
theorem wp_append_own {P : Program} (w : World) {o : Oper} {a : Act} {K : Act → World → Prop} {Q : Exit → Act → World → Prop}
 (s x : Operand) (t : TypeId) (hop : o.op = Op.call { callee := Callee.builtin Builtin.append, args := #[s, x], argTypes := #[t, t] })
 (base : Nat) (e : TypeId) (i : TypeInfo) (z : Value) (size bytes : Nat) (h1 : P.underlying t = some (.slice e)) (h2 : P.info? e = some i) (h3 : i.zero = some z) (h4 : i.size = size) (h5 : i.bytes = bytes) (h6 : z.cells.size = size) (h7 : 0 < size)
 (v : Value) (k : Nat) (xs : List Value) (hs : a.eval s = v) (hown : w.ownsRow base e size v k xs) (ad : Addr) (m c : Nat) (news : List Value) (hx : a.eval x = .slice (some ad) m c) (hn : news.length = m * size)
 (hc : ∀ j u, news[j]? = some u → w.cell? (ad.add j) = some u) (h1c : ∀ u ∈ news, u.oneCell' = true) (b1 : k + m ≤ maxLen) (b2 : (k + m) * bytes ≤ 140737488355328) (b3 : base ≤ w.heap.size)
 (hK : ∀ v' w', w'.ownsRow base e size v' (k + m) (xs ++ news) → w.grownBy w' v.ownBlock → K (a.put o.dst v') w') : o.wp P a w K Q := by
 obtain ⟨v', w', hrun, r1, r2, r3⟩ := run_append_own (P := P) w base t o.type e i z size bytes h1 h2 h3 h4 h5 h6 h7 v k xs hown ad m c news hn hc h1c b1 b2 b3
 unfold Oper.wp
 simp [execOp, hop, resolve, invoke, builtin, hs, hx, hrun, Result.andThen]
 exact hK _ _ r1 r2
theorem yM (l : List Tk) (A : Option Addr) (ca : Nat) (w : World) (hr : jX 5 w A (l.map Tk.R)) :
 Calls Try.prog 27 #[.slice A l.length ca] w fun x w' => ∃ r : Bool, x = .returned (.bool r) ∧ (r = true ↔ ∀ i p q, l[i]? = some p → l[i + 1]? = some q → falls p q = false) ∧ Below w.heap.size w w' := by
 have HR := Lib.hid hr
 have la : Hid (l.length ≤ 1000000) := Lib.hid (by simpa using hr.len)
 clear hr
 go_enter Try.func27, Try.ntmps27
 go_wp2
 go_loopw [3] (fun i wr => ∃ m : Nat, (m + 1 ≤ l.length ∨ m = 0) ∧ i = .int .i64 ((m + 1 : Nat) : Int) ∧ Hid (Below w.heap.size w wr ∧ ∀ i p q, i < m → l[i]? = some p → l[i + 1]? = some q → falls p q = false)) (fun i _ => l.length - (intOf i).toNat)
 case atStart => exact ⟨0, .inr rfl, rfl, Below.refl _ _, fun i p q h => by omega⟩
 case round =>
  obtain ⟨m, hk, rfl, F⟩ := hrel
  by_cases hlt : m + 1 < l.length
  case neg =>
   have hd : decide (((m + 1 : Nat) : Int) < (l.length : Int)) = false := decide_eq_false (by omega)
   have hd' : decide ((m : Int) + 1 < (l.length : Int)) = false := decide_eq_false (by omega)
   have hd2 : decide (m + 1 < l.length) = false := decide_eq_false (by omega)
   go_wp2
   go_ret
   refine ⟨true, rfl, ⟨fun _ i p q hp hq => F.out.2 i p q ?_ hp hq, fun _ => rfl⟩, F.out.1⟩
   have := (List.getElem?_eq_some_iff.1 hq).1
   omega
  case pos =>
   have fO := Lib.hid hlt
   have hd : decide (((m + 1 : Nat) : Int) < (l.length : Int)) = true := decide_eq_true (by omega)
   have hd' : decide ((m : Int) + 1 < (l.length : Int)) = true := decide_eq_true (by omega)
   have hd2 : decide (m + 1 < l.length) = true := decide_eq_true (by omega)
   have hw : IntKind.i64.wrap ((m : Int) + 1 + 1) = ((m + 1 + 1 : Nat) : Int) := by rw [IntWalk.i64_in _ (by have := la.out; omega)]; omega
   obtain ⟨q, hq⟩ : ∃ q, l[m + 1]? = some q := ⟨_, List.getElem?_eq_getElem hlt⟩
   obtain ⟨p, hp⟩ : ∃ p, l[m]? = some p := ⟨_, List.getElem?_eq_getElem (by omega)⟩
   obtain ⟨b, o, rfl, hb, hat⟩ := (HR.out.below F.out.1).at_ (by simp; omega)
   have hP := hat m p.R (by simp [hp])
   have hQ := hat (m + 1) q.R (by simp [hq])
   have p0 : wr.cell? ⟨b, o + m * 5, none⟩ = some (I p.gen) := hP 0 _ rfl
   have p1 : wr.cell? ⟨b, o + m * 5 + 1, none⟩ = some (I p.k) := hP 1 _ rfl
   have q0 : wr.cell? ⟨b, o + (m + 1) * 5, none⟩ = some (I q.gen) := hQ 0 _ rfl
   have q1 : wr.cell? ⟨b, o + (m + 1) * 5 + 1, none⟩ = some (I q.k) := hQ 1 _ rfl
   have Gn := Lib.hid (And.intro hp hq)
   have hm : Hid (m < l.length) := Lib.hid (by omega)
   clear hP hQ hat hp hq hlt hk hb
   have g2 : (m : Int) < (l.length : Int) := by have := hm.out; omega
   have g3 : (m : Int) + 1 < (l.length : Int) := by have := fO.out; omega
   have g0 : (0 : Int) ≤ (m : Int) := by omega
   have g4 : (0 : Int) ≤ (m : Int) + 1 := by omega
   have hs : IntKind.i64.wrap ((m : Int) + 1 - 1) = (m : Int) := by rw [IntWalk.i64_in _ (by have := la.out; omega)]; omega
   have hs2 : IntKind.i64.wrap (m : Int) = (m : Int) := IntWalk.i64_in _ (by have := la.out; omega)
   rcases Int.lt_trichotomy p.gen q.gen with h | h | h
   · have d1 : decide (p.gen < q.gen) = true := decide_eq_true h
     have HG := Lib.hid h
     clear h
     go_wp2
     go_quiet (fail)
     go_wp2
     go_roundw
     case rel => exact ⟨m + 1, .inl fO.out, by first | rfl | (simp [hw]) | (rw [hw]), Lib.hid ⟨ah F.out.1 _, fun i p' q' hi hp' hq' => (by
      obtain rfl | hi2 : i = m ∨ i < m := by omega
      · rw [Gn.out.1] at hp'; rw [Gn.out.2] at hq'
        injection hp' with hp'; injection hq' with hq'; subst hp' hq'
        have HG' := HG.out
        simp only [falls, Bool.or_eq_false_iff, Bool.and_eq_false_iff, decide_eq_false_iff_not]
        omega
      · exact F.out.2 i p' q' hi2 hp' hq')⟩⟩
     case measure =>
      have := fO.out
      simp [intOf, hw]
      omega
   · have d1 : decide (p.gen < q.gen) = false := decide_eq_false (by omega)
     have d2 : (q.gen == p.gen) = true := by rw [beq_iff_eq]; exact h.symm
     have ZT := Lib.hid h
     clear h
     by_cases hk : p.k < q.k
     case neg =>
      have d3 : decide (p.k < q.k) = false := decide_eq_false hk
      go_wp2
      go_quiet (fail)
      go_wp2
      have h := ZT.out
      go_ret
      exact ⟨false, rfl, ⟨fun h => (by cases h), fun hh => (by have := hh m p q Gn.out.1 Gn.out.2; simp [falls, h] at this; omega)⟩, ah F.out.1 _⟩
     case pos =>
     have d3 : decide (p.k < q.k) = true := decide_eq_true hk
     have HG := Lib.hid (And.intro ZT.out hk)
     clear hk
     go_wp2
     go_quiet (fail)
     go_wp2
     go_roundw
     case rel => exact ⟨m + 1, .inl fO.out, by first | rfl | (simp [hw]) | (rw [hw]), Lib.hid ⟨ah F.out.1 _, fun i p' q' hi hp' hq' => (by
      obtain rfl | hi2 : i = m ∨ i < m := by omega
      · rw [Gn.out.1] at hp'; rw [Gn.out.2] at hq'
        injection hp' with hp'; injection hq' with hq'; subst hp' hq'
        have HG' := HG.out
        simp only [falls, Bool.or_eq_false_iff, Bool.and_eq_false_iff, decide_eq_false_iff_not]
        omega
      · exact F.out.2 i p' q' hi2 hp' hq')⟩⟩
     case measure =>
      have := fO.out
      simp [intOf, hw]
      omega
   · have d1 : decide (p.gen < q.gen) = false := decide_eq_false (by omega)
     have d2 : (q.gen == p.gen) = false := by rw [beq_eq_false_iff_ne]; omega
     have HG := Lib.hid h
     clear h
     go_wp2
     go_quiet (fail)
     go_wp2
     have h := HG.out
     go_ret
     exact ⟨false, rfl, ⟨fun h => (by cases h), fun hh => (by have := hh m p q Gn.out.1 Gn.out.2; simp [falls, h] at this)⟩, ah F.out.1 _⟩
theorem Ey (ts : List Tk) (g : Int) (A : Option Addr) (ca : Nat) (w0 : World) (hr : jX 5 w0 A (ts.map Tk.R)) :
 Calls Try.prog 30 #[.slice A ts.length ca, .int .i64 g] w0 fun x w' => ∃ v, x = .returned v ∧ w'.ownsRow w0.heap.size 76 4 v (lY g ts).length (jJ (lY g ts)) ∧ Below w0.heap.size w0 w' := by
 have HR := Lib.hid hr
 have la : Hid (ts.length ≤ 1000000) := Lib.hid (by simpa using hr.len)
 clear hr
 go_enter Try.func30, Try.ntmps30
 go_wp2
 go_loopw [6, 5] (fun i v wr => ∃ k : Nat, k ≤ ts.length ∧ i = .int .i64 k ∧ Hid (Below w0.heap.size w0 wr ∧ wr.ownsRow w0.heap.size 76 4 v (lY g (ts.take k)).length (jJ (lY g (ts.take k))))) (fun i _ _ => ts.length - (intOf i).toNat)
 case atStart => exact ⟨0, by omega, rfl, Below.refl _ _, World.ownsRow_nil _ _ _ _⟩
 case round =>
  obtain ⟨k, hk, rfl, F⟩ := hrel
  obtain rfl | hlt : k = ts.length ∨ k < ts.length := by omega
  · go_wp2
    go_ret
    have h := F.out.2
    rw [List.take_length] at h
    exact ⟨_, rfl, h, F.out.1⟩
  · have fO := Lib.hid hlt
    obtain ⟨t, ht⟩ : ∃ t, ts[k]? = some t := ⟨_, List.getElem?_eq_getElem hlt⟩
    have HT := Lib.hid ht
    obtain ⟨b, o, rfl, hb, hat⟩ := (HR.out.below F.out.1).at_ (by simp; omega)
    have hP := hat k t.R (by simp [ht])
    have p0 : wr.cell? ⟨b, o + k * 5, none⟩ = some (I t.gen) := hP 0 _ rfl
    have p1 : wr.cell? ⟨b, o + k * 5 + 1, none⟩ = some (I t.k) := hP 1 _ rfl
    have p2 : wr.cell? ⟨b, o + k * 5 + 2, none⟩ = some (I t.y0) := hP 2 _ rfl
    have p3 : wr.cell? ⟨b, o + k * 5 + 3, none⟩ = some (I t.y1) := hP 3 _ rfl
    have p4 : wr.cell? ⟨b, o + k * 5 + 4, none⟩ = some (I t.y2) := hP 4 _ rfl
    clear hat hP ht hlt hk hb
    have hd : decide (k < ts.length) = true := decide_eq_true fO.out
    have g0 : (0 : Int) ≤ (k : Int) := by omega
    have g1 : (k : Int) < 1000000 := by have := la.out; have := fO.out; omega
    have g2 : (k : Int) < (ts.length : Int) := by have := fO.out; omega
    have hw : IntKind.i64.wrap ((k : Int) + 1) = ((k + 1 : Nat) : Int) := by rw [IntWalk.i64_in _ (by omega)]; omega
    have TK : Hid (ts.take (k + 1) = ts.take k ++ [t]) := Lib.hid (by rw [List.take_add_one, HT.out]; rfl)
    by_cases hg : t.gen = g
    case neg =>
     have d1 : (t.gen == g) = false := by rw [beq_eq_false_iff_ne]; exact hg
     go_wp2
     go_roundw
     case rel =>
      refine ⟨k + 1, fO.out, by first | rfl | (simp [hw]) | (rw [hw]), Lib.hid ⟨F.out.1, ?_⟩⟩
      rw [TK.out, vF, if_neg hg, List.append_nil]
      exact F.out.2
     case measure =>
      have := fO.out
      simp [intOf, hw]
      omega
    case pos =>
     have d1 : (t.gen == g) = true := by rw [beq_iff_eq]; exact hg
     obtain ⟨i0, hi, hz0, hz1, hz2⟩ := info_parts (show (Try.prog.info? 76).map (fun i => (i.zero, i.size, i.bytes)) = some (some (.agg #[.int .i64 0, .int .i64 0, .int .i64 0, .int .i64 0]), 4, 32) by kernel_rfl)
     have HI := Lib.hid (And.intro hi (And.intro hz0 (And.intro hz1 hz2)))
     have LE : Hid ((lY g (ts.take k)).length ≤ 1000000) := Lib.hid (by have h1 := oV g (ts.take k); rw [List.length_take] at h1; have := la.out; omega)
     clear hi hz0 hz1 hz2
     go_upto_region 6 with fail
     have OV : Hid ((wr.drew.alloc (.cells #[I t.k, I t.y0, I t.y1, I t.y2] 76)).ownsRow w0.heap.size 76 4 u5 (lY g (ts.take k)).length (jJ (lY g (ts.take k)))) := Lib.hid (World.ownsRow.alloc (w := wr.drew) F.out.2 _)
     have B1 : Hid (Below w0.heap.size w0 (wr.drew.alloc (.cells #[I t.k, I t.y0, I t.y1, I t.y2] 76))) := Lib.hid (F.out.1.drew.alloc F.out.1.size _)
     have HC : Hid (∀ j u, t.out.R.toList[j]? = some u → (wr.drew.alloc (.cells #[I t.k, I t.y0, I t.y1, I t.y2] 76)).cell? ((⟨wr.heap.size, 0, none⟩ : Addr).add j) = some u) := Lib.hid (fun j u hu => by
      have h := (Row.new wr.drew 76 #[I t.k, I t.y0, I t.y1, I t.y2]).cell j
      have e : (⟨wr.heap.size, 0, none⟩ : Addr).add j = ⟨wr.heap.size, j, none⟩ := by
       simp [Addr.add]
       omega
      rw [e]
      refine Eq.trans h ?_
      simpa [Ou.R, Tk.out] using hu)
     have H1 : Hid (∀ u ∈ t.out.R.toList, u.oneCell' = true) := Lib.hid (by simp [Ou.R, Value.oneCell'])
     have H2 : Hid ((lY g (ts.take k)).length + 1 ≤ maxLen) := Lib.hid (by simp only [maxLen]; have := LE.out; omega)
     have H3 : Hid (((lY g (ts.take k)).length + 1) * 32 ≤ 140737488355328) := Lib.hid (by have := LE.out; omega)
     have H4 : Hid (w0.heap.size ≤ (wr.drew.alloc (.cells #[I t.k, I t.y0, I t.y1, I t.y2] 76)).heap.size) := Lib.hid B1.out.size
     refine OG.fF (by kernel_rfl) (fun l a w => ∃ v' : Value, a = { tmps := List.toArray (Value.slice (some ⟨b, o, none⟩) ts.length ca :: Value.int .i64 g :: undef :: undef :: Value.slice none 0 0 :: (bif l 14 then v' else u5) :: Value.int .i64 (k : Int) :: Value.int .i64 (k : Int) :: Value.slice (some ⟨b, o, none⟩) ts.length ca :: Value.int .i64 (ts.length : Int) :: Value.bool true :: u11 :: u12 :: Value.slice (some ⟨b, o, none⟩) ts.length ca :: Value.int .i64 (k : Int) :: Value.pointer (some ⟨b, o + k * 5, none⟩) :: Value.pointer (some ⟨b, o + k * 5, none⟩) :: I g :: Value.int .i64 g :: Value.bool true :: (bif l 0 then u5 else u20) :: (bif l 1 then Value.slice (some ⟨b, o, none⟩) ts.length ca else u21) :: (bif l 2 then Value.int .i64 (k : Int) else u22) :: (bif l 3 then Value.pointer (some ⟨b, o + k * 5, none⟩) else u23) :: (bif l 4 then Value.pointer (some ⟨b, o + k * 5 + 1, none⟩) else u24) :: (bif l 5 then I t.k else u25) :: (bif l 6 then Value.slice (some ⟨b, o, none⟩) ts.length ca else u26) :: (bif l 7 then Value.int .i64 (k : Int) else u27) :: (bif l 8 then Value.pointer (some ⟨b, o + k * 5, none⟩) else u28) :: (bif l 9 then Value.pointer (some ⟨b, o + k * 5 + 2, none⟩) else u29) :: (bif l 10 then .agg #[I t.y0, I t.y1, I t.y2] else u30) :: (bif l 11 then .agg #[I t.k, I t.y0, I t.y1, I t.y2] else u31) :: (bif l 12 then .slice (some ⟨wr.heap.size, 0, none⟩) 1 1 else u32) :: (bif l 13 then v' else u33) :: undef :: []), defers := [] } ∧ (l 12 = false → w = wr.drew) ∧ (l 12 = true → l 13 = false → w = wr.drew.alloc (.cells #[I t.k, I t.y0, I t.y1, I t.y2] 76)) ∧ (l 13 = true → w.ownsRow w0.heap.size 76 4 v' ((lY g (ts.take k)).length + 1) (jJ (lY g (ts.take k)) ++ t.out.R.toList) ∧ Below w0.heap.size w0 w)) (by kernel_rfl) ?s0 ?ss ?se
     case s0 => exact ⟨undef, rfl, fun _ => rfl, fun h => (by cases h), fun h => (by cases h)⟩
     case ss =>
      refine OG.Steps.cons rfl (fun l a w K hK hJ hcl h0 hd => ?_) (OG.Steps.cons rfl (fun l a w K hK hJ hcl h0 hd => ?_) (OG.Steps.cons rfl (fun l a w K hK hJ hcl h0 hd => ?_) (OG.Steps.cons rfl (fun l a w K hK hJ hcl h0 hd => ?_) (OG.Steps.cons rfl (fun l a w K hK hJ hcl h0 hd => ?_) (OG.Steps.cons rfl (fun l a w K hK hJ hcl h0 hd => ?_) (OG.Steps.cons rfl (fun l a w K hK hJ hcl h0 hd => ?_) (OG.Steps.cons rfl (fun l a w K hK hJ hcl h0 hd => ?_) (OG.Steps.cons rfl (fun l a w K hK hJ hcl h0 hd => ?_) (OG.Steps.cons rfl (fun l a w K hK hJ hcl h0 hd => ?_) (OG.Steps.cons rfl (fun l a w K hK hJ hcl h0 hd => ?_) (OG.Steps.cons rfl (fun l a w K hK hJ hcl h0 hd => ?_) (OG.Steps.cons rfl (fun l a w K hK hJ hcl h0 hd => ?_) (OG.Steps.cons rfl (fun l a w K hK hJ hcl h0 hd => ?_) (OG.Steps.cons rfl (fun l a w K hK hJ hcl h0 hd => ?_) OG.Steps.nil))))))))))))))
      · obtain ⟨v', rfl, hP0, hP1, hP2⟩ := hJ
        have f13 := hcl.off 13 0 (by rfl) h0
        have f14 := hcl.off 14 13 (by rfl) f13
        have HJ := Lib.hid (And.intro hP0 (And.intro hP1 (hP2)))
        clear hP0 hP1 hP2 hd hcl h0
        have F13 := Lib.hid f13
        have F14 := Lib.hid f14
        clear f13 f14
        go_simp
        have f13 := F13.out
        have f14 := F14.out
        exact hK.out _ _ ⟨v', (by simp only [OG.upd, f13, f14]; rfl), (HJ.out.1), (HJ.out.2.1), (HJ.out.2.2)⟩
      · obtain ⟨v', rfl, hP0, hP1, hP2⟩ := hJ
        have HJ := Lib.hid (And.intro hP0 (And.intro hP1 (hP2)))
        clear hP0 hP1 hP2 hd hcl h0
        go_simp
        exact hK.out _ _ ⟨v', (rfl), (HJ.out.1), (HJ.out.2.1), (HJ.out.2.2)⟩
      · obtain ⟨v', rfl, hP0, hP1, hP2⟩ := hJ
        have HJ := Lib.hid (And.intro hP0 (And.intro hP1 (hP2)))
        clear hP0 hP1 hP2 hd hcl h0
        go_simp
        exact hK.out _ _ ⟨v', (rfl), (HJ.out.1), (HJ.out.2.1), (HJ.out.2.2)⟩
      · obtain ⟨v', rfl, hP0, hP1, hP2⟩ := hJ
        have d1 := hd.get 1 (by rfl)
        have d2 := hd.get 2 (by rfl)
        have HJ := Lib.hid (And.intro hP0 (And.intro hP1 (hP2)))
        clear hP0 hP1 hP2 hd hcl h0
        go_simp
        exact hK.out _ _ ⟨v', (by simp only [OG.upd, d1, d2]; rfl), (HJ.out.1), (HJ.out.2.1), (HJ.out.2.2)⟩
      · obtain ⟨v', rfl, hP0, hP1, hP2⟩ := hJ
        have d3 := hd.get 3 (by rfl)
        have HJ := Lib.hid (And.intro hP0 (And.intro hP1 (hP2)))
        clear hP0 hP1 hP2 hd hcl h0
        go_simp
        exact hK.out _ _ ⟨v', (by simp only [OG.upd, d3]; rfl), (HJ.out.1), (HJ.out.2.1), (HJ.out.2.2)⟩
      · obtain ⟨v', rfl, hP0, hP1, hP2⟩ := hJ
        have d4 := hd.get 4 (by rfl)
        have f11 := hcl.off 11 5 (by rfl) h0
        have f12 := hcl.off 12 11 (by rfl) f11
        have f13 := hcl.off 13 12 (by rfl) f12
        have HJ := Lib.hid (And.intro hP0 (And.intro hP1 (hP2)))
        clear hP0 hP1 hP2 hd hcl h0
        have hw := HJ.out.1 f12
        subst hw
        go_simp
        exact hK.out _ _ ⟨v', (by simp only [OG.upd, d4, f11, f12, f13]; rfl), (fun _ => rfl), (fun h => Bool.noConfusion (f12.symm.trans h)), (fun h => Bool.noConfusion (f13.symm.trans h))⟩
      · obtain ⟨v', rfl, hP0, hP1, hP2⟩ := hJ
        have HJ := Lib.hid (And.intro hP0 (And.intro hP1 (hP2)))
        clear hP0 hP1 hP2 hd hcl h0
        go_simp
        exact hK.out _ _ ⟨v', (rfl), (HJ.out.1), (HJ.out.2.1), (HJ.out.2.2)⟩
      · obtain ⟨v', rfl, hP0, hP1, hP2⟩ := hJ
        have HJ := Lib.hid (And.intro hP0 (And.intro hP1 (hP2)))
        clear hP0 hP1 hP2 hd hcl h0
        go_simp
        exact hK.out _ _ ⟨v', (rfl), (HJ.out.1), (HJ.out.2.1), (HJ.out.2.2)⟩
      · obtain ⟨v', rfl, hP0, hP1, hP2⟩ := hJ
        have d6 := hd.get 6 (by rfl)
        have d7 := hd.get 7 (by rfl)
        have HJ := Lib.hid (And.intro hP0 (And.intro hP1 (hP2)))
        clear hP0 hP1 hP2 hd hcl h0
        go_simp
        exact hK.out _ _ ⟨v', (by simp only [OG.upd, d6, d7]; rfl), (HJ.out.1), (HJ.out.2.1), (HJ.out.2.2)⟩
      · obtain ⟨v', rfl, hP0, hP1, hP2⟩ := hJ
        have d8 := hd.get 8 (by rfl)
        have HJ := Lib.hid (And.intro hP0 (And.intro hP1 (hP2)))
        clear hP0 hP1 hP2 hd hcl h0
        go_simp
        exact hK.out _ _ ⟨v', (by simp only [OG.upd, d8]; rfl), (HJ.out.1), (HJ.out.2.1), (HJ.out.2.2)⟩
      · obtain ⟨v', rfl, hP0, hP1, hP2⟩ := hJ
        have d9 := hd.get 9 (by rfl)
        have f11 := hcl.off 11 10 (by rfl) h0
        have f12 := hcl.off 12 11 (by rfl) f11
        have f13 := hcl.off 13 12 (by rfl) f12
        have HJ := Lib.hid (And.intro hP0 (And.intro hP1 (hP2)))
        clear hP0 hP1 hP2 hd hcl h0
        have hw := HJ.out.1 f12
        subst hw
        go_simp
        exact hK.out _ _ ⟨v', (by simp only [OG.upd, d9, f11, f12, f13]; rfl), (fun _ => rfl), (fun h => Bool.noConfusion (f12.symm.trans h)), (fun h => Bool.noConfusion (f13.symm.trans h))⟩
      · obtain ⟨v', rfl, hP0, hP1, hP2⟩ := hJ
        have d5 := hd.get 5 (by rfl)
        have d10 := hd.get 10 (by rfl)
        have HJ := Lib.hid (And.intro hP0 (And.intro hP1 (hP2)))
        clear hP0 hP1 hP2 hd hcl h0
        go_simp
        exact hK.out _ _ ⟨v', (by simp only [OG.upd, d5, d10]; rfl), (HJ.out.1), (HJ.out.2.1), (HJ.out.2.2)⟩
      · obtain ⟨v', rfl, hP0, hP1, hP2⟩ := hJ
        have d11 := hd.get 11 (by rfl)
        have f13 := hcl.off 13 12 (by rfl) h0
        have HJ := Lib.hid (And.intro hP0 (And.intro hP1 (hP2)))
        clear hP0 hP1 hP2 hd hcl
        have hw := HJ.out.1 h0
        subst hw
        clear h0
        go_simp
        exact hK.out _ _ ⟨v', (by simp only [OG.upd, d11, f13]; rfl), (fun h => by simp [OG.upd] at h), (fun _ _ => rfl), (fun h => Bool.noConfusion (f13.symm.trans h))⟩
      · obtain ⟨v', rfl, hP0, hP1, hP2⟩ := hJ
        have d0 := hd.get 0 (by rfl)
        have d12 := hd.get 12 (by rfl)
        have f14 := hcl.off 14 13 (by rfl) h0
        have HJ := Lib.hid (And.intro hP0 (And.intro hP1 (hP2)))
        clear hP0 hP1 hP2 hd hcl
        have hw := HJ.out.2.1 d12 h0
        subst hw
        clear h0
        refine wp_append_own _ (.tmp 20) (.tmp 32) 64 rfl w0.heap.size 76 i0 (.agg #[.int .i64 0, .int .i64 0, .int .i64 0, .int .i64 0]) 4 32 Try.underlying64 HI.out.1 HI.out.2.1 HI.out.2.2.1 HI.out.2.2.2 rfl (by decide) u5 _ _ (by show cond (l 0) _ _ = _; rw [d0]; rfl) OV.out ⟨wr.heap.size, 0, none⟩ 1 1 t.out.R.toList (by show cond (l 12) _ _ = _; rw [d12]; rfl) rfl HC.out H1.out H2.out H3.out H4.out ?_
        intro v2 w2 hown hgrow
        exact hK.out _ _ ⟨v2, (by simp only [OG.upd, d0, d12, f14]; rfl), (fun h => Bool.noConfusion (d12.symm.trans h)), (fun _ h => by simp [OG.upd] at h), (fun _ => ⟨hown, B1.out.grown hgrow H4.out (fun j ej => (OV.out.lt j ej).1)⟩)⟩
      · obtain ⟨v', rfl, hP0, hP1, hP2⟩ := hJ
        have d13 := hd.get 13 (by rfl)
        have HJ := Lib.hid (And.intro hP0 (And.intro hP1 (hP2)))
        clear hP0 hP1 hP2 hd hcl h0
        go_simp
        exact hK.out _ _ ⟨v', (by simp only [OG.upd, d13]; rfl), (HJ.out.1), (HJ.out.2.1), (HJ.out.2.2)⟩
     case se =>
      intro l a w hJ he
      obtain ⟨v', rfl, hP0, hP1, hP2⟩ := hJ
      rw [he 0 (by decide), he 1 (by decide), he 2 (by decide), he 3 (by decide), he 4 (by decide), he 5 (by decide), he 6 (by decide), he 7 (by decide), he 8 (by decide), he 9 (by decide), he 10 (by decide), he 11 (by decide), he 12 (by decide), he 13 (by decide), he 14 (by decide)]
      obtain ⟨hown, hbel⟩ := hP2 (he 13 (by decide))
      clear hP0 hP1 he HC H1 H2 H3 H4 OV d1
      have OW : Hid (w.ownsRow w0.heap.size 76 4 v' (lY g (ts.take (k + 1))).length (jJ (lY g (ts.take (k + 1))))) := Lib.hid (by
       rw [TK.out, vF, if_pos hg, List.length_append, wR]
       simpa [jJ] using hown)
      have B2 := Lib.hid hbel
      clear hown hbel B1
      simp only [cond_true]
      go_wp2
      go_roundw
      case rel => exact ⟨k + 1, fO.out, by first | rfl | (simp [hw]) | (rw [hw]), Lib.hid ⟨B2.out, OW.out⟩⟩
      case measure =>
       have := fO.out
       simp [intOf, hw]
       omega
end Go.Proofs.Ytnijhjbcjeohhaa.BB

namespace Go.Proofs.Ytnijhjbcjeohhaa.BB
open Go.RowKit Go.Proofs.Ytnijhjbcjeohhaa.KK Go.Proofs.Ytnijhjbcjeohhaa.EE Go.Proofs.af.aA Go.Proofs.af.aN Go.Proofs.af.aP
set_option linter.unusedVariables false
set_option linter.unusedSimpArgs false
theorem zJ (a b : List Sm) (l : List Tk) (g : Int) (A B C : Option Addr) (ca cb cl : Nat) (w : World) (hr0 : a.length + b.length + l.length ≤ 100 → nR w A a ∧ nR w B b ∧ jX 5 w C (l.map Tk.R)) (hz : a.length ≤ 100000000000000 ∧ b.length ≤ 100000000000000 ∧ l.length ≤ 100000000000000) (hcb : b.length ≤ cb) (hmb : cb ≤ 4611686018427387904) :
 Calls Try.prog 7 #[.agg #[.slice A a.length ca, .slice B b.length cb, .slice C l.length cl, .int .i64 g]] w fun x w' => x = .returned (.bool true) ∧ Below w.heap.size w w' := by
 have HR0 := Lib.hid hr0
 have LA := Lib.hid hz
 have HC := Lib.hid (And.intro hcb hmb)
 clear hr0 hz hcb hmb
 go_enter Try.func7, Try.ntmps7
 have NB := Lib.hid (Row.new w 60 #[.slice A a.length ca, .slice B b.length cb, .slice C l.length cl, .int .i64 g])
 have B0 := Lib.hid ((Below.refl w.heap.size w).alloc (Nat.le_refl _) (.cells #[.slice A a.length ca, .slice B b.length cb, .slice C l.length cl, .int .i64 g] 60))
 go_upto_region 1 with fail
 generalize w.alloc (.cells #[.slice A a.length ca, .slice B b.length cb, .slice C l.length cl, .int .i64 g] 60) = w0 at NB B0 ⊢
 have hc : ∀ i, w0.cell? ⟨w.heap.size, i, none⟩ = #[.slice A a.length ca, .slice B b.length cb, .slice C l.length cl, .int .i64 g][i]? := NB.out.cell
 go_wp2_with fail
 refine (iR _).mono ?_
 rintro x w1 ⟨rfl, hb⟩
 have B1 : Hid (Below w.heap.size w w1) := Lib.hid (B0.out.trans (hb.mono B0.out.size))
 clear hb B0 hc NB
 have s1 : IntKind.i64.wrap ((a.length : Int) + (b.length : Int)) = (a.length : Int) + (b.length : Int) := by rw [IntWalk.i64_in _ (by have := LA.out; omega)]
 have s2 : IntKind.i64.wrap ((a.length : Int) + (b.length : Int) + (l.length : Int)) = (a.length : Int) + (b.length : Int) + (l.length : Int) := by rw [IntWalk.i64_in _ (by have := LA.out; omega)]
 by_cases h : (100 : Int) < (a.length : Int) + (b.length : Int) + (l.length : Int)
 case pos =>
  have hd : decide ((100 : Int) < (a.length : Int) + (b.length : Int) + (l.length : Int)) = true := decide_eq_true h
  go_wp2
  exact bodyPost_ret (results_tmp rfl _ _ _) rfl ⟨rfl, B1.out⟩
 have hd : decide ((100 : Int) < (a.length : Int) + (b.length : Int) + (l.length : Int)) = false := decide_eq_false h
 have hall := HR0.out (by omega)
 have HA := Lib.hid hall.1
 have HB := Lib.hid hall.2.1
 have HL := Lib.hid hall.2.2
 have L1 : Hid (l.length ≤ 100) := Lib.hid (by omega)
 clear h hall HR0
 go_wp2_with fail
 refine (jH a b A B ca cb w1 (HA.out.below B1.out) (HB.out.below B1.out) HC.out.1 HC.out.2).mono ?_
 rintro x w2 ⟨r1, rfl, h1, hb⟩
 have B2 : Hid (Below w.heap.size w w2) := Lib.hid (B1.out.trans (hb.mono B1.out.size))
 have H1 := Lib.hid h1
 clear hb B1 h1
 go_wp2_with fail
 refine (xQ a b A B ca cb w2 (HA.out.below B2.out).rows (HB.out.below B2.out).rows).mono ?_
 rintro x w3 ⟨r2, rfl, h1, hb⟩
 obtain rfl : r1 = r2 := Bool.eq_iff_iff.2 (H1.out.trans h1.symm)
 have B3 : Hid (Below w.heap.size w w3) := Lib.hid (B2.out.trans (hb.mono B2.out.size))
 clear hb B2 h1 H1
 have e1 : (r1 == r1) = true := by simp
 go_wp2_with fail
 refine (jl l C cl w3 (HL.out.below B3.out)).mono ?_
 rintro x w4 ⟨r3, rfl, h1, hb⟩
 have B4 : Hid (Below w.heap.size w w4) := Lib.hid (B3.out.trans (hb.mono B3.out.size))
 have H1 := Lib.hid h1
 clear hb B3 h1
 go_wp2_with fail
 refine (yM l C cl w4 (HL.out.below B4.out)).mono ?_
 rintro x w5 ⟨r4, rfl, h1, hb⟩
 obtain rfl : r3 = r4 := Bool.eq_iff_iff.2 (H1.out.trans h1.symm)
 have B5 : Hid (Below w.heap.size w w5) := Lib.hid (B4.out.trans (hb.mono B4.out.size))
 clear hb B4 h1 H1
 have e2 : (r3 == r3) = true := by simp
 go_wp2_with fail
 refine (iL l g C cl w5 (HL.out.below B5.out)).mono ?_
 rintro x w6 ⟨v, rfl, hv, hb⟩
 obtain ⟨G, cap, rfl, _, _, hG⟩ := yS hv (by have := oV g l; have := L1.out; omega)
 have RG := Lib.hid hG
 have B6 : Hid (Below w.heap.size w w6) := Lib.hid (B5.out.trans (hb.mono B5.out.size))
 clear hv hb hG B5
 go_wp2_with fail
 refine (Ey l g C cl w6 (HL.out.below B6.out)).mono ?_
 rintro x w7 ⟨v, rfl, hv, hb⟩
 obtain ⟨G2, cap2, rfl, _, _, hG⟩ := yS hv (by have := oV g l; have := L1.out; omega)
 have Ug := Lib.hid hG
 have RG1 := Lib.hid (RG.out.below hb)
 have B7 : Hid (Below w.heap.size w w7) := Lib.hid (B6.out.trans (hb.mono B6.out.size))
 clear hv hb hG B6 RG
 go_wp2_with fail
 refine (Au (lY g l) (lY g l) G G2 cap cap2 w7 RG1.out Ug.out).mono ?_
 rintro x w8 ⟨r, rfl, h1, hb⟩
 obtain rfl : r = true := h1.2 rfl
 have B8 : Hid (Below w.heap.size w w8) := Lib.hid (B7.out.trans (hb.mono B7.out.size))
 clear hb B7 h1
 go_wp2
 exact bodyPost_ret (results_tmp rfl _ _ _) rfl ⟨rfl, B8.out⟩
end Go.Proofs.Ytnijhjbcjeohhaa.BB

namespace Go.Proofs.Ytnijhjbcjeohhaa.BB
open Go.ChangeShapes Go.WideShapes Go.ChangeAt Go.RowKit Go.Deep Go.Proofs.Ytnijhjbcjeohhaa.KK Go.Proofs.Ytnijhjbcjeohhaa.EE
set_option linter.unusedVariables false
set_option linter.unusedSimpArgs false
theorem z57 : Try.prog.cellsOf 57 = 1 := by kernel_rfl
theorem z58 : Try.prog.cellsOf 58 = 1 := by kernel_rfl
theorem z64 : Try.prog.cellsOf 64 = 1 := by kernel_rfl
theorem z60 : Try.prog.cellsOf 60 = 4 := by kernel_rfl
theorem z68 : Try.prog.cellsOf 68 = 9 := by kernel_rfl
theorem z81 : Try.prog.cellsOf 81 = 9 := by kernel_rfl
theorem b46 : Try.prog.bytesOf 46 = 104 := by kernel_rfl
theorem b78 : Try.prog.bytesOf 78 = 40 := by kernel_rfl
theorem Tv {α : Type} {l : List α} (h : l.length = 9) : ∃ c0 c1 c2 c3 c4 c5 c6 c7 c8, l = [c0, c1, c2, c3, c4, c5, c6, c7, c8] := by
 match l, h with
 | [c0, c1, c2, c3, c4, c5, c6, c7, c8], _ => exact ⟨c0, c1, c2, c3, c4, c5, c6, c7, c8, rfl⟩
theorem Bl {k : Int} (h : (Lit.int IntKind.i64 k).wf = true) : -9223372036854775808 ≤ k ∧ k ≤ 9223372036854775807 := by
 simp [Lit.wf, IntKind.wrap, IntKind.bits, IntKind.signed] at h
 have hm : IntKind.i64.min = -9223372036854775808 := by decide
 have hM : IntKind.i64.max = 9223372036854775807 := by decide
 omega
section
variable {H : Type} {enc : TypeId × Value → H} {W : World} {base : Nat} {held : Bool} {fuel : Nat} {cs : List Value} {x : DataW H × List MemPlace}
theorem OY {t e : TypeId} (ht : Try.prog.underlying t = some (.slice e)) (hb : 8 ≤ Try.prog.bytesOf e) {A : Option Addr} {n c : Nat} (h : DataW.trod enc Try.prog W base (fun _ => true) held fuel t [.slice A n c] = some x) (hw : ∀ k ∈ x.1.weights Try.prog t, k ≤ reachBytes) : c ≤ 100000000000000 := by
 rcases DataW.trod_slice ht h with ⟨h, _⟩ | ⟨a, len, cap, elems, rest, m, _, hq, rfl, _, hl, _, hn, _, hs, _⟩
 · simp at h; omega
 · simp at hq
   obtain ⟨_, _, hc⟩ := hq
   have hr := (hs rfl).1
   have := hw ((elems.length + rest.length) * Try.prog.bytesOf e) (by simp [DataW.weights, ht])
   simp only [reachBytes] at this
   have h8 : (elems.length + rest.length) * 8 ≤ (elems.length + rest.length) * Try.prog.bytesOf e := Nat.mul_le_mul_left _ hb
   omega
theorem ig (h : DataW.trod enc Try.prog W base (fun _ => true) held fuel 57 cs = some x) (hw : ∀ k ∈ x.1.weights Try.prog 57, k ≤ reachBytes) : ∃ A c l, cs = [.slice A (l : List Sm).length c] ∧ l.length ≤ c ∧ c ≤ 100000000000000 ∧ (l.length ≤ 1000000 → nR W A l) := by
 obtain ⟨A, c, l, rfl, hc, hr⟩ := Du h
 exact ⟨A, c, l, rfl, hc, OY Try.underlying57 (by rw [b46]; decide) h hw, hr⟩
theorem vw (h : DataW.trod enc Try.prog W base (fun _ => true) held fuel 58 cs = some x) (hw : ∀ k ∈ x.1.weights Try.prog 58, k ≤ reachBytes) : ∃ A c l, cs = [.slice A (l : List Tk).length c] ∧ l.length ≤ c ∧ c ≤ 100000000000000 ∧ (l.length ≤ 1000000 → jX 5 W A (l.map Tk.R)) := by
 obtain ⟨A, c, l, rfl, hc, hr⟩ := yT h
 exact ⟨A, c, l, rfl, hc, OY Try.underlying58 (by rw [b78]; decide) h hw, hr⟩
theorem AB (h : DataW.trod enc Try.prog W base (fun _ => true) held fuel 60 cs = some x) (hw : ∀ k ∈ x.1.weights Try.prog 60, k ≤ reachBytes) :
 ∃ A ca a B cb b C cl l g, cs = [.slice A (a : List Sm).length ca, .slice B (b : List Sm).length cb, .slice C (l : List Tk).length cl, .int .i64 g] ∧ (a.length ≤ ca ∧ ca ≤ 100000000000000) ∧ (b.length ≤ cb ∧ cb ≤ 100000000000000) ∧ (l.length ≤ cl ∧ cl ≤ 100000000000000) ∧
   (a.length + b.length + l.length ≤ 100 → nR W A a ∧ nR W B b ∧ jX 5 W C (l.map Tk.R)) := by
 obtain ⟨xs, n, _, rfl, hl, hlen, hf⟩ := DataW.trod_struct Try.underlying60 h
 rw [z60] at hl
 obtain ⟨c0, c1, c2, c3, rfl⟩ := Tz hl
 have hl2 : xs.length = 4 := hlen
 have get : ∀ i (h : i < 4), xs[i]? = some (xs[i]'(by omega)) := fun i h => List.getElem?_eq_getElem (by omega)
 have h0 := (uK hf 0 57 0 1 rfl z57).trans (get 0 (by omega))
 have h1 := (uK hf 1 57 1 1 rfl z57).trans (get 1 (by omega))
 have h2 := (uK hf 2 58 2 1 rfl z58).trans (get 2 (by omega))
 obtain ⟨g, e3, _, _⟩ := DataW.trod_int Try.underlying2 ((uK hf 3 2 3 1 rfl z2).trans (get 3 (by omega)))
 have w0 : ∀ k ∈ (xs[0]'(by omega)).1.weights Try.prog 57, k ≤ reachBytes := fun k hk => hw k (by
  simp only [DataW.weights, Try.underlying60]
  exact DataW.weights_mem_each (j := 0) (t := 57) rfl (by rw [List.getElem?_map, get 0 (by omega)]; rfl) k hk)
 have w1 : ∀ k ∈ (xs[1]'(by omega)).1.weights Try.prog 57, k ≤ reachBytes := fun k hk => hw k (by
  simp only [DataW.weights, Try.underlying60]
  exact DataW.weights_mem_each (j := 1) (t := 57) rfl (by rw [List.getElem?_map, get 1 (by omega)]; rfl) k hk)
 have w2 : ∀ k ∈ (xs[2]'(by omega)).1.weights Try.prog 58, k ≤ reachBytes := fun k hk => hw k (by
  simp only [DataW.weights, Try.underlying60]
  exact DataW.weights_mem_each (j := 2) (t := 58) rfl (by rw [List.getElem?_map, get 2 (by omega)]; rfl) k hk)
 obtain ⟨A, ca, a, e0, ha, ha2, ra⟩ := ig h0 w0
 obtain ⟨B, cb, b, e1, hb, hb2, rb⟩ := ig h1 w1
 obtain ⟨C, cl, l, e2, hc, hc2, rc⟩ := vw h2 w2
 simp at e0 e1 e2 e3
 subst e0 e1 e2 e3
 exact ⟨A, ca, a, B, cb, b, C, cl, l, g, rfl, ⟨ha, ha2⟩, ⟨hb, hb2⟩, ⟨hc, hc2⟩, fun h => ⟨ra (by omega), rb (by omega), rc (by omega)⟩⟩
theorem xW (h : DataW.trod enc Try.prog W base (fun _ => true) held fuel 68 cs = some x) (hw : ∀ k ∈ x.1.weights Try.prog 68, k ≤ reachBytes) :
 ∃ (c : Cf) (A : Option Addr) (cp : Nat) (log : List Sm) (n : Int) (B : Option Addr) (cb : Nat) (os : List Ou), cs = [I c.dt, I c.acc, I c.bias, I c.dJ, I c.dY, I c.gate, .slice A log.length cp, .int .i64 n, .slice B os.length cb] ∧ (log.length ≤ cp ∧ cp ≤ 100000000000000) ∧
   (log.length ≤ 20 → nR W A log) ∧ (os.length ≤ 20 → jX 4 W B (os.map Ou.R)) := by
 obtain ⟨xs, m, _, rfl, hl, hlen, hf⟩ := DataW.trod_struct Try.underlying68 h
 rw [z68] at hl
 obtain ⟨c0, c1, c2, c3, c4, c5, c6, c7, c8, rfl⟩ := Tv hl
 have hl2 : xs.length = 4 := hlen
 have get : ∀ i (h : i < 4), xs[i]? = some (xs[i]'(by omega)) := fun i h => List.getElem?_eq_getElem (by omega)
 obtain ⟨c, e0⟩ := Bg ((uK hf 0 24 0 6 rfl z24).trans (get 0 (by omega)))
 have h1 := (uK hf 1 57 6 1 rfl z57).trans (get 1 (by omega))
 obtain ⟨n, e2, _, _⟩ := DataW.trod_int Try.underlying3 ((uK hf 2 3 7 1 rfl z3).trans (get 2 (by omega)))
 obtain ⟨B, cb, os, e3, _, ro⟩ := Ho ((uK hf 3 64 8 1 rfl z64).trans (get 3 (by omega)))
 have w1 : ∀ k ∈ (xs[1]'(by omega)).1.weights Try.prog 57, k ≤ reachBytes := fun k hk => hw k (by
  simp only [DataW.weights, Try.underlying68]
  exact DataW.weights_mem_each (j := 1) (t := 57) rfl (by rw [List.getElem?_map, get 1 (by omega)]; rfl) k hk)
 obtain ⟨A, cp, log, e1, ha, ha2, ra⟩ := ig h1 w1
 simp at e0 e1 e2 e3
 obtain ⟨rfl, rfl, rfl, rfl, rfl, rfl⟩ := e0
 subst e1 e2 e3
 exact ⟨c, A, cp, log, n, B, cb, os, rfl, ⟨ha, ha2⟩, fun h => ra (by omega), fun h => ro (by omega)⟩
theorem Dv (h : DataW.trod enc Try.prog W base (fun _ => true) held fuel 81 cs = some x) (hw : ∀ k ∈ x.1.weights Try.prog 81, k ≤ reachBytes) :
 ∃ (c : Cf) (A : Option Addr) (cp : Nat) (log : List Sm) (k y : Int), cs = [I c.dt, I c.acc, I c.bias, I c.dJ, I c.dY, I c.gate, .slice A log.length cp, .int .i64 k, .int .i64 y] ∧ (log.length ≤ cp ∧ cp ≤ 100000000000000) ∧ (-9223372036854775808 ≤ k ∧ k ≤ 9223372036854775807) ∧ (-9223372036854775808 ≤ y ∧ y ≤ 9223372036854775807) ∧
   (log.length ≤ 15 → nR W A log) := by
 obtain ⟨xs, m, _, rfl, hl, hlen, hf⟩ := DataW.trod_struct Try.underlying81 h
 rw [z81] at hl
 obtain ⟨c0, c1, c2, c3, c4, c5, c6, c7, c8, rfl⟩ := Tv hl
 have hl2 : xs.length = 4 := hlen
 have get : ∀ i (h : i < 4), xs[i]? = some (xs[i]'(by omega)) := fun i h => List.getElem?_eq_getElem (by omega)
 obtain ⟨c, e0⟩ := Bg ((uK hf 0 24 0 6 rfl z24).trans (get 0 (by omega)))
 have h1 := (uK hf 1 57 6 1 rfl z57).trans (get 1 (by omega))
 obtain ⟨k, e2, _, k2⟩ := DataW.trod_int Try.underlying2 ((uK hf 2 2 7 1 rfl z2).trans (get 2 (by omega)))
 obtain ⟨y, e3, _, k3⟩ := DataW.trod_int Try.underlying22 ((uK hf 3 22 8 1 rfl z22).trans (get 3 (by omega)))
 have w1 : ∀ k ∈ (xs[1]'(by omega)).1.weights Try.prog 57, k ≤ reachBytes := fun k hk => hw k (by
  simp only [DataW.weights, Try.underlying81]
  exact DataW.weights_mem_each (j := 1) (t := 57) rfl (by rw [List.getElem?_map, get 1 (by omega)]; rfl) k hk)
 obtain ⟨A, cp, log, e1, ha, ha2, ra⟩ := ig h1 w1
 simp at e0 e1 e2 e3
 obtain ⟨rfl, rfl, rfl, rfl, rfl, rfl⟩ := e0
 subst e1 e2 e3
 exact ⟨c, A, cp, log, k, y, rfl, ⟨ha, ha2⟩, Bl k2, Bl k3, fun h => ra (by omega)⟩
end
end Go.Proofs.Ytnijhjbcjeohhaa.BB

namespace Go.Proofs.Ytnijhjbcjeohhaa.BB
open Go.RowKit Go.Proofs.Ytnijhjbcjeohhaa.KK Go.Proofs.Ytnijhjbcjeohhaa.EE Go.Proofs.af.aA Go.Proofs.af.aN Go.Proofs.af.aP
set_option linter.unusedVariables false
set_option linter.unusedSimpArgs false
theorem Uo {P : Program} {o : Oper} {a : Act} {w : World} {K : Act → World → Prop} {Q : Exit → Act → World → Prop} (ty t2 : TypeId) (x y : Operand) (ho : o.op = .binOp .eql ty x y t2) (cx cy : Array Value) (hx : a.eval x = .agg cx) (hy : a.eval y = .agg cy)
 (hg : P.eqGuardType P.depth ty = false) (r : Bool) (he : (Op.equalIn 10000 ty (.agg cx) (.agg cy)).run P w = .ok r w) (h : K (a.put o.dst (.bool r)) w) : o.wp P a w K Q := by
 have he' : (Op.equal ty (.agg cx) (.agg cy)).run P w = .ok r w := he
 unfold Oper.wp execOp
 simp only [ho, hx, hy, eqGuard, Sem.run_bind, run_program, hg, binOp, he', Sem.run_pure, Result.andThen_ok, Bool.not_false, if_true, Bool.not_true, if_false, Bool.false_eq_true, ↓reduceIte]
 exact h
theorem zL (b : List Sm) (B : Option Addr) (cb m : Nat) (hm : m ≤ b.length) (w : World) (hb : nR w B b) (hc : b.length ≤ cb) (hx : cb ≤ 4611686018427387904) :
 Calls Try.prog 24 #[.slice B m cb, .slice B b.length cb] w fun x w' => x = .returned (.bool true) ∧ Below w.heap.size w w' := by
 have h := jH (b.take m) b B B cb cb w (hb.take m) hb hc hx
 have e : (b.take m).length = m := by rw [List.length_take]; omega
 rw [e] at h
 refine h.mono ?_
 rintro x w' ⟨r, rfl, hr, hb⟩
 exact ⟨by rw [hr.2 (by rfl)], hb⟩
theorem F9 (b : List Sm) (B : Option Addr) (cb m : Nat) (hm : m ≤ b.length) (w : World) (hb : nR w B b) (hc : b.length ≤ cb) (hx : cb ≤ 4611686018427387904) :
 Calls Try.prog 24 #[.slice B b.length cb, .slice B m cb] w fun x w' => x = .returned (.bool ((m : Int) == (b.length : Int))) ∧ Below w.heap.size w w' := by
 have e : (b.take m).length = m := by rw [List.length_take]; omega
 have h := jH b (b.take m) B B cb cb w hb (hb.take m) (by omega) hx
 rw [e] at h
 refine h.mono ?_
 rintro x w' ⟨r, rfl, hr, hb⟩
 refine ⟨?_, hb⟩
 have : r = ((m : Int) == (b.length : Int)) := by
  rw [Bool.eq_iff_iff, hr, beq_iff_eq]
  constructor
  · intro h
    have := congrArg List.length h
    simp only [List.length_take] at this
    omega
  · intro h
    have : m = b.length := by omega
    subst this
    simp
 rw [this]
theorem sF (a0 b0 : List Sm) (n : Int) (A B : Option Addr) (ca cb : Nat) (w : World) (hr0 : a0.length + b0.length ≤ 60 → nR w A a0 ∧ nR w B b0) (hz : a0.length ≤ 100000000000000 ∧ b0.length ≤ 100000000000000) (hca : a0.length ≤ ca) (hma : ca ≤ 4611686018427387904) (hcb : b0.length ≤ cb) (hmb : cb ≤ 4611686018427387904) :
 Calls Try.prog 11 #[.slice A a0.length ca, .slice B b0.length cb, .int .i64 n] w fun x w' => x = .returned (.bool true) ∧ Below w.heap.size w w' := by
 have HR0 := Lib.hid hr0
 have LA := Lib.hid hz
 have HCA := Lib.hid (And.intro hca hma)
 have WJ := Lib.hid (And.intro hcb hmb)
 clear hr0 hz hca hma hcb hmb
 go_enter Try.func11, Try.ntmps11
 go_wp2_with fail
 refine (iR _).mono ?_
 rintro x w1 ⟨rfl, hb⟩
 have B1 := Lib.hid hb
 clear hb
 have s1 : IntKind.i64.wrap ((a0.length : Int) + (b0.length : Int)) = (a0.length : Int) + (b0.length : Int) := by rw [IntWalk.i64_in _ (by have := LA.out; omega)]
 by_cases h : (60 : Int) < (a0.length : Int) + (b0.length : Int)
 case pos =>
  have hd : decide ((60 : Int) < (a0.length : Int) + (b0.length : Int)) = true := decide_eq_true h
  go_wp2
  exact bodyPost_ret (results_tmp rfl _ _ _) rfl ⟨rfl, B1.out⟩
 have hd : decide ((60 : Int) < (a0.length : Int) + (b0.length : Int)) = false := decide_eq_false h
 have hall := HR0.out (by omega)
 have HA := Lib.hid hall.1
 have HB := Lib.hid hall.2
 have L1 : Hid (a0.length ≤ 60 ∧ b0.length ≤ 60) := Lib.hid (by omega)
 clear h hall HR0
 have BO : Hid (∀ w', Below w.heap.size w w' → Calls Try.prog 24 #[.slice A a0.length ca, .slice B b0.length cb] w' fun x w2 => ∃ r : Bool, x = .returned (.bool r) ∧ (r = true ↔ a0 = b0.take a0.length) ∧ Below w'.heap.size w' w2) := Lib.hid (fun w' h => jH a0 b0 A B ca cb w' (HA.out.below h) (HB.out.below h) WJ.out.1 WJ.out.2)
 have BP : Hid (∀ w', Below w.heap.size w w' → Calls Try.prog 24 #[.slice B b0.length cb, .slice A a0.length ca] w' fun x w2 => ∃ r : Bool, x = .returned (.bool r) ∧ (r = true ↔ b0 = a0.take b0.length) ∧ Below w'.heap.size w' w2) := Lib.hid (fun w' h => jH b0 a0 B A cb ca w' (HB.out.below h) (HA.out.below h) HCA.out.1 HCA.out.2)
 have CT : Hid (∀ m w', m ≤ b0.length → Below w.heap.size w w' → Calls Try.prog 24 #[.slice B m cb, .slice B b0.length cb] w' fun x w2 => x = .returned (.bool true) ∧ Below w'.heap.size w' w2) := Lib.hid (fun m w' hm h => zL b0 B cb m hm w' (HB.out.below h) WJ.out.1 WJ.out.2)
 have CB : Hid (∀ m w', m ≤ b0.length → Below w.heap.size w w' → Calls Try.prog 24 #[.slice B b0.length cb, .slice B m cb] w' fun x w2 => x = .returned (.bool ((m : Int) == (b0.length : Int))) ∧ Below w'.heap.size w' w2) := Lib.hid (fun m w' hm h => F9 b0 B cb m hm w' (HB.out.below h) WJ.out.1 WJ.out.2)
 go_upto_region 4 with fail
 go_cut [46] (fun v wc => v = .bool false ∧ Hid (Below w.heap.size w wc))
 case first =>
  by_cases h0 : (0 : Int) ≤ n
  case neg =>
   have d0 : decide ((0 : Int) ≤ n) = false := decide_eq_false h0
   go_wp2_with fail
   go_meet
   exact ⟨rfl, B1⟩
  by_cases h1 : n ≤ (b0.length : Int)
  case neg =>
   have d0 : decide ((0 : Int) ≤ n) = true := decide_eq_true h0
   have d1 : decide (n ≤ (b0.length : Int)) = false := decide_eq_false h1
   go_wp2_with fail
   go_meet
   exact ⟨rfl, B1⟩
  obtain ⟨m, rfl⟩ : ∃ m : Nat, n = (m : Int) := ⟨n.toNat, by omega⟩
  have HM : Hid (m ≤ b0.length) := Lib.hid (by omega)
  have d0 : decide ((0 : Int) ≤ (m : Int)) = true := decide_eq_true (by omega)
  have d1 : decide ((m : Int) ≤ (b0.length : Int)) = true := decide_eq_true h1
  have d1' : decide (m ≤ b0.length) = true := decide_eq_true HM.out
  have g0 : (0 : Int) ≤ (m : Int) := h0
  have g1 : (m : Int) ≤ (cb : Int) := by have := WJ.out; omega
  clear h0 h1
  go_wp2_with fail
  refine (CT.out m w1 HM.out B1.out).mono ?_
  rintro x w2 ⟨rfl, hb⟩
  have B2 : Hid (Below w.heap.size w w2) := Lib.hid (B1.out.trans (hb.mono B1.out.size))
  clear hb
  go_wp2_with fail
  refine (CB.out m w2 HM.out B2.out).mono ?_
  rintro x w3 ⟨rfl, hb⟩
  have B3 : Hid (Below w.heap.size w w3) := Lib.hid (B2.out.trans (hb.mono B2.out.size))
  clear hb
  cases hq : ((m : Int) == (b0.length : Int))
  all_goals
   go_wp2_with fail
   go_meet
   exact ⟨rfl, B3⟩
 case rest =>
 obtain ⟨rfl, B2⟩ := hcut
 clear B1 CT CB
 go_upto_region 6 with fail
 go_cut [8] (fun v wc => ∃ r : Bool, v = .bool r ∧ (r = true ↔ a0 = b0) ∧ Hid (Below w.heap.size w wc))
 case first =>
  go_wp2_with fail
  refine (BO.out _ B2.out).mono ?_
  rintro x w3 ⟨r1, rfl, h1, hb⟩
  have B3 : Hid (Below w.heap.size w w3) := Lib.hid (B2.out.trans (hb.mono B2.out.size))
  have H1 := Lib.hid h1
  clear hb h1
  cases r1
  case false =>
   go_wp2_with fail
   go_meet
   refine ⟨false, rfl, ⟨fun h => (by cases h), fun h => ?_⟩, B3⟩
   have := H1.out.2 (by subst h; simp)
   cases this
  case true =>
   go_wp2_with fail
   refine (BP.out _ B3.out).mono ?_
   rintro x w4 ⟨r2, rfl, h2, hb⟩
   have B4 : Hid (Below w.heap.size w w4) := Lib.hid (B3.out.trans (hb.mono B3.out.size))
   have H2 := Lib.hid h2
   clear hb h2
   go_wp2_with fail
   go_meet
   refine ⟨r2, rfl, ⟨fun h => ?_, fun h => H2.out.2 (by subst h; simp)⟩, B4⟩
   have e1 := H1.out.1 (by simp)
   have e2 := H2.out.1 h
   have l1 := congrArg List.length e1
   have l2 := congrArg List.length e2
   simp only [List.length_take] at l1 l2
   have l3 : b0.length ≤ a0.length := by omega
   rw [e1, List.take_of_length_le l3]
 case rest =>
 obtain ⟨r, rfl, hr, B3⟩ := hcut
 have HRB := Lib.hid hr
 clear hr B2 BO BP
 obtain ⟨s0, hs0⟩ : ∃ s0 : Bool, ((a0.length : Int) == (b0.length : Int)) = s0 := ⟨_, rfl⟩
 have HS0 : Hid (s0 = true ↔ a0.length = b0.length) := Lib.hid (by rw [← hs0, beq_iff_eq]; omega)
 go_wp2
 go_loopw [9, 10] (fun v9 v10 wr => ∃ (k : Nat) (s : Bool), k ≤ a0.length ∧ v9 = .bool s ∧ v10 = .int .i64 k ∧ Hid (Below w.heap.size w wr ∧ (s = true → a0.length = b0.length ∧ ∀ j, j < k → a0[j]? = b0[j]?) ∧ (s = false → a0 ≠ b0))) (fun _ i _ => a0.length - (intOf i).toNat)
 case atStart => exact ⟨0, s0, by omega, rfl, rfl, Lib.hid ⟨B3.out, fun h => ⟨HS0.out.1 h, fun j hj => by omega⟩, fun h e => by subst e; have := HS0.out.2 rfl; rw [h] at this; cases this⟩⟩
 case round =>
  obtain ⟨k, s, hk, rfl, rfl, F⟩ := hrel
  cases s
  case false =>
   have hrf : r = false := by
    cases r
    · rfl
    · exact absurd (HRB.out.1 rfl) (F.out.2.2 rfl)
   subst hrf
   by_cases hkk : k < a0.length
   · have d0 : decide ((k : Int) < (a0.length : Int)) = true := decide_eq_true (by omega)
     have d1 : decide (k < a0.length) = true := decide_eq_true hkk
     go_wp2
     exact bodyPost_ret (results_tmp rfl _ _ _) rfl ⟨rfl, F.out.1⟩
   · have d0 : decide ((k : Int) < (a0.length : Int)) = false := decide_eq_false (by omega)
     have d1 : decide (k < a0.length) = false := decide_eq_false hkk
     go_wp2
     exact bodyPost_ret (results_tmp rfl _ _ _) rfl ⟨rfl, F.out.1⟩
  obtain rfl | hlt : k = a0.length ∨ k < a0.length := by omega
  · have hrt : r = true := HRB.out.2 (by
     apply List.ext_getElem?
     intro j
     have HL := (F.out.2.1 rfl).1
     by_cases hj : j < a0.length
     · exact (F.out.2.1 rfl).2 j hj
     · rw [List.getElem?_eq_none (by omega), List.getElem?_eq_none (by omega)])
    subst hrt
    go_wp2
    exact bodyPost_ret (results_tmp rfl _ _ _) rfl ⟨rfl, F.out.1⟩
  · have hlb : k < b0.length := by have := (F.out.2.1 rfl).1; omega
    obtain ⟨s, hs⟩ : ∃ s, a0[k]? = some s := ⟨_, List.getElem?_eq_getElem hlt⟩
    obtain ⟨t, ht⟩ : ∃ t, b0[k]? = some t := ⟨_, List.getElem?_eq_getElem hlb⟩
    obtain ⟨b1, o1, rfl, _, h1⟩ := HA.out.at_ (by omega)
    obtain ⟨b2, o2, rfl, _, h2⟩ := HB.out.at_ (by omega)
    have H1 : Hid (wr.drew.rangeAt b1 (o1 + k * 13) s.R.toList) := Lib.hid (fun j v hj => ((nR.below HA.out F.out.1).at_ (by omega)).elim (fun b0' h => by obtain ⟨o', e, _, hh⟩ := h; injection e with e; injection e with e1 e2 e3; subst e1 e2; exact hh k s hs j v hj))
    have H2 : Hid (wr.drew.rangeAt b2 (o2 + k * 13) t.R.toList) := Lib.hid (fun j v hj => ((nR.below HB.out F.out.1).at_ (by omega)).elim (fun b0' h => by obtain ⟨o', e, _, hh⟩ := h; injection e with e; injection e with e1 e2 e3; subst e1 e2; exact hh k t ht j v hj))
    have i46 : Hid ((Try.prog.info? 46).map (·.size) = some 13) := Lib.hid (by kernel_rfl)
    have HST := Lib.hid (And.intro hs ht)
    have fO := Lib.hid hlt
    have SG := Lib.hid hlb
    have d0 : decide ((k : Int) < (a0.length : Int)) = true := decide_eq_true (by omega)
    have d1 : decide (k < a0.length) = true := decide_eq_true hlt
    clear h1 h2 hs ht hlt hlb hk
    go_upto_region 11 with fail
    refine OG.fF (by kernel_rfl) (fun l a w => a = { tmps := List.toArray (Value.slice (some ⟨b1, o1, none⟩) a0.length ca :: Value.slice (some ⟨b2, o2, none⟩) b0.length cb :: Value.int .i64 n :: undef :: undef :: undef :: Value.bool false :: Value.bool true :: Value.bool r :: (bif l 9 then .bool (MK s t) else .bool true) :: Value.int .i64 (k : Int) :: u11 :: u12 :: u13 :: u14 :: u15 :: u16 :: u17 :: u18 :: u19 :: u20 :: u21 :: u22 :: u23 :: u24 :: u25 :: u26 :: u27 :: u28 :: u29 :: u30 :: u31 :: u32 :: u33 :: u34 :: u35 :: u36 :: u37 :: u38 :: u39 :: u40 :: u41 :: u42 :: u43 :: u44 :: u45 :: u46 :: u47 :: u48 :: u49 :: u50 :: u51 :: u52 :: u53 :: u54 :: Value.slice (some ⟨b1, o1, none⟩) a0.length ca :: Value.int .i64 (a0.length : Int) :: Value.slice (some ⟨b2, o2, none⟩) b0.length cb :: Value.int .i64 (b0.length : Int) :: Value.bool s0 :: Value.int .i64 (k : Int) :: Value.slice (some ⟨b1, o1, none⟩) a0.length ca :: Value.int .i64 (a0.length : Int) :: Value.bool true :: Value.bool true :: Value.bool true :: Value.bool true :: u67 :: u68 :: (bif l 0 then Value.slice (some ⟨b1, o1, none⟩) a0.length ca else u69) :: (bif l 1 then Value.int .i64 (k : Int) else u70) :: (bif l 2 then Value.pointer (some ⟨b1, o1 + k * 13, none⟩) else u71) :: (bif l 3 then .agg s.R else u72) :: (bif l 4 then Value.slice (some ⟨b2, o2, none⟩) b0.length cb else u73) :: (bif l 5 then Value.int .i64 (k : Int) else u74) :: (bif l 6 then Value.pointer (some ⟨b2, o2 + k * 13, none⟩) else u75) :: (bif l 7 then .agg t.R else u76) :: (bif l 8 then .bool (MK s t) else u77) :: u78 :: u79 :: u80 :: u81 :: u82 :: u83 :: []), defers := [] } ∧ (w = wr.drew)) (by kernel_rfl) ?s0 ?ss ?se
    case s0 => exact ⟨rfl, rfl⟩
    case ss =>
     refine OG.Steps.cons rfl (fun l a w K hK hJ hcl h0 hd => ?_) (OG.Steps.cons rfl (fun l a w K hK hJ hcl h0 hd => ?_) (OG.Steps.cons rfl (fun l a w K hK hJ hcl h0 hd => ?_) (OG.Steps.cons rfl (fun l a w K hK hJ hcl h0 hd => ?_) (OG.Steps.cons rfl (fun l a w K hK hJ hcl h0 hd => ?_) (OG.Steps.cons rfl (fun l a w K hK hJ hcl h0 hd => ?_) (OG.Steps.cons rfl (fun l a w K hK hJ hcl h0 hd => ?_) (OG.Steps.cons rfl (fun l a w K hK hJ hcl h0 hd => ?_) (OG.Steps.cons rfl (fun l a w K hK hJ hcl h0 hd => ?_) (OG.Steps.cons rfl (fun l a w K hK hJ hcl h0 hd => ?_) OG.Steps.nil)))))))))
     · obtain ⟨rfl, hP0⟩ := hJ
       have HJ := Lib.hid (hP0)
       clear hP0 hd hcl h0
       go_simp
       exact hK.out _ _ ⟨(rfl), (HJ.out)⟩
     · obtain ⟨rfl, hP0⟩ := hJ
       have HJ := Lib.hid (hP0)
       clear hP0 hd hcl h0
       go_simp
       exact hK.out _ _ ⟨(rfl), (HJ.out)⟩
     · obtain ⟨rfl, hP0⟩ := hJ
       have d0 := hd.get 0 (by rfl)
       have d1 := hd.get 1 (by rfl)
       have HJ := Lib.hid (hP0)
       clear hP0 hd hcl h0
       have g0 : (0 : Int) ≤ (k : Int) := by omega
       have g1 : (k : Int) < (a0.length : Int) := by have := fO.out; omega
       go_simp
       exact hK.out _ _ ⟨(by simp only [OG.upd, d0, d1]; rfl), (HJ.out)⟩
     · obtain ⟨rfl, hP0⟩ := hJ
       have d2 := hd.get 2 (by rfl)
       have HJ := Lib.hid (hP0)
       clear hP0 hd hcl h0
       rw [HJ.out]
       refine wp_load_mid 46 (.tmp 71) rfl b1 (o1 + k * 13) (by show cond (l 2) _ _ = _; rw [d2]; rfl) s.R.toList _ H1.out Try.underlying46 rfl i46.out ?_
       exact hK.out _ _ ⟨(by simp only [OG.upd, d2]; rfl), (rfl)⟩
     · obtain ⟨rfl, hP0⟩ := hJ
       have HJ := Lib.hid (hP0)
       clear hP0 hd hcl h0
       go_simp
       exact hK.out _ _ ⟨(rfl), (HJ.out)⟩
     · obtain ⟨rfl, hP0⟩ := hJ
       have HJ := Lib.hid (hP0)
       clear hP0 hd hcl h0
       go_simp
       exact hK.out _ _ ⟨(rfl), (HJ.out)⟩
     · obtain ⟨rfl, hP0⟩ := hJ
       have d4 := hd.get 4 (by rfl)
       have d5 := hd.get 5 (by rfl)
       have HJ := Lib.hid (hP0)
       clear hP0 hd hcl h0
       have g0 : (0 : Int) ≤ (k : Int) := by omega
       have g1 : (k : Int) < (b0.length : Int) := by have := SG.out; omega
       go_simp
       exact hK.out _ _ ⟨(by simp only [OG.upd, d4, d5]; rfl), (HJ.out)⟩
     · obtain ⟨rfl, hP0⟩ := hJ
       have d6 := hd.get 6 (by rfl)
       have HJ := Lib.hid (hP0)
       clear hP0 hd hcl h0
       rw [HJ.out]
       refine wp_load_mid 46 (.tmp 75) rfl b2 (o2 + k * 13) (by show cond (l 6) _ _ = _; rw [d6]; rfl) t.R.toList _ H2.out Try.underlying46 rfl i46.out ?_
       exact hK.out _ _ ⟨(by simp only [OG.upd, d6]; rfl), (rfl)⟩
     · obtain ⟨rfl, hP0⟩ := hJ
       have d3 := hd.get 3 (by rfl)
       have d7 := hd.get 7 (by rfl)
       have HJ := Lib.hid (hP0)
       clear hP0 hd hcl h0
       refine Uo 46 46 (.tmp 72) (.tmp 76) rfl s.R t.R (by show cond (l 3) _ _ = _; rw [d3]; rfl) (by show cond (l 7) _ _ = _; rw [d7]; rfl) zl _ (VG s t w) ?_
       exact hK.out _ _ ⟨(by simp only [OG.upd, d3, d7]; rfl), (HJ.out)⟩
     · obtain ⟨rfl, hP0⟩ := hJ
       have d8 := hd.get 8 (by rfl)
       have HJ := Lib.hid (hP0)
       clear hP0 hd hcl h0
       go_simp
       exact hK.out _ _ ⟨(by simp only [OG.upd, d8]; rfl), (HJ.out)⟩
    case se =>
     intro l a w hJ he
     obtain ⟨rfl, hP0⟩ := hJ
     rw [he 0 (by decide), he 1 (by decide), he 2 (by decide), he 3 (by decide), he 4 (by decide), he 5 (by decide), he 6 (by decide), he 7 (by decide), he 8 (by decide), he 9 (by decide)]
     subst hP0
     simp only [cond_true]
     clear he
     have g0 : (0 : Int) ≤ (k : Int) := by omega
     have g1 : (k : Int) < 1000000 := by have := fO.out; have := L1.out; omega
     have hw : IntKind.i64.wrap ((k : Int) + 1) = ((k + 1 : Nat) : Int) := by rw [IntWalk.i64_in _ (by omega)]; omega
     have NX : Hid ((MK s t = true → a0.length = b0.length ∧ ∀ j, j < k + 1 → a0[j]? = b0[j]?) ∧ (MK s t = false → a0 ≠ b0)) := Lib.hid ⟨fun hE => ⟨(F.out.2.1 rfl).1, fun j hj => by
      obtain rfl | h : j = k ∨ j < k := by omega
      · rw [HST.out.1, HST.out.2, sS.1 hE]
      · exact (F.out.2.1 rfl).2 j h⟩, fun hE e => by
      have h1 := HST.out.1
      rw [e, HST.out.2] at h1
      injection h1 with h1
      rw [sS.2 h1.symm] at hE
      cases hE⟩
     have FB := Lib.hid F.out.1.drew
     generalize MK s t = q at NX ⊢
     go_wp2
     go_roundw
     case rel => exact ⟨k + 1, q, fO.out, rfl, by first | rfl | (simp [hw]) | (rw [hw]), Lib.hid ⟨FB.out, NX.out⟩⟩
     case measure =>
      have := fO.out
      simp [intOf, hw]
      omega
end Go.Proofs.Ytnijhjbcjeohhaa.BB

namespace Go.Proofs.Ytnijhjbcjeohhaa.OG
open Go Go.RowKit Go.Proofs.Ytnijhjbcjeohhaa.KK
section
variable {P : Program} {ops : Array Oper} {Q : Exit → Act → World → Prop}
theorem Steps.yes {J : (Nat → Bool) → Act → World → Prop} {k : Nat} {o : Oper} {r : List Oper} {gi dst : Nat} {gb : Bool} (hg : o.guard = some (gi, gb)) (hd : (ops[gi]?).bind (·.dst) = some dst)
 (hv : ∀ l a w, J l a w → deps o l → a.tmps[dst]? = some (.bool gb))
 (h : ∀ l a w (K : Act → World → Prop), Hid (∀ a' w', J (upd l k) a' w' → K a' w') → J l a w → Closed ops l → l k = false → deps o l → o.wp P a w K Q) (hr : Steps P ops Q J (k + 1) r) : Steps P ops Q J k (o :: r) :=
 ⟨fun l a w hJ hc hl hdp => .inl ⟨by simp [Region.wanted, hg, yielded, hd, hv l a w hJ hdp], h l a w _ (Lib.hid fun _ _ h => h) hJ hc hl hdp⟩, hr⟩
theorem Steps.no {J : (Nat → Bool) → Act → World → Prop} {k : Nat} {o : Oper} {r : List Oper} {gi dst : Nat} {gb : Bool} (hg : o.guard = some (gi, !gb)) (hd : (ops[gi]?).bind (·.dst) = some dst)
 (hv : ∀ l a w, J l a w → deps o l → a.tmps[dst]? = some (.bool gb))
 (h : ∀ l a w (K : Act → World → Prop), Hid (∀ a' w', J (upd l k) a' w' → K a' w') → J l a w → Closed ops l → l k = false → deps o l → K (a.put o.dst undef) w) (hr : Steps P ops Q J (k + 1) r) : Steps P ops Q J k (o :: r) :=
 ⟨fun l a w hJ hc hl hdp => .inr ⟨by simp [Region.wanted, hg, yielded, hd, hv l a w hJ hdp], h l a w _ (Lib.hid fun _ _ h => h) hJ hc hl hdp⟩, hr⟩
end
end Go.Proofs.Ytnijhjbcjeohhaa.OG
namespace Go.Proofs.Ytnijhjbcjeohhaa.BB
open Go.RowKit Go.Proofs.Ytnijhjbcjeohhaa.KK Go.Proofs.Ytnijhjbcjeohhaa.EE
set_option linter.unusedVariables false
theorem ownsRow_base {W : World} {D D' : Nat} {e : TypeId} {sz : Nat} {v : Value} {n : Nat} {xs : List Value} (h : W.ownsRow D e sz v n xs) (hD : D' ≤ D) : W.ownsRow D' e sz v n xs :=
 ⟨h.1, h.2.imp id fun ⟨g, cap, cur, e', hb, r⟩ => ⟨g, cap, cur, e', Nat.le_trans hD hb, r⟩⟩
theorem ownsRow_ne {W : World} {D Z : Nat} {e e' : TypeId} {sz : Nat} {v : Value} {n : Nat} {xs : List Value} {cs : Array Value} (h : W.ownsRow D e sz v n xs) (hz : Row W Z e' cs) (hne : e ≠ e') (g : Nat) (hg : v.ownBlock = some g) : g ≠ Z := by
 rintro rfl
 rcases h.2 with ⟨rfl, _⟩ | ⟨g', cap, cur, rfl, _, hgg, _⟩
 · simp [Value.ownBlock] at hg
 · obtain rfl : g' = g := by simpa [Value.ownBlock] using hg
   have := hz.symm.trans hgg
   injection this with this
   injection this with _ this
   exact hne this.symm
theorem Bf (N : Nat → En) {m n : Nat} (h : m ≤ n) : (kP N n).take m = kP N m := by
 unfold kP
 rw [← List.map_take, List.take_range, Nat.min_eq_left h]
end Go.Proofs.Ytnijhjbcjeohhaa.BB

namespace Go.Proofs.Ytnijhjbcjeohhaa.BB
open Go.RowKit Go.Proofs.Ytnijhjbcjeohhaa.KK Go.Proofs.Ytnijhjbcjeohhaa.EE Go.Proofs.af.aA Go.Proofs.af.aN Go.Proofs.af.aP
set_option linter.unusedVariables false
set_option linter.unusedSimpArgs false
theorem jX.take {sz : Nat} {w : World} {A : Option Addr} {l : List (Array Value)} (h : jX sz w A l) (n : Nat) : jX sz w A (l.take n) :=
 ⟨Nat.le_trans (by rw [List.length_take]; exact Nat.min_le_right _ _) h.len, fun hp => by
   have h0 : 0 < l.length := by rw [List.length_take] at hp; omega
   obtain ⟨b, o, e, hb, hc⟩ := h.at_ h0
   refine ⟨b, o, e, hb, fun j s hj => hc j s ?_⟩
   rw [List.getElem?_take] at hj
   split at hj
   · exact hj
   · cases hj⟩
theorem jX.drop {sz : Nat} {w : World} {b o : Nat} {l : List (Array Value)} (h : jX sz w (some ⟨b, o, none⟩) l) (n : Nat) : jX sz w (some ⟨b, o + n * sz, none⟩) (l.drop n) :=
 ⟨Nat.le_trans (by rw [List.length_drop]; exact Nat.sub_le _ _) h.len, fun hp => by
   have h0 : 0 < l.length := by rw [List.length_drop] at hp; omega
   obtain ⟨b', o', e, hb, hc⟩ := h.at_ h0
   injection e with e
   injection e with e1 e2 e3
   subst e1 e2
   refine ⟨b, o + n * sz, rfl, hb, fun j s hj => ?_⟩
   rw [List.getElem?_drop] at hj
   have := hc (n + j) s hj
   rw [Nat.add_mul] at this
   rw [Nat.add_assoc]
   exact this⟩
def ups (l : List Tk) : Prop := ∀ i p q, l[i]? = some p → l[i + 1]? = some q → falls p q = false
def lower (p q : Tk) : Prop := p.gen < q.gen ∨ (p.gen = q.gen ∧ p.k < q.k)
theorem Ls {p q : Tk} : falls p q = false ↔ lower p q := by
 simp only [falls, lower, Bool.or_eq_false_iff, Bool.and_eq_false_iff, decide_eq_false_iff_not]
 omega
theorem Ea : ∀ {l : List Tk}, ups l → l.Pairwise lower
 | [], _ => List.Pairwise.nil
 | [a], _ => by simp
 | a :: b :: r, h => by
   have hb : ups (b :: r) := fun i p q hp hq => h (i + 1) p q (by simpa using hp) (by simpa using hq)
   have ih := Ea hb
   have hab : lower a b := Ls.1 (h 0 a b rfl rfl)
   refine List.Pairwise.cons (fun x hx => ?_) ih
   rcases List.mem_cons.1 hx with rfl | hx
   · exact hab
   · have hbx := (List.pairwise_cons.1 ih).1 x hx
     rcases hab with h1 | ⟨h1, h2⟩ <;> rcases hbx with h3 | ⟨h3, h4⟩
     · exact .inl (by omega)
     · exact .inl (by omega)
     · exact .inl (by omega)
     · exact .inr ⟨by omega, by omega⟩
theorem Uu {l : List Tk} (g : Int) (h : ups l) {m : Nat} {p q : Ou} (hp : (lY g l)[m]? = some p) (hq : (lY g l)[m + 1]? = some q) : p.k < q.k := by
 have hP : (lY g l).Pairwise (fun p q => p.k < q.k) := by
  refine List.pairwise_map.2 ?_
  have h1 := (Ea h).filter (fun t => t.gen == g)
  refine h1.imp_of_mem (fun {a b} ha hb hl => ?_)
  have e1 : a.gen = g := by simpa using (List.mem_filter.1 ha).2
  have e2 : b.gen = g := by simpa using (List.mem_filter.1 hb).2
  rcases hl with h | ⟨_, h⟩
  · omega
  · exact h
 obtain ⟨hm, rfl⟩ := List.getElem?_eq_some_iff.1 hp
 obtain ⟨hm2, rfl⟩ := List.getElem?_eq_some_iff.1 hq
 exact List.pairwise_iff_getElem.1 hP m (m + 1) hm hm2 (by omega)
theorem ups.take {l : List Tk} (h : ups l) (n : Nat) : ups (l.take n) := fun i p q hp hq => by
 rw [List.getElem?_take] at hp hq
 split at hp
 · split at hq
   · exact h i p q hp hq
   · cases hq
 · cases hp
theorem ups.drop {l : List Tk} (h : ups l) (n : Nat) : ups (l.drop n) := fun i p q hp hq => by
 rw [List.getElem?_drop] at hp hq
 exact h (n + i) p q hp (by rw [show n + i + 1 = n + (i + 1) by omega]; exact hq)
theorem EI {l : List Tk} {t s : Tk} (ht : l[l.length - 1]? = some t) (hg : s.gen = t.gen) (hk : s.k = t.k) : ¬ ups (l ++ [s]) := fun h => by
 have hl := (List.getElem?_eq_some_iff.1 ht).1
 have h1 := h (l.length - 1) t s (by rw [List.getElem?_append_left hl]; exact ht) (by rw [show l.length - 1 + 1 = l.length by omega]; simp)
 simp [falls, hg, hk] at h1
theorem jX.flat {sz : Nat} {w : World} {b o : Nat} {L : List (Array Value)} (h : jX sz w (some ⟨b, o, none⟩) L) (hs : ∀ a ∈ L, a.size = sz) (h0 : 0 < sz) (j : Nat) (u : Value) (hj : (L.flatMap Array.toList)[j]? = some u) : w.cell? ((⟨b, o, none⟩ : Addr).add j) = some u := by
 have hd := Nat.div_add_mod j sz
 have hm := Nat.mod_lt j h0
 rcases hL : L[j / sz]? with _ | a
 · exfalso
   have hlen : (L.flatMap Array.toList).length = L.length * sz := by
    clear h hj hL
    induction L with
    | nil => simp
    | cons x L ih =>
      have := ih (fun a ha => hs a (by simp [ha]))
      have hx := hs x (by simp)
      simp only [List.flatMap_cons, List.length_append, this, Array.length_toList, hx, List.length_cons, Nat.add_mul]
      omega
   have h1 := (List.getElem?_eq_some_iff.1 hj).1
   have h2 := List.getElem?_eq_none_iff.1 hL
   have h3 : L.length * sz ≤ (j / sz) * sz := Nat.mul_le_mul_right _ h2
   have h4 := Nat.div_mul_le_self j sz
   omega
 · have h1 := DI sz L hs (j / sz) (j % sz) a hL hm
   rw [show j / sz * sz + j % sz = j by rw [Nat.mul_comm]; exact hd, hj] at h1
   have hp : 0 < L.length := by cases L with | nil => simp at hL | cons _ _ => simp
   obtain ⟨b', o', e, _, hc⟩ := h.at_ hp
   injection e with e
   injection e with e1 e2 e3
   subst e1 e2
   have h2 := hc (j / sz) a hL (j % sz) u h1.symm
   have e : (⟨b, o, none⟩ : Addr).add j = ⟨b, o + j / sz * sz + j % sz, none⟩ := by
    rw [Nat.add_assoc, Nat.div_add_mod']
    simp [Addr.add]
   rw [e]
   exact h2
theorem Dl {W : World} {D B : Nat} {e : TypeId} {sz : Nat} (h : W.heap[B]? = some (.cells #[] e)) (hD : D ≤ B) : W.ownsRow D e sz (.slice (some ⟨B, 0, none⟩) 0 0) 0 [] :=
 ⟨by simp, .inr ⟨B, 0, #[], rfl, hD, h, Nat.le_refl _, by simp [maxLen], by simp, by simp⟩⟩
theorem xU {W : World} {D B Z : Nat} {e e' : TypeId} {sz : Nat} {cs : Array Value} (h : W.ownsRow D e sz (.slice (some ⟨B, 0, none⟩) 0 0) 0 []) (hz : Row W Z e' cs) (h0 : 0 < cs.size) : Z ≠ B := by
 rintro rfl
 rcases h.2 with ⟨h1, _⟩ | ⟨g, cap, cur, h1, _, hg, _, _, hc, _⟩
 · cases h1
 · injection h1 with h1 h2 h3
   injection h1 with h1
   injection h1 with h1
   subst h1 h3
   have := hz.symm.trans hg
   injection this with this
   injection this with this
   subst this
   omega
def Tk.again (t : Tk) : Tk := ⟨t.gen, t.k, 0, 0, 0⟩
def oC (l : List Tk) : List Value := l.flatMap fun o => o.R.toList
theorem Bq (l : List Tk) : oC l = (l.map Tk.R).flatMap Array.toList := by simp [oC, List.flatMap_map]
theorem Lr (l : List Tk) (t : Tk) : oC (l ++ [t]) = oC l ++ t.R.toList := by simp [oC]
theorem Lp (l : List Tk) : (oC l).length = l.length * 5 := by
 induction l with
 | nil => rfl
 | cons x l ih =>
   have : oC (x :: l) = x.R.toList ++ oC l := by simp [oC]
   rw [this, List.length_append, ih]
   simp [Tk.R]
   omega
theorem Lm (l : List Tk) : ∀ u ∈ oC l, u.oneCell' = true := fun u hu => by
 obtain ⟨t, _, ht⟩ := List.mem_flatMap.1 hu
 simp [Tk.R] at ht
 rcases ht with rfl | rfl | rfl | rfl | rfl <;> rfl
theorem Row.keep {W W' : World} {r : Option Nat} {Z : Nat} {e : TypeId} {cs : Array Value} (h : Row W Z e cs) (hg : W.grownBy W' r) (hn : ∀ B, r = some B → Z ≠ B) : Row W' Z e cs :=
 (hg.block Z h.lt (fun e' => hn Z e'.symm rfl)).trans h
theorem I9 {W : World} {Z : Nat} {e : TypeId} {cs : Array Value} (h : Row W Z e cs) (j : Nat) (u : Value) (hj : cs.toList[j]? = some u) : W.cell? ((⟨Z, 0, none⟩ : Addr).add j) = some u := by
 have h2 := h.cell j
 have e' : (⟨Z, 0, none⟩ : Addr).add j = ⟨Z, j, none⟩ := by
  simp [Addr.add]
  omega
 rw [e', h2]
 simpa using hj
theorem yf (ts : List Tk) (g : Int) (A : Option Addr) (ca : Nat) (w0 : World) (hr0 : ts.length ≤ 50 → jX 5 w0 A (ts.map Tk.R)) (hc0 : ts.length ≤ ca) (hm0 : ca ≤ maxLen) :
 Calls Try.prog 9 #[.slice A ts.length ca, .int .i64 g] w0 fun x w' => x = .returned (.bool true) ∧ Below w0.heap.size w0 w' := by
 have HR0 := Lib.hid hr0
 have HC := Lib.hid (And.intro hc0 hm0)
 clear hr0 hc0 hm0
 go_enter Try.func9, Try.ntmps9
 go_wp2_with fail
 refine (iR _).mono ?_
 rintro x w1 ⟨rfl, hb⟩
 have B1 := Lib.hid hb
 clear hb
 by_cases h50 : (50 : Int) < (ts.length : Int)
 case pos =>
  have hd : decide ((50 : Int) < (ts.length : Int)) = true := decide_eq_true h50
  go_wp2
  exact bodyPost_ret (results_tmp rfl _ _ _) rfl ⟨rfl, B1.out⟩
 have hd : decide ((50 : Int) < (ts.length : Int)) = false := decide_eq_false h50
 have HR := Lib.hid (HR0.out (by omega))
 have la : Hid (ts.length ≤ 50) := Lib.hid (by omega)
 clear h50 HR0
 go_wp2_with fail
 refine (jl ts A ca w1 (HR.out.below B1.out)).mono ?_
 rintro x w2 ⟨r, rfl, hru, hb⟩
 have B2 : Hid (Below w0.heap.size w0 w2) := Lib.hid (B1.out.trans (hb.mono B1.out.size))
 have HU : Hid (r = true ↔ ups ts) := Lib.hid hru
 clear hb B1 hru
 cases r
 case false =>
  go_wp2
  exact bodyPost_ret (results_tmp rfl _ _ _) rfl ⟨rfl, B2.out⟩
 have UP := Lib.hid (HU.out.1 rfl)
 clear HU
 go_wp2_with fail
 refine (iL ts g A ca w2 (HR.out.below B2.out)).mono ?_
 rintro x w3 ⟨v, rfl, hv, hb⟩
 obtain ⟨G, cap, rfl, _, _, hG⟩ := yS hv (by have := oV g ts; have := la.out; omega)
 have RG := Lib.hid hG
 have B3 : Hid (Below w0.heap.size w0 w3) := Lib.hid (B2.out.trans (hb.mono B2.out.size))
 have LG : Hid ((lY g ts).length ≤ 50) := Lib.hid (by have := oV g ts; have := la.out; omega)
 have UG : Hid (∀ m p q, (lY g ts)[m]? = some p → (lY g ts)[m + 1]? = some q → p.k < q.k) := Lib.hid (fun m p q hp hq => Uu g UP.out hp hq)
 clear hv hb hG B2
 generalize hos : lY g ts = os at RG LG UG
 clear hos
 rename_i hos
 go_wp2
 go_loopw [7] (fun i wr => ∃ m : Nat, (m + 1 ≤ os.length ∨ m = 0) ∧ i = .int .i64 ((m + 1 : Nat) : Int) ∧ Hid (Below w3.heap.size w3 wr)) (fun i _ => os.length - (intOf i).toNat)
 case atStart => exact ⟨0, .inr rfl, rfl, Below.refl _ _⟩
 case round =>
  obtain ⟨m, hk, rfl, F⟩ := hrel
  by_cases hlt : m + 1 < os.length
  case pos =>
   have fO := Lib.hid hlt
   have hd : decide (((m + 1 : Nat) : Int) < (os.length : Int)) = true := decide_eq_true (by omega)
   have hd' : decide ((m : Int) + 1 < (os.length : Int)) = true := decide_eq_true (by omega)
   have hd2 : decide (m + 1 < os.length) = true := decide_eq_true (by omega)
   have hw : IntKind.i64.wrap ((m : Int) + 1 + 1) = ((m + 1 + 1 : Nat) : Int) := by rw [IntWalk.i64_in _ (by have := LG.out; omega)]; omega
   obtain ⟨q, hq⟩ : ∃ q, os[m + 1]? = some q := ⟨_, List.getElem?_eq_getElem hlt⟩
   obtain ⟨p, hp⟩ : ∃ p, os[m]? = some p := ⟨_, List.getElem?_eq_getElem (by omega)⟩
   obtain ⟨b, o, rfl, hb, hat⟩ := (RG.out.below F.out).at_ (by simp; omega)
   have hP := hat m p.R (by simp [hp])
   have hQ := hat (m + 1) q.R (by simp [hq])
   have p0 : wr.cell? ⟨b, o + m * 4, none⟩ = some (I p.k) := hP 0 _ rfl
   have q0 : wr.cell? ⟨b, o + (m + 1) * 4, none⟩ = some (I q.k) := hQ 0 _ rfl
   have hpq := UG.out m p q hp hq
   have hm : Hid (m < os.length) := Lib.hid (by omega)
   have d1 : decide (q.k ≤ p.k) = false := decide_eq_false (by omega)
   clear hP hQ hat hp hq hlt hk hb hpq
   have g2 : (m : Int) < (os.length : Int) := by have := hm.out; omega
   have g3 : (m : Int) + 1 < (os.length : Int) := by have := fO.out; omega
   have g0 : (0 : Int) ≤ (m : Int) := by omega
   have g4 : (0 : Int) ≤ (m : Int) + 1 := by omega
   have hs : IntKind.i64.wrap ((m : Int) + 1 - 1) = (m : Int) := by rw [IntWalk.i64_in _ (by have := LG.out; omega)]; omega
   have hs2 : IntKind.i64.wrap (m : Int) = (m : Int) := IntWalk.i64_in _ (by have := LG.out; omega)
   go_wp2
   go_quiet (fail)
   go_wp2
   go_roundw
   case rel => exact ⟨m + 1, .inl fO.out, by first | rfl | (simp [hw]) | (rw [hw]), Lib.hid (ah F.out _)⟩
   case measure =>
    have := fO.out
    simp [intOf, hw]
    omega
  case neg =>
   have hd : decide (((m + 1 : Nat) : Int) < (os.length : Int)) = false := decide_eq_false (by omega)
   have hd' : decide ((m : Int) + 1 < (os.length : Int)) = false := decide_eq_false (by omega)
   have hd2 : decide (m + 1 < os.length) = false := decide_eq_false (by omega)
   have B4 : Hid (Below w0.heap.size w0 wr) := Lib.hid (B3.out.trans (F.out.mono B3.out.size))
   clear hk hlt F B3
   by_cases h0 : ts.length = 0
   case pos =>
    have e0 : ((ts.length : Int) == 0) = true := by rw [beq_iff_eq]; omega
    go_wp2
    exact bodyPost_ret (results_tmp rfl _ _ _) rfl ⟨rfl, B4.out⟩
   case neg =>
    have e0 : ((ts.length : Int) == 0) = false := by rw [beq_eq_false_iff_ne]; omega
    obtain ⟨M, hM⟩ : ∃ M, ts.length = M + 1 := ⟨ts.length - 1, by omega⟩
    have HM := Lib.hid hM
    obtain ⟨tl, htl⟩ : ∃ tl, ts[ts.length - 1]? = some tl := ⟨_, List.getElem?_eq_getElem (by omega)⟩
    have HTL := Lib.hid htl
    obtain ⟨b, o, rfl, _, _⟩ := HR.out.at_ (by simp; omega)
    have PC : Hid (∀ W, Below w0.heap.size w0 W → W.cell? ⟨b, o + M * 5, none⟩ = some (I tl.gen) ∧ W.cell? ⟨b, o + M * 5 + 1, none⟩ = some (I tl.k)) := Lib.hid (fun W hW => by
     obtain ⟨b', o', e, _, hat⟩ := (HR.out.below hW).at_ (by simp; omega)
     injection e with e
     injection e with e1 e2 e3
     subst e1 e2
     have h := hat M tl.R (by rw [List.getElem?_map, show M = ts.length - 1 by omega, htl]; rfl)
     exact ⟨h 0 _ rfl, h 1 _ rfl⟩)
    have FC : Hid (∀ W, Below w0.heap.size w0 W → ∀ j u, (oC ts)[j]? = some u → W.cell? ((⟨b, o, none⟩ : Addr).add j) = some u) := Lib.hid (fun W hW j u hj => jX.flat (HR.out.below hW) (fun a ha => by obtain ⟨x, _, rfl⟩ := List.mem_map.1 ha; rfl) (by decide) j u (by rw [← Bq]; exact hj))
    have FO : Hid (∀ u ∈ oC ts, u.oneCell' = true) := Lib.hid (Lm ts)
    have F1 : Hid (0 + ts.length ≤ maxLen) := Lib.hid (by simp only [maxLen]; have := la.out; omega)
    have F2 : Hid ((0 + ts.length) * 40 ≤ 140737488355328) := Lib.hid (by have := la.out; omega)
    have F3 : Hid (ts.length + 1 ≤ maxLen) := Lib.hid (by simp only [maxLen]; have := la.out; omega)
    have F4 : Hid ((ts.length + 1) * 40 ≤ 140737488355328) := Lib.hid (by have := la.out; omega)
    obtain ⟨i0, hi, hz0, hz1, hz2⟩ := info_parts (show (Try.prog.info? 78).map (fun i => (i.zero, i.size, i.bytes)) = some (some (.agg #[.int .i64 0, .int .i64 0, .int .i64 0, .int .i64 0, .int .i64 0]), 5, 40) by kernel_rfl)
    have HI := Lib.hid (And.intro hi (And.intro hz0 (And.intro hz1 hz2)))
    have hs1 : IntKind.i64.wrap ((ts.length : Int) - 1) = (M : Int) := by rw [IntWalk.i64_in _ (by have := la.out; omega)]; omega
    have g0 : (0 : Int) ≤ (M : Int) := by omega
    have g1 : (M : Int) < (ts.length : Int) := by omega
    clear hi hz0 hz1 hz2 hM htl h0
    go_upto_region 13 with fail
    refine OG.fF (by kernel_rfl) (fun l a w => ∃ z0 : Nat, ∃ v1 : Value, ∃ zb : Nat, ∃ v2 : Value, a = { tmps := List.toArray (Value.slice (some ⟨b, o, none⟩) ts.length ca :: Value.int .i64 g :: undef :: undef :: u4 :: Value.bool true :: Value.slice G os.length cap :: Value.int .i64 ((m : Int) + 1) :: Value.int .i64 (ts.length : Int) :: (bif l 18 then v2 else undef) :: Value.bool true :: Value.slice (some ⟨b, o, none⟩) ts.length ca :: Value.int .i64 (ts.length : Int) :: Value.bool false :: Value.bool false :: Value.slice (some ⟨b, o, none⟩) ts.length ca :: Value.bool true :: Value.bool false :: Value.bool false :: undef :: Value.slice (some ⟨b, o, none⟩) ts.length ca :: Value.int .i64 g :: Value.slice G os.length cap :: Value.int .i64 ((m : Int) + 1) :: Value.slice G os.length cap :: Value.int .i64 (os.length : Int) :: Value.bool false :: u27 :: u28 :: u29 :: u30 :: u31 :: u32 :: u33 :: u34 :: u35 :: u36 :: u37 :: u38 :: u39 :: u40 :: Value.slice (some ⟨b, o, none⟩) ts.length ca :: Value.int .i64 (ts.length : Int) :: Value.int .i64 (ts.length : Int) :: Value.bool false :: undef :: (bif l 0 then Value.slice (some ⟨z0, 0, none⟩) 0 0 else undef) :: (bif l 1 then Value.slice (some ⟨b, o, none⟩) ts.length ca else undef) :: (bif l 2 then v1 else undef) :: (bif l 3 then Value.slice (some ⟨b, o, none⟩) ts.length ca else undef) :: (bif l 4 then Value.int .i64 (ts.length : Int) else undef) :: (bif l 5 then Value.int .i64 (M : Int) else undef) :: (bif l 6 then Value.pointer (some ⟨b, o + M * 5, none⟩) else undef) :: (bif l 7 then Value.pointer (some ⟨b, o + M * 5, none⟩) else undef) :: (bif l 8 then I tl.gen else undef) :: (bif l 9 then Value.slice (some ⟨b, o, none⟩) ts.length ca else undef) :: (bif l 10 then Value.int .i64 (ts.length : Int) else undef) :: (bif l 11 then Value.int .i64 (M : Int) else undef) :: (bif l 12 then Value.pointer (some ⟨b, o + M * 5, none⟩) else undef) :: (bif l 13 then Value.pointer (some ⟨b, o + M * 5 + 1, none⟩) else undef) :: (bif l 14 then I tl.k else undef) :: (bif l 15 then .agg #[I tl.gen, I tl.k, I 0, I 0, I 0] else undef) :: (bif l 16 then Value.slice (some ⟨zb, 0, none⟩) 1 1 else undef) :: (bif l 17 then v2 else undef) :: undef :: undef :: undef :: undef :: undef :: undef :: undef :: undef :: undef :: undef :: undef :: undef :: undef :: undef :: undef :: undef :: undef :: undef :: []), defers := [] } ∧ (Below w0.heap.size w0 w) ∧ (l 0 = true → l 2 = false → w.ownsRow w0.heap.size 78 5 (.slice (some ⟨z0, 0, none⟩) 0 0) 0 []) ∧ (l 2 = true → l 17 = false → w.ownsRow w0.heap.size 78 5 v1 ts.length (oC ts)) ∧ (l 16 = true → l 17 = false → Row w zb 78 #[I tl.gen, I tl.k, I 0, I 0, I 0]) ∧ (l 17 = true → w.ownsRow w0.heap.size 78 5 v2 (ts.length + 1) (oC (ts ++ [tl.again])))) (by kernel_rfl) ?s0 ?ss ?se
    case s0 => exact ⟨0, undef, 0, undef, rfl, B4.out.drew, (fun h => by cases h), (fun h => by cases h), (fun h => by cases h), (fun h => by cases h)⟩
    case ss =>
     refine OG.Steps.cons rfl (fun l a w K hK hJ hcl h0 hd => ?_) (OG.Steps.cons rfl (fun l a w K hK hJ hcl h0 hd => ?_) (OG.Steps.cons rfl (fun l a w K hK hJ hcl h0 hd => ?_) (OG.Steps.cons rfl (fun l a w K hK hJ hcl h0 hd => ?_) (OG.Steps.cons rfl (fun l a w K hK hJ hcl h0 hd => ?_) (OG.Steps.cons rfl (fun l a w K hK hJ hcl h0 hd => ?_) (OG.Steps.cons rfl (fun l a w K hK hJ hcl h0 hd => ?_) (OG.Steps.cons rfl (fun l a w K hK hJ hcl h0 hd => ?_) (OG.Steps.cons rfl (fun l a w K hK hJ hcl h0 hd => ?_) (OG.Steps.cons rfl (fun l a w K hK hJ hcl h0 hd => ?_) (OG.Steps.cons rfl (fun l a w K hK hJ hcl h0 hd => ?_) (OG.Steps.cons rfl (fun l a w K hK hJ hcl h0 hd => ?_) (OG.Steps.cons rfl (fun l a w K hK hJ hcl h0 hd => ?_) (OG.Steps.cons rfl (fun l a w K hK hJ hcl h0 hd => ?_) (OG.Steps.cons rfl (fun l a w K hK hJ hcl h0 hd => ?_) (OG.Steps.cons rfl (fun l a w K hK hJ hcl h0 hd => ?_) (OG.Steps.cons rfl (fun l a w K hK hJ hcl h0 hd => ?_) (OG.Steps.cons rfl (fun l a w K hK hJ hcl h0 hd => ?_) (OG.Steps.cons rfl (fun l a w K hK hJ hcl h0 hd => ?_) OG.Steps.nil))))))))))))))))))
     · obtain ⟨z0, v1, zb, v2, rfl, hP0, hP1, hP2, hP3, je⟩ := hJ
       have HJ := Lib.hid (And.intro hP0 (And.intro hP1 (And.intro hP2 (And.intro hP3 (je)))))
       clear hP0 hP1 hP2 hP3 je hd hcl h0
       go_simp
       exact hK.out _ _ ⟨w.heap.size, v1, zb, v2, (rfl), (HJ.out.1.alloc HJ.out.1.size _), (fun _ _ => Dl (Row.new w 78 #[]) HJ.out.1.size), (fun h h2 => (HJ.out.2.2.1 h h2).alloc _), (fun h h2 => Row.alloc (HJ.out.2.2.2.1 h h2) _), (fun h => (HJ.out.2.2.2.2 h).alloc _)⟩
     · obtain ⟨z0, v1, zb, v2, rfl, hP0, hP1, hP2, hP3, je⟩ := hJ
       have HJ := Lib.hid (And.intro hP0 (And.intro hP1 (And.intro hP2 (And.intro hP3 (je)))))
       clear hP0 hP1 hP2 hP3 je hd hcl h0
       go_simp
       exact hK.out _ _ ⟨z0, v1, zb, v2, (rfl), (HJ.out.1), (HJ.out.2.1), (HJ.out.2.2.1), (HJ.out.2.2.2.1), (HJ.out.2.2.2.2)⟩
     · obtain ⟨z0, v1, zb, v2, rfl, hP0, hP1, hP2, hP3, je⟩ := hJ
       have d0 := hd.get 0 (by rfl)
       have d1 := hd.get 1 (by rfl)
       have f17 := hcl.off 17 2 (by rfl) h0
       have HJ := Lib.hid (And.intro hP0 (And.intro hP1 (And.intro hP2 (And.intro hP3 (je)))))
       clear hP0 hP1 hP2 hP3 je hd hcl
       have hz := HJ.out.2.1 d0 h0
       clear h0
       refine wp_append_own _ (.tmp 46) (.tmp 47) 58 rfl w0.heap.size 78 i0 (.agg #[.int .i64 0, .int .i64 0, .int .i64 0, .int .i64 0, .int .i64 0]) 5 40 Try.underlying58 HI.out.1 HI.out.2.1 HI.out.2.2.1 HI.out.2.2.2 rfl (by decide) _ _ _ (by show cond (l 0) _ _ = _; rw [d0]; rfl) hz ⟨b, o, none⟩ ts.length ca (oC ts) (by show cond (l 1) _ _ = _; rw [d1]; rfl) (Lp ts) (FC.out w HJ.out.1) FO.out F1.out F2.out HJ.out.1.size ?_
       intro v' w' hown hgrow
       rw [Nat.zero_add, List.nil_append] at hown
       exact hK.out _ _ ⟨z0, v', zb, v2, (by simp only [OG.upd, d0, d1]; rfl), (HJ.out.1.grown hgrow HJ.out.1.size (fun j ej => (hz.lt j ej).1)), (fun _ h => by simp [OG.upd] at h), (fun _ _ => hown), (fun h h2 => Row.keep (HJ.out.2.2.2.1 h h2) hgrow (fun B eB e => xU hz (HJ.out.2.2.2.1 h h2) (by simp) (e.trans (Option.some.inj eB).symm))), (fun h => Bool.noConfusion (f17.symm.trans h))⟩
     · obtain ⟨z0, v1, zb, v2, rfl, hP0, hP1, hP2, hP3, je⟩ := hJ
       have HJ := Lib.hid (And.intro hP0 (And.intro hP1 (And.intro hP2 (And.intro hP3 (je)))))
       clear hP0 hP1 hP2 hP3 je hd hcl h0
       go_simp
       exact hK.out _ _ ⟨z0, v1, zb, v2, (rfl), (HJ.out.1), (HJ.out.2.1), (HJ.out.2.2.1), (HJ.out.2.2.2.1), (HJ.out.2.2.2.2)⟩
     · obtain ⟨z0, v1, zb, v2, rfl, hP0, hP1, hP2, hP3, je⟩ := hJ
       have HJ := Lib.hid (And.intro hP0 (And.intro hP1 (And.intro hP2 (And.intro hP3 (je)))))
       clear hP0 hP1 hP2 hP3 je hd hcl h0
       go_simp
       exact hK.out _ _ ⟨z0, v1, zb, v2, (rfl), (HJ.out.1), (HJ.out.2.1), (HJ.out.2.2.1), (HJ.out.2.2.2.1), (HJ.out.2.2.2.2)⟩
     · obtain ⟨z0, v1, zb, v2, rfl, hP0, hP1, hP2, hP3, je⟩ := hJ
       have d4 := hd.get 4 (by rfl)
       have HJ := Lib.hid (And.intro hP0 (And.intro hP1 (And.intro hP2 (And.intro hP3 (je)))))
       clear hP0 hP1 hP2 hP3 je hd hcl h0
       go_simp
       exact hK.out _ _ ⟨z0, v1, zb, v2, (by simp only [OG.upd, d4]; rfl), (HJ.out.1), (HJ.out.2.1), (HJ.out.2.2.1), (HJ.out.2.2.2.1), (HJ.out.2.2.2.2)⟩
     · obtain ⟨z0, v1, zb, v2, rfl, hP0, hP1, hP2, hP3, je⟩ := hJ
       have d3 := hd.get 3 (by rfl)
       have d5 := hd.get 5 (by rfl)
       have HJ := Lib.hid (And.intro hP0 (And.intro hP1 (And.intro hP2 (And.intro hP3 (je)))))
       clear hP0 hP1 hP2 hP3 je hd hcl h0
       go_simp
       exact hK.out _ _ ⟨z0, v1, zb, v2, (by simp only [OG.upd, d3, d5]; rfl), (HJ.out.1), (HJ.out.2.1), (HJ.out.2.2.1), (HJ.out.2.2.2.1), (HJ.out.2.2.2.2)⟩
     · obtain ⟨z0, v1, zb, v2, rfl, hP0, hP1, hP2, hP3, je⟩ := hJ
       have d6 := hd.get 6 (by rfl)
       have HJ := Lib.hid (And.intro hP0 (And.intro hP1 (And.intro hP2 (And.intro hP3 (je)))))
       clear hP0 hP1 hP2 hP3 je hd hcl h0
       go_simp
       exact hK.out _ _ ⟨z0, v1, zb, v2, (by simp only [OG.upd, d6]; rfl), (HJ.out.1), (HJ.out.2.1), (HJ.out.2.2.1), (HJ.out.2.2.2.1), (HJ.out.2.2.2.2)⟩
     · obtain ⟨z0, v1, zb, v2, rfl, hP0, hP1, hP2, hP3, je⟩ := hJ
       have d7 := hd.get 7 (by rfl)
       have HJ := Lib.hid (And.intro hP0 (And.intro hP1 (And.intro hP2 (And.intro hP3 (je)))))
       clear hP0 hP1 hP2 hP3 je hd hcl h0
       have hp := (PC.out w HJ.out.1).1
       go_simp
       exact hK.out _ _ ⟨z0, v1, zb, v2, (by simp only [OG.upd, d7]; rfl), (HJ.out.1), (HJ.out.2.1), (HJ.out.2.2.1), (HJ.out.2.2.2.1), (HJ.out.2.2.2.2)⟩
     · obtain ⟨z0, v1, zb, v2, rfl, hP0, hP1, hP2, hP3, je⟩ := hJ
       have HJ := Lib.hid (And.intro hP0 (And.intro hP1 (And.intro hP2 (And.intro hP3 (je)))))
       clear hP0 hP1 hP2 hP3 je hd hcl h0
       go_simp
       exact hK.out _ _ ⟨z0, v1, zb, v2, (rfl), (HJ.out.1), (HJ.out.2.1), (HJ.out.2.2.1), (HJ.out.2.2.2.1), (HJ.out.2.2.2.2)⟩
     · obtain ⟨z0, v1, zb, v2, rfl, hP0, hP1, hP2, hP3, je⟩ := hJ
       have HJ := Lib.hid (And.intro hP0 (And.intro hP1 (And.intro hP2 (And.intro hP3 (je)))))
       clear hP0 hP1 hP2 hP3 je hd hcl h0
       go_simp
       exact hK.out _ _ ⟨z0, v1, zb, v2, (rfl), (HJ.out.1), (HJ.out.2.1), (HJ.out.2.2.1), (HJ.out.2.2.2.1), (HJ.out.2.2.2.2)⟩
     · obtain ⟨z0, v1, zb, v2, rfl, hP0, hP1, hP2, hP3, je⟩ := hJ
       have d10 := hd.get 10 (by rfl)
       have HJ := Lib.hid (And.intro hP0 (And.intro hP1 (And.intro hP2 (And.intro hP3 (je)))))
       clear hP0 hP1 hP2 hP3 je hd hcl h0
       go_simp
       exact hK.out _ _ ⟨z0, v1, zb, v2, (by simp only [OG.upd, d10]; rfl), (HJ.out.1), (HJ.out.2.1), (HJ.out.2.2.1), (HJ.out.2.2.2.1), (HJ.out.2.2.2.2)⟩
     · obtain ⟨z0, v1, zb, v2, rfl, hP0, hP1, hP2, hP3, je⟩ := hJ
       have d9 := hd.get 9 (by rfl)
       have d11 := hd.get 11 (by rfl)
       have HJ := Lib.hid (And.intro hP0 (And.intro hP1 (And.intro hP2 (And.intro hP3 (je)))))
       clear hP0 hP1 hP2 hP3 je hd hcl h0
       go_simp
       exact hK.out _ _ ⟨z0, v1, zb, v2, (by simp only [OG.upd, d9, d11]; rfl), (HJ.out.1), (HJ.out.2.1), (HJ.out.2.2.1), (HJ.out.2.2.2.1), (HJ.out.2.2.2.2)⟩
     · obtain ⟨z0, v1, zb, v2, rfl, hP0, hP1, hP2, hP3, je⟩ := hJ
       have d12 := hd.get 12 (by rfl)
       have HJ := Lib.hid (And.intro hP0 (And.intro hP1 (And.intro hP2 (And.intro hP3 (je)))))
       clear hP0 hP1 hP2 hP3 je hd hcl h0
       go_simp
       exact hK.out _ _ ⟨z0, v1, zb, v2, (by simp only [OG.upd, d12]; rfl), (HJ.out.1), (HJ.out.2.1), (HJ.out.2.2.1), (HJ.out.2.2.2.1), (HJ.out.2.2.2.2)⟩
     · obtain ⟨z0, v1, zb, v2, rfl, hP0, hP1, hP2, hP3, je⟩ := hJ
       have d13 := hd.get 13 (by rfl)
       have HJ := Lib.hid (And.intro hP0 (And.intro hP1 (And.intro hP2 (And.intro hP3 (je)))))
       clear hP0 hP1 hP2 hP3 je hd hcl h0
       have hp := (PC.out w HJ.out.1).2
       go_simp
       exact hK.out _ _ ⟨z0, v1, zb, v2, (by simp only [OG.upd, d13]; rfl), (HJ.out.1), (HJ.out.2.1), (HJ.out.2.2.1), (HJ.out.2.2.2.1), (HJ.out.2.2.2.2)⟩
     · obtain ⟨z0, v1, zb, v2, rfl, hP0, hP1, hP2, hP3, je⟩ := hJ
       have d8 := hd.get 8 (by rfl)
       have d14 := hd.get 14 (by rfl)
       have HJ := Lib.hid (And.intro hP0 (And.intro hP1 (And.intro hP2 (And.intro hP3 (je)))))
       clear hP0 hP1 hP2 hP3 je hd hcl h0
       go_simp
       exact hK.out _ _ ⟨z0, v1, zb, v2, (by simp only [OG.upd, d8, d14]; rfl), (HJ.out.1), (HJ.out.2.1), (HJ.out.2.2.1), (HJ.out.2.2.2.1), (HJ.out.2.2.2.2)⟩
     · obtain ⟨z0, v1, zb, v2, rfl, hP0, hP1, hP2, hP3, je⟩ := hJ
       have d15 := hd.get 15 (by rfl)
       have f17 := hcl.off 17 16 (by rfl) h0
       have HJ := Lib.hid (And.intro hP0 (And.intro hP1 (And.intro hP2 (And.intro hP3 (je)))))
       clear hP0 hP1 hP2 hP3 je hd hcl h0
       go_simp
       exact hK.out _ _ ⟨z0, v1, w.heap.size, v2, (by simp only [OG.upd, d15, f17]; rfl), (HJ.out.1.alloc HJ.out.1.size _), (fun h h2 => (HJ.out.2.1 h h2).alloc _), (fun h h2 => (HJ.out.2.2.1 h h2).alloc _), (fun _ _ => Row.new w 78 _), (fun h => (HJ.out.2.2.2.2 h).alloc _)⟩
     · obtain ⟨z0, v1, zb, v2, rfl, hP0, hP1, hP2, hP3, je⟩ := hJ
       have d2 := hd.get 2 (by rfl)
       have d16 := hd.get 16 (by rfl)
       have f18 := hcl.off 18 17 (by rfl) h0
       have HJ := Lib.hid (And.intro hP0 (And.intro hP1 (And.intro hP2 (And.intro hP3 (je)))))
       clear hP0 hP1 hP2 hP3 je hd hcl
       have ho := HJ.out.2.2.1 d2 h0
       have hr := HJ.out.2.2.2.1 d16 h0
       clear h0
       refine wp_append_own _ (.tmp 48) (.tmp 62) 58 rfl w0.heap.size 78 i0 (.agg #[.int .i64 0, .int .i64 0, .int .i64 0, .int .i64 0, .int .i64 0]) 5 40 Try.underlying58 HI.out.1 HI.out.2.1 HI.out.2.2.1 HI.out.2.2.2 rfl (by decide) v1 _ _ (by show cond (l 2) _ _ = _; rw [d2]; rfl) ho ⟨zb, 0, none⟩ 1 1 [I tl.gen, I tl.k, I 0, I 0, I 0] (by show cond (l 16) _ _ = _; rw [d16]; rfl) rfl (I9 hr) (by simp [Value.oneCell']) F3.out F4.out HJ.out.1.size ?_
       intro v' w' hown hgrow
       exact hK.out _ _ ⟨z0, v1, zb, v', (by simp only [OG.upd, d2, d16, f18]; rfl), (HJ.out.1.grown hgrow HJ.out.1.size (fun j ej => (ho.lt j ej).1)), (fun _ h => absurd h (by simp [OG.upd, d2])), (fun _ h => by simp [OG.upd] at h), (fun _ h => by simp [OG.upd] at h), (fun _ => by rw [Lr]; exact hown)⟩
     · obtain ⟨z0, v1, zb, v2, rfl, hP0, hP1, hP2, hP3, je⟩ := hJ
       have d17 := hd.get 17 (by rfl)
       have HJ := Lib.hid (And.intro hP0 (And.intro hP1 (And.intro hP2 (And.intro hP3 (je)))))
       clear hP0 hP1 hP2 hP3 je hd hcl h0
       go_simp
       exact hK.out _ _ ⟨z0, v1, zb, v2, (by simp only [OG.upd, d17]; rfl), (HJ.out.1), (HJ.out.2.1), (HJ.out.2.2.1), (HJ.out.2.2.2.1), (HJ.out.2.2.2.2)⟩
    case se =>
     intro l a w hJ he
     obtain ⟨z0, v1, zb, v2, rfl, hP0, hP1, hP2, hP3, je⟩ := hJ
     rw [he 0 (by decide), he 1 (by decide), he 2 (by decide), he 3 (by decide), he 4 (by decide), he 5 (by decide), he 6 (by decide), he 7 (by decide), he 8 (by decide), he 9 (by decide), he 10 (by decide), he 11 (by decide), he 12 (by decide), he 13 (by decide), he 14 (by decide), he 15 (by decide), he 16 (by decide), he 17 (by decide), he 18 (by decide)]
     have hown := je (he 17 (by decide))
     clear hP1 hP2 hP3 he
     have BZ := Lib.hid hP0
     have hown2 : w.ownsRow w0.heap.size 78 5 v2 (ts.length + 1) (((ts ++ [tl.again]).map Tk.R).flatMap Array.toList) := by rw [← Bq]; exact hown
     obtain ⟨H, zA, rfl, _, _, hH⟩ := uC ((ts ++ [tl.again]).map Tk.R) hown2 (fun a ha => by obtain ⟨x, _, rfl⟩ := List.mem_map.1 ha; rfl) (by simp) (by have := la.out; omega)
     have RH := Lib.hid hH
     have RT : Hid (∀ W, Below w0.heap.size w0 W → jX 5 W (some ⟨b, o, none⟩) ((ts.take M).map Tk.R)) := Lib.hid (fun W h => by rw [List.map_take]; exact (HR.out.below h).take M)
     have RD : Hid (∀ W, Below w0.heap.size w0 W → jX 5 W (some ⟨b, o + 1 * 5, none⟩) ((ts.drop 1).map Tk.R)) := Lib.hid (fun W h => by rw [List.map_drop]; exact (HR.out.below h).drop 1)
     have lT : Hid ((ts.take M).length = M) := Lib.hid (by rw [List.length_take]; have := HM.out; omega)
     have lD : Hid ((ts.drop 1).length = M) := Lib.hid (by rw [List.length_drop]; have := HM.out; omega)
     have lH : Hid (((ts ++ [tl.again]).map Tk.R).length = ts.length + 1) := Lib.hid (by simp)
     have lI : Hid ((ts ++ [tl.again]).length = ts.length + 1) := Lib.hid (by simp)
     have C1 : Hid (∀ W, Below w0.heap.size w0 W → Calls Try.prog 26 #[.slice (some ⟨b, o, none⟩) M ca] W fun x w2 => x = .returned (.bool true) ∧ Below W.heap.size W w2) := Lib.hid (fun W h => by
      have H := jl (ts.take M) (some ⟨b, o, none⟩) ca W (RT.out W h)
      rw [lT.out] at H
      refine H.mono ?_
      rintro x w2 ⟨r, rfl, hr, hb⟩
      exact ⟨by rw [hr.2 (UP.out.take M)], hb⟩)
     have C2 : Hid (∀ W, Below w0.heap.size w0 W → Calls Try.prog 26 #[.slice (some ⟨b, o + 5, none⟩) M (ca - 1)] W fun x w2 => x = .returned (.bool true) ∧ Below W.heap.size W w2) := Lib.hid (fun W h => by
      have H := jl (ts.drop 1) (some ⟨b, o + 1 * 5, none⟩) (ca - 1) W (RD.out W h)
      rw [lD.out] at H
      refine H.mono ?_
      rintro x w2 ⟨r, rfl, hr, hb⟩
      exact ⟨by rw [hr.2 (UP.out.drop 1)], hb⟩)
     have C3 : Hid (∀ W, Below w.heap.size w W → Calls Try.prog 26 #[.slice H (ts.length + 1) zA] W fun x w2 => x = .returned (.bool false) ∧ Below W.heap.size W w2) := Lib.hid (fun W h => by
      have HH := jl (ts ++ [tl.again]) H zA W (RH.out.below h)
      rw [lI.out] at HH
      refine HH.mono ?_
      rintro x w2 ⟨r, rfl, hr, hb⟩
      refine ⟨?_, hb⟩
      have : r ≠ true := fun e => EI (l := ts) (t := tl) (s := tl.again) HTL.out rfl rfl (hr.1 e)
      cases r
      · rfl
      · exact absurd rfl this)
     simp only [cond_true]
     rw [lH.out]
     clear hP0 je hown hown2 hH RT RD RH lT lD lH lI
     have q0 : (0 : Int) ≤ (M : Int) := by omega
     have q1 : (M : Int) ≤ (ca : Int) := by have := HM.out; have := HC.out.1; omega
     have q2 : (1 : Int) ≤ (ts.length : Int) := by have := HM.out; omega
     clear hos
     go_wp2_with fail
     refine (C1.out w BZ.out).mono ?_
     rintro x w4 ⟨rfl, hb⟩
     have B5 := Lib.hid (BZ.out.trans (hb.mono BZ.out.size))
     have BW := Lib.hid (hb : Below w.heap.size w w4)
     clear hb
     have C4 : Hid (∀ W, M = 0 → Calls Try.prog 26 #[.slice (some ⟨b, o, none⟩) M 0] W fun x w2 => x = .returned (.bool true) ∧ Below W.heap.size W w2) := Lib.hid (fun W h => by
      have H := jl [] (some ⟨b, o, none⟩) 0 W ⟨by simp, fun h => by simp at h⟩
      subst h
      refine H.mono ?_
      rintro x w2 ⟨r, rfl, hr, hb⟩
      exact ⟨by rw [hr.2 (fun i p q h => by simp at h)], hb⟩)
     go_wp2_with fail
     all_goals
      try rw [show ts.length - 1 = M by have := HM.out; omega]
     all_goals
      first
       | with_reducible refine (C2.out w4 B5.out).mono ?_
       | with_reducible refine (C4.out w4 (by have := HC.out.1; have := HM.out; omega)).mono ?_
     all_goals
      rintro x w5 ⟨rfl, hb⟩
      have B6 := Lib.hid (B5.out.trans (hb.mono B5.out.size))
      have BX := Lib.hid (BW.out.trans (hb.mono BW.out.size))
      clear hb
      go_wp2_with fail
      refine (C3.out w5 BX.out).mono ?_
      rintro x w6 ⟨rfl, hb⟩
      have B7 := Lib.hid (B6.out.trans (hb.mono B6.out.size))
      clear hb
      go_wp2
      exact bodyPost_ret (results_tmp rfl _ _ _) rfl ⟨rfl, B7.out⟩
end Go.Proofs.Ytnijhjbcjeohhaa.BB

