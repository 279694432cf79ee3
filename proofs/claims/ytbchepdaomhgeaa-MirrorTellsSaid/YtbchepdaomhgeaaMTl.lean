import Derived.Test.YtbchepdaomhgeaaMZd
import Derived.Test.YtbchepdaomhgeaaMU
/- MirrorTells: the walk. -/
namespace Go.Proofs.Ytbchepdaomhgeaa.MM
open Go.RowKit
set_option linter.unusedVariables false
set_option linter.unusedSimpArgs false
abbrev row57 (d : Dk) (s : Value) (d' : Dk) (s' : Value) (ya yb yc a b : Int) : Array Value := #[I d.gen, I d.k, I d.acked, I d.peer, I d.stage, I d.seq, s, I d'.gen, I d'.k, I d'.acked, I d'.peer, I d'.stage, I d'.seq, s', I ya, I yb, I yc, I a, I b]
theorem Sl.nil (w : World) : Sl w (.slice none 0 0) [] := ⟨none, 0, rfl, by simp, fun _ => rfl, Wts.nil _ _ _⟩
set_option maxRecDepth 100000 in
set_option maxHeartbeats 40000000 in
theorem tells_walk (d d' : Dk) (s s' : Value) (l m : List Ot) (ya yb yc a b : Int) (w : World) (hs : Sl w s l) (ht : Sl w s' m) (hl : l.length ≤ 10000000000000) (hm : m.length ≤ 10000000000000) :
    Calls Try.prog 9 #[.agg (row57 d s d' s' ya yb yc a b)] w fun e w' => e = .returned (.bool true) ∧ Below w.heap.size w w' := by
  obtain ⟨A, c, rfl, _, _, _⟩ := id hs
  obtain ⟨A', c', rfl, _, _, _⟩ := id ht
  have hadd : IntKind.i64.wrap ((l.length : Int) + m.length) = (l.length : Int) + m.length := by simp [IntKind.wrap, IntKind.bits, IntKind.signed]; omega
  have HS := Lib.hid hs
  have HT := Lib.hid ht
  clear hs ht hl hm
  rename_i u1 u2 u3 u4 u5 u6
  clear u1 u2 u3 u4 u5 u6
  have N : Hid (Scene w [(57, row57 d (.slice A l.length c) d' (.slice A' m.length c') ya yb yc a b), (26, d.row (.slice A l.length c)), (26, d'.row (.slice A' m.length c')), (33, #[I ya, I yb, I yc])] ((((w.alloc (.cells (row57 d (.slice A l.length c) d' (.slice A' m.length c') ya yb yc a b) 57)).alloc (.cells (d.row (.slice A l.length c)) 26)).alloc (.cells (d'.row (.slice A' m.length c')) 26)).alloc (.cells #[I ya, I yb, I yc] 33))) := Lib.hid (((((Scene.none w).push (by simp) _ _).push (by simp) _ _).push (by simp) _ _).push (by simp) _ _)
  go_enter Try.func9, Try.ntmps9
  go_wp2_with fail
  refine (shown_calls _).mono ?_
  rintro e w1 ⟨rfl, hb⟩
  have M := Lib.hid (N.out.below hb)
  clear hb N
  have y1 := M.out.r1.cell
  have y2 := M.out.r2.cell
  by_cases hn : (l.length : Int) + m.length > 300
  · go_wp2
    go_ret
    exact ⟨rfl, M.out.be⟩
  have hd : decide ((l.length : Int) + m.length > 300) = false := decide_eq_false hn
  have HL : Hid (l.length ≤ 1000000) := Lib.hid (by omega)
  have HM : Hid (m.length ≤ 1000000) := Lib.hid (by omega)
  clear hn
  go_wp2_with fail
  refine (refRight_calls d _ l _ (HS.out.below M.out.be)).mono ?_
  rintro e w2 ⟨rfl, hb⟩
  have N := Lib.hid (M.out.below hb)
  clear hb M y1 y2
  have KK : Hid (∀ w', Scene w [(57, row57 d (.slice A l.length c) d' (.slice A' m.length c') ya yb yc a b), (26, d.row (.slice A l.length c)), (26, d'.row (.slice A' m.length c')), (33, #[I ya, I yb, I yc])] w' → (∀ o, w'.cell? ⟨w.heap.size + 1, o, none⟩ = (d.row (.slice A l.length c))[o]?) ∧ (∀ o, w'.cell? ⟨w.heap.size + 1 + 1, o, none⟩ = (d'.row (.slice A' m.length c'))[o]?)) := Lib.hid (fun w' h => ⟨h.r1.cell, h.r2.cell⟩)
  have KJ : Hid (∀ w', Scene w [(57, row57 d (.slice A l.length c) d' (.slice A' m.length c') ya yb yc a b), (26, d.row (.slice A l.length c)), (26, d'.row (.slice A' m.length c')), (33, #[I ya, I yb, I yc])] w' → ∀ o, w'.cell? ⟨w.heap.size + 1, o, none⟩ = (d.row (.slice A l.length c))[o]?) := Lib.hid (fun w' h => h.r1.cell)
  obtain ⟨sb, hsb⟩ : ∃ sb, sameB d d' l m = sb := ⟨_, rfl⟩
  have y1 := N.out.r1.cell
  have y2 := N.out.r2.cell
  cases hr : d.right l
  · as_aux_lemma =>
    go_wp2_with fail
    go_region_held3 (fun w' => (∀ o, w'.cell? ⟨w.heap.size + 1, o, none⟩ = (d.row (.slice A l.length c))[o]?) ∧ (∀ o, w'.cell? ⟨w.heap.size + 1 + 1, o, none⟩ = (d'.row (.slice A' m.length c'))[o]?))
      (first | with_reducible exact KK.out _ N7.out | with_reducible exact KK.out _ N6.out | with_reducible exact KK.out _ N5.out | with_reducible exact KK.out _ N4.out | with_reducible exact KK.out _ N3.out | with_reducible exact KK.out _ N2.out | with_reducible exact KK.out _ N.out.drew)
      (first
        | (go_at_call 22
           refine (right_calls d _ l _ (HS.out.below N.out.drew.be)).mono ?_
           rw [hr]
           rintro e _ ⟨rfl, hb⟩
           have N2 := Lib.hid (N.out.drew.below hb)
           clear hb)
        | (go_at_call 11
           refine (new_calls a b _).mono ?_
           rintro e _ ⟨rfl, hb⟩
           have N3 := Lib.hid (N2.out.below hb)
           clear hb)
        | (go_at_call 23
           refine (refNew_calls a b _).mono ?_
           rintro e _ ⟨rfl, hb⟩
           have N4 := Lib.hid (N3.out.below hb)
           clear hb)
        | (go_at_call 18
           refine (refSame_calls d d' _ _ l m _ (HS.out.below N6.out.be) (HT.out.below N6.out.be) HL.out HM.out).mono ?_
           rw [hsb]
           rintro e _ ⟨rfl, hb⟩
           have N7 := Lib.hid (N6.out.below hb)
           clear hb)
        | (go_at_call 18
           refine (refSame_calls _ _ _ _ [] [] _ (Sl.nil _) (Sl.nil _) (by simp) (by simp)).mono ?_
           rw [sameB_refl]
           rintro e _ ⟨rfl, hb⟩
           have N5 := Lib.hid (N4.out.below hb)
           clear hb)
        | (go_at_call 24
           refine (Same_calls d d' _ _ l m _ (HS.out.below N5.out.be) (HT.out.below N5.out.be) HL.out HM.out).mono ?_
           rw [hsb]
           rintro e _ ⟨rfl, hb⟩
           have N6 := Lib.hid (N5.out.below hb)
           clear hb))
    all_goals
      go_wp2
      go_ret
      exact ⟨rfl, N7.out.be⟩
  · as_aux_lemma =>
    go_wp2_with fail
    go_region_held3 (fun w' => (∀ o, w'.cell? ⟨w.heap.size + 1, o, none⟩ = (d.row (.slice A l.length c))[o]?) ∧ (∀ o, w'.cell? ⟨w.heap.size + 1 + 1, o, none⟩ = (d'.row (.slice A' m.length c'))[o]?))
      (first | with_reducible exact KK.out _ N7.out | with_reducible exact KK.out _ N6.out | with_reducible exact KK.out _ N5.out | with_reducible exact KK.out _ N4.out | with_reducible exact KK.out _ N3.out | with_reducible exact KK.out _ N2.out | with_reducible exact KK.out _ N.out.drew)
      (first
        | (go_at_call 22
           refine (right_calls d _ l _ (HS.out.below N.out.drew.be)).mono ?_
           rw [hr]
           rintro e _ ⟨rfl, hb⟩
           have N2 := Lib.hid (N.out.drew.below hb)
           clear hb)
        | (go_at_call 11
           refine (new_calls a b _).mono ?_
           rintro e _ ⟨rfl, hb⟩
           have N3 := Lib.hid (N2.out.below hb)
           clear hb)
        | (go_at_call 23
           refine (refNew_calls a b _).mono ?_
           rintro e _ ⟨rfl, hb⟩
           have N4 := Lib.hid (N3.out.below hb)
           clear hb)
        | (go_at_call 18
           refine (refSame_calls d d' _ _ l m _ (HS.out.below N6.out.be) (HT.out.below N6.out.be) HL.out HM.out).mono ?_
           rw [hsb]
           rintro e _ ⟨rfl, hb⟩
           have N7 := Lib.hid (N6.out.below hb)
           clear hb)
        | (go_at_call 18
           refine (refSame_calls _ _ _ _ [] [] _ (Sl.nil _) (Sl.nil _) (by simp) (by simp)).mono ?_
           rw [sameB_refl]
           rintro e _ ⟨rfl, hb⟩
           have N5 := Lib.hid (N4.out.below hb)
           clear hb)
        | (go_at_call 24
           refine (Same_calls d d' _ _ l m _ (HS.out.below N5.out.be) (HT.out.below N5.out.be) HL.out HM.out).mono ?_
           rw [hsb]
           rintro e _ ⟨rfl, hb⟩
           have N6 := Lib.hid (N5.out.below hb)
           clear hb))
    obtain ⟨da, la, na, HLA, HA1, HA2⟩ := adds hr ya yb yc
    obtain ⟨dw, bw, HW1, HW2⟩ := wants_ hr a
    obtain ⟨lf, lr, HLF, HLR, HF1, HF2⟩ := frees hr
    obtain ⟨sx, sy, sz, HY1, HY2⟩ := says_ hr
    obtain ⟨dk, HK1, HK2⟩ := acks_ hr a b
    obtain ⟨dd, HD1, HD2⟩ := drops_ hr
    obtain ⟨dt, HT1, HT2⟩ := tolds_ hr a b
    obtain ⟨nb, HB1, HB2⟩ := bounds_ hr
    replace HLA := Lib.hid HLA
    replace HA1 := Lib.hid HA1
    replace HA2 := Lib.hid HA2
    replace HW1 := Lib.hid HW1
    replace HW2 := Lib.hid HW2
    replace HLF := Lib.hid HLF
    replace HLR := Lib.hid HLR
    replace HF1 := Lib.hid HF1
    replace HF2 := Lib.hid HF2
    replace HY1 := Lib.hid HY1
    replace HY2 := Lib.hid HY2
    replace HK1 := Lib.hid HK1
    replace HK2 := Lib.hid HK2
    replace HD1 := Lib.hid HD1
    replace HD2 := Lib.hid HD2
    replace HT1 := Lib.hid HT1
    replace HT2 := Lib.hid HT2
    replace HB1 := Lib.hid HB1
    replace HB2 := Lib.hid HB2
    all_goals clear hr hsb
    have N := N7
    clear N2 N3 N4 N5 N6 N7 y1 y2
    have W := HS
    have y1 := N.out.r1.cell
    have t1 := N.out.r1.lt
    have y3 := N.out.r3.cell
    have t3 := N.out.r3.lt
    go_wp2_with fail
    refine (HA1.out _ _ (HS.out.below N.out.be)).mono ?_
    rintro e v101 ⟨s1, rfl, h1, hb⟩
    replace N := Lib.hid (N.out.below hb)
    have S1 := Lib.hid h1
    obtain ⟨A1, c1, rfl, _, _, _⟩ := id S1.out
    clear h1
    clear hb y1 t1 y3 t3
    have y1 := N.out.r1.cell
    have t1 := N.out.r1.lt
    have y3 := N.out.r3.cell
    have t3 := N.out.r3.lt
    go_wp2_with fail
    refine (HA2.out _ _ (HS.out.below (N.out.alloc _).be)).mono ?_
    rintro e v102 ⟨s2, rfl, h1, hb⟩
    replace S1 := Lib.hid ((S1.out.alloc _).below hb)
    have R1 := Lib.hid (show Row v102 v101.heap.size 26 (da.row (.slice A1 la.length c1)) from Row.kept hb)
    replace N := Lib.hid ((N.out.alloc _).below hb)
    have S2 := Lib.hid h1
    obtain ⟨A2, c2, rfl, _, _, _⟩ := id S2.out
    clear h1
    clear hb y1 t1 y3 t3
    have y1 := N.out.r1.cell
    have t1 := N.out.r1.lt
    go_wp2_with fail
    refine (HW1.out _ _ (HS.out.below (N.out.alloc _).be)).mono ?_
    rintro e v103 ⟨rfl, hb⟩
    replace S1 := Lib.hid ((S1.out.alloc _).below hb)
    replace R1 := Lib.hid (Row.below (R1.out.alloc _) hb (R1.out.alloc _).lt)
    replace S2 := Lib.hid ((S2.out.alloc _).below hb)
    have R2 := Lib.hid (show Row v103 v102.heap.size 26 (da.row (.slice A2 la.length c2)) from Row.kept hb)
    replace N := Lib.hid ((N.out.alloc _).below hb)
    clear hb y1 t1
    have y1 := N.out.r1.cell
    have t1 := N.out.r1.lt
    go_wp2_with fail
    refine (HW2.out _ _ (HS.out.below (N.out.alloc _).be)).mono ?_
    rintro e v104 ⟨rfl, hb⟩
    replace S1 := Lib.hid ((S1.out.alloc _).below hb)
    replace R1 := Lib.hid (Row.below (R1.out.alloc _) hb (R1.out.alloc _).lt)
    replace S2 := Lib.hid ((S2.out.alloc _).below hb)
    replace R2 := Lib.hid (Row.below (R2.out.alloc _) hb (R2.out.alloc _).lt)
    have R3 := Lib.hid (show Row v104 v103.heap.size 26 (dw.row (.slice A l.length c)) from Row.kept hb)
    replace N := Lib.hid ((N.out.alloc _).below hb)
    clear hb y1 t1
    have y1 := N.out.r1.cell
    have t1 := N.out.r1.lt
    go_wp2_with fail
    refine (HF1.out _ _ (HS.out.below (N.out.alloc _).be)).mono ?_
    rintro e v105 ⟨s5, q5, rfl, h1, h2, hb⟩
    replace S1 := Lib.hid ((S1.out.alloc _).below hb)
    replace R1 := Lib.hid (Row.below (R1.out.alloc _) hb (R1.out.alloc _).lt)
    replace S2 := Lib.hid ((S2.out.alloc _).below hb)
    replace R2 := Lib.hid (Row.below (R2.out.alloc _) hb (R2.out.alloc _).lt)
    replace R3 := Lib.hid (Row.below (R3.out.alloc _) hb (R3.out.alloc _).lt)
    have R4 := Lib.hid (show Row v105 v104.heap.size 26 (dw.row (.slice A l.length c)) from Row.kept hb)
    replace N := Lib.hid ((N.out.alloc _).below hb)
    have S5 := Lib.hid h1
    have V5 := Lib.hid h2
    obtain ⟨A5, c5, rfl, _, _, _⟩ := id S5.out
    clear h1 h2
    clear hb y1 t1
    have y1 := N.out.r1.cell
    have t1 := N.out.r1.lt
    go_wp2_with fail
    refine (HF2.out _ _ (HS.out.below (N.out.alloc _).be)).mono ?_
    rintro e v106 ⟨s6, q6, rfl, h1, h2, hb⟩
    replace S1 := Lib.hid ((S1.out.alloc _).below hb)
    replace R1 := Lib.hid (Row.below (R1.out.alloc _) hb (R1.out.alloc _).lt)
    replace S2 := Lib.hid ((S2.out.alloc _).below hb)
    replace R2 := Lib.hid (Row.below (R2.out.alloc _) hb (R2.out.alloc _).lt)
    replace R3 := Lib.hid (Row.below (R3.out.alloc _) hb (R3.out.alloc _).lt)
    replace R4 := Lib.hid (Row.below (R4.out.alloc _) hb (R4.out.alloc _).lt)
    replace S5 := Lib.hid ((S5.out.alloc _).below hb)
    replace V5 := Lib.hid ((V5.out.alloc _).below hb)
    have R5 := Lib.hid (show Row v106 v105.heap.size 26 (d.row (.slice A5 lr.length c5)) from Row.kept hb)
    replace N := Lib.hid ((N.out.alloc _).below hb)
    have S6 := Lib.hid h1
    have V6 := Lib.hid h2
    obtain ⟨A6, c6, rfl, _, _, _⟩ := id S6.out
    clear h1 h2
    clear hb y1 t1
    have y1 := N.out.r1.cell
    have t1 := N.out.r1.lt
    go_wp2_with fail
    refine (HY1.out _ _).mono ?_
    rintro e v107 ⟨rfl, hb⟩
    replace S1 := Lib.hid ((S1.out.alloc _).below hb)
    replace R1 := Lib.hid (Row.below (R1.out.alloc _) hb (R1.out.alloc _).lt)
    replace S2 := Lib.hid ((S2.out.alloc _).below hb)
    replace R2 := Lib.hid (Row.below (R2.out.alloc _) hb (R2.out.alloc _).lt)
    replace R3 := Lib.hid (Row.below (R3.out.alloc _) hb (R3.out.alloc _).lt)
    replace R4 := Lib.hid (Row.below (R4.out.alloc _) hb (R4.out.alloc _).lt)
    replace S5 := Lib.hid ((S5.out.alloc _).below hb)
    replace V5 := Lib.hid ((V5.out.alloc _).below hb)
    replace R5 := Lib.hid (Row.below (R5.out.alloc _) hb (R5.out.alloc _).lt)
    replace S6 := Lib.hid ((S6.out.alloc _).below hb)
    replace V6 := Lib.hid ((V6.out.alloc _).below hb)
    have R6 := Lib.hid (show Row v107 v106.heap.size 26 (d.row (.slice A6 lr.length c6)) from Row.kept hb)
    replace N := Lib.hid ((N.out.alloc _).below hb)
    clear hb y1 t1
    have y1 := N.out.r1.cell
    have t1 := N.out.r1.lt
    go_wp2_with fail
    refine (HY2.out _ _).mono ?_
    rintro e v108 ⟨rfl, hb⟩
    replace S1 := Lib.hid (S1.out.below hb)
    replace R1 := Lib.hid (Row.below R1.out hb R1.out.lt)
    replace S2 := Lib.hid (S2.out.below hb)
    replace R2 := Lib.hid (Row.below R2.out hb R2.out.lt)
    replace R3 := Lib.hid (Row.below R3.out hb R3.out.lt)
    replace R4 := Lib.hid (Row.below R4.out hb R4.out.lt)
    replace S5 := Lib.hid (S5.out.below hb)
    replace V5 := Lib.hid (V5.out.below hb)
    replace R5 := Lib.hid (Row.below R5.out hb R5.out.lt)
    replace S6 := Lib.hid (S6.out.below hb)
    replace V6 := Lib.hid (V6.out.below hb)
    replace R6 := Lib.hid (Row.below R6.out hb R6.out.lt)
    replace N := Lib.hid (N.out.below hb)
    clear hb y1 t1
    have x1 := R1.out.cell
    have x2 := R2.out.cell
    have x3 := R1.out.lt
    have x4 := R2.out.lt
    go_wp2_with fail
    refine (refSame_calls da da _ _ la la _ S1.out S2.out HLA.out HLA.out).mono ?_
    rw [sameB_refl]
    rintro e v109 ⟨rfl, hb⟩
    replace S1 := Lib.hid (S1.out.below hb)
    replace S2 := Lib.hid (S2.out.below hb)
    replace R3 := Lib.hid (Row.below R3.out hb R3.out.lt)
    replace R4 := Lib.hid (Row.below R4.out hb R4.out.lt)
    replace S5 := Lib.hid (S5.out.below hb)
    replace V5 := Lib.hid (V5.out.below hb)
    replace R5 := Lib.hid (Row.below R5.out hb R5.out.lt)
    replace S6 := Lib.hid (S6.out.below hb)
    replace V6 := Lib.hid (V6.out.below hb)
    replace R6 := Lib.hid (Row.below R6.out hb R6.out.lt)
    replace N := Lib.hid (N.out.below hb)
    clear hb x1 x2 x3 x4 R1 R2
    have x1 := R3.out.cell
    have x2 := R4.out.cell
    have x3 := R3.out.lt
    have x4 := R4.out.lt
    go_wp2_with fail
    refine (refSame_calls dw dw _ _ l l _ (HS.out.below N.out.be) (HS.out.below N.out.be) HL.out HL.out).mono ?_
    rw [sameB_refl]
    rintro e v110 ⟨rfl, hb⟩
    replace S5 := Lib.hid (S5.out.below hb)
    replace V5 := Lib.hid (V5.out.below hb)
    replace R5 := Lib.hid (Row.below R5.out hb R5.out.lt)
    replace S6 := Lib.hid (S6.out.below hb)
    replace V6 := Lib.hid (V6.out.below hb)
    replace R6 := Lib.hid (Row.below R6.out hb R6.out.lt)
    replace N := Lib.hid (N.out.below hb)
    clear hb x1 x2 x3 x4 R3 R4
    have x1 := R5.out.cell
    have x2 := R6.out.cell
    have x3 := R5.out.lt
    have x4 := R6.out.lt
    go_wp2_with fail
    refine (refSame_calls d d _ _ lr lr _ S5.out S6.out HLR.out HLR.out).mono ?_
    rw [sameB_refl]
    rintro e v111 ⟨rfl, hb⟩
    replace S5 := Lib.hid (S5.out.below hb)
    replace V5 := Lib.hid (V5.out.below hb)
    replace S6 := Lib.hid (S6.out.below hb)
    replace V6 := Lib.hid (V6.out.below hb)
    replace N := Lib.hid (N.out.below hb)
    clear hb x1 x2 x3 x4 R5 R6
    go_wp2_with fail
    refine (outs_calls _ _ lf lf _ V5.out V6.out HLF.out HLF.out).mono ?_
    rw [show decide (lf = lf) = true from decide_eq_true rfl]
    rintro e v112 ⟨rfl, hb⟩
    replace V5 := Lib.hid (V5.out.below hb)
    replace V6 := Lib.hid (V6.out.below hb)
    replace N := Lib.hid (N.out.below hb)
    clear hb
    clear V5 V6 S1 S2 S5 S6
    have y1 := N.out.r1.cell
    have t1 := N.out.r1.lt
    go_wp2_with fail
    go_region_held3 (fun w' => ∀ o, w'.cell? ⟨w.heap.size + 1, o, none⟩ = (d.row (.slice A l.length c))[o]?)
      (first | with_reducible exact KJ.out _ M9.out | with_reducible exact KJ.out _ M8.out | with_reducible exact KJ.out _ M7.out | with_reducible exact KJ.out _ M6.out | with_reducible exact KJ.out _ M5.out | with_reducible exact KJ.out _ M4.out | with_reducible exact KJ.out _ M3.out | with_reducible exact KJ.out _ M2.out | with_reducible exact KJ.out _ M1.out | with_reducible exact KJ.out _ N.out.drew)
      (first
        | (go_at_call 17
           refine (HK1.out _ _ (HS.out.below N.out.drew.be)).mono ?_
           rintro e _ ⟨rfl, hb⟩
           have M1 := Lib.hid (N.out.drew.below hb)
           clear hb)
        | (go_at_call 30
           refine (HK2.out _ _ (HS.out.below M1.out.be)).mono ?_
           rintro e _ ⟨rfl, hb⟩
           have M2 := Lib.hid (M1.out.below hb)
           clear hb)
        | (go_at_call 18
           refine (refSame_calls dt dt _ _ l l _ (HS.out.below M8.out.be) (HS.out.below M8.out.be) HL.out HL.out).mono ?_
           rw [sameB_refl]
           rintro e _ ⟨rfl, hb⟩
           have M9 := Lib.hid (M8.out.below hb)
           clear hb)
        | (go_at_call 18
           refine (refSame_calls dd dd _ _ l l _ (HS.out.below M5.out.be) (HS.out.below M5.out.be) HL.out HL.out).mono ?_
           rw [sameB_refl]
           rintro e _ ⟨rfl, hb⟩
           have M6 := Lib.hid (M5.out.below hb)
           clear hb)
        | (go_at_call 18
           refine (refSame_calls dk dk _ _ l l _ (HS.out.below M2.out.be) (HS.out.below M2.out.be) HL.out HL.out).mono ?_
           rw [sameB_refl]
           rintro e _ ⟨rfl, hb⟩
           have M3 := Lib.hid (M2.out.below hb)
           clear hb)
        | (go_at_call 19
           refine (HD1.out _ _ (HS.out.below M3.out.be)).mono ?_
           rintro e _ ⟨rfl, hb⟩
           have M4 := Lib.hid (M3.out.below hb)
           clear hb)
        | (go_at_call 31
           refine (HD2.out _ _ (HS.out.below M4.out.be)).mono ?_
           rintro e _ ⟨rfl, hb⟩
           have M5 := Lib.hid (M4.out.below hb)
           clear hb)
        | (go_at_call 20
           refine (HT1.out _ _ (HS.out.below M6.out.be)).mono ?_
           rintro e _ ⟨rfl, hb⟩
           have M7 := Lib.hid (M6.out.below hb)
           clear hb)
        | (go_at_call 32
           refine (HT2.out _ _ (HS.out.below M7.out.be)).mono ?_
           rintro e _ ⟨rfl, hb⟩
           have M8 := Lib.hid (M7.out.below hb)
           clear hb))
    replace N := M9
    clear M1 M2 M3 M4 M5 M6 M7 M8 M9 y1 t1
    have y1 := N.out.r1.cell
    have t1 := N.out.r1.lt
    go_wp2_with fail
    go_region_held3 (fun w' => ∀ o, w'.cell? ⟨w.heap.size + 1, o, none⟩ = (d.row (.slice A l.length c))[o]?)
      (first | with_reducible exact KJ.out _ M2.out | with_reducible exact KJ.out _ M1.out | with_reducible exact KJ.out _ N.out.drew)
      (first
        | (go_at_call 15
           refine (HB1.out _ _).mono ?_
           rintro e _ ⟨rfl, hb⟩
           have M1 := Lib.hid (N.out.drew.below hb)
           clear hb)
        | (go_at_call 33
           refine (HB2.out _ _).mono ?_
           rintro e _ ⟨rfl, hb⟩
           have M2 := Lib.hid (M1.out.below hb)
           clear hb))
    go_wp2
    go_ret
    exact ⟨rfl, M2.out.be⟩
end Go.Proofs.Ytbchepdaomhgeaa.MM
