import Derived.Test.YtbchepdaomhgeaaMP
import Derived.Test.YtbchepdaomhgeaaMJ
/- MirrorLeaves: the walk. -/
namespace Go.Proofs.Ytbchepdaomhgeaa.MM
open Go.RowKit
set_option linter.unusedVariables false
set_option linter.unusedSimpArgs false
set_option maxRecDepth 100000 in
set_option maxHeartbeats 8000000 in
theorem leaves_walk (d : Dk) (s : Value) (l : List Ot) (a b : Int) (w : World) (hs : Sl w s l) :
    Calls Try.prog 6 #[d.val s, I a, I b] w fun e w' => e = .returned (.bool true) ∧ Below w.heap.size w w' := by
  obtain ⟨A, c, rfl, _, _, _⟩ := id hs
  obtain ⟨gen, k, acked, peer, stage, seq⟩ := d
  have HS := Lib.hid hs
  clear hs
  go_enter Try.func6, Try.ntmps6
  go_wp2_with fail
  refine (shown_calls _).mono ?_
  rintro e w1 ⟨rfl, hb⟩
  have M : Hid (Scene w [(26, Dk.row ⟨gen, k, acked, peer, stage, seq⟩ (.slice A l.length c))] w1) := Lib.hid (((Scene.none w).push (by simp) _ _).below hb)
  clear hb
  have c0 := M.out.r0.cell
  have l0 := M.out.r0.lt
  go_wp2_with fail
  refine (refRight_calls ⟨gen, k, acked, peer, stage, seq⟩ (.slice A l.length c) l _ (HS.out.below M.out.be)).mono ?_
  rintro e w2 ⟨rfl, hb⟩
  have M2 := Lib.hid (M.out.below hb)
  clear hb M c0 l0
  have c0 := M2.out.r0.cell
  have l0 := M2.out.r0.lt
  cases hr : Dk.right ⟨gen, k, acked, peer, stage, seq⟩ l
  · go_wp2
    go_ret
    exact ⟨rfl, M2.out.be⟩
  by_cases h2 : stage = 2
  case neg =>
    have e2 : (stage != 2) = true := by simp [h2]
    clear h2
    go_wp2
    go_ret
    exact ⟨rfl, M2.out.be⟩
  subst h2
  by_cases h3 : seq = 4611686018427387904
  case pos =>
    subst h3
    go_wp2
    go_ret
    exact ⟨rfl, M2.out.be⟩
  have e3 : (seq == 4611686018427387904) = false := by simp [h3]
  obtain ⟨hs0, hs3, hl64, hrise, hk, hq, ha, hp⟩ := right_parts hr
  dsimp only at hq
  have HR := Lib.hid hr
  have HQ : Hid (0 ≤ seq ∧ seq < 4611686018427387904) := Lib.hid (by omega)
  have hw64 : IntKind.i64.wrap (seq + 1) = seq + 1 := by have := HQ.out; simp [IntKind.wrap, IntKind.bits, IntKind.signed]; omega
  have ed : Dk.drop ⟨gen, k, acked, peer, 2, seq⟩ = ⟨gen, k, acked, -1, 3, seq + 1⟩ := by simp [Dk.drop, HQ.out.2, Dk.changed]
  have ED := Lib.hid ed
  have HRB : Hid (Dk.right ⟨gen, k, acked, -1, 0, seq + 1⟩ l = true) := Lib.hid (by
    have := HR.out
    have hq := HQ.out
    simp only [Dk.right, inB, Bool.and_eq_true, decide_eq_true_eq] at this ⊢
    refine ⟨⟨⟨⟨⟨⟨⟨⟨⟨this.1.1.1.1.1.1.1.1.1, this.1.1.1.1.1.1.1.1.2⟩, this.1.1.1.1.1.1.1.2⟩, by omega⟩, this.1.1.1.1.1.2⟩, by omega⟩, by omega⟩, by simp [apartB]⟩, this.1.2⟩, this.2⟩)
  clear hs0 hs3 hl64 hrise hk hq ha hp ed h3 hr
  go_wp2_with fail
  refine (Drop_calls ⟨gen, k, acked, peer, 2, seq⟩ _ _ HQ.out.1 ⟨_, _, _, rfl⟩).mono ?_
  rw [ED.out]
  rintro e w3 ⟨rfl, hb⟩
  have N0 := Lib.hid ((M2.out.below hb).alloc (.cells (Dk.row ⟨gen, k, acked, -1, 3, seq + 1⟩ (.slice A l.length c)) 26))
  have NL := Lib.hid (Row.new w3 26 (Dk.row ⟨gen, k, acked, -1, 3, seq + 1⟩ (.slice A l.length c)))
  have l3 := Lib.hid ((M2.out.below hb).r0.lt)
  clear hb M2 c0 l0
  have hl3 : w.heap.size < w3.heap.size := l3.out
  go_wp2_with fail
  refine (say_calls ⟨gen, k, acked, -1, 3, seq + 1⟩ _ _).mono ?_
  rw [show Dk.say ⟨gen, k, acked, -1, 3, seq + 1⟩ = .tuple #[I (seq + 1), I (-1), .bool true] from rfl]
  rintro e w4 ⟨rfl, hb⟩
  have P0 := Lib.hid (N0.out.below hb)
  have PL := Lib.hid (NL.out.below hb NL.out.lt)
  clear hb N0 NL
  have c0 := P0.out.r0.cell
  have cl := PL.out.cell
  have ll := PL.out.lt
  have l0 := P0.out.r0.lt
  go_wp2_with fail
  refine (Told_calls ⟨gen, k, acked, -1, 3, seq + 1⟩ _ a b _ ⟨_, _, _, rfl⟩).mono ?_
  rintro e w5 ⟨rfl, hb⟩
  have N0 := Lib.hid (P0.out.below hb)
  have NL := Lib.hid (PL.out.below hb PL.out.lt)
  clear hb P0 PL c0 cl ll l0
  have et : Dk.told ⟨gen, k, acked, -1, 3, seq + 1⟩ (seq + 1) (-1) = ⟨gen, k, acked, -1, 0, seq + 1⟩ := by simp [Dk.told]
  have ET := Lib.hid et
  clear et
  by_cases ha : a = seq + 1
  · subst ha
    by_cases hb : b = -1
    · subst hb
      have EA := Lib.hid (show Dk.told ⟨gen, k, acked, -1, 3, seq + 1⟩ (seq + 1) (-1) = ⟨gen, k, acked, -1, 0, seq + 1⟩ by simp [Dk.told])
      have ja : (seq + 1 == seq + 1) = true := by simp
      rw [EA.out]
      have Q0 := Lib.hid (N0.out.alloc (.cells (Dk.row ⟨gen, k, acked, -1, 0, seq + 1⟩ (.slice A l.length c)) 26))
      have QL := Lib.hid (NL.out.alloc (.cells (Dk.row ⟨gen, k, acked, -1, 0, seq + 1⟩ (.slice A l.length c)) 26))
      have QA := Lib.hid (Row.new w5 26 (Dk.row ⟨gen, k, acked, -1, 0, seq + 1⟩ (.slice A l.length c)))
      have l5 : w.heap.size < w5.heap.size := N0.out.r0.lt
      have l5l : w3.heap.size < w5.heap.size := NL.out.lt
      have nl := NL.out.cell
      clear N0
      go_wp2_with fail
      refine (Told_calls ⟨gen, k, acked, -1, 3, seq + 1⟩ _ (seq + 1) (-1) _ ⟨_, _, _, rfl⟩).mono ?_
      rw [ET.out]
      rintro e w6 ⟨rfl, hb⟩
      have P0 := Lib.hid ((Q0.out.below hb).alloc (.cells (Dk.row ⟨gen, k, acked, -1, 0, seq + 1⟩ (.slice A l.length c)) 26))
      have PL := Lib.hid ((QL.out.below hb QL.out.lt).alloc (.cells (Dk.row ⟨gen, k, acked, -1, 0, seq + 1⟩ (.slice A l.length c)) 26))
      have PA := Lib.hid ((QA.out.below hb QA.out.lt).alloc (.cells (Dk.row ⟨gen, k, acked, -1, 0, seq + 1⟩ (.slice A l.length c)) 26))
      have PB := Lib.hid (Row.new w6 26 (Dk.row ⟨gen, k, acked, -1, 0, seq + 1⟩ (.slice A l.length c)))
      have l6 : w.heap.size < w6.heap.size := (Q0.out.below hb).r0.lt
      have l6l : w3.heap.size < w6.heap.size := (QL.out.below hb QL.out.lt).lt
      have l6a : w5.heap.size < w6.heap.size := (QA.out.below hb QA.out.lt).lt
      clear hb Q0 QL QA NL nl l5 l5l hl3
      have X0 := Lib.hid P0.out.drew
      have XL := Lib.hid PL.out.drew
      have XA := Lib.hid PA.out.drew
      have XB := Lib.hid PB.out.drew
      have z0 := X0.out.r0.cell
      have zl := XL.out.cell
      have za := XA.out.cell
      have zb := XB.out.cell
      go_wp2_with fail
      clear P0 PL PA PB
      go_region_held3 (fun w' => (∀ i, w'.cell? ⟨w.heap.size, i, none⟩ = (Dk.row ⟨gen, k, acked, peer, 2, seq⟩ (.slice A l.length c))[i]?) ∧ (∀ i, w'.cell? ⟨w3.heap.size, i, none⟩ = (Dk.row ⟨gen, k, acked, -1, 3, seq + 1⟩ (.slice A l.length c))[i]?) ∧ (∀ i, w'.cell? ⟨w5.heap.size, i, none⟩ = (Dk.row ⟨gen, k, acked, -1, 0, seq + 1⟩ (.slice A l.length c))[i]?) ∧ (∀ i, w'.cell? ⟨w6.heap.size, i, none⟩ = (Dk.row ⟨gen, k, acked, -1, 0, seq + 1⟩ (.slice A l.length c))[i]?))
        (first | with_reducible exact ⟨z0, zl, za, zb⟩ | with_reducible exact ⟨Y0.out.r0.cell, YL.out.cell, YA.out.cell, YB.out.cell⟩ | with_reducible exact ⟨V0.out.r0.cell, VL.out.cell, VA.out.cell, VB.out.cell⟩ | with_reducible exact ⟨U0.out.r0.cell, UL.out.cell, UA.out.cell, UB.out.cell⟩ | go_keep)
        (first
        | (go_at_call 14
           refine (refRight_calls ⟨gen, k, acked, -1, 0, seq + 1⟩ (.slice A l.length c) l _ (HS.out.below V0.out.be)).mono ?_
           rw [HRB.out]
           rintro e wu ⟨rfl, hbn⟩
           have U0 := Lib.hid (V0.out.below hbn)
           have UL := Lib.hid (VL.out.below hbn VL.out.lt)
           have UA := Lib.hid (VA.out.below hbn VA.out.lt)
           have UB := Lib.hid (VB.out.below hbn VB.out.lt)
           clear hbn)
        | (go_at_call 15
           have yy := Y0
           clear yy
           refine (bound_calls ⟨gen, k, acked, -1, 0, seq + 1⟩ _ _).mono ?_
           rw [show Dk.bound ⟨gen, k, acked, -1, 0, seq + 1⟩ = k from rfl]
           rintro e wv ⟨rfl, hbn⟩
           have V0 := Lib.hid (Y0.out.below hbn)
           have VL := Lib.hid (YL.out.below hbn YL.out.lt)
           have VA := Lib.hid (YA.out.below hbn YA.out.lt)
           have VB := Lib.hid (YB.out.below hbn YB.out.lt)
           clear hbn)
        | (go_at_call 15
           refine (bound_calls ⟨gen, k, acked, -1, 3, seq + 1⟩ _ _).mono ?_
           rw [show Dk.bound ⟨gen, k, acked, -1, 3, seq + 1⟩ = acked from rfl]
           rintro e wn ⟨rfl, hbn⟩
           have Y0 := Lib.hid (X0.out.below hbn)
           have YL := Lib.hid (XL.out.below hbn XL.out.lt)
           have YA := Lib.hid (XA.out.below hbn XA.out.lt)
           have YB := Lib.hid (XB.out.below hbn XB.out.lt)
           clear hbn))
      all_goals go_wp2
      all_goals go_ret
      all_goals exact ⟨rfl, U0.out.be⟩
    · have jb : (b == -1) = false := by simp [hb]
      have EA := Lib.hid (show Dk.told ⟨gen, k, acked, -1, 3, seq + 1⟩ (seq + 1) b = ⟨gen, k, acked, -1, 3, seq + 1⟩ by simp [Dk.told, hb])
      clear hb
      have ja : (seq + 1 == seq + 1) = true := by simp
      rw [EA.out]
      have Q0 := Lib.hid (N0.out.alloc (.cells (Dk.row ⟨gen, k, acked, -1, 3, seq + 1⟩ (.slice A l.length c)) 26))
      have QL := Lib.hid (NL.out.alloc (.cells (Dk.row ⟨gen, k, acked, -1, 3, seq + 1⟩ (.slice A l.length c)) 26))
      have QA := Lib.hid (Row.new w5 26 (Dk.row ⟨gen, k, acked, -1, 3, seq + 1⟩ (.slice A l.length c)))
      have l5 : w.heap.size < w5.heap.size := N0.out.r0.lt
      have l5l : w3.heap.size < w5.heap.size := NL.out.lt
      have nl := NL.out.cell
      clear N0
      go_wp2_with fail
      refine (Told_calls ⟨gen, k, acked, -1, 3, seq + 1⟩ _ (seq + 1) (-1) _ ⟨_, _, _, rfl⟩).mono ?_
      rw [ET.out]
      rintro e w6 ⟨rfl, hb⟩
      have P0 := Lib.hid ((Q0.out.below hb).alloc (.cells (Dk.row ⟨gen, k, acked, -1, 0, seq + 1⟩ (.slice A l.length c)) 26))
      have PL := Lib.hid ((QL.out.below hb QL.out.lt).alloc (.cells (Dk.row ⟨gen, k, acked, -1, 0, seq + 1⟩ (.slice A l.length c)) 26))
      have PA := Lib.hid ((QA.out.below hb QA.out.lt).alloc (.cells (Dk.row ⟨gen, k, acked, -1, 0, seq + 1⟩ (.slice A l.length c)) 26))
      have PB := Lib.hid (Row.new w6 26 (Dk.row ⟨gen, k, acked, -1, 0, seq + 1⟩ (.slice A l.length c)))
      have l6 : w.heap.size < w6.heap.size := (Q0.out.below hb).r0.lt
      have l6l : w3.heap.size < w6.heap.size := (QL.out.below hb QL.out.lt).lt
      have l6a : w5.heap.size < w6.heap.size := (QA.out.below hb QA.out.lt).lt
      clear hb Q0 QL QA NL nl l5 l5l hl3
      have X0 := Lib.hid P0.out.drew
      have XL := Lib.hid PL.out.drew
      have XA := Lib.hid PA.out.drew
      have XB := Lib.hid PB.out.drew
      have z0 := X0.out.r0.cell
      have zl := XL.out.cell
      have za := XA.out.cell
      have zb := XB.out.cell
      go_wp2_with fail
      clear P0 PL PA PB
      go_region_held3 (fun w' => (∀ i, w'.cell? ⟨w.heap.size, i, none⟩ = (Dk.row ⟨gen, k, acked, peer, 2, seq⟩ (.slice A l.length c))[i]?) ∧ (∀ i, w'.cell? ⟨w3.heap.size, i, none⟩ = (Dk.row ⟨gen, k, acked, -1, 3, seq + 1⟩ (.slice A l.length c))[i]?) ∧ (∀ i, w'.cell? ⟨w5.heap.size, i, none⟩ = (Dk.row ⟨gen, k, acked, -1, 3, seq + 1⟩ (.slice A l.length c))[i]?) ∧ (∀ i, w'.cell? ⟨w6.heap.size, i, none⟩ = (Dk.row ⟨gen, k, acked, -1, 0, seq + 1⟩ (.slice A l.length c))[i]?))
        (first | with_reducible exact ⟨z0, zl, za, zb⟩ | with_reducible exact ⟨Y0.out.r0.cell, YL.out.cell, YA.out.cell, YB.out.cell⟩ | with_reducible exact ⟨V0.out.r0.cell, VL.out.cell, VA.out.cell, VB.out.cell⟩ | with_reducible exact ⟨U0.out.r0.cell, UL.out.cell, UA.out.cell, UB.out.cell⟩ | go_keep)
        (first
        | (go_at_call 14
           refine (refRight_calls ⟨gen, k, acked, -1, 0, seq + 1⟩ (.slice A l.length c) l _ (HS.out.below V0.out.be)).mono ?_
           rw [HRB.out]
           rintro e wu ⟨rfl, hbn⟩
           have U0 := Lib.hid (V0.out.below hbn)
           have UL := Lib.hid (VL.out.below hbn VL.out.lt)
           have UA := Lib.hid (VA.out.below hbn VA.out.lt)
           have UB := Lib.hid (VB.out.below hbn VB.out.lt)
           clear hbn)
        | (go_at_call 15
           have yy := Y0
           clear yy
           refine (bound_calls ⟨gen, k, acked, -1, 0, seq + 1⟩ _ _).mono ?_
           rw [show Dk.bound ⟨gen, k, acked, -1, 0, seq + 1⟩ = k from rfl]
           rintro e wv ⟨rfl, hbn⟩
           have V0 := Lib.hid (Y0.out.below hbn)
           have VL := Lib.hid (YL.out.below hbn YL.out.lt)
           have VA := Lib.hid (YA.out.below hbn YA.out.lt)
           have VB := Lib.hid (YB.out.below hbn YB.out.lt)
           clear hbn)
        | (go_at_call 15
           refine (bound_calls ⟨gen, k, acked, -1, 3, seq + 1⟩ _ _).mono ?_
           rw [show Dk.bound ⟨gen, k, acked, -1, 3, seq + 1⟩ = acked from rfl]
           rintro e wn ⟨rfl, hbn⟩
           have Y0 := Lib.hid (X0.out.below hbn)
           have YL := Lib.hid (XL.out.below hbn XL.out.lt)
           have YA := Lib.hid (XA.out.below hbn XA.out.lt)
           have YB := Lib.hid (XB.out.below hbn XB.out.lt)
           clear hbn))
      all_goals go_wp2
      all_goals go_ret
      all_goals exact ⟨rfl, U0.out.be⟩
  · have ja : (a == seq + 1) = false := by simp [ha]
    have EA := Lib.hid (show Dk.told ⟨gen, k, acked, -1, 3, seq + 1⟩ a b = ⟨gen, k, acked, -1, 3, seq + 1⟩ by simp [Dk.told, ha])
    clear ha
    rw [EA.out]
    have Q0 := Lib.hid (N0.out.alloc (.cells (Dk.row ⟨gen, k, acked, -1, 3, seq + 1⟩ (.slice A l.length c)) 26))
    have QL := Lib.hid (NL.out.alloc (.cells (Dk.row ⟨gen, k, acked, -1, 3, seq + 1⟩ (.slice A l.length c)) 26))
    have QA := Lib.hid (Row.new w5 26 (Dk.row ⟨gen, k, acked, -1, 3, seq + 1⟩ (.slice A l.length c)))
    have l5 : w.heap.size < w5.heap.size := N0.out.r0.lt
    have l5l : w3.heap.size < w5.heap.size := NL.out.lt
    have nl := NL.out.cell
    clear N0
    go_wp2_with fail
    refine (Told_calls ⟨gen, k, acked, -1, 3, seq + 1⟩ _ (seq + 1) (-1) _ ⟨_, _, _, rfl⟩).mono ?_
    rw [ET.out]
    rintro e w6 ⟨rfl, hb⟩
    have P0 := Lib.hid ((Q0.out.below hb).alloc (.cells (Dk.row ⟨gen, k, acked, -1, 0, seq + 1⟩ (.slice A l.length c)) 26))
    have PL := Lib.hid ((QL.out.below hb QL.out.lt).alloc (.cells (Dk.row ⟨gen, k, acked, -1, 0, seq + 1⟩ (.slice A l.length c)) 26))
    have PA := Lib.hid ((QA.out.below hb QA.out.lt).alloc (.cells (Dk.row ⟨gen, k, acked, -1, 0, seq + 1⟩ (.slice A l.length c)) 26))
    have PB := Lib.hid (Row.new w6 26 (Dk.row ⟨gen, k, acked, -1, 0, seq + 1⟩ (.slice A l.length c)))
    have l6 : w.heap.size < w6.heap.size := (Q0.out.below hb).r0.lt
    have l6l : w3.heap.size < w6.heap.size := (QL.out.below hb QL.out.lt).lt
    have l6a : w5.heap.size < w6.heap.size := (QA.out.below hb QA.out.lt).lt
    clear hb Q0 QL QA NL nl l5 l5l hl3
    have X0 := Lib.hid P0.out.drew
    have XL := Lib.hid PL.out.drew
    have XA := Lib.hid PA.out.drew
    have XB := Lib.hid PB.out.drew
    have z0 := X0.out.r0.cell
    have zl := XL.out.cell
    have za := XA.out.cell
    have zb := XB.out.cell
    go_wp2_with fail
    clear P0 PL PA PB
    go_region_held3 (fun w' => (∀ i, w'.cell? ⟨w.heap.size, i, none⟩ = (Dk.row ⟨gen, k, acked, peer, 2, seq⟩ (.slice A l.length c))[i]?) ∧ (∀ i, w'.cell? ⟨w3.heap.size, i, none⟩ = (Dk.row ⟨gen, k, acked, -1, 3, seq + 1⟩ (.slice A l.length c))[i]?) ∧ (∀ i, w'.cell? ⟨w5.heap.size, i, none⟩ = (Dk.row ⟨gen, k, acked, -1, 3, seq + 1⟩ (.slice A l.length c))[i]?) ∧ (∀ i, w'.cell? ⟨w6.heap.size, i, none⟩ = (Dk.row ⟨gen, k, acked, -1, 0, seq + 1⟩ (.slice A l.length c))[i]?))
      (first | with_reducible exact ⟨z0, zl, za, zb⟩ | with_reducible exact ⟨Y0.out.r0.cell, YL.out.cell, YA.out.cell, YB.out.cell⟩ | with_reducible exact ⟨V0.out.r0.cell, VL.out.cell, VA.out.cell, VB.out.cell⟩ | with_reducible exact ⟨U0.out.r0.cell, UL.out.cell, UA.out.cell, UB.out.cell⟩ | go_keep)
      (first
      | (go_at_call 14
         refine (refRight_calls ⟨gen, k, acked, -1, 0, seq + 1⟩ (.slice A l.length c) l _ (HS.out.below V0.out.be)).mono ?_
         rw [HRB.out]
         rintro e wu ⟨rfl, hbn⟩
         have U0 := Lib.hid (V0.out.below hbn)
         have UL := Lib.hid (VL.out.below hbn VL.out.lt)
         have UA := Lib.hid (VA.out.below hbn VA.out.lt)
         have UB := Lib.hid (VB.out.below hbn VB.out.lt)
         clear hbn)
      | (go_at_call 15
         have yy := Y0
         clear yy
         refine (bound_calls ⟨gen, k, acked, -1, 0, seq + 1⟩ _ _).mono ?_
         rw [show Dk.bound ⟨gen, k, acked, -1, 0, seq + 1⟩ = k from rfl]
         rintro e wv ⟨rfl, hbn⟩
         have V0 := Lib.hid (Y0.out.below hbn)
         have VL := Lib.hid (YL.out.below hbn YL.out.lt)
         have VA := Lib.hid (YA.out.below hbn YA.out.lt)
         have VB := Lib.hid (YB.out.below hbn YB.out.lt)
         clear hbn)
      | (go_at_call 15
         refine (bound_calls ⟨gen, k, acked, -1, 3, seq + 1⟩ _ _).mono ?_
         rw [show Dk.bound ⟨gen, k, acked, -1, 3, seq + 1⟩ = acked from rfl]
         rintro e wn ⟨rfl, hbn⟩
         have Y0 := Lib.hid (X0.out.below hbn)
         have YL := Lib.hid (XL.out.below hbn XL.out.lt)
         have YA := Lib.hid (XA.out.below hbn XA.out.lt)
         have YB := Lib.hid (XB.out.below hbn XB.out.lt)
         clear hbn))
    all_goals go_wp2
    all_goals go_ret
    all_goals exact ⟨rfl, U0.out.be⟩
end Go.Proofs.Ytbchepdaomhgeaa.MM
