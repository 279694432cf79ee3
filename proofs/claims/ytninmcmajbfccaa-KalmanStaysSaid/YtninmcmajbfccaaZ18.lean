import Derived.Test.YtninmcmajbfccaaZ17
import Derived.Test.YtninmcmajbfccaaZ16
import Derived.Test.YtninmcmajbfccaaRows
import Derived.Test.YtninmcmajbfccaaZ8
import Derived.ProofKit
import Derived.OpenShut
import Derived.ShutString
import Derived.ChangeOld
import Derived.ChangeSame
import Derived.SizedLaws
import Derived.Laws.IdiomArrays
import Derived.Deep.Slices
import Derived.Carry
/- Joined by a program of this session's own (wip/pack.py) out of its texts; the parts PQ, PR, PS were laid by its own program (wip/print-patch.py over the kit's print) out of the translation; Lean checks all. -/
/- Layer 5: KalmanGoods. -/
namespace Go.Proofs.Ytninmcmajbfccaa.PR
open Go.RowKit Go.Proofs.Ytninmcmajbfccaa.PQ Go.Proofs.YtninmcmajbfccaaW.PrintWords Go.Proofs.YtninmcmajbfccaaW.PrintLast Go.Proofs.YtninmcmajbfccaaW.PrintMore Go.Proofs.Ytninmcmajbfccaa.KK
set_option linter.unusedVariables false
set_option linter.unusedSimpArgs false
set_option maxRecDepth 100000 in
set_option maxHeartbeats 8000000 in
theorem goods_walk (r c : Int) (A : Option Addr) (cp : Nat) (l : List Int) (w : World) (hA : Rd w A l) (hc : l.length ≤ cp) : Calls Try.prog 5 #[.agg #[I r, I c, .slice A l.length cp]] w fun e w' => e = .returned (.bool true) ∧ Below w.heap.size w w' := by
  have N : Hid (Scene w [(26, #[I r, I c, .slice A l.length cp])] (w.alloc (.cells #[I r, I c, .slice A l.length cp] 26))) := Lib.hid ((Scene.none w).push (by simp) _ _)
  have HA := Lib.hid hA
  have HC := Lib.hid hc
  clear hA hc
  go_enter Try.func5, Try.ntmps5
  go_wp2_with fail
  refine (shown_calls _).mono ?_
  rintro e w1 ⟨rfl, hb⟩
  have N1 := Lib.hid (N.out.below hb)
  have x0 := N1.out.r0.cell
  clear hb N
  go_wp2_with fail
  refine (refRight_calls r c A cp l _ (HA.out.below N1.out.be) HC.out).mono ?_
  rintro e w2 ⟨rfl, hb⟩
  have N2 := Lib.hid (N1.out.below hb)
  clear hb N1 x0
  have x0 := N2.out.r0.cell
  by_cases h1 : rightM r c l = true
  · rw [h1]
    by_cases h2 : r = c
    · obtain ⟨a1, a2, a3, a4, a5, a6⟩ := rightM_parts h1
      obtain ⟨n, rfl⟩ : ∃ n : Nat, r = n := ⟨r.toNat, by omega⟩
      subst h2
      rw [Int.toNat_natCast] at a5
      have HI := Lib.hid (inR_of a6)
      have HN : Hid (1 ≤ n ∧ n ≤ 8) := Lib.hid ⟨by omega, by omega⟩
      have HL := Lib.hid a5
      clear h1 a1 a2 a3 a4 a5 a6
      have T15 := Lib.hid (fun w' (h : Rd w' A l) => good_calls n A cp l w' HN.out.2 HL.out h HC.out)
      rw [goodL_fl n l HL.out HI.out] at T15
      go_wp2_with fail
      refine (T15.out _ (HA.out.below N2.out.be)).mono ?_
      rintro e w3 ⟨G, d, rfl, ho, hb⟩
      obtain ⟨_, _, e0, hd, rg⟩ := Own.reads ho
      injection e0 with e1 e2 e3
      subst e1 e3
      have HD := Lib.hid hd
      have N3 := Lib.hid ((N2.out.below hb).alloc (.cells #[I n, I n, .slice G (goodF n l).length d] 26))
      have RG := Lib.hid (Rd.below rg ((Below.refl _ _).alloc (Nat.le_refl _) (.cells #[I n, I n, .slice G (goodF n l).length d] 26)))
      have GB := Lib.hid (Row.new w3 26 #[I n, I n, .slice G (goodF n l).length d])
      have UG : Hid (w.heap.size < w3.heap.size) := Lib.hid (by have h1 := N2.out.rows.le N2.out.be.size; have h2 := hb.size; simp at h1; omega)
      have SG : Hid ((w3.alloc (.cells #[I n, I n, .slice G (goodF n l).length d] 26)).heap.size = w3.heap.size + 1) := Lib.hid (by simp)
      clear ho hb hd rg e2 N2 T15
      go_wp2_with fail
      rename_i K5 aK5
      generalize w3.alloc (.cells #[I n, I n, .slice G (goodF n l).length d] 26) = wr at N3 RG GB SG ⊢
      generalize w3.heap.size = gb at GB UG SG ⊢
      have KK : Hid (∀ w', Below wr.heap.size wr w' → (∀ o, w'.cell? ⟨w.heap.size, o, none⟩ = #[I n, I n, .slice A l.length cp][o]?) ∧ (∀ o, w'.cell? ⟨gb, o, none⟩ = #[I n, I n, .slice G (goodF n l).length d][o]?)) := Lib.hid (fun w' h => ⟨(N3.out.r0.below h N3.out.r0.lt).cell, (GB.out.below h GB.out.lt).cell⟩)
      have BR := Lib.hid (Below.refl wr.heap.size wr)
      have REST5 : Hid (∀ (tb : Nat) (w5 : World) (Z : Option Addr) (dz : Nat), Below wr.heap.size wr w5 → Row w5 tb 28 #[I n, I 1, .slice Z (zr n).length dz, I n, I n, .slice G (goodF n l).length d] → Rd w5 Z (zr n) → (zr n).length ≤ dz → K5 { tmps := #[.agg #[I n, I n, .slice A l.length cp], .pointer (some ⟨w.heap.size, 0, none⟩), .bool false, .bool true, .pointer (some ⟨gb, 0, none⟩), .pointer (some ⟨tb, 0, none⟩), undef, .bool true, .agg #[I n, I n, .slice A l.length cp], .bool true, .bool false, .bool false, .pointer (some ⟨w.heap.size, 0, none⟩), I n, .pointer (some ⟨w.heap.size, 1, none⟩), I n, .bool false, .bool false, undef, .agg #[I n, I n, .slice A l.length cp], .agg #[I n, I n, .slice G (goodF n l).length d], .pointer (some ⟨w.heap.size, 0, none⟩), I n, .agg #[I n, I 1, .slice Z (zr n).length dz], .agg #[I n, I n, .slice G (goodF n l).length d], .agg #[I n, I 1, .slice Z (zr n).length dz, I n, I n, .slice G (goodF n l).length d], undef, undef, undef, undef, undef, undef, undef, undef, undef, undef, undef, undef, undef, undef, undef, undef, undef, undef, undef, undef, undef, undef, undef, undef, undef, undef, undef, undef, undef, undef], defers := [] } w5) := Lib.hid (by
        intro tb w5 Z dz hB hT hZ hdz
        refine aK5 _ _ ?_
        have P5 := Lib.hid (N3.out.r0.below hB N3.out.r0.lt)
        have G5 := Lib.hid (GB.out.below hB GB.out.lt)
        have T5 := Lib.hid hT
        have Z5 := Lib.hid hZ
        have D5 := Lib.hid hdz
        have RG5 := Lib.hid (RG.out.below hB)
        have W5 := Lib.hid (N3.out.be.trans (hB.mono N3.out.be.size))
        clear hB hT hZ hdz N3 GB RG SG KK BR aK5 x0
        go_wp2_with fail
        rename_i K6 aK6
        have KK6 : Hid (∀ w', Below w5.heap.size w5 w' → (∀ o, w'.cell? ⟨w.heap.size, o, none⟩ = #[I n, I n, .slice A l.length cp][o]?) ∧ (∀ o, w'.cell? ⟨gb, o, none⟩ = #[I n, I n, .slice G (goodF n l).length d][o]?)) := Lib.hid (fun w' h => ⟨(P5.out.below h P5.out.lt).cell, (G5.out.below h G5.out.lt).cell⟩)
        have B5 := Lib.hid (Below.refl w5.heap.size w5)
        have REST6 : Hid (∀ (yb : Nat) (w6 : World) (Y : Option Addr) (dy : Nat), Below w5.heap.size w5 w6 → Row w6 yb 28 #[I n, I 1, .slice Y (zr n).length dy, I n, I n, .slice A l.length cp] → Rd w6 Y (zr n) → (zr n).length ≤ dy → K6 { tmps := #[.agg #[I n, I n, .slice A l.length cp], .pointer (some ⟨w.heap.size, 0, none⟩), .bool false, .bool true, .pointer (some ⟨gb, 0, none⟩), .pointer (some ⟨tb, 0, none⟩), .pointer (some ⟨yb, 0, none⟩), .bool true, .agg #[I n, I n, .slice A l.length cp], .bool true, .bool false, .bool false, .pointer (some ⟨w.heap.size, 0, none⟩), I n, .pointer (some ⟨w.heap.size, 1, none⟩), I n, .bool false, .bool false, undef, .agg #[I n, I n, .slice A l.length cp], .agg #[I n, I n, .slice G (goodF n l).length d], .pointer (some ⟨w.heap.size, 0, none⟩), I n, .agg #[I n, I 1, .slice Z (zr n).length dz], .agg #[I n, I n, .slice G (goodF n l).length d], .agg #[I n, I 1, .slice Z (zr n).length dz, I n, I n, .slice G (goodF n l).length d], .pointer (some ⟨w.heap.size, 0, none⟩), I n, .agg #[I n, I 1, .slice Y (zr n).length dy], .agg #[I n, I n, .slice A l.length cp], .agg #[I n, I 1, .slice Y (zr n).length dy, I n, I n, .slice A l.length cp], undef, undef, undef, undef, undef, undef, undef, undef, undef, undef, undef, undef, undef, undef, undef, undef, undef, undef, undef, undef, undef, undef, undef, undef, undef], defers := [] } w6) := Lib.hid (by
          intro yb w6 Y dy hB hT hY hdy
          refine aK6 _ _ ?_
          have P6 := Lib.hid (P5.out.below hB P5.out.lt)
          have G6 := Lib.hid (G5.out.below hB G5.out.lt)
          have T6 := Lib.hid (T5.out.below hB T5.out.lt)
          have Y6 := Lib.hid hT
          have W6 := Lib.hid (bgo W5.out hB)
          have BW := Lib.hid (Below.refl w6.heap.size w6)
          have KK7 : Hid (∀ w', Below w6.heap.size w6 w' → (∀ o, w'.cell? ⟨w.heap.size, o, none⟩ = #[I n, I n, .slice A l.length cp][o]?) ∧ (∀ o, w'.cell? ⟨gb, o, none⟩ = #[I n, I n, .slice G (goodF n l).length d][o]?) ∧ (∀ o, w'.cell? ⟨tb, o, none⟩ = #[I n, I 1, .slice Z (zr n).length dz, I n, I n, .slice G (goodF n l).length d][o]?) ∧ (∀ o, w'.cell? ⟨yb, o, none⟩ = #[I n, I 1, .slice Y (zr n).length dy, I n, I n, .slice A l.length cp][o]?)) := Lib.hid (fun w' h => ⟨(P6.out.below h P6.out.lt).cell, (G6.out.below h G6.out.lt).cell, (T6.out.below h T6.out.lt).cell, (Y6.out.below h Y6.out.lt).cell⟩)
          have RZ := Lib.hid (fun w' (h : Below w6.heap.size w6 w') => (Z5.out.below hB).below h)
          have RG6 := Lib.hid (fun w' (h : Below w6.heap.size w6 w') => (RG5.out.below hB).below h)
          have RY := Lib.hid (fun w' (h : Below w6.heap.size w6 w') => hY.below h)
          have RP := Lib.hid (fun w' (h : Below w6.heap.size w6 w') => HA.out.below (bgo W6.out h))
          have T17x : Hid (∀ w', Below w6.heap.size w6 w' → Calls Try.prog 17 #[.agg #[I n, I 1, .slice Z (zr n).length dz, I n, I n, .slice G (goodF n l).length d]] w' fun e w'' => e = .returned (.bool true) ∧ Below w'.heap.size w' w'') := Lib.hid (fun w' h => by
            have hh := refTrack_calls n 1 Z dz (zr n) n n G d (goodF n l) w' (RZ.out w' h) D5.out (RG6.out w' h) HD.out
            rw [decide_eq_true (good_track n l HN.out.1 HN.out.2 HI.out)] at hh
            exact hh)
          have T18x : Hid (∀ w', Below w6.heap.size w6 w' → Calls Try.prog 18 #[.agg #[I n, I 1, .slice Z (zr n).length dz, I n, I n, .slice G (goodF n l).length d]] w' fun e w'' => e = .returned (.bool true) ∧ Below w'.heap.size w' w'') := Lib.hid (fun w' h => by
            have hh := ownTrack_yes n Z dz (zr n) G d (goodF n l) w' (RZ.out w' h) D5.out (RG6.out w' h) HD.out (good_track n l HN.out.1 HN.out.2 HI.out)
            exact hh)
          have hgl : (goodF n l).length = n * n := fl_length
          have T15g : Hid (∀ w', Below w6.heap.size w6 w' → Calls Try.prog 15 #[.agg #[I n, I n, .slice G (goodF n l).length d]] w' fun e w'' => ∃ H dh, e = .returned (.agg #[I n, I n, .slice H (goodF n l).length dh]) ∧ Own w'' w'.heap.size (.slice H (goodF n l).length dh) (goodF n l) ∧ Below w'.heap.size w' w'') := Lib.hid (fun w' h => by
            have hh := good_calls n G d (goodF n l) w' HN.out.2 hgl (RG6.out w' h) HD.out
            rw [goodL_fl n _ hgl (good_in n l HI.out), good_good] at hh
            exact hh)
          have n64 := sq8 HN.out.2
          have T19 : Hid (∀ w' H dh, Below w6.heap.size w6 w' → Rd w' H (goodF n l) → (goodF n l).length ≤ dh → Calls Try.prog 19 #[.agg #[I n, I n, .slice H (goodF n l).length dh], .agg #[I n, I n, .slice G (goodF n l).length d]] w' fun e w'' => e = .returned (.bool true) ∧ Below w'.heap.size w' w'') := Lib.hid (fun w' H dh h h1 h2 => by
            have hh := refSame_calls n n H dh (goodF n l) n n G d (goodF n l) w' h1 h2 (RG6.out w' h) HD.out (by omega)
            rw [decide_eq_true ⟨rfl, rfl, rfl⟩] at hh
            exact hh)
          by_cases hy : trackP n 1 (zr n) n n l
          · have T17y : Hid (∀ w', Below w6.heap.size w6 w' → Calls Try.prog 17 #[.agg #[I n, I 1, .slice Y (zr n).length dy, I n, I n, .slice A l.length cp]] w' fun e w'' => e = .returned (.bool true) ∧ Below w'.heap.size w' w'') := Lib.hid (fun w' h => by
              have hh := refTrack_calls n 1 Y dy (zr n) n n A cp l w' (RY.out w' h) hdy (RP.out w' h) HC.out
              rw [decide_eq_true hy] at hh
              exact hh)
            have T19p : Hid (∀ w', Below w6.heap.size w6 w' → Calls Try.prog 19 #[.agg #[I n, I n, .slice G (goodF n l).length d], .agg #[I n, I n, .slice A l.length cp]] w' fun e w'' => e = .returned (.bool true) ∧ Below w'.heap.size w' w'') := Lib.hid (fun w' h => by
              have hh := refSame_calls n n G d (goodF n l) n n A cp l w' (RG6.out w' h) HD.out (RP.out w' h) HC.out (by omega)
              rw [decide_eq_true ⟨rfl, rfl, good_stays n l HL.out (by have := hy.2.2.2.2.2; rwa [Int.toNat_natCast] at this)⟩] at hh
              exact hh)
            clear hB hT hY hdy hy hgl n64 P5 G5 T5 Z5 D5 RG5 W5 P6 G6 T6 Y6 RZ RG6 RY RP HD HN HL HI HA HC B5 KK6
            go_wp2_with fail
            have BW := Lib.hid BW.out.drew
            refine wp_region_noPanic ?_
            refine wp_region_held_drew (S := fun w' => (∀ o, w'.cell? ⟨w.heap.size, o, none⟩ = #[I n, I n, .slice A l.length cp][o]?) ∧ (∀ o, w'.cell? ⟨gb, o, none⟩ = #[I n, I n, .slice G (goodF n l).length d][o]?) ∧ (∀ o, w'.cell? ⟨tb, o, none⟩ = #[I n, I 1, .slice Z (zr n).length dz, I n, I n, .slice G (goodF n l).length d][o]?) ∧ (∀ o, w'.cell? ⟨yb, o, none⟩ = #[I n, I 1, .slice Y (zr n).length dy, I n, I n, .slice A l.length cp][o]?)) (by kernel_rfl) (KK7.out _ BW.out) (fun hHeld => ?_)
            refine wpAnyH_take (i := 0) (oi := _) (v := ?v1) rfl (by kernel_rfl) (by kernel_rfl) (by kernel_rfl) (fun _ _ _ h => h) (Or.inl ⟨by rfl, ?hy1⟩) (by assumption) ?_
            case hy1 =>
              intro w' hSw
              (try dsimp only at hSw)
              simp only [List.getElem_toArray, List.getElem_cons_succ, List.getElem_cons_zero]
              go_simp
              (try with_reducible rfl)
            change wpAnyH _ _ _ _ _ _ _ (Act.put _ (some 31) _) _
            simp only [Act.put, List.setIfInBounds_toArray, List.set_cons_zero, List.set_cons_succ]
            refine wpAnyH_take (i := 1) (oi := _) (v := ?v2) rfl (by kernel_rfl) (by kernel_rfl) (by kernel_rfl) (fun _ _ _ h => h) (Or.inl ⟨by rfl, ?hy2⟩) (by assumption) ?_
            case hy2 =>
              intro w' hSw
              (try dsimp only at hSw)
              simp only [List.getElem_toArray, List.getElem_cons_succ, List.getElem_cons_zero]
              go_simp
              (try with_reducible rfl)
            change wpAnyH _ _ _ _ _ _ _ (Act.put _ (some 32) _) _
            simp only [Act.put, List.setIfInBounds_toArray, List.set_cons_zero, List.set_cons_succ]
            refine wpAnyH_take (i := 2) (oi := _) (v := ?v3) rfl (by kernel_rfl) (by kernel_rfl) (by kernel_rfl) (fun _ _ _ h => h) (Or.inl ⟨by rfl, ?hy3⟩) (by assumption) ?_
            case hy3 =>
              intro w' hSw
              (try dsimp only at hSw)
              simp only [List.getElem_toArray, List.getElem_cons_succ, List.getElem_cons_zero]
              go_simp
              (try with_reducible rfl)
            change wpAnyH _ _ _ _ _ _ _ (Act.put _ (some 33) _) _
            simp only [Act.put, List.setIfInBounds_toArray, List.set_cons_zero, List.set_cons_succ]
            refine wpAnyH_ready (rs := [3]) (by kernel_rfl) (by simp) ?_
            refine AllReadyH.cons (o := _) rfl (fun K hK => ?_) AllReadyH.nil
            go_simp
            (with_reducible refine (T17x.out _ BW.out).mono ?_)
            rintro e w7 ⟨rfl, hb⟩
            have BW := Lib.hid (bgo BW.out hb)
            clear hb hHeld
            go_wp2_with fail
            refine hK.out _ _ (KK7.out _ BW.out) (fun hHeld => ?_)
            clear hK K
            try simp only [Act.put, List.setIfInBounds_toArray, List.set_cons_zero, List.set_cons_succ]
            refine wpAnyH_take (i := 4) (oi := _) (v := ?v4) rfl (by kernel_rfl) (by kernel_rfl) (by kernel_rfl) (fun _ _ _ h => h) (Or.inl ⟨by rfl, ?hy4⟩) (by assumption) ?_
            case hy4 =>
              intro w' hSw
              (try dsimp only at hSw)
              simp only [List.getElem_toArray, List.getElem_cons_succ, List.getElem_cons_zero]
              go_simp
              (try with_reducible rfl)
            change wpAnyH _ _ _ _ _ _ _ (Act.put _ (some 35) _) _
            simp only [Act.put, List.setIfInBounds_toArray, List.set_cons_zero, List.set_cons_succ]
            refine wpAnyH_take (i := 5) (oi := _) (v := ?v5) rfl (by kernel_rfl) (by kernel_rfl) (by kernel_rfl) (fun _ _ _ h => h) (Or.inl ⟨by rfl, ?hy5⟩) (by assumption) ?_
            case hy5 =>
              intro w' hSw
              (try dsimp only at hSw)
              simp only [List.getElem_toArray, List.getElem_cons_succ, List.getElem_cons_zero]
              go_simp
              (try with_reducible rfl)
            change wpAnyH _ _ _ _ _ _ _ (Act.put _ (some 36) _) _
            simp only [Act.put, List.setIfInBounds_toArray, List.set_cons_zero, List.set_cons_succ]
            refine wpAnyH_take (i := 6) (oi := _) (v := ?v6) rfl (by kernel_rfl) (by kernel_rfl) (by kernel_rfl) (fun _ _ _ h => h) (Or.inl ⟨by rfl, ?hy6⟩) (by assumption) ?_
            case hy6 =>
              intro w' hSw
              (try dsimp only at hSw)
              simp only [List.getElem_toArray, List.getElem_cons_succ, List.getElem_cons_zero]
              go_simp
              (try with_reducible rfl)
            change wpAnyH _ _ _ _ _ _ _ (Act.put _ (some 37) _) _
            simp only [Act.put, List.setIfInBounds_toArray, List.set_cons_zero, List.set_cons_succ]
            refine wpAnyH_ready (rs := [7]) (by kernel_rfl) (by simp) ?_
            refine AllReadyH.cons (o := _) rfl (fun K hK => ?_) AllReadyH.nil
            go_simp
            (with_reducible refine (T18x.out _ BW.out).mono ?_)
            rintro e w7 ⟨rfl, hb⟩
            have BW := Lib.hid (bgo BW.out hb)
            clear hb hHeld
            go_wp2_with fail
            refine hK.out _ _ (KK7.out _ BW.out) (fun hHeld => ?_)
            clear hK K
            try simp only [Act.put, List.setIfInBounds_toArray, List.set_cons_zero, List.set_cons_succ]
            refine wpAnyH_take (i := 8) (oi := _) (v := ?v7) rfl (by kernel_rfl) (by kernel_rfl) (by kernel_rfl) (fun _ _ _ h => h) (Or.inl ⟨by rfl, ?hy7⟩) (by assumption) ?_
            case hy7 =>
              intro w' hSw
              (try dsimp only at hSw)
              simp only [List.getElem_toArray, List.getElem_cons_succ, List.getElem_cons_zero]
              go_simp
              (try with_reducible rfl)
            change wpAnyH _ _ _ _ _ _ _ (Act.put _ (some 39) _) _
            simp only [Act.put, List.setIfInBounds_toArray, List.set_cons_zero, List.set_cons_succ]
            refine wpAnyH_take (i := 9) (oi := _) (v := ?v8) rfl (by kernel_rfl) (by kernel_rfl) (by kernel_rfl) (fun _ _ _ h => h) (Or.inl ⟨by rfl, ?hy8⟩) (by assumption) ?_
            case hy8 =>
              intro w' hSw
              (try dsimp only at hSw)
              simp only [List.getElem_toArray, List.getElem_cons_succ, List.getElem_cons_zero]
              go_simp
              (try with_reducible rfl)
            change wpAnyH _ _ _ _ _ _ _ (Act.put _ (some 40) _) _
            simp only [Act.put, List.setIfInBounds_toArray, List.set_cons_zero, List.set_cons_succ]
            refine wpAnyH_take (i := 10) (oi := _) (v := ?v9) rfl (by kernel_rfl) (by kernel_rfl) (by kernel_rfl) (fun _ _ _ h => h) (Or.inl ⟨by rfl, ?hy9⟩) (by assumption) ?_
            case hy9 =>
              intro w' hSw
              (try dsimp only at hSw)
              simp only [List.getElem_toArray, List.getElem_cons_succ, List.getElem_cons_zero]
              go_simp
              (try with_reducible rfl)
            change wpAnyH _ _ _ _ _ _ _ (Act.put _ (some 41) _) _
            simp only [Act.put, List.setIfInBounds_toArray, List.set_cons_zero, List.set_cons_succ]
            refine wpAnyH_take (i := 12) (oi := _) (v := ?v10) rfl (by kernel_rfl) (by kernel_rfl) (by kernel_rfl) (fun _ _ _ h => h) (Or.inl ⟨by rfl, ?hy10⟩) (by assumption) ?_
            case hy10 =>
              intro w' hSw
              (try dsimp only at hSw)
              simp only [List.getElem_toArray, List.getElem_cons_succ, List.getElem_cons_zero]
              go_simp
              (try with_reducible rfl)
            change wpAnyH _ _ _ _ _ _ _ (Act.put _ (some 43) _) _
            simp only [Act.put, List.setIfInBounds_toArray, List.set_cons_zero, List.set_cons_succ]
            refine wpAnyH_ready (rs := [11]) (by kernel_rfl) (by simp) ?_
            refine AllReadyH.cons (o := _) rfl (fun K hK => ?_) AllReadyH.nil
            go_simp
            (with_reducible refine (T15g.out _ BW.out).mono ?_)
            rintro e w7 ⟨H, dh, rfl, ho, hb⟩
            have RH := Lib.hid (Own.rd ho).1
            have DH := Lib.hid (Own.rd ho).2
            clear ho
            have BW := Lib.hid (bgo BW.out hb)
            clear hb hHeld
            go_wp2_with fail
            refine hK.out _ _ (KK7.out _ BW.out) (fun hHeld => ?_)
            clear hK K
            try simp only [Act.put, List.setIfInBounds_toArray, List.set_cons_zero, List.set_cons_succ]
            refine wpAnyH_ready (rs := [13]) (by kernel_rfl) (by simp) ?_
            refine AllReadyH.cons (o := _) rfl (fun K hK => ?_) AllReadyH.nil
            go_simp
            (with_reducible refine (T19.out _ _ _ BW.out RH.out DH.out).mono ?_)
            rintro e w7 ⟨rfl, hb⟩
            have BW := Lib.hid (bgo BW.out hb)
            clear hb hHeld
            go_wp2_with fail
            refine hK.out _ _ (KK7.out _ BW.out) (fun hHeld => ?_)
            clear hK K
            try simp only [Act.put, List.setIfInBounds_toArray, List.set_cons_zero, List.set_cons_succ]
            refine wpAnyH_take (i := 14) (oi := _) (v := ?v11) rfl (by kernel_rfl) (by kernel_rfl) (by kernel_rfl) (fun _ _ _ h => h) (Or.inl ⟨by rfl, ?hy11⟩) (by assumption) ?_
            case hy11 =>
              intro w' hSw
              (try dsimp only at hSw)
              simp only [List.getElem_toArray, List.getElem_cons_succ, List.getElem_cons_zero]
              go_simp
              (try with_reducible rfl)
            change wpAnyH _ _ _ _ _ _ _ (Act.put _ (some 45) _) _
            simp only [Act.put, List.setIfInBounds_toArray, List.set_cons_zero, List.set_cons_succ]
            refine wpAnyH_take (i := 15) (oi := _) (v := ?v12) rfl (by kernel_rfl) (by kernel_rfl) (by kernel_rfl) (fun _ _ _ h => h) (Or.inl ⟨by rfl, ?hy12⟩) (by assumption) ?_
            case hy12 =>
              intro w' hSw
              (try dsimp only at hSw)
              simp only [List.getElem_toArray, List.getElem_cons_succ, List.getElem_cons_zero]
              go_simp
              (try with_reducible rfl)
            change wpAnyH _ _ _ _ _ _ _ (Act.put _ (some 46) _) _
            simp only [Act.put, List.setIfInBounds_toArray, List.set_cons_zero, List.set_cons_succ]
            refine wpAnyH_take (i := 16) (oi := _) (v := ?v13) rfl (by kernel_rfl) (by kernel_rfl) (by kernel_rfl) (fun _ _ _ h => h) (Or.inl ⟨by rfl, ?hy13⟩) (by assumption) ?_
            case hy13 =>
              intro w' hSw
              (try dsimp only at hSw)
              simp only [List.getElem_toArray, List.getElem_cons_succ, List.getElem_cons_zero]
              go_simp
              (try with_reducible rfl)
            change wpAnyH _ _ _ _ _ _ _ (Act.put _ (some 47) _) _
            simp only [Act.put, List.setIfInBounds_toArray, List.set_cons_zero, List.set_cons_succ]
            refine wpAnyH_ready (rs := [17]) (by kernel_rfl) (by simp) ?_
            refine AllReadyH.cons (o := _) rfl (fun K hK => ?_) AllReadyH.nil
            go_simp
            (with_reducible refine (T17y.out _ BW.out).mono ?_)
            rintro e w7 ⟨rfl, hb⟩
            have BW := Lib.hid (bgo BW.out hb)
            clear hb hHeld
            go_wp2_with fail
            refine hK.out _ _ (KK7.out _ BW.out) (fun hHeld => ?_)
            clear hK K
            try simp only [Act.put, List.setIfInBounds_toArray, List.set_cons_zero, List.set_cons_succ]
            refine wpAnyH_take (i := 18) (oi := _) (v := ?v14) rfl (by kernel_rfl) (by kernel_rfl) (by kernel_rfl) (fun _ _ _ h => h) (Or.inl ⟨by rfl, ?hy14⟩) (by assumption) ?_
            case hy14 =>
              intro w' hSw
              (try dsimp only at hSw)
              simp only [List.getElem_toArray, List.getElem_cons_succ, List.getElem_cons_zero]
              go_simp
              (try with_reducible rfl)
            change wpAnyH _ _ _ _ _ _ _ (Act.put _ (some 49) _) _
            simp only [Act.put, List.setIfInBounds_toArray, List.set_cons_zero, List.set_cons_succ]
            refine wpAnyH_take (i := 19) (oi := _) (v := ?v15) rfl (by kernel_rfl) (by kernel_rfl) (by kernel_rfl) (fun _ _ _ h => h) (Or.inl ⟨by rfl, ?hy15⟩) (by assumption) ?_
            case hy15 =>
              intro w' hSw
              (try dsimp only at hSw)
              simp only [List.getElem_toArray, List.getElem_cons_succ, List.getElem_cons_zero]
              go_simp
              (try with_reducible rfl)
            change wpAnyH _ _ _ _ _ _ _ (Act.put _ (some 50) _) _
            simp only [Act.put, List.setIfInBounds_toArray, List.set_cons_zero, List.set_cons_succ]
            refine wpAnyH_take (i := 20) (oi := _) (v := ?v16) rfl (by kernel_rfl) (by kernel_rfl) (by kernel_rfl) (fun _ _ _ h => h) (Or.inl ⟨by rfl, ?hy16⟩) (by assumption) ?_
            case hy16 =>
              intro w' hSw
              (try dsimp only at hSw)
              simp only [List.getElem_toArray, List.getElem_cons_succ, List.getElem_cons_zero]
              go_simp
              (try with_reducible rfl)
            change wpAnyH _ _ _ _ _ _ _ (Act.put _ (some 51) _) _
            simp only [Act.put, List.setIfInBounds_toArray, List.set_cons_zero, List.set_cons_succ]
            refine wpAnyH_take (i := 21) (oi := _) (v := ?v17) rfl (by kernel_rfl) (by kernel_rfl) (by kernel_rfl) (fun _ _ _ h => h) (Or.inl ⟨by rfl, ?hy17⟩) (by assumption) ?_
            case hy17 =>
              intro w' hSw
              (try dsimp only at hSw)
              simp only [List.getElem_toArray, List.getElem_cons_succ, List.getElem_cons_zero]
              go_simp
              (try with_reducible rfl)
            change wpAnyH _ _ _ _ _ _ _ (Act.put _ (some 52) _) _
            simp only [Act.put, List.setIfInBounds_toArray, List.set_cons_zero, List.set_cons_succ]
            refine wpAnyH_ready (rs := [22]) (by kernel_rfl) (by simp) ?_
            refine AllReadyH.cons (o := _) rfl (fun K hK => ?_) AllReadyH.nil
            go_simp
            (with_reducible refine (T19p.out _ BW.out).mono ?_)
            rintro e w7 ⟨rfl, hb⟩
            have BW := Lib.hid (bgo BW.out hb)
            clear hb hHeld
            go_wp2_with fail
            refine hK.out _ _ (KK7.out _ BW.out) (fun hHeld => ?_)
            clear hK K
            try simp only [Act.put, List.setIfInBounds_toArray, List.set_cons_zero, List.set_cons_succ]
            refine wpAnyH_take (i := 23) (oi := _) (v := ?v18) rfl (by kernel_rfl) (by kernel_rfl) (by kernel_rfl) (fun _ _ _ h => h) (Or.inl ⟨by rfl, ?hy18⟩) (by assumption) ?_
            case hy18 =>
              intro w' hSw
              (try dsimp only at hSw)
              simp only [List.getElem_toArray, List.getElem_cons_succ, List.getElem_cons_zero]
              go_simp
              (try with_reducible rfl)
            change wpAnyH _ _ _ _ _ _ _ (Act.put _ (some 54) _) _
            simp only [Act.put, List.setIfInBounds_toArray, List.set_cons_zero, List.set_cons_succ]
            refine wpAnyH_take (i := 24) (oi := _) (v := ?v19) rfl (by kernel_rfl) (by kernel_rfl) (by kernel_rfl) (fun _ _ _ h => h) (Or.inl ⟨by rfl, ?hy19⟩) (by assumption) ?_
            case hy19 =>
              intro w' hSw
              (try dsimp only at hSw)
              simp only [List.getElem_toArray, List.getElem_cons_succ, List.getElem_cons_zero]
              go_simp
              (try with_reducible rfl)
            change wpAnyH _ _ _ _ _ _ _ (Act.put _ (some 55) _) _
            simp only [Act.put, List.setIfInBounds_toArray, List.set_cons_zero, List.set_cons_succ]
            refine wpAnyH_take (i := 25) (oi := _) (v := ?v20) rfl (by kernel_rfl) (by kernel_rfl) (by kernel_rfl) (fun _ _ _ h => h) (Or.inl ⟨by rfl, ?hy20⟩) (by assumption) ?_
            case hy20 =>
              intro w' hSw
              (try dsimp only at hSw)
              simp only [List.getElem_toArray, List.getElem_cons_succ, List.getElem_cons_zero]
              go_simp
              (try with_reducible rfl)
            change wpAnyH _ _ _ _ _ _ _ (Act.put _ (some 2) _) _
            simp only [Act.put, List.setIfInBounds_toArray, List.set_cons_zero, List.set_cons_succ]
            refine wpAnyH_done (by kernel_rfl) ?_ _
            refine NoPanic.normal ?_
            go_wp2
            go_ret
            exact ⟨rfl, bgo W6.out BW.out⟩
          · have T17y : Hid (∀ w', Below w6.heap.size w6 w' → Calls Try.prog 17 #[.agg #[I n, I 1, .slice Y (zr n).length dy, I n, I n, .slice A l.length cp]] w' fun e w'' => e = .returned (.bool false) ∧ Below w'.heap.size w' w'') := Lib.hid (fun w' h => by
              have hh := refTrack_calls n 1 Y dy (zr n) n n A cp l w' (RY.out w' h) hdy (RP.out w' h) HC.out
              rw [decide_eq_false hy] at hh
              exact hh)
            clear hB hT hY hdy hy hgl n64 P5 G5 T5 Z5 D5 RG5 W5 P6 G6 T6 Y6 RZ RG6 RY RP HD HN HL HI HA HC B5 KK6
            go_wp2_with fail
            have BW := Lib.hid BW.out.drew
            refine wp_region_noPanic ?_
            refine wp_region_held_drew (S := fun w' => (∀ o, w'.cell? ⟨w.heap.size, o, none⟩ = #[I n, I n, .slice A l.length cp][o]?) ∧ (∀ o, w'.cell? ⟨gb, o, none⟩ = #[I n, I n, .slice G (goodF n l).length d][o]?) ∧ (∀ o, w'.cell? ⟨tb, o, none⟩ = #[I n, I 1, .slice Z (zr n).length dz, I n, I n, .slice G (goodF n l).length d][o]?) ∧ (∀ o, w'.cell? ⟨yb, o, none⟩ = #[I n, I 1, .slice Y (zr n).length dy, I n, I n, .slice A l.length cp][o]?)) (by kernel_rfl) (KK7.out _ BW.out) (fun hHeld => ?_)
            refine wpAnyH_take (i := 0) (oi := _) (v := ?v21) rfl (by kernel_rfl) (by kernel_rfl) (by kernel_rfl) (fun _ _ _ h => h) (Or.inl ⟨by rfl, ?hy21⟩) (by assumption) ?_
            case hy21 =>
              intro w' hSw
              (try dsimp only at hSw)
              simp only [List.getElem_toArray, List.getElem_cons_succ, List.getElem_cons_zero]
              go_simp
              (try with_reducible rfl)
            change wpAnyH _ _ _ _ _ _ _ (Act.put _ (some 31) _) _
            simp only [Act.put, List.setIfInBounds_toArray, List.set_cons_zero, List.set_cons_succ]
            refine wpAnyH_take (i := 1) (oi := _) (v := ?v22) rfl (by kernel_rfl) (by kernel_rfl) (by kernel_rfl) (fun _ _ _ h => h) (Or.inl ⟨by rfl, ?hy22⟩) (by assumption) ?_
            case hy22 =>
              intro w' hSw
              (try dsimp only at hSw)
              simp only [List.getElem_toArray, List.getElem_cons_succ, List.getElem_cons_zero]
              go_simp
              (try with_reducible rfl)
            change wpAnyH _ _ _ _ _ _ _ (Act.put _ (some 32) _) _
            simp only [Act.put, List.setIfInBounds_toArray, List.set_cons_zero, List.set_cons_succ]
            refine wpAnyH_take (i := 2) (oi := _) (v := ?v23) rfl (by kernel_rfl) (by kernel_rfl) (by kernel_rfl) (fun _ _ _ h => h) (Or.inl ⟨by rfl, ?hy23⟩) (by assumption) ?_
            case hy23 =>
              intro w' hSw
              (try dsimp only at hSw)
              simp only [List.getElem_toArray, List.getElem_cons_succ, List.getElem_cons_zero]
              go_simp
              (try with_reducible rfl)
            change wpAnyH _ _ _ _ _ _ _ (Act.put _ (some 33) _) _
            simp only [Act.put, List.setIfInBounds_toArray, List.set_cons_zero, List.set_cons_succ]
            refine wpAnyH_ready (rs := [3]) (by kernel_rfl) (by simp) ?_
            refine AllReadyH.cons (o := _) rfl (fun K hK => ?_) AllReadyH.nil
            go_simp
            (with_reducible refine (T17x.out _ BW.out).mono ?_)
            rintro e w7 ⟨rfl, hb⟩
            have BW := Lib.hid (bgo BW.out hb)
            clear hb hHeld
            go_wp2_with fail
            refine hK.out _ _ (KK7.out _ BW.out) (fun hHeld => ?_)
            clear hK K
            try simp only [Act.put, List.setIfInBounds_toArray, List.set_cons_zero, List.set_cons_succ]
            refine wpAnyH_take (i := 4) (oi := _) (v := ?v24) rfl (by kernel_rfl) (by kernel_rfl) (by kernel_rfl) (fun _ _ _ h => h) (Or.inl ⟨by rfl, ?hy24⟩) (by assumption) ?_
            case hy24 =>
              intro w' hSw
              (try dsimp only at hSw)
              simp only [List.getElem_toArray, List.getElem_cons_succ, List.getElem_cons_zero]
              go_simp
              (try with_reducible rfl)
            change wpAnyH _ _ _ _ _ _ _ (Act.put _ (some 35) _) _
            simp only [Act.put, List.setIfInBounds_toArray, List.set_cons_zero, List.set_cons_succ]
            refine wpAnyH_take (i := 5) (oi := _) (v := ?v25) rfl (by kernel_rfl) (by kernel_rfl) (by kernel_rfl) (fun _ _ _ h => h) (Or.inl ⟨by rfl, ?hy25⟩) (by assumption) ?_
            case hy25 =>
              intro w' hSw
              (try dsimp only at hSw)
              simp only [List.getElem_toArray, List.getElem_cons_succ, List.getElem_cons_zero]
              go_simp
              (try with_reducible rfl)
            change wpAnyH _ _ _ _ _ _ _ (Act.put _ (some 36) _) _
            simp only [Act.put, List.setIfInBounds_toArray, List.set_cons_zero, List.set_cons_succ]
            refine wpAnyH_take (i := 6) (oi := _) (v := ?v26) rfl (by kernel_rfl) (by kernel_rfl) (by kernel_rfl) (fun _ _ _ h => h) (Or.inl ⟨by rfl, ?hy26⟩) (by assumption) ?_
            case hy26 =>
              intro w' hSw
              (try dsimp only at hSw)
              simp only [List.getElem_toArray, List.getElem_cons_succ, List.getElem_cons_zero]
              go_simp
              (try with_reducible rfl)
            change wpAnyH _ _ _ _ _ _ _ (Act.put _ (some 37) _) _
            simp only [Act.put, List.setIfInBounds_toArray, List.set_cons_zero, List.set_cons_succ]
            refine wpAnyH_ready (rs := [7]) (by kernel_rfl) (by simp) ?_
            refine AllReadyH.cons (o := _) rfl (fun K hK => ?_) AllReadyH.nil
            go_simp
            (with_reducible refine (T18x.out _ BW.out).mono ?_)
            rintro e w7 ⟨rfl, hb⟩
            have BW := Lib.hid (bgo BW.out hb)
            clear hb hHeld
            go_wp2_with fail
            refine hK.out _ _ (KK7.out _ BW.out) (fun hHeld => ?_)
            clear hK K
            try simp only [Act.put, List.setIfInBounds_toArray, List.set_cons_zero, List.set_cons_succ]
            refine wpAnyH_take (i := 8) (oi := _) (v := ?v27) rfl (by kernel_rfl) (by kernel_rfl) (by kernel_rfl) (fun _ _ _ h => h) (Or.inl ⟨by rfl, ?hy27⟩) (by assumption) ?_
            case hy27 =>
              intro w' hSw
              (try dsimp only at hSw)
              simp only [List.getElem_toArray, List.getElem_cons_succ, List.getElem_cons_zero]
              go_simp
              (try with_reducible rfl)
            change wpAnyH _ _ _ _ _ _ _ (Act.put _ (some 39) _) _
            simp only [Act.put, List.setIfInBounds_toArray, List.set_cons_zero, List.set_cons_succ]
            refine wpAnyH_take (i := 9) (oi := _) (v := ?v28) rfl (by kernel_rfl) (by kernel_rfl) (by kernel_rfl) (fun _ _ _ h => h) (Or.inl ⟨by rfl, ?hy28⟩) (by assumption) ?_
            case hy28 =>
              intro w' hSw
              (try dsimp only at hSw)
              simp only [List.getElem_toArray, List.getElem_cons_succ, List.getElem_cons_zero]
              go_simp
              (try with_reducible rfl)
            change wpAnyH _ _ _ _ _ _ _ (Act.put _ (some 40) _) _
            simp only [Act.put, List.setIfInBounds_toArray, List.set_cons_zero, List.set_cons_succ]
            refine wpAnyH_take (i := 10) (oi := _) (v := ?v29) rfl (by kernel_rfl) (by kernel_rfl) (by kernel_rfl) (fun _ _ _ h => h) (Or.inl ⟨by rfl, ?hy29⟩) (by assumption) ?_
            case hy29 =>
              intro w' hSw
              (try dsimp only at hSw)
              simp only [List.getElem_toArray, List.getElem_cons_succ, List.getElem_cons_zero]
              go_simp
              (try with_reducible rfl)
            change wpAnyH _ _ _ _ _ _ _ (Act.put _ (some 41) _) _
            simp only [Act.put, List.setIfInBounds_toArray, List.set_cons_zero, List.set_cons_succ]
            refine wpAnyH_take (i := 12) (oi := _) (v := ?v30) rfl (by kernel_rfl) (by kernel_rfl) (by kernel_rfl) (fun _ _ _ h => h) (Or.inl ⟨by rfl, ?hy30⟩) (by assumption) ?_
            case hy30 =>
              intro w' hSw
              (try dsimp only at hSw)
              simp only [List.getElem_toArray, List.getElem_cons_succ, List.getElem_cons_zero]
              go_simp
              (try with_reducible rfl)
            change wpAnyH _ _ _ _ _ _ _ (Act.put _ (some 43) _) _
            simp only [Act.put, List.setIfInBounds_toArray, List.set_cons_zero, List.set_cons_succ]
            refine wpAnyH_ready (rs := [11]) (by kernel_rfl) (by simp) ?_
            refine AllReadyH.cons (o := _) rfl (fun K hK => ?_) AllReadyH.nil
            go_simp
            (with_reducible refine (T15g.out _ BW.out).mono ?_)
            rintro e w7 ⟨H, dh, rfl, ho, hb⟩
            have RH := Lib.hid (Own.rd ho).1
            have DH := Lib.hid (Own.rd ho).2
            clear ho
            have BW := Lib.hid (bgo BW.out hb)
            clear hb hHeld
            go_wp2_with fail
            refine hK.out _ _ (KK7.out _ BW.out) (fun hHeld => ?_)
            clear hK K
            try simp only [Act.put, List.setIfInBounds_toArray, List.set_cons_zero, List.set_cons_succ]
            refine wpAnyH_ready (rs := [13]) (by kernel_rfl) (by simp) ?_
            refine AllReadyH.cons (o := _) rfl (fun K hK => ?_) AllReadyH.nil
            go_simp
            (with_reducible refine (T19.out _ _ _ BW.out RH.out DH.out).mono ?_)
            rintro e w7 ⟨rfl, hb⟩
            have BW := Lib.hid (bgo BW.out hb)
            clear hb hHeld
            go_wp2_with fail
            refine hK.out _ _ (KK7.out _ BW.out) (fun hHeld => ?_)
            clear hK K
            try simp only [Act.put, List.setIfInBounds_toArray, List.set_cons_zero, List.set_cons_succ]
            refine wpAnyH_take (i := 14) (oi := _) (v := ?v31) rfl (by kernel_rfl) (by kernel_rfl) (by kernel_rfl) (fun _ _ _ h => h) (Or.inl ⟨by rfl, ?hy31⟩) (by assumption) ?_
            case hy31 =>
              intro w' hSw
              (try dsimp only at hSw)
              simp only [List.getElem_toArray, List.getElem_cons_succ, List.getElem_cons_zero]
              go_simp
              (try with_reducible rfl)
            change wpAnyH _ _ _ _ _ _ _ (Act.put _ (some 45) _) _
            simp only [Act.put, List.setIfInBounds_toArray, List.set_cons_zero, List.set_cons_succ]
            refine wpAnyH_take (i := 15) (oi := _) (v := ?v32) rfl (by kernel_rfl) (by kernel_rfl) (by kernel_rfl) (fun _ _ _ h => h) (Or.inl ⟨by rfl, ?hy32⟩) (by assumption) ?_
            case hy32 =>
              intro w' hSw
              (try dsimp only at hSw)
              simp only [List.getElem_toArray, List.getElem_cons_succ, List.getElem_cons_zero]
              go_simp
              (try with_reducible rfl)
            change wpAnyH _ _ _ _ _ _ _ (Act.put _ (some 46) _) _
            simp only [Act.put, List.setIfInBounds_toArray, List.set_cons_zero, List.set_cons_succ]
            refine wpAnyH_take (i := 16) (oi := _) (v := ?v33) rfl (by kernel_rfl) (by kernel_rfl) (by kernel_rfl) (fun _ _ _ h => h) (Or.inl ⟨by rfl, ?hy33⟩) (by assumption) ?_
            case hy33 =>
              intro w' hSw
              (try dsimp only at hSw)
              simp only [List.getElem_toArray, List.getElem_cons_succ, List.getElem_cons_zero]
              go_simp
              (try with_reducible rfl)
            change wpAnyH _ _ _ _ _ _ _ (Act.put _ (some 47) _) _
            simp only [Act.put, List.setIfInBounds_toArray, List.set_cons_zero, List.set_cons_succ]
            refine wpAnyH_ready (rs := [17]) (by kernel_rfl) (by simp) ?_
            refine AllReadyH.cons (o := _) rfl (fun K hK => ?_) AllReadyH.nil
            go_simp
            (with_reducible refine (T17y.out _ BW.out).mono ?_)
            rintro e w7 ⟨rfl, hb⟩
            have BW := Lib.hid (bgo BW.out hb)
            clear hb hHeld
            go_wp2_with fail
            refine hK.out _ _ (KK7.out _ BW.out) (fun hHeld => ?_)
            clear hK K
            try simp only [Act.put, List.setIfInBounds_toArray, List.set_cons_zero, List.set_cons_succ]
            refine wpAnyH_take (i := 18) (oi := _) (v := ?v34) rfl (by kernel_rfl) (by kernel_rfl) (by kernel_rfl) (fun _ _ _ h => h) (Or.inl ⟨by rfl, ?hy34⟩) (by assumption) ?_
            case hy34 =>
              intro w' hSw
              (try dsimp only at hSw)
              simp only [List.getElem_toArray, List.getElem_cons_succ, List.getElem_cons_zero]
              go_simp
              (try with_reducible rfl)
            change wpAnyH _ _ _ _ _ _ _ (Act.put _ (some 49) _) _
            simp only [Act.put, List.setIfInBounds_toArray, List.set_cons_zero, List.set_cons_succ]
            refine wpAnyH_take (i := 19) (oi := _) (v := ?v35) rfl (by kernel_rfl) (by kernel_rfl) (by kernel_rfl) (fun _ _ _ h => h) (Or.inl ⟨by rfl, ?hy35⟩) (by assumption) ?_
            case hy35 =>
              intro w' hSw
              (try dsimp only at hSw)
              simp only [List.getElem_toArray, List.getElem_cons_succ, List.getElem_cons_zero]
              go_simp
              (try with_reducible rfl)
            change wpAnyH _ _ _ _ _ _ _ (Act.put _ (some 50) _) _
            simp only [Act.put, List.setIfInBounds_toArray, List.set_cons_zero, List.set_cons_succ]
            refine wpAnyH_take (i := 20) (oi := _) (v := undef) rfl (by kernel_rfl) (by kernel_rfl) (by kernel_rfl) (fun _ _ _ h => h) (Or.inr ⟨by rfl, rfl⟩) (by assumption) ?_
            change wpAnyH _ _ _ _ _ _ _ (Act.put _ (some 51) _) _
            simp only [Act.put, List.setIfInBounds_toArray, List.set_cons_zero, List.set_cons_succ]
            refine wpAnyH_take (i := 21) (oi := _) (v := undef) rfl (by kernel_rfl) (by kernel_rfl) (by kernel_rfl) (fun _ _ _ h => h) (Or.inr ⟨by rfl, rfl⟩) (by assumption) ?_
            change wpAnyH _ _ _ _ _ _ _ (Act.put _ (some 52) _) _
            simp only [Act.put, List.setIfInBounds_toArray, List.set_cons_zero, List.set_cons_succ]
            refine wpAnyH_take (i := 22) (oi := _) (v := undef) rfl (by kernel_rfl) (by kernel_rfl) (by kernel_rfl) (fun _ _ _ h => h) (Or.inr ⟨by rfl, rfl⟩) (by assumption) ?_
            change wpAnyH _ _ _ _ _ _ _ (Act.put _ (some 53) _) _
            simp only [Act.put, List.setIfInBounds_toArray, List.set_cons_zero, List.set_cons_succ]
            refine wpAnyH_take (i := 23) (oi := _) (v := ?v36) rfl (by kernel_rfl) (by kernel_rfl) (by kernel_rfl) (fun _ _ _ h => h) (Or.inl ⟨by rfl, ?hy36⟩) (by assumption) ?_
            case hy36 =>
              intro w' hSw
              (try dsimp only at hSw)
              simp only [List.getElem_toArray, List.getElem_cons_succ, List.getElem_cons_zero]
              go_simp
              (try with_reducible rfl)
            change wpAnyH _ _ _ _ _ _ _ (Act.put _ (some 54) _) _
            simp only [Act.put, List.setIfInBounds_toArray, List.set_cons_zero, List.set_cons_succ]
            refine wpAnyH_take (i := 24) (oi := _) (v := ?v37) rfl (by kernel_rfl) (by kernel_rfl) (by kernel_rfl) (fun _ _ _ h => h) (Or.inl ⟨by rfl, ?hy37⟩) (by assumption) ?_
            case hy37 =>
              intro w' hSw
              (try dsimp only at hSw)
              simp only [List.getElem_toArray, List.getElem_cons_succ, List.getElem_cons_zero]
              go_simp
              (try with_reducible rfl)
            change wpAnyH _ _ _ _ _ _ _ (Act.put _ (some 55) _) _
            simp only [Act.put, List.setIfInBounds_toArray, List.set_cons_zero, List.set_cons_succ]
            refine wpAnyH_take (i := 25) (oi := _) (v := ?v38) rfl (by kernel_rfl) (by kernel_rfl) (by kernel_rfl) (fun _ _ _ h => h) (Or.inl ⟨by rfl, ?hy38⟩) (by assumption) ?_
            case hy38 =>
              intro w' hSw
              (try dsimp only at hSw)
              simp only [List.getElem_toArray, List.getElem_cons_succ, List.getElem_cons_zero]
              go_simp
              (try with_reducible rfl)
            change wpAnyH _ _ _ _ _ _ _ (Act.put _ (some 2) _) _
            simp only [Act.put, List.setIfInBounds_toArray, List.set_cons_zero, List.set_cons_succ]
            refine wpAnyH_done (by kernel_rfl) ?_ _
            refine NoPanic.normal ?_
            go_wp2
            go_ret
            exact ⟨rfl, bgo W6.out BW.out⟩)
        clear aK6
        go_region_held3 (fun w' => (∀ o, w'.cell? ⟨w.heap.size, o, none⟩ = #[I n, I n, .slice A l.length cp][o]?) ∧ (∀ o, w'.cell? ⟨gb, o, none⟩ = #[I n, I n, .slice G (goodF n l).length d][o]?))
          (first | with_reducible exact KK6.out _ B6.out | with_reducible exact KK6.out _ (Below.fill6 B6.out (Nat.le_refl _) _ _ _ _ _ _) | with_reducible exact KK6.out _ (B6.out.alloc B6.out.size _) | with_reducible exact KK6.out _ B5.out.drew | with_reducible exact KK6.out _ (B5.out.drew.alloc (Nat.le_refl _) _) | with_reducible exact KK6.out _ (B5.out.alloc (Nat.le_refl _) _).drew)
          (first | (go_at_call 16
                    refine (none_calls n HN.out.2 _).mono ?_
                    rintro e w6 ⟨Y, dy, rfl, ho, hb⟩
                    obtain ⟨_, _, e0, hd, _⟩ := Own.reads ho
                    injection e0 with e1 e2 e3
                    subst e1 e3
                    have DY := Lib.hid hd
                    have OY := Lib.hid ho
                    first
                      | (with_reducible have B6 := Lib.hid (bgo (bdr B5.out) hb))
                      | ((with_reducible have B6 := Lib.hid (bgo (bal (bdr B5.out) (.cells #[I 0, I 0, .slice none 0 0, I 0, I 0, .slice none 0 0] 28)) hb))
                         have TB6 : Hid (Row w6 w5.heap.size 28 #[I 0, I 0, .slice none 0 0, I 0, I 0, .slice none 0 0]) := Lib.hid (Row.below (Row.new w5.drew 28 #[I 0, I 0, .slice none 0 0, I 0, I 0, .slice none 0 0]) hb (by simp))
                         have kc := TB6.out.cell
                         have kf := TB6.out.free)
                      | ((with_reducible have B6 := Lib.hid (bgo (bdr (bal B5.out (.cells #[I 0, I 0, .slice none 0 0, I 0, I 0, .slice none 0 0] 28))) hb))
                         have TB6 : Hid (Row w6 w5.heap.size 28 #[I 0, I 0, .slice none 0 0, I 0, I 0, .slice none 0 0]) := Lib.hid (Row.below (Row.new w5 28 #[I 0, I 0, .slice none 0 0, I 0, I 0, .slice none 0 0]).drew hb (by simp))
                         have kc := TB6.out.cell
                         have kf := TB6.out.free)
                    clear hb ho hd e2))
        all_goals
          show K6 _ _
          (with_reducible refine REST6.out _ _ _ _ ?_ ?_ ?_ DY.out)
          · first | with_reducible exact B6.out.alloc B6.out.size _ | ((with_reducible refine Below.fill6 B6.out ?_ _ _ _ _ _ _); exact Nat.le_refl _)
          · first | with_reducible exact Row.new _ _ _ | with_reducible exact Row.fill6 TB6.out (I n) (I 1) (.slice Y (zr n).length dy) (I n) (I n) (.slice A l.length cp) | exact Row.fill6 TB6.out (I n) (I 1) (.slice Y (zr n).length dy) (I n) (I n) (.slice A l.length cp)
          · first | with_reducible exact (Own.rd (OY.out.alloc _)).1 | exact (Own.rd (Own.fill6 OY.out (C := w5.heap.size) (by simp) (I n) (I 1) (.slice Y (zr n).length dy) (I n) (I n) (.slice A l.length cp))).1)
      clear aK5 N3 x0
      go_region_held3 (fun w' => (∀ o, w'.cell? ⟨w.heap.size, o, none⟩ = #[I n, I n, .slice A l.length cp][o]?) ∧ (∀ o, w'.cell? ⟨gb, o, none⟩ = #[I n, I n, .slice G (goodF n l).length d][o]?))
        (first | with_reducible exact KK.out _ B4.out | with_reducible exact KK.out _ (Below.fill6 B4.out (Nat.le_refl _) _ _ _ _ _ _) | with_reducible exact KK.out _ (B4.out.alloc B4.out.size _) | with_reducible exact KK.out _ BR.out.drew | with_reducible exact KK.out _ (BR.out.drew.alloc (Nat.le_refl _) _) | with_reducible exact KK.out _ (BR.out.alloc (Nat.le_refl _) _).drew)
        (first | (go_at_call 16
                  refine (none_calls n HN.out.2 _).mono ?_
                  rintro e w4 ⟨Z, dz, rfl, ho, hb⟩
                  obtain ⟨_, _, e0, hd, _⟩ := Own.reads ho
                  injection e0 with e1 e2 e3
                  subst e1 e3
                  have DZ := Lib.hid hd
                  have OZ := Lib.hid ho
                  first
                    | (with_reducible have B4 := Lib.hid (bgo (bdr BR.out) hb))
                    | ((with_reducible have B4 := Lib.hid (bgo (bal (bdr BR.out) (.cells #[I 0, I 0, .slice none 0 0, I 0, I 0, .slice none 0 0] 28)) hb))
                       have TB4 : Hid (Row w4 wr.heap.size 28 #[I 0, I 0, .slice none 0 0, I 0, I 0, .slice none 0 0]) := Lib.hid (Row.below (Row.new wr.drew 28 #[I 0, I 0, .slice none 0 0, I 0, I 0, .slice none 0 0]) hb (by simp))
                       have kc := TB4.out.cell
                       have kf := TB4.out.free)
                    | ((with_reducible have B4 := Lib.hid (bgo (bdr (bal BR.out (.cells #[I 0, I 0, .slice none 0 0, I 0, I 0, .slice none 0 0] 28))) hb))
                       have TB4 : Hid (Row w4 wr.heap.size 28 #[I 0, I 0, .slice none 0 0, I 0, I 0, .slice none 0 0]) := Lib.hid (Row.below (Row.new wr 28 #[I 0, I 0, .slice none 0 0, I 0, I 0, .slice none 0 0]).drew hb (by simp))
                       have kc := TB4.out.cell
                       have kf := TB4.out.free)
                  clear hb ho hd e2))
      all_goals
        show K5 _ _
        (with_reducible refine REST5.out _ _ _ _ ?_ ?_ ?_ DZ.out)
        · first | with_reducible exact B4.out.alloc B4.out.size _ | ((with_reducible refine Below.fill6 B4.out ?_ _ _ _ _ _ _); exact Nat.le_refl _)
        · first | with_reducible exact Row.new _ _ _ | with_reducible exact Row.fill6 TB4.out (I n) (I 1) (.slice Z (zr n).length dz) (I n) (I n) (.slice G (goodF n l).length d) | exact Row.fill6 TB4.out (I n) (I 1) (.slice Z (zr n).length dz) (I n) (I n) (.slice G (goodF n l).length d)
        · first | with_reducible exact (Own.rd (OZ.out.alloc _)).1 | exact (Own.rd (Own.fill6 OZ.out (C := wr.heap.size) (by simp) (I n) (I 1) (.slice Z (zr n).length dz) (I n) (I n) (.slice G (goodF n l).length d))).1
    · clear h1
      go_wp2_with fail
      go_ret
      exact ⟨rfl, N2.out.be⟩
  · have h1' : rightM r c l = false := by simpa using h1
    rw [h1']
    clear h1
    go_wp2_with fail
    go_ret
    exact ⟨rfl, N2.out.be⟩
end Go.Proofs.Ytninmcmajbfccaa.PR

/- Layer 5: rows of numbers, matrices and tracks as arguments. -/
namespace Go.Proofs.Ytninmcmajbfccaa.KK
open Go.ChangeShapes Go.WideShapes Go.ChangeAt Go.RowKit Go.Deep Go.Proofs.YtninmcmajbfccaaW.PrintWords
set_option linter.unusedVariables false
set_option linter.unusedSimpArgs false
theorem k22 : Try.prog.cellsOf 22 = 1 := by kernel_rfl
theorem k24 : Try.prog.cellsOf 24 = 1 := by kernel_rfl
theorem k26 : Try.prog.cellsOf 26 = 3 := by kernel_rfl
theorem k28 : Try.prog.cellsOf 28 = 6 := by kernel_rfl
theorem k2 : Try.prog.cellsOf 2 = 1 := by kernel_rfl
theorem k3 : Try.prog.cellsOf 3 = 1 := by kernel_rfl
theorem laidOut : laidOutB Try.prog = true := by kernel_rfl
theorem len1 {α : Type} {l : List α} (h : l.length = 1) : ∃ a, l = [a] := by
  match l, h with
  | [a], _ => exact ⟨a, rfl⟩
theorem len3 {α : Type} {l : List α} (h : l.length = 3) : ∃ a b c, l = [a, b, c] := by
  match l, h with
  | [a, b, c], _ => exact ⟨a, b, c, rfl⟩
theorem len6 {α : Type} {l : List α} (h : l.length = 6) : ∃ a b c d e f, l = [a, b, c, d, e, f] := by
  match l, h with
  | [a, b, c, d, e, f], _ => exact ⟨a, b, c, d, e, f, rfl⟩
theorem choose_list {α : Type} {P : Nat → α → Prop} : ∀ {n : Nat}, (∀ i, i < n → ∃ o, P i o) → ∃ l : List α, l.length = n ∧ ∀ i o, l[i]? = some o → P i o
  | 0, _ => ⟨[], rfl, fun i o h => by simp at h⟩
  | n + 1, h => by
    obtain ⟨l, hl, hk⟩ := choose_list (P := P) (n := n) fun i hi => h i (by omega)
    obtain ⟨o, ho⟩ := h n (by omega)
    refine ⟨l ++ [o], by simp [hl], fun i x hx => ?_⟩
    rw [List.getElem?_append] at hx
    split at hx
    · exact hk i x hx
    · have : i - l.length = 0 := by
        rcases Nat.eq_zero_or_pos (i - l.length) with h | h
        · exact h
        · rw [List.getElem?_eq_none (by simp; omega)] at hx; cases hx
      rw [this] at hx
      simp at hx
      subst hx
      have : i = n := by omega
      subst this
      exact ho
section
variable {H : Type} {enc : TypeId × Value → H} {W : World} {base : Nat} {sp : Nat → Bool} {held : Bool} {fuel : Nat} {cs : List Value} {x : DataW H × List MemPlace}
theorem fld {fs : Array Field} {n : Nat} {xs : List (DataW H × List MemPlace)} (hf : ∀ (i : Nat) (f : Field), fs[i]? = some f → DataW.trod enc Try.prog W base sp held n f.type ((cs.drop f.offset).take (Try.prog.cellsOf f.type)) = xs[i]?)
    (i : Nat) (t : TypeId) (o k : Nat) (h : (fs[i]?).map (fun f => (f.type, f.offset)) = some (t, o)) (hk : Try.prog.cellsOf t = k) : DataW.trod enc Try.prog W base sp held n t ((cs.drop o).take k) = xs[i]? := by
  cases e : fs[i]? with
  | none => rw [e] at h; cases h
  | some f =>
    rw [e] at h
    simp at h
    obtain ⟨rfl, rfl⟩ := h
    subst hk
    exact hf i f e
theorem open_qs (h : DataW.trod enc Try.prog W base sp held fuel 24 cs = some x) : ∃ A c l, cs = [.slice A (l : List Int).length c] ∧ l.length ≤ c ∧ Rd W A l := by
  rcases open_slice Try.underlying24 h with ⟨rfl, _⟩ | ⟨a, len, cap, m, n, D, Pl, rfl, hb, hl, hm, hmm, hx, hi⟩
  · exact ⟨none, 0, [], rfl, by simp, Rd.nil _ _⟩
  · have hle : len ≤ m := by rw [hmm]; split <;> omega
    have key : ∀ i, i < len → ∃ q : Int, W.cell? ((a.add (i * 1)).add 0) = some (I q) := by
      intro i hil
      obtain ⟨cs', hc, ht⟩ := hi i (by omega)
      rw [k22] at hc
      obtain ⟨hlen, _, hat⟩ := World.cells?_some hc
      obtain ⟨q, e0, _, _⟩ := DataW.trod_int Try.underlying22 ht
      subst e0
      exact ⟨q, hat 0 (by simp)⟩
    obtain ⟨l, hlen, hk⟩ := choose_list key
    subst hlen
    refine ⟨some a, cap, l, rfl, hl, rfl, (by unfold maxLen at hm; show l.length ≤ _; omega), fun hne => ⟨a, rfl, fun j p hj => ⟨[I p], rfl, rfl, fun i u hi => ?_⟩⟩⟩
    match i, hi with
    | 0, hi =>
      simp at hi
      subst hi
      have := hk j p hj
      have h1 : (Kd.int .i64).sz = 1 := rfl
      rw [h1]
      simpa [Addr.add] using this
theorem open_mat (h : DataW.trod enc Try.prog W base sp held fuel 26 cs = some x) : ∃ r c A cp l, cs = [I r, I c, .slice A (l : List Int).length cp] ∧ l.length ≤ cp ∧ Rd W A l := by
  obtain ⟨xs, n, _, _, hl, hlen, hf⟩ := DataW.trod_struct Try.underlying26 h
  rw [k26] at hl
  obtain ⟨c0, c1, c2, rfl⟩ := len3 hl
  have hl3 : xs.length = 3 := hlen
  have get : ∀ i (h : i < 3), xs[i]? = some (xs[i]'(by omega)) := fun i h => List.getElem?_eq_getElem (by omega)
  have h0 := (fld hf 0 3 0 1 rfl k3).trans (get 0 (by omega))
  have h1 := (fld hf 1 3 1 1 rfl k3).trans (get 1 (by omega))
  have h2 := (fld hf 2 24 2 1 rfl k24).trans (get 2 (by omega))
  obtain ⟨r, e0, _, _⟩ := DataW.trod_int Try.underlying3 h0
  obtain ⟨c, e1, _, _⟩ := DataW.trod_int Try.underlying3 h1
  obtain ⟨A, cp, l, e2, hc, hr⟩ := open_qs h2
  simp at e0 e1 e2
  subst e0 e1 e2
  exact ⟨r, c, A, cp, l, rfl, hc, hr⟩
theorem open_track (h : DataW.trod enc Try.prog W base sp held fuel 28 cs = some x) : ∃ r c A cp l r' c' A' cp' l', cs = [I r, I c, .slice A (l : List Int).length cp, I r', I c', .slice A' (l' : List Int).length cp'] ∧ (l.length ≤ cp ∧ Rd W A l) ∧ (l'.length ≤ cp' ∧ Rd W A' l') := by
  obtain ⟨xs, n, _, _, hl, hlen, hf⟩ := DataW.trod_struct Try.underlying28 h
  rw [k28] at hl
  obtain ⟨c0, c1, c2, c3, c4, c5, rfl⟩ := len6 hl
  have hl2 : xs.length = 2 := hlen
  have get : ∀ i (h : i < 2), xs[i]? = some (xs[i]'(by omega)) := fun i h => List.getElem?_eq_getElem (by omega)
  have h0 := (fld hf 0 26 0 3 rfl k26).trans (get 0 (by omega))
  have h1 := (fld hf 1 26 3 3 rfl k26).trans (get 1 (by omega))
  obtain ⟨r, c, A, cp, l, e0, hc, hr⟩ := open_mat h0
  obtain ⟨r', c', A', cp', l', e1, hc', hr'⟩ := open_mat h1
  simp at e0 e1
  obtain ⟨rfl, rfl, rfl⟩ := e0
  obtain ⟨rfl, rfl, rfl⟩ := e1
  exact ⟨_, _, _, _, l, _, _, _, _, l', rfl, ⟨hc, hr⟩, ⟨hc', hr'⟩⟩
end
end Go.Proofs.Ytninmcmajbfccaa.KK
