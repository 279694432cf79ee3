import Derived.Test.YtbchepdaomhgeaaMI
import Derived.Test.YtbchepdaomhgeaaMR
/- MirrorBounds: the walk. -/
namespace Go.Proofs.Ytbchepdaomhgeaa.MM
open Go.RowKit
set_option linter.unusedVariables false
set_option linter.unusedSimpArgs false
theorem firstOver_before {n : Int} : ∀ {l : List Ot} {m j : Nat} {o : Ot}, j < (firstOver n l).getD l.length → l[j]? = some o → o.k ≤ n := by
  intro l
  induction l with
  | nil => intro m j o _ h; simp at h
  | cons x l ih =>
    intro m j o hj h
    unfold firstOver at hj
    split at hj
    · simp at hj
    · cases j with
      | zero => simp at h; subst h; omega
      | succ j =>
        refine ih (m := m) (j := j) ?_ (by simpa using h)
        cases hf : firstOver n l with
        | none => rw [hf] at hj; simpa using hj
        | some i => rw [hf] at hj; simpa using hj
theorem firstOver_at {n : Int} : ∀ {l : List Ot} {m : Nat}, firstOver n l = some m → ∃ o, l[m]? = some o ∧ o.k > n := by
  intro l
  induction l with
  | nil => intro m h; cases h
  | cons x l ih =>
    intro m h
    unfold firstOver at h
    split at h
    · rename_i hx
      injection h with h
      subst h
      exact ⟨x, rfl, hx⟩
    · cases hf : firstOver n l with
      | none => rw [hf] at h; cases h
      | some i =>
        rw [hf] at h
        injection h with h
        subst h
        obtain ⟨o, h1, h2⟩ := ih hf
        exact ⟨o, by simpa using h1, h2⟩
theorem rise_mono {k : Int} : ∀ {l : List Ot} {last : Int} {i j : Nat} {o o' : Ot}, riseB k last l = true → i < j → l[i]? = some o → l[j]? = some o' → o.k < o'.k := by
  intro l
  induction l with
  | nil => intro last i j o o' _ _ h; simp at h
  | cons x l ih =>
    intro last i j o o' hr hij h h'
    simp only [riseB, Bool.and_eq_true] at hr
    cases j with
    | zero => omega
    | succ j =>
      cases i with
      | zero => simp at h; subst h; exact rise_pos hr.2 (by simpa using h')
      | succ i => exact ih (i := i) (j := j) hr.2 (by omega) (by simpa using h) (by simpa using h')
theorem cut_le {n : Int} {l : List Ot} {j : Nat} {o : Ot} (h : (l.take (cutAt n l))[j]? = some o) : o.k ≤ n ∧ l[j]? = some o := by
  rw [List.getElem?_take] at h
  split at h
  · rename_i hj; exact ⟨firstOver_before (m := 0) hj h, h⟩
  · cases h
theorem cut_gt {n k last : Int} {l : List Ot} {j : Nat} {o : Ot} (hr : riseB k last l = true) (h : (l.drop (cutAt n l))[j]? = some o) : n < o.k := by
  rw [List.getElem?_drop] at h
  unfold cutAt at h
  cases hf : firstOver n l with
  | none =>
    rw [hf] at h
    rw [List.getElem?_eq_none (by simp)] at h
    cases h
  | some m =>
    rw [hf] at h
    simp only [Option.getD_some] at h
    obtain ⟨x, hx, hgt⟩ := firstOver_at hf
    cases j with
    | zero => rw [Nat.add_zero, hx] at h; injection h with h; subst h; exact hgt
    | succ j => have := rise_mono hr (show m < m + (j + 1) by omega) hx h; omega
theorem cut_le_length (n : Int) (l : List Ot) : cutAt n l ≤ l.length := by
  unfold cutAt
  cases hf : firstOver n l with
  | none => exact Nat.le_refl _
  | some m => exact Nat.le_of_lt (firstOver_lt hf)
theorem right_parts {d : Dk} {l : List Ot} (h : d.right l = true) : 0 ≤ d.stage ∧ d.stage ≤ 3 ∧ l.length ≤ 64 ∧ riseB d.k 0 l = true ∧ (0 ≤ d.k ∧ d.k ≤ 4611686018427387904) ∧ (0 ≤ d.seq ∧ d.seq ≤ 4611686018427387904) ∧ (0 ≤ d.acked ∧ d.acked ≤ d.k) ∧ (if apartB d.stage = true then d.peer = -1 else 0 ≤ d.peer ∧ d.peer ≤ 4611686018427387904) := by
  simp only [Dk.right, inB, Bool.and_eq_true, decide_eq_true_eq] at h
  refine ⟨by omega, by omega, by omega, h.2, by omega, by omega, by omega, ?_⟩
  have hp := h.1.1.2
  split
  · rename_i ha
    rw [if_pos ha] at hp
    simpa using hp
  · rename_i ha
    rw [if_neg ha] at hp
    simpa using hp
abbrev OC (w : World) (b n : Nat) (o : Ot) : Prop := w.cell? ⟨b, n, none⟩ = some (I o.k) ∧ w.cell? ⟨b, n + 1, none⟩ = some (I o.a) ∧ w.cell? ⟨b, n + 2, none⟩ = some (I o.b) ∧ w.cell? ⟨b, n + 3, none⟩ = some (I o.c)
theorem OC.below {w w' : World} {b n : Nat} {o : Ot} (h : OC w b n o) (hb : Below w.heap.size w w') : OC w' b n o := by
  have k : ∀ m, w'.cell? ⟨b, m, none⟩ = w.cell? ⟨b, m, none⟩ := fun m => hb.cell (p := ⟨b, m, none⟩) (show b < _ from cell_lt h.1)
  exact ⟨(k _).trans h.1, (k _).trans h.2.1, (k _).trans h.2.2.1, (k _).trans h.2.2.2⟩
theorem Sl.at_ {w : World} {A : Option Addr} {c n : Nat} {l : List Ot} {j : Nat} {o : Ot} (h : Sl w (.slice A n c) l) (ho : l[j]? = some o) : ∃ b off, A = some ⟨b, off, none⟩ ∧ OC w b (off + j * 4) o := by
  obtain ⟨A', c', e, _, _, hw⟩ := h
  injection e with e1 e2 e3
  subst e1
  obtain ⟨b, off, rfl, _, hc⟩ := hw (by intro e; subst e; simp at ho)
  exact ⟨b, off, rfl, hc j o ho⟩
theorem meas {n j : Nat} (h : n - (j + 1) < n - j) : n - (intOf (.int .i64 ((j : Int) + 1))).toNat < n - (intOf (.int .i64 (j : Int))).toNat := by
  show n - ((j : Int) + 1).toNat < n - (j : Int).toNat
  have e1 : ((j : Int) + 1).toNat = j + 1 := by omega
  rw [e1, Int.toNat_natCast]
  exact h
set_option maxRecDepth 100000 in
set_option maxHeartbeats 4000000 in
theorem bounds_walk (d : Dk) (s : Value) (l : List Ot) (w : World) (hs : Sl w s l) :
    Calls Try.prog 4 #[d.val s] w fun e w' => e = .returned (.bool true) ∧ Below w.heap.size w w' := by
  obtain ⟨A, c, rfl, _, _, _⟩ := id hs
  have HS := Lib.hid hs
  clear hs
  go_enter Try.func4, Try.ntmps4
  go_wp2_with fail
  refine (shown_calls _).mono ?_
  rintro e w1 ⟨rfl, hb⟩
  have M : Hid (Scene w [(26, d.row (.slice A l.length c))] w1) := Lib.hid (((Scene.none w).push (by simp) _ _).below hb)
  clear hb
  have c0 := M.out.r0.cell
  have l0 := M.out.r0.lt
  by_cases hn : (l.length : Int) > 100
  · have hd : decide ((l.length : Int) > 100) = true := decide_eq_true hn
    clear hn
    go_wp2
    go_ret
    exact ⟨rfl, M.out.be⟩
  · have hd : decide ((l.length : Int) > 100) = false := decide_eq_false hn
    clear hn
    go_wp2_with fail
    refine (refRight_calls d (.slice A l.length c) l _ (HS.out.below M.out.be)).mono ?_
    rintro e w2 ⟨rfl, hb⟩
    have M2 := Lib.hid (M.out.below hb)
    clear hb M c0 l0
    have c0 := M2.out.r0.cell
    have l0 := M2.out.r0.lt
    cases hr : d.right l
    · go_wp2
      go_ret
      exact ⟨rfl, M2.out.be⟩
    · obtain ⟨hs0, hs3, hl64, hrise, hk, hq, ha, hp⟩ := right_parts hr
      have HL := Lib.hid hl64
      have HRI := Lib.hid hrise
      have HST := Lib.hid (And.intro hs0 hs3)
      clear hs0 hs3 hl64 hrise hk hq ha hp
      go_wp2_with fail
      refine (free_calls d (.slice A l.length c) l _ (HS.out.below M2.out.be) HL.out).mono ?_
      rintro e w3 ⟨s2, v, rfl, hs2, hv, hb⟩
      have M3 := Lib.hid (M2.out.below hb)
      have F1 : Hid (∀ (j : Nat) (o : Ot), (l.take (cutAt d.bound l))[j]? = some o → o.k ≤ d.bound ∧ l[j]? = some o) := Lib.hid (fun j o h => cut_le h)
      have F2 : Hid (∀ (j : Nat) (o : Ot), (l.drop (cutAt d.bound l))[j]? = some o → d.bound < o.k) := Lib.hid (fun j o h => cut_gt HRI.out h)
      have F3 : Hid ((l.take (cutAt d.bound l)).length + (l.drop (cutAt d.bound l)).length = l.length) := Lib.hid (by rw [List.length_take, List.length_drop]; have := cut_le_length d.bound l; omega)
      generalize l.take (cutAt d.bound l) = l1 at *
      generalize l.drop (cutAt d.bound l) = l2 at *
      obtain ⟨A2, c2, rfl, _, _, _⟩ := id hs2
      obtain ⟨A3, c3, rfl, _, _, _⟩ := id hv
      have R0 := Lib.hid ((M3.out.alloc (.cells (d.row (.slice A2 l2.length c2)) 26)).r0)
      have RF := Lib.hid (Row.new w3 26 (d.row (.slice A2 l2.length c2)))
      have SV := Lib.hid (hv.alloc (.cells (d.row (.slice A2 l2.length c2)) 26))
      have SR := Lib.hid (hs2.alloc (.cells (d.row (.slice A2 l2.length c2)) 26))
      have SS := Lib.hid ((HS.out.below M3.out.be).alloc (.cells (d.row (.slice A2 l2.length c2)) 26))
      have BE := Lib.hid ((M3.out.alloc (.cells (d.row (.slice A2 l2.length c2)) 26)).be)
      have LW := Lib.hid M3.out.r0.lt
      clear hb M2 hs2 hv
      have c0 := M3.out.r0.cell
      have l0 := M3.out.r0.lt
      clear M3
      go_wp2_with fail
      generalize hw5 : w3.alloc (.cells (d.row (.slice A2 l2.length c2)) 26) = w5 at *
      clear c0 l0
      go_loopw [6] (fun i wr => ∃ j : Nat, j ≤ l1.length ∧ i = .int .i64 j ∧ Hid (Below w5.heap.size w5 wr)) (fun i _ => l1.length - (intOf i).toNat)
      case atStart => exact ⟨0, by omega, rfl, Lib.hid (Below.refl _ _)⟩
      case round =>
        obtain ⟨j, hj, rfl, B⟩ := hrel
        have BR := Lib.hid (BE.out.trans (B.out.mono BE.out.size))
        have Q0 := Lib.hid (R0.out.below B.out R0.out.lt)
        have QF := Lib.hid (RF.out.below B.out RF.out.lt)
        have TV := Lib.hid (SV.out.below B.out)
        have TR := Lib.hid (SR.out.below B.out)
        have TS := Lib.hid (SS.out.below B.out)
        have c0 := Q0.out.cell
        have cF := QF.out.cell
        have l0 := Q0.out.lt
        have lF := QF.out.lt
        by_cases hjl : j = l1.length
        · subst hjl
          go_wp2_with fail
          go_loopw [7] (fun i wq => ∃ j : Nat, j ≤ l2.length ∧ i = .int .i64 j ∧ Hid (Below w5.heap.size w5 wq)) (fun i _ => l2.length - (intOf i).toNat)
          case atStart => exact ⟨0, by omega, rfl, B⟩
          case round =>
            clear BR Q0 QF TV TR TS c0 cF l0 lF B
            obtain ⟨j, hj, rfl, B⟩ := hrel
            have BR := Lib.hid (BE.out.trans (B.out.mono BE.out.size))
            have Q0 := Lib.hid (R0.out.below B.out R0.out.lt)
            have QF := Lib.hid (RF.out.below B.out RF.out.lt)
            have TR := Lib.hid (SR.out.below B.out)
            have c0 := Q0.out.cell
            have cF := QF.out.cell
            have l0 := Q0.out.lt
            have lF := QF.out.lt
            by_cases hjl : j = l2.length
            · subst hjl
              go_wp2_with fail
              refine (say_calls d _ _).mono ?_
              rintro e w6 ⟨rfl, hb6⟩
              have B6 := Lib.hid (B.out.trans (hb6.mono B.out.size))
              have Z0 := Lib.hid (Q0.out.below hb6 Q0.out.lt)
              have ZF := Lib.hid (QF.out.below hb6 QF.out.lt)
              clear hb6 Q0 QF c0 cF l0 lF
              have c0 := Z0.out.cell
              have cF := ZF.out.cell
              have l0 := Z0.out.lt
              have lF := ZF.out.lt
              have hst := HST.out
              have hsum : (l1.length : Int) + l2.length = l.length := by have := F3.out; omega
              have hsl : IntKind.i64.wrap ((l1.length : Int) + l2.length) = l.length := by rw [hsum]; have := HL.out; simp [IntKind.wrap, IntKind.bits, IntKind.signed]; omega
              have hcase : (d.says = true ∧ d.bound = d.acked) ∨ (d.says = false ∧ d.bound = d.k) := by
                unfold Dk.says Dk.bound
                obtain h | h | h | h : d.stage = 0 ∨ d.stage = 1 ∨ d.stage = 2 ∨ d.stage = 3 := by omega
                all_goals rw [h]; simp
              have HSL := Lib.hid hsl
              clear hst hsum hsl
              have hsl := HSL.out
              rcases hcase with ⟨hsv, hbd⟩ | ⟨hsv, hbd⟩
              · have hsay : d.say = .tuple #[I d.seq, I d.peer, .bool true] := by simp [Dk.say, hsv]
                rw [hsay]
                clear hsv
                go_wp2
                have X0 := Lib.hid Z0.out.drew
                have XF := Lib.hid ZF.out.drew
                clear c0 cF
                refine wp_region_noPanic ?_
                refine wp_region_held_drew (S := fun w' => (∀ i, w'.cell? ⟨w.heap.size, i, none⟩ = (d.row (.slice A l.length c))[i]?) ∧ (∀ i, w'.cell? ⟨w3.heap.size, i, none⟩ = (d.row (.slice A2 l2.length c2))[i]?)) (by kernel_rfl) (⟨X0.out.cell, XF.out.cell⟩) (fun hHeld => ?_)
                refine wpAnyH_take (i := 0) (oi := _) (v := ?v1) rfl (by kernel_rfl) (by kernel_rfl) (by kernel_rfl) (fun _ _ _ h => h) (Or.inl ⟨by rfl, ?hy1⟩) (by assumption) ?_
                case hy1 =>
                  intro w' hSw
                  (try dsimp only at hSw)
                  simp only [List.getElem_toArray, List.getElem_cons_succ, List.getElem_cons_zero]
                  go_simp
                  (try with_reducible rfl)
                change wpAnyH _ _ _ _ _ _ _ (Act.put _ (some 75) _) _
                simp only [Act.put, List.setIfInBounds_toArray, List.set_cons_zero, List.set_cons_succ]
                refine wpAnyH_take (i := 1) (oi := _) (v := ?v2) rfl (by kernel_rfl) (by kernel_rfl) (by kernel_rfl) (fun _ _ _ h => h) (Or.inl ⟨by rfl, ?hy2⟩) (by assumption) ?_
                case hy2 =>
                  intro w' hSw
                  (try dsimp only at hSw)
                  simp only [List.getElem_toArray, List.getElem_cons_succ, List.getElem_cons_zero]
                  go_simp
                  (try with_reducible rfl)
                change wpAnyH _ _ _ _ _ _ _ (Act.put _ (some 76) _) _
                simp only [Act.put, List.setIfInBounds_toArray, List.set_cons_zero, List.set_cons_succ]
                refine wpAnyH_take (i := 2) (oi := _) (v := ?v3) rfl (by kernel_rfl) (by kernel_rfl) (by kernel_rfl) (fun _ _ _ h => h) (Or.inl ⟨by rfl, ?hy3⟩) (by assumption) ?_
                case hy3 =>
                  intro w' hSw
                  (try dsimp only at hSw)
                  simp only [List.getElem_toArray, List.getElem_cons_succ, List.getElem_cons_zero]
                  go_simp
                  (try with_reducible rfl)
                change wpAnyH _ _ _ _ _ _ _ (Act.put _ (some 77) _) _
                simp only [Act.put, List.setIfInBounds_toArray, List.set_cons_zero, List.set_cons_succ]
                refine wpAnyH_take (i := 3) (oi := _) (v := ?v4) rfl (by kernel_rfl) (by kernel_rfl) (by kernel_rfl) (fun _ _ _ h => h) (Or.inl ⟨by rfl, ?hy4⟩) (by assumption) ?_
                case hy4 =>
                  intro w' hSw
                  (try dsimp only at hSw)
                  simp only [List.getElem_toArray, List.getElem_cons_succ, List.getElem_cons_zero]
                  go_simp
                  (try with_reducible rfl)
                change wpAnyH _ _ _ _ _ _ _ (Act.put _ (some 78) _) _
                simp only [Act.put, List.setIfInBounds_toArray, List.set_cons_zero, List.set_cons_succ]
                refine wpAnyH_take (i := 4) (oi := _) (v := ?v5) rfl (by kernel_rfl) (by kernel_rfl) (by kernel_rfl) (fun _ _ _ h => h) (Or.inl ⟨by rfl, ?hy5⟩) (by assumption) ?_
                case hy5 =>
                  intro w' hSw
                  (try dsimp only at hSw)
                  simp only [List.getElem_toArray, List.getElem_cons_succ, List.getElem_cons_zero]
                  go_simp
                  (try with_reducible rfl)
                change wpAnyH _ _ _ _ _ _ _ (Act.put _ (some 79) _) _
                simp only [Act.put, List.setIfInBounds_toArray, List.set_cons_zero, List.set_cons_succ]
                refine wpAnyH_take (i := 5) (oi := _) (v := ?v6) rfl (by kernel_rfl) (by kernel_rfl) (by kernel_rfl) (fun _ _ _ h => h) (Or.inl ⟨by rfl, ?hy6⟩) (by assumption) ?_
                case hy6 =>
                  intro w' hSw
                  (try dsimp only at hSw)
                  simp only [List.getElem_toArray, List.getElem_cons_succ, List.getElem_cons_zero]
                  go_simp
                  (try with_reducible rfl)
                change wpAnyH _ _ _ _ _ _ _ (Act.put _ (some 80) _) _
                simp only [Act.put, List.setIfInBounds_toArray, List.set_cons_zero, List.set_cons_succ]
                refine wpAnyH_take (i := 6) (oi := _) (v := ?v7) rfl (by kernel_rfl) (by kernel_rfl) (by kernel_rfl) (fun _ _ _ h => h) (Or.inl ⟨by rfl, ?hy7⟩) (by assumption) ?_
                case hy7 =>
                  intro w' hSw
                  (try dsimp only at hSw)
                  simp only [List.getElem_toArray, List.getElem_cons_succ, List.getElem_cons_zero]
                  go_simp
                  (try with_reducible rfl)
                change wpAnyH _ _ _ _ _ _ _ (Act.put _ (some 81) _) _
                simp only [Act.put, List.setIfInBounds_toArray, List.set_cons_zero, List.set_cons_succ]
                refine wpAnyH_take (i := 7) (oi := _) (v := ?v8) rfl (by kernel_rfl) (by kernel_rfl) (by kernel_rfl) (fun _ _ _ h => h) (Or.inl ⟨by rfl, ?hy8⟩) (by assumption) ?_
                case hy8 =>
                  intro w' hSw
                  (try dsimp only at hSw)
                  simp only [List.getElem_toArray, List.getElem_cons_succ, List.getElem_cons_zero]
                  go_simp
                  (try with_reducible rfl)
                change wpAnyH _ _ _ _ _ _ _ (Act.put _ (some 82) _) _
                simp only [Act.put, List.setIfInBounds_toArray, List.set_cons_zero, List.set_cons_succ]
                refine wpAnyH_take (i := 8) (oi := _) (v := ?v9) rfl (by kernel_rfl) (by kernel_rfl) (by kernel_rfl) (fun _ _ _ h => h) (Or.inl ⟨by rfl, ?hy9⟩) (by assumption) ?_
                case hy9 =>
                  intro w' hSw
                  (try dsimp only at hSw)
                  simp only [List.getElem_toArray, List.getElem_cons_succ, List.getElem_cons_zero]
                  go_simp
                  (try with_reducible rfl)
                change wpAnyH _ _ _ _ _ _ _ (Act.put _ (some 83) _) _
                simp only [Act.put, List.setIfInBounds_toArray, List.set_cons_zero, List.set_cons_succ]
                refine wpAnyH_take (i := 9) (oi := _) (v := ?v10) rfl (by kernel_rfl) (by kernel_rfl) (by kernel_rfl) (fun _ _ _ h => h) (Or.inl ⟨by rfl, ?hy10⟩) (by assumption) ?_
                case hy10 =>
                  intro w' hSw
                  (try dsimp only at hSw)
                  simp only [List.getElem_toArray, List.getElem_cons_succ, List.getElem_cons_zero]
                  go_simp
                  (try with_reducible rfl)
                change wpAnyH _ _ _ _ _ _ _ (Act.put _ (some 84) _) _
                simp only [Act.put, List.setIfInBounds_toArray, List.set_cons_zero, List.set_cons_succ]
                refine wpAnyH_take (i := 10) (oi := _) (v := ?v11) rfl (by kernel_rfl) (by kernel_rfl) (by kernel_rfl) (fun _ _ _ h => h) (Or.inl ⟨by rfl, ?hy11⟩) (by assumption) ?_
                case hy11 =>
                  intro w' hSw
                  (try dsimp only at hSw)
                  simp only [List.getElem_toArray, List.getElem_cons_succ, List.getElem_cons_zero]
                  go_simp
                  (try with_reducible rfl)
                change wpAnyH _ _ _ _ _ _ _ (Act.put _ (some 85) _) _
                simp only [Act.put, List.setIfInBounds_toArray, List.set_cons_zero, List.set_cons_succ]
                refine wpAnyH_take (i := 11) (oi := _) (v := ?v12) rfl (by kernel_rfl) (by kernel_rfl) (by kernel_rfl) (fun _ _ _ h => h) (Or.inl ⟨by rfl, ?hy12⟩) (by assumption) ?_
                case hy12 =>
                  intro w' hSw
                  (try dsimp only at hSw)
                  simp only [List.getElem_toArray, List.getElem_cons_succ, List.getElem_cons_zero]
                  go_simp
                  (try with_reducible rfl)
                change wpAnyH _ _ _ _ _ _ _ (Act.put _ (some 86) _) _
                simp only [Act.put, List.setIfInBounds_toArray, List.set_cons_zero, List.set_cons_succ]
                refine wpAnyH_take (i := 12) (oi := _) (v := ?v13) rfl (by kernel_rfl) (by kernel_rfl) (by kernel_rfl) (fun _ _ _ h => h) (Or.inl ⟨by rfl, ?hy13⟩) (by assumption) ?_
                case hy13 =>
                  intro w' hSw
                  (try dsimp only at hSw)
                  simp only [List.getElem_toArray, List.getElem_cons_succ, List.getElem_cons_zero]
                  go_simp
                  (try with_reducible rfl)
                change wpAnyH _ _ _ _ _ _ _ (Act.put _ (some 87) _) _
                simp only [Act.put, List.setIfInBounds_toArray, List.set_cons_zero, List.set_cons_succ]
                refine wpAnyH_take (i := 13) (oi := _) (v := ?v14) rfl (by kernel_rfl) (by kernel_rfl) (by kernel_rfl) (fun _ _ _ h => h) (Or.inl ⟨by rfl, ?hy14⟩) (by assumption) ?_
                case hy14 =>
                  intro w' hSw
                  (try dsimp only at hSw)
                  simp only [List.getElem_toArray, List.getElem_cons_succ, List.getElem_cons_zero]
                  go_simp
                  (try with_reducible rfl)
                change wpAnyH _ _ _ _ _ _ _ (Act.put _ (some 88) _) _
                simp only [Act.put, List.setIfInBounds_toArray, List.set_cons_zero, List.set_cons_succ]
                refine wpAnyH_take (i := 14) (oi := _) (v := ?v15) rfl (by kernel_rfl) (by kernel_rfl) (by kernel_rfl) (fun _ _ _ h => h) (Or.inl ⟨by rfl, ?hy15⟩) (by assumption) ?_
                case hy15 =>
                  intro w' hSw
                  (try dsimp only at hSw)
                  simp only [List.getElem_toArray, List.getElem_cons_succ, List.getElem_cons_zero]
                  go_simp
                  (try with_reducible rfl)
                change wpAnyH _ _ _ _ _ _ _ (Act.put _ (some 89) _) _
                simp only [Act.put, List.setIfInBounds_toArray, List.set_cons_zero, List.set_cons_succ]
                refine wpAnyH_take (i := 15) (oi := _) (v := ?v16) rfl (by kernel_rfl) (by kernel_rfl) (by kernel_rfl) (fun _ _ _ h => h) (Or.inl ⟨by rfl, ?hy16⟩) (by assumption) ?_
                case hy16 =>
                  intro w' hSw
                  (try dsimp only at hSw)
                  simp only [List.getElem_toArray, List.getElem_cons_succ, List.getElem_cons_zero]
                  go_simp
                  (try with_reducible rfl)
                change wpAnyH _ _ _ _ _ _ _ (Act.put _ (some 90) _) _
                simp only [Act.put, List.setIfInBounds_toArray, List.set_cons_zero, List.set_cons_succ]
                refine wpAnyH_take (i := 16) (oi := _) (v := ?v17) rfl (by kernel_rfl) (by kernel_rfl) (by kernel_rfl) (fun _ _ _ h => h) (Or.inl ⟨by rfl, ?hy17⟩) (by assumption) ?_
                case hy17 =>
                  intro w' hSw
                  (try dsimp only at hSw)
                  simp only [List.getElem_toArray, List.getElem_cons_succ, List.getElem_cons_zero]
                  go_simp
                  (try with_reducible rfl)
                change wpAnyH _ _ _ _ _ _ _ (Act.put _ (some 91) _) _
                simp only [Act.put, List.setIfInBounds_toArray, List.set_cons_zero, List.set_cons_succ]
                refine wpAnyH_take (i := 18) (oi := _) (v := ?v18) rfl (by kernel_rfl) (by kernel_rfl) (by kernel_rfl) (fun _ _ _ h => h) (Or.inl ⟨by rfl, ?hy18⟩) (by assumption) ?_
                case hy18 =>
                  intro w' hSw
                  (try dsimp only at hSw)
                  simp only [List.getElem_toArray, List.getElem_cons_succ, List.getElem_cons_zero]
                  go_simp
                  (try with_reducible rfl)
                change wpAnyH _ _ _ _ _ _ _ (Act.put _ (some 93) _) _
                simp only [Act.put, List.setIfInBounds_toArray, List.set_cons_zero, List.set_cons_succ]
                refine wpAnyH_take (i := 19) (oi := _) (v := ?v19) rfl (by kernel_rfl) (by kernel_rfl) (by kernel_rfl) (fun _ _ _ h => h) (Or.inl ⟨by rfl, ?hy19⟩) (by assumption) ?_
                case hy19 =>
                  intro w' hSw
                  (try dsimp only at hSw)
                  simp only [List.getElem_toArray, List.getElem_cons_succ, List.getElem_cons_zero]
                  go_simp
                  (try with_reducible rfl)
                change wpAnyH _ _ _ _ _ _ _ (Act.put _ (some 94) _) _
                simp only [Act.put, List.setIfInBounds_toArray, List.set_cons_zero, List.set_cons_succ]
                refine wpAnyH_ready (rs := [17]) (by kernel_rfl) (by simp) ?_
                refine AllReadyH.cons (o := _) rfl (fun K hK => ?_) AllReadyH.nil
                go_simp
                refine (bound_calls d _ _).mono ?_
                rw [hbd]
                rintro e wn ⟨rfl, hbn⟩
                have Y0 := Lib.hid (X0.out.below hbn X0.out.lt)
                have YF := Lib.hid (XF.out.below hbn XF.out.lt)
                have BN := Lib.hid (B6.out.drew.trans (hbn.mono B6.out.size))
                clear hbn
                go_wp2_with fail
                refine hK.out _ _ (⟨Y0.out.cell, YF.out.cell⟩) (fun hHeld => ?_)
                clear hK K
                try simp only [Act.put, List.setIfInBounds_toArray, List.set_cons_zero, List.set_cons_succ]
                refine wpAnyH_take (i := 20) (oi := _) (v := ?v20) rfl (by kernel_rfl) (by kernel_rfl) (by kernel_rfl) (fun _ _ _ h => h) (Or.inl ⟨by rfl, ?hy20⟩) (by assumption) ?_
                case hy20 =>
                  intro w' hSw
                  (try dsimp only at hSw)
                  simp only [List.getElem_toArray, List.getElem_cons_succ, List.getElem_cons_zero]
                  go_simp
                  (try with_reducible rfl)
                change wpAnyH _ _ _ _ _ _ _ (Act.put _ (some 95) _) _
                simp only [Act.put, List.setIfInBounds_toArray, List.set_cons_zero, List.set_cons_succ]
                refine wpAnyH_take (i := 21) (oi := _) (v := ?v21) rfl (by kernel_rfl) (by kernel_rfl) (by kernel_rfl) (fun _ _ _ h => h) (Or.inl ⟨by rfl, ?hy21⟩) (by assumption) ?_
                case hy21 =>
                  intro w' hSw
                  (try dsimp only at hSw)
                  simp only [List.getElem_toArray, List.getElem_cons_succ, List.getElem_cons_zero]
                  go_simp
                  (try with_reducible rfl)
                change wpAnyH _ _ _ _ _ _ _ (Act.put _ (some 96) _) _
                simp only [Act.put, List.setIfInBounds_toArray, List.set_cons_zero, List.set_cons_succ]
                refine wpAnyH_take (i := 22) (oi := _) (v := ?v22) rfl (by kernel_rfl) (by kernel_rfl) (by kernel_rfl) (fun _ _ _ h => h) (Or.inl ⟨by rfl, ?hy22⟩) (by assumption) ?_
                case hy22 =>
                  intro w' hSw
                  (try dsimp only at hSw)
                  simp only [List.getElem_toArray, List.getElem_cons_succ, List.getElem_cons_zero]
                  go_simp
                  (try with_reducible rfl)
                change wpAnyH _ _ _ _ _ _ _ (Act.put _ (some 97) _) _
                simp only [Act.put, List.setIfInBounds_toArray, List.set_cons_zero, List.set_cons_succ]
                refine wpAnyH_take (i := 23) (oi := _) (v := undef) rfl (by kernel_rfl) (by kernel_rfl) (by kernel_rfl) (fun _ _ _ h => h) (Or.inr ⟨by rfl, rfl⟩) (by assumption) ?_
                change wpAnyH _ _ _ _ _ _ _ (Act.put _ (some 98) _) _
                simp only [Act.put, List.setIfInBounds_toArray, List.set_cons_zero, List.set_cons_succ]
                refine wpAnyH_take (i := 24) (oi := _) (v := undef) rfl (by kernel_rfl) (by kernel_rfl) (by kernel_rfl) (fun _ _ _ h => h) (Or.inr ⟨by rfl, rfl⟩) (by assumption) ?_
                change wpAnyH _ _ _ _ _ _ _ (Act.put _ (some 99) _) _
                simp only [Act.put, List.setIfInBounds_toArray, List.set_cons_zero, List.set_cons_succ]
                refine wpAnyH_take (i := 25) (oi := _) (v := undef) rfl (by kernel_rfl) (by kernel_rfl) (by kernel_rfl) (fun _ _ _ h => h) (Or.inr ⟨by rfl, rfl⟩) (by assumption) ?_
                change wpAnyH _ _ _ _ _ _ _ (Act.put _ (some 100) _) _
                simp only [Act.put, List.setIfInBounds_toArray, List.set_cons_zero, List.set_cons_succ]
                refine wpAnyH_take (i := 26) (oi := _) (v := undef) rfl (by kernel_rfl) (by kernel_rfl) (by kernel_rfl) (fun _ _ _ h => h) (Or.inr ⟨by rfl, rfl⟩) (by assumption) ?_
                change wpAnyH _ _ _ _ _ _ _ (Act.put _ (some 101) _) _
                simp only [Act.put, List.setIfInBounds_toArray, List.set_cons_zero, List.set_cons_succ]
                refine wpAnyH_take (i := 27) (oi := _) (v := undef) rfl (by kernel_rfl) (by kernel_rfl) (by kernel_rfl) (fun _ _ _ h => h) (Or.inr ⟨by rfl, rfl⟩) (by assumption) ?_
                change wpAnyH _ _ _ _ _ _ _ (Act.put _ (some 102) _) _
                simp only [Act.put, List.setIfInBounds_toArray, List.set_cons_zero, List.set_cons_succ]
                refine wpAnyH_take (i := 28) (oi := _) (v := undef) rfl (by kernel_rfl) (by kernel_rfl) (by kernel_rfl) (fun _ _ _ h => h) (Or.inr ⟨by rfl, rfl⟩) (by assumption) ?_
                change wpAnyH _ _ _ _ _ _ _ (Act.put _ (some 103) _) _
                simp only [Act.put, List.setIfInBounds_toArray, List.set_cons_zero, List.set_cons_succ]
                refine wpAnyH_take (i := 29) (oi := _) (v := undef) rfl (by kernel_rfl) (by kernel_rfl) (by kernel_rfl) (fun _ _ _ h => h) (Or.inr ⟨by rfl, rfl⟩) (by assumption) ?_
                change wpAnyH _ _ _ _ _ _ _ (Act.put _ (some 104) _) _
                simp only [Act.put, List.setIfInBounds_toArray, List.set_cons_zero, List.set_cons_succ]
                refine wpAnyH_take (i := 30) (oi := _) (v := undef) rfl (by kernel_rfl) (by kernel_rfl) (by kernel_rfl) (fun _ _ _ h => h) (Or.inr ⟨by rfl, rfl⟩) (by assumption) ?_
                change wpAnyH _ _ _ _ _ _ _ (Act.put _ (some 105) _) _
                simp only [Act.put, List.setIfInBounds_toArray, List.set_cons_zero, List.set_cons_succ]
                refine wpAnyH_take (i := 31) (oi := _) (v := undef) rfl (by kernel_rfl) (by kernel_rfl) (by kernel_rfl) (fun _ _ _ h => h) (Or.inr ⟨by rfl, rfl⟩) (by assumption) ?_
                change wpAnyH _ _ _ _ _ _ _ (Act.put _ (some 106) _) _
                simp only [Act.put, List.setIfInBounds_toArray, List.set_cons_zero, List.set_cons_succ]
                refine wpAnyH_take (i := 32) (oi := _) (v := ?v23) rfl (by kernel_rfl) (by kernel_rfl) (by kernel_rfl) (fun _ _ _ h => h) (Or.inl ⟨by rfl, ?hy23⟩) (by assumption) ?_
                case hy23 =>
                  intro w' hSw
                  (try dsimp only at hSw)
                  simp only [List.getElem_toArray, List.getElem_cons_succ, List.getElem_cons_zero]
                  go_simp
                  (try with_reducible rfl)
                change wpAnyH _ _ _ _ _ _ _ (Act.put _ (some 107) _) _
                simp only [Act.put, List.setIfInBounds_toArray, List.set_cons_zero, List.set_cons_succ]
                refine wpAnyH_take (i := 33) (oi := _) (v := ?v24) rfl (by kernel_rfl) (by kernel_rfl) (by kernel_rfl) (fun _ _ _ h => h) (Or.inl ⟨by rfl, ?hy24⟩) (by assumption) ?_
                case hy24 =>
                  intro w' hSw
                  (try dsimp only at hSw)
                  simp only [List.getElem_toArray, List.getElem_cons_succ, List.getElem_cons_zero]
                  go_simp
                  (try with_reducible rfl)
                change wpAnyH _ _ _ _ _ _ _ (Act.put _ (some 108) _) _
                simp only [Act.put, List.setIfInBounds_toArray, List.set_cons_zero, List.set_cons_succ]
                refine wpAnyH_take (i := 34) (oi := _) (v := ?v25) rfl (by kernel_rfl) (by kernel_rfl) (by kernel_rfl) (fun _ _ _ h => h) (Or.inl ⟨by rfl, ?hy25⟩) (by assumption) ?_
                case hy25 =>
                  intro w' hSw
                  (try dsimp only at hSw)
                  simp only [List.getElem_toArray, List.getElem_cons_succ, List.getElem_cons_zero]
                  go_simp
                  (try with_reducible rfl)
                change wpAnyH _ _ _ _ _ _ _ (Act.put _ (some 2) _) _
                simp only [Act.put, List.setIfInBounds_toArray, List.set_cons_zero, List.set_cons_succ]
                refine wpAnyH_done (by kernel_rfl) ?_ _
                refine NoPanic.normal ?_
                go_wp2
                go_ret
                exact ⟨rfl, BE.out.trans (BN.out.mono BE.out.size)⟩
              · have hsay : d.say = .tuple #[I 0, I (-1), .bool false] := by simp [Dk.say, hsv]
                rw [hsay]
                clear hsv
                go_wp2
                have X0 := Lib.hid Z0.out.drew
                have XF := Lib.hid ZF.out.drew
                clear c0 cF
                refine wp_region_noPanic ?_
                refine wp_region_held_drew (S := fun w' => (∀ i, w'.cell? ⟨w.heap.size, i, none⟩ = (d.row (.slice A l.length c))[i]?) ∧ (∀ i, w'.cell? ⟨w3.heap.size, i, none⟩ = (d.row (.slice A2 l2.length c2))[i]?)) (by kernel_rfl) (⟨X0.out.cell, XF.out.cell⟩) (fun hHeld => ?_)
                refine wpAnyH_take (i := 0) (oi := _) (v := ?v26) rfl (by kernel_rfl) (by kernel_rfl) (by kernel_rfl) (fun _ _ _ h => h) (Or.inl ⟨by rfl, ?hy26⟩) (by assumption) ?_
                case hy26 =>
                  intro w' hSw
                  (try dsimp only at hSw)
                  simp only [List.getElem_toArray, List.getElem_cons_succ, List.getElem_cons_zero]
                  go_simp
                  (try with_reducible rfl)
                change wpAnyH _ _ _ _ _ _ _ (Act.put _ (some 75) _) _
                simp only [Act.put, List.setIfInBounds_toArray, List.set_cons_zero, List.set_cons_succ]
                refine wpAnyH_take (i := 1) (oi := _) (v := ?v27) rfl (by kernel_rfl) (by kernel_rfl) (by kernel_rfl) (fun _ _ _ h => h) (Or.inl ⟨by rfl, ?hy27⟩) (by assumption) ?_
                case hy27 =>
                  intro w' hSw
                  (try dsimp only at hSw)
                  simp only [List.getElem_toArray, List.getElem_cons_succ, List.getElem_cons_zero]
                  go_simp
                  (try with_reducible rfl)
                change wpAnyH _ _ _ _ _ _ _ (Act.put _ (some 76) _) _
                simp only [Act.put, List.setIfInBounds_toArray, List.set_cons_zero, List.set_cons_succ]
                refine wpAnyH_take (i := 2) (oi := _) (v := ?v28) rfl (by kernel_rfl) (by kernel_rfl) (by kernel_rfl) (fun _ _ _ h => h) (Or.inl ⟨by rfl, ?hy28⟩) (by assumption) ?_
                case hy28 =>
                  intro w' hSw
                  (try dsimp only at hSw)
                  simp only [List.getElem_toArray, List.getElem_cons_succ, List.getElem_cons_zero]
                  go_simp
                  (try with_reducible rfl)
                change wpAnyH _ _ _ _ _ _ _ (Act.put _ (some 77) _) _
                simp only [Act.put, List.setIfInBounds_toArray, List.set_cons_zero, List.set_cons_succ]
                refine wpAnyH_take (i := 3) (oi := _) (v := ?v29) rfl (by kernel_rfl) (by kernel_rfl) (by kernel_rfl) (fun _ _ _ h => h) (Or.inl ⟨by rfl, ?hy29⟩) (by assumption) ?_
                case hy29 =>
                  intro w' hSw
                  (try dsimp only at hSw)
                  simp only [List.getElem_toArray, List.getElem_cons_succ, List.getElem_cons_zero]
                  go_simp
                  (try with_reducible rfl)
                change wpAnyH _ _ _ _ _ _ _ (Act.put _ (some 78) _) _
                simp only [Act.put, List.setIfInBounds_toArray, List.set_cons_zero, List.set_cons_succ]
                refine wpAnyH_take (i := 4) (oi := _) (v := ?v30) rfl (by kernel_rfl) (by kernel_rfl) (by kernel_rfl) (fun _ _ _ h => h) (Or.inl ⟨by rfl, ?hy30⟩) (by assumption) ?_
                case hy30 =>
                  intro w' hSw
                  (try dsimp only at hSw)
                  simp only [List.getElem_toArray, List.getElem_cons_succ, List.getElem_cons_zero]
                  go_simp
                  (try with_reducible rfl)
                change wpAnyH _ _ _ _ _ _ _ (Act.put _ (some 79) _) _
                simp only [Act.put, List.setIfInBounds_toArray, List.set_cons_zero, List.set_cons_succ]
                refine wpAnyH_take (i := 5) (oi := _) (v := ?v31) rfl (by kernel_rfl) (by kernel_rfl) (by kernel_rfl) (fun _ _ _ h => h) (Or.inl ⟨by rfl, ?hy31⟩) (by assumption) ?_
                case hy31 =>
                  intro w' hSw
                  (try dsimp only at hSw)
                  simp only [List.getElem_toArray, List.getElem_cons_succ, List.getElem_cons_zero]
                  go_simp
                  (try with_reducible rfl)
                change wpAnyH _ _ _ _ _ _ _ (Act.put _ (some 80) _) _
                simp only [Act.put, List.setIfInBounds_toArray, List.set_cons_zero, List.set_cons_succ]
                refine wpAnyH_take (i := 6) (oi := _) (v := ?v32) rfl (by kernel_rfl) (by kernel_rfl) (by kernel_rfl) (fun _ _ _ h => h) (Or.inl ⟨by rfl, ?hy32⟩) (by assumption) ?_
                case hy32 =>
                  intro w' hSw
                  (try dsimp only at hSw)
                  simp only [List.getElem_toArray, List.getElem_cons_succ, List.getElem_cons_zero]
                  go_simp
                  (try with_reducible rfl)
                change wpAnyH _ _ _ _ _ _ _ (Act.put _ (some 81) _) _
                simp only [Act.put, List.setIfInBounds_toArray, List.set_cons_zero, List.set_cons_succ]
                refine wpAnyH_take (i := 7) (oi := _) (v := ?v33) rfl (by kernel_rfl) (by kernel_rfl) (by kernel_rfl) (fun _ _ _ h => h) (Or.inl ⟨by rfl, ?hy33⟩) (by assumption) ?_
                case hy33 =>
                  intro w' hSw
                  (try dsimp only at hSw)
                  simp only [List.getElem_toArray, List.getElem_cons_succ, List.getElem_cons_zero]
                  go_simp
                  (try with_reducible rfl)
                change wpAnyH _ _ _ _ _ _ _ (Act.put _ (some 82) _) _
                simp only [Act.put, List.setIfInBounds_toArray, List.set_cons_zero, List.set_cons_succ]
                refine wpAnyH_take (i := 8) (oi := _) (v := ?v34) rfl (by kernel_rfl) (by kernel_rfl) (by kernel_rfl) (fun _ _ _ h => h) (Or.inl ⟨by rfl, ?hy34⟩) (by assumption) ?_
                case hy34 =>
                  intro w' hSw
                  (try dsimp only at hSw)
                  simp only [List.getElem_toArray, List.getElem_cons_succ, List.getElem_cons_zero]
                  go_simp
                  (try with_reducible rfl)
                change wpAnyH _ _ _ _ _ _ _ (Act.put _ (some 83) _) _
                simp only [Act.put, List.setIfInBounds_toArray, List.set_cons_zero, List.set_cons_succ]
                refine wpAnyH_take (i := 9) (oi := _) (v := ?v35) rfl (by kernel_rfl) (by kernel_rfl) (by kernel_rfl) (fun _ _ _ h => h) (Or.inl ⟨by rfl, ?hy35⟩) (by assumption) ?_
                case hy35 =>
                  intro w' hSw
                  (try dsimp only at hSw)
                  simp only [List.getElem_toArray, List.getElem_cons_succ, List.getElem_cons_zero]
                  go_simp
                  (try with_reducible rfl)
                change wpAnyH _ _ _ _ _ _ _ (Act.put _ (some 84) _) _
                simp only [Act.put, List.setIfInBounds_toArray, List.set_cons_zero, List.set_cons_succ]
                refine wpAnyH_take (i := 10) (oi := _) (v := ?v36) rfl (by kernel_rfl) (by kernel_rfl) (by kernel_rfl) (fun _ _ _ h => h) (Or.inl ⟨by rfl, ?hy36⟩) (by assumption) ?_
                case hy36 =>
                  intro w' hSw
                  (try dsimp only at hSw)
                  simp only [List.getElem_toArray, List.getElem_cons_succ, List.getElem_cons_zero]
                  go_simp
                  (try with_reducible rfl)
                change wpAnyH _ _ _ _ _ _ _ (Act.put _ (some 85) _) _
                simp only [Act.put, List.setIfInBounds_toArray, List.set_cons_zero, List.set_cons_succ]
                refine wpAnyH_take (i := 11) (oi := _) (v := ?v37) rfl (by kernel_rfl) (by kernel_rfl) (by kernel_rfl) (fun _ _ _ h => h) (Or.inl ⟨by rfl, ?hy37⟩) (by assumption) ?_
                case hy37 =>
                  intro w' hSw
                  (try dsimp only at hSw)
                  simp only [List.getElem_toArray, List.getElem_cons_succ, List.getElem_cons_zero]
                  go_simp
                  (try with_reducible rfl)
                change wpAnyH _ _ _ _ _ _ _ (Act.put _ (some 86) _) _
                simp only [Act.put, List.setIfInBounds_toArray, List.set_cons_zero, List.set_cons_succ]
                refine wpAnyH_take (i := 12) (oi := _) (v := ?v38) rfl (by kernel_rfl) (by kernel_rfl) (by kernel_rfl) (fun _ _ _ h => h) (Or.inl ⟨by rfl, ?hy38⟩) (by assumption) ?_
                case hy38 =>
                  intro w' hSw
                  (try dsimp only at hSw)
                  simp only [List.getElem_toArray, List.getElem_cons_succ, List.getElem_cons_zero]
                  go_simp
                  (try with_reducible rfl)
                change wpAnyH _ _ _ _ _ _ _ (Act.put _ (some 87) _) _
                simp only [Act.put, List.setIfInBounds_toArray, List.set_cons_zero, List.set_cons_succ]
                refine wpAnyH_take (i := 13) (oi := _) (v := ?v39) rfl (by kernel_rfl) (by kernel_rfl) (by kernel_rfl) (fun _ _ _ h => h) (Or.inl ⟨by rfl, ?hy39⟩) (by assumption) ?_
                case hy39 =>
                  intro w' hSw
                  (try dsimp only at hSw)
                  simp only [List.getElem_toArray, List.getElem_cons_succ, List.getElem_cons_zero]
                  go_simp
                  (try with_reducible rfl)
                change wpAnyH _ _ _ _ _ _ _ (Act.put _ (some 88) _) _
                simp only [Act.put, List.setIfInBounds_toArray, List.set_cons_zero, List.set_cons_succ]
                refine wpAnyH_take (i := 14) (oi := _) (v := ?v40) rfl (by kernel_rfl) (by kernel_rfl) (by kernel_rfl) (fun _ _ _ h => h) (Or.inl ⟨by rfl, ?hy40⟩) (by assumption) ?_
                case hy40 =>
                  intro w' hSw
                  (try dsimp only at hSw)
                  simp only [List.getElem_toArray, List.getElem_cons_succ, List.getElem_cons_zero]
                  go_simp
                  (try with_reducible rfl)
                change wpAnyH _ _ _ _ _ _ _ (Act.put _ (some 89) _) _
                simp only [Act.put, List.setIfInBounds_toArray, List.set_cons_zero, List.set_cons_succ]
                refine wpAnyH_take (i := 15) (oi := _) (v := ?v41) rfl (by kernel_rfl) (by kernel_rfl) (by kernel_rfl) (fun _ _ _ h => h) (Or.inl ⟨by rfl, ?hy41⟩) (by assumption) ?_
                case hy41 =>
                  intro w' hSw
                  (try dsimp only at hSw)
                  simp only [List.getElem_toArray, List.getElem_cons_succ, List.getElem_cons_zero]
                  go_simp
                  (try with_reducible rfl)
                change wpAnyH _ _ _ _ _ _ _ (Act.put _ (some 90) _) _
                simp only [Act.put, List.setIfInBounds_toArray, List.set_cons_zero, List.set_cons_succ]
                refine wpAnyH_take (i := 16) (oi := _) (v := undef) rfl (by kernel_rfl) (by kernel_rfl) (by kernel_rfl) (fun _ _ _ h => h) (Or.inr ⟨by rfl, rfl⟩) (by assumption) ?_
                change wpAnyH _ _ _ _ _ _ _ (Act.put _ (some 91) _) _
                simp only [Act.put, List.setIfInBounds_toArray, List.set_cons_zero, List.set_cons_succ]
                refine wpAnyH_take (i := 17) (oi := _) (v := undef) rfl (by kernel_rfl) (by kernel_rfl) (by kernel_rfl) (fun _ _ _ h => h) (Or.inr ⟨by rfl, rfl⟩) (by assumption) ?_
                change wpAnyH _ _ _ _ _ _ _ (Act.put _ (some 92) _) _
                simp only [Act.put, List.setIfInBounds_toArray, List.set_cons_zero, List.set_cons_succ]
                refine wpAnyH_take (i := 18) (oi := _) (v := undef) rfl (by kernel_rfl) (by kernel_rfl) (by kernel_rfl) (fun _ _ _ h => h) (Or.inr ⟨by rfl, rfl⟩) (by assumption) ?_
                change wpAnyH _ _ _ _ _ _ _ (Act.put _ (some 93) _) _
                simp only [Act.put, List.setIfInBounds_toArray, List.set_cons_zero, List.set_cons_succ]
                refine wpAnyH_take (i := 19) (oi := _) (v := undef) rfl (by kernel_rfl) (by kernel_rfl) (by kernel_rfl) (fun _ _ _ h => h) (Or.inr ⟨by rfl, rfl⟩) (by assumption) ?_
                change wpAnyH _ _ _ _ _ _ _ (Act.put _ (some 94) _) _
                simp only [Act.put, List.setIfInBounds_toArray, List.set_cons_zero, List.set_cons_succ]
                refine wpAnyH_take (i := 20) (oi := _) (v := undef) rfl (by kernel_rfl) (by kernel_rfl) (by kernel_rfl) (fun _ _ _ h => h) (Or.inr ⟨by rfl, rfl⟩) (by assumption) ?_
                change wpAnyH _ _ _ _ _ _ _ (Act.put _ (some 95) _) _
                simp only [Act.put, List.setIfInBounds_toArray, List.set_cons_zero, List.set_cons_succ]
                refine wpAnyH_take (i := 21) (oi := _) (v := ?v42) rfl (by kernel_rfl) (by kernel_rfl) (by kernel_rfl) (fun _ _ _ h => h) (Or.inl ⟨by rfl, ?hy42⟩) (by assumption) ?_
                case hy42 =>
                  intro w' hSw
                  (try dsimp only at hSw)
                  simp only [List.getElem_toArray, List.getElem_cons_succ, List.getElem_cons_zero]
                  go_simp
                  (try with_reducible rfl)
                change wpAnyH _ _ _ _ _ _ _ (Act.put _ (some 96) _) _
                simp only [Act.put, List.setIfInBounds_toArray, List.set_cons_zero, List.set_cons_succ]
                refine wpAnyH_take (i := 22) (oi := _) (v := ?v43) rfl (by kernel_rfl) (by kernel_rfl) (by kernel_rfl) (fun _ _ _ h => h) (Or.inl ⟨by rfl, ?hy43⟩) (by assumption) ?_
                case hy43 =>
                  intro w' hSw
                  (try dsimp only at hSw)
                  simp only [List.getElem_toArray, List.getElem_cons_succ, List.getElem_cons_zero]
                  go_simp
                  (try with_reducible rfl)
                change wpAnyH _ _ _ _ _ _ _ (Act.put _ (some 97) _) _
                simp only [Act.put, List.setIfInBounds_toArray, List.set_cons_zero, List.set_cons_succ]
                refine wpAnyH_take (i := 23) (oi := _) (v := ?v44) rfl (by kernel_rfl) (by kernel_rfl) (by kernel_rfl) (fun _ _ _ h => h) (Or.inl ⟨by rfl, ?hy44⟩) (by assumption) ?_
                case hy44 =>
                  intro w' hSw
                  (try dsimp only at hSw)
                  simp only [List.getElem_toArray, List.getElem_cons_succ, List.getElem_cons_zero]
                  go_simp
                  (try with_reducible rfl)
                change wpAnyH _ _ _ _ _ _ _ (Act.put _ (some 98) _) _
                simp only [Act.put, List.setIfInBounds_toArray, List.set_cons_zero, List.set_cons_succ]
                refine wpAnyH_take (i := 24) (oi := _) (v := ?v45) rfl (by kernel_rfl) (by kernel_rfl) (by kernel_rfl) (fun _ _ _ h => h) (Or.inl ⟨by rfl, ?hy45⟩) (by assumption) ?_
                case hy45 =>
                  intro w' hSw
                  (try dsimp only at hSw)
                  simp only [List.getElem_toArray, List.getElem_cons_succ, List.getElem_cons_zero]
                  go_simp
                  (try with_reducible rfl)
                change wpAnyH _ _ _ _ _ _ _ (Act.put _ (some 99) _) _
                simp only [Act.put, List.setIfInBounds_toArray, List.set_cons_zero, List.set_cons_succ]
                refine wpAnyH_take (i := 25) (oi := _) (v := ?v46) rfl (by kernel_rfl) (by kernel_rfl) (by kernel_rfl) (fun _ _ _ h => h) (Or.inl ⟨by rfl, ?hy46⟩) (by assumption) ?_
                case hy46 =>
                  intro w' hSw
                  (try dsimp only at hSw)
                  simp only [List.getElem_toArray, List.getElem_cons_succ, List.getElem_cons_zero]
                  go_simp
                  (try with_reducible rfl)
                change wpAnyH _ _ _ _ _ _ _ (Act.put _ (some 100) _) _
                simp only [Act.put, List.setIfInBounds_toArray, List.set_cons_zero, List.set_cons_succ]
                refine wpAnyH_take (i := 26) (oi := _) (v := ?v47) rfl (by kernel_rfl) (by kernel_rfl) (by kernel_rfl) (fun _ _ _ h => h) (Or.inl ⟨by rfl, ?hy47⟩) (by assumption) ?_
                case hy47 =>
                  intro w' hSw
                  (try dsimp only at hSw)
                  simp only [List.getElem_toArray, List.getElem_cons_succ, List.getElem_cons_zero]
                  go_simp
                  (try with_reducible rfl)
                change wpAnyH _ _ _ _ _ _ _ (Act.put _ (some 101) _) _
                simp only [Act.put, List.setIfInBounds_toArray, List.set_cons_zero, List.set_cons_succ]
                refine wpAnyH_take (i := 28) (oi := _) (v := ?v48) rfl (by kernel_rfl) (by kernel_rfl) (by kernel_rfl) (fun _ _ _ h => h) (Or.inl ⟨by rfl, ?hy48⟩) (by assumption) ?_
                case hy48 =>
                  intro w' hSw
                  (try dsimp only at hSw)
                  simp only [List.getElem_toArray, List.getElem_cons_succ, List.getElem_cons_zero]
                  go_simp
                  (try with_reducible rfl)
                change wpAnyH _ _ _ _ _ _ _ (Act.put _ (some 103) _) _
                simp only [Act.put, List.setIfInBounds_toArray, List.set_cons_zero, List.set_cons_succ]
                refine wpAnyH_take (i := 29) (oi := _) (v := ?v49) rfl (by kernel_rfl) (by kernel_rfl) (by kernel_rfl) (fun _ _ _ h => h) (Or.inl ⟨by rfl, ?hy49⟩) (by assumption) ?_
                case hy49 =>
                  intro w' hSw
                  (try dsimp only at hSw)
                  simp only [List.getElem_toArray, List.getElem_cons_succ, List.getElem_cons_zero]
                  go_simp
                  (try with_reducible rfl)
                change wpAnyH _ _ _ _ _ _ _ (Act.put _ (some 104) _) _
                simp only [Act.put, List.setIfInBounds_toArray, List.set_cons_zero, List.set_cons_succ]
                refine wpAnyH_ready (rs := [27]) (by kernel_rfl) (by simp) ?_
                refine AllReadyH.cons (o := _) rfl (fun K hK => ?_) AllReadyH.nil
                go_simp
                refine (bound_calls d _ _).mono ?_
                rw [hbd]
                rintro e wn ⟨rfl, hbn⟩
                have Y0 := Lib.hid (X0.out.below hbn X0.out.lt)
                have YF := Lib.hid (XF.out.below hbn XF.out.lt)
                have BN := Lib.hid (B6.out.drew.trans (hbn.mono B6.out.size))
                clear hbn
                go_wp2_with fail
                refine hK.out _ _ (⟨Y0.out.cell, YF.out.cell⟩) (fun hHeld => ?_)
                clear hK K
                try simp only [Act.put, List.setIfInBounds_toArray, List.set_cons_zero, List.set_cons_succ]
                refine wpAnyH_take (i := 30) (oi := _) (v := ?v50) rfl (by kernel_rfl) (by kernel_rfl) (by kernel_rfl) (fun _ _ _ h => h) (Or.inl ⟨by rfl, ?hy50⟩) (by assumption) ?_
                case hy50 =>
                  intro w' hSw
                  (try dsimp only at hSw)
                  simp only [List.getElem_toArray, List.getElem_cons_succ, List.getElem_cons_zero]
                  go_simp
                  (try with_reducible rfl)
                change wpAnyH _ _ _ _ _ _ _ (Act.put _ (some 105) _) _
                simp only [Act.put, List.setIfInBounds_toArray, List.set_cons_zero, List.set_cons_succ]
                refine wpAnyH_take (i := 31) (oi := _) (v := ?v51) rfl (by kernel_rfl) (by kernel_rfl) (by kernel_rfl) (fun _ _ _ h => h) (Or.inl ⟨by rfl, ?hy51⟩) (by assumption) ?_
                case hy51 =>
                  intro w' hSw
                  (try dsimp only at hSw)
                  simp only [List.getElem_toArray, List.getElem_cons_succ, List.getElem_cons_zero]
                  go_simp
                  (try with_reducible rfl)
                change wpAnyH _ _ _ _ _ _ _ (Act.put _ (some 106) _) _
                simp only [Act.put, List.setIfInBounds_toArray, List.set_cons_zero, List.set_cons_succ]
                refine wpAnyH_take (i := 32) (oi := _) (v := ?v52) rfl (by kernel_rfl) (by kernel_rfl) (by kernel_rfl) (fun _ _ _ h => h) (Or.inl ⟨by rfl, ?hy52⟩) (by assumption) ?_
                case hy52 =>
                  intro w' hSw
                  (try dsimp only at hSw)
                  simp only [List.getElem_toArray, List.getElem_cons_succ, List.getElem_cons_zero]
                  go_simp
                  (try with_reducible rfl)
                change wpAnyH _ _ _ _ _ _ _ (Act.put _ (some 107) _) _
                simp only [Act.put, List.setIfInBounds_toArray, List.set_cons_zero, List.set_cons_succ]
                refine wpAnyH_take (i := 33) (oi := _) (v := ?v53) rfl (by kernel_rfl) (by kernel_rfl) (by kernel_rfl) (fun _ _ _ h => h) (Or.inl ⟨by rfl, ?hy53⟩) (by assumption) ?_
                case hy53 =>
                  intro w' hSw
                  (try dsimp only at hSw)
                  simp only [List.getElem_toArray, List.getElem_cons_succ, List.getElem_cons_zero]
                  go_simp
                  (try with_reducible rfl)
                change wpAnyH _ _ _ _ _ _ _ (Act.put _ (some 108) _) _
                simp only [Act.put, List.setIfInBounds_toArray, List.set_cons_zero, List.set_cons_succ]
                refine wpAnyH_take (i := 34) (oi := _) (v := ?v54) rfl (by kernel_rfl) (by kernel_rfl) (by kernel_rfl) (fun _ _ _ h => h) (Or.inl ⟨by rfl, ?hy54⟩) (by assumption) ?_
                case hy54 =>
                  intro w' hSw
                  (try dsimp only at hSw)
                  simp only [List.getElem_toArray, List.getElem_cons_succ, List.getElem_cons_zero]
                  go_simp
                  (try with_reducible rfl)
                change wpAnyH _ _ _ _ _ _ _ (Act.put _ (some 2) _) _
                simp only [Act.put, List.setIfInBounds_toArray, List.set_cons_zero, List.set_cons_succ]
                refine wpAnyH_done (by kernel_rfl) ?_ _
                refine NoPanic.normal ?_
                go_wp2
                go_ret
                exact ⟨rfl, BE.out.trans (BN.out.mono BE.out.size)⟩
            · have hlt : (j : Int) < l2.length := by omega
              have hj0 : (0 : Int) ≤ j := by omega
              obtain ⟨o, ho⟩ : ∃ o, l2[j]? = some o := ⟨l2[j]'(by omega), List.getElem?_eq_getElem (by omega)⟩
              have hk := F2.out j o ho
              obtain ⟨bv, ov, rfl, xv⟩ := TR.out.at_ ho
              have hkb : decide (o.k ≤ d.bound) = false := decide_eq_false (by omega)
              have hw64 : IntKind.i64.wrap ((j : Int) + 1) = (j : Int) + 1 := by have := HL.out; have := F3.out; simp [IntKind.wrap, IntKind.bits, IntKind.signed]; omega
              have STEP : Hid (j + 1 ≤ l2.length ∧ l2.length - (j + 1) < l2.length - j) := Lib.hid (by clear hw64; omega)
              have X0 := Lib.hid (Q0.out.drew)
              have XF := Lib.hid (QF.out.drew)
              have XV : Hid (OC wr.drew bv (ov + j * 4) o) := Lib.hid xv
              have x0 := X0.out.cell
              have xf := XF.out.cell
              have BW := Lib.hid B.out.drew
              clear hk hj hjl ho
              go_wp2
              go_region_held3 (fun w' => (∀ i, w'.cell? ⟨w.heap.size, i, none⟩ = (d.row (.slice A l.length c))[i]?) ∧ (∀ i, w'.cell? ⟨w3.heap.size, i, none⟩ = (d.row (.slice (some ⟨bv, ov, none⟩) l2.length c2))[i]?) ∧ OC w' bv (ov + j * 4) o)
                (first | with_reducible exact ⟨x0, xf, XV.out⟩ | with_reducible exact ⟨y0, yf, YV.out⟩ | go_keep)
                (first
                | (go_at_call 15
                   refine (bound_calls d _ _).mono ?_
                   rintro e wn ⟨rfl, hbn⟩
                   have y0 := (X0.out.below hbn X0.out.lt).cell
                   have yf := (XF.out.below hbn XF.out.lt).cell
                   have YV := Lib.hid (XV.out.below hbn)
                   have BN := Lib.hid (BW.out.trans (hbn.mono BW.out.size))
                   clear hbn))
              all_goals go_wp2
              all_goals go_roundw
              all_goals first
                | exact ⟨j + 1, STEP.out.1, by go_num, BN⟩
                | exact meas STEP.out.2
        · have hlt : (j : Int) < l1.length := by omega
          have hj0 : (0 : Int) ≤ j := by omega
          obtain ⟨o, ho⟩ : ∃ o, l1[j]? = some o := ⟨l1[j]'(by omega), List.getElem?_eq_getElem (by omega)⟩
          obtain ⟨hk, hol⟩ := F1.out j o ho
          obtain ⟨bv, ov, rfl, xv⟩ := TV.out.at_ ho
          obtain ⟨bl, ofl, rfl, xl⟩ := TS.out.at_ hol
          have hq : o.eqb o = true := by rw [Ot.eqb_iff]; simp
          have e37 : ∀ w, (Op.equalIn 10000 37 o.val o.val).run Try.prog w = .ok true w := fun w => by rw [eq37, hq]
          have hkb : decide (o.k > d.bound) = false := decide_eq_false (by omega)
          have hjl2 : (j : Int) < l.length := by have := F3.out; omega
          have hw64 : IntKind.i64.wrap ((j : Int) + 1) = (j : Int) + 1 := by have := HL.out; have := F3.out; simp [IntKind.wrap, IntKind.bits, IntKind.signed]; omega
          have STEP : Hid (j + 1 ≤ l1.length ∧ l1.length - (j + 1) < l1.length - j) := Lib.hid (by clear hw64; omega)
          have X0 := Lib.hid (Q0.out.drew)
          have XV : Hid (OC wr.drew bv (ov + j * 4) o) := Lib.hid xv
          have XL : Hid (OC wr.drew bl (ofl + j * 4) o) := Lib.hid xl
          have x0 := X0.out.cell
          have BW : Hid (Below w5.heap.size w5 wr.drew) := Lib.hid B.out.drew
          clear hk hj hjl ho hol cF lF
          go_wp2
          go_region_held3 (fun w' => (∀ i, w'.cell? ⟨w.heap.size, i, none⟩ = (d.row (.slice (some ⟨bl, ofl, none⟩) l.length c))[i]?) ∧ OC w' bv (ov + j * 4) o ∧ OC w' bl (ofl + j * 4) o)
            (first | with_reducible exact ⟨x0, XV.out, XL.out⟩ | with_reducible exact ⟨y0, YV.out, YL.out⟩ | go_keep)
            (first
            | (go_at_call 15
               refine (bound_calls d _ _).mono ?_
               rintro e wn ⟨rfl, hbn⟩
               have y0 := (X0.out.below hbn X0.out.lt).cell
               have YV := Lib.hid (XV.out.below hbn)
               have YL := Lib.hid (XL.out.below hbn)
               have BN := Lib.hid (BW.out.trans (hbn.mono BW.out.size))
               clear hbn))
          all_goals go_wp2
          all_goals go_roundw
          all_goals first
            | exact ⟨j + 1, STEP.out.1, by go_num, BN⟩
            | exact meas STEP.out.2
end Go.Proofs.Ytbchepdaomhgeaa.MM
