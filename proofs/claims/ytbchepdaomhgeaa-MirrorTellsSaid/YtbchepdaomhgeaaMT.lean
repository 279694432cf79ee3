import Derived.Test.YtbchepdaomhgeaaMJ
/- Layer 14: whether two are the same. -/
namespace Go.Proofs.Ytbchepdaomhgeaa.MM
open Go.RowKit
set_option linter.unusedVariables false
set_option linter.unusedSimpArgs false
theorem list_ext {l l' : List Ot} (hl : l.length = l'.length) (h : ∀ m, m < l.length → l[m]? = l'[m]?) : l = l' :=
  List.ext_getElem? fun m => by
    rcases Nat.lt_or_ge m l.length with h1 | h1
    · exact h m h1
    · rw [List.getElem?_eq_none h1, List.getElem?_eq_none (by omega)]
def Dk.eqb (d d' : Dk) : Bool := (d.gen == d'.gen) && (d.k == d'.k) && (d.acked == d'.acked) && (d.peer == d'.peer) && (d.stage == d'.stage) && (d.seq == d'.seq)
def sameB (d d' : Dk) (l l' : List Ot) : Bool := decide (l = l') && d.eqb d'
theorem sameB_refl (d : Dk) (l : List Ot) : sameB d d l l = true := by simp [sameB, Dk.eqb]
set_option maxRecDepth 100000 in
set_option maxHeartbeats 2000000 in
theorem outs_calls (s s' : Value) (l l' : List Ot) (w : World) (hs : Sl w s l) (hs' : Sl w s' l') (hn : l.length ≤ 1000000) (hn' : l'.length ≤ 1000000) :
    Calls Try.prog 29 #[s, s'] w fun e w' => e = .returned (.bool (decide (l = l'))) ∧ Below w.heap.size w w' := by
  obtain ⟨A, c, rfl, _, _, _⟩ := id hs
  obtain ⟨A', c', rfl, _, _, _⟩ := id hs'
  have HS := Lib.hid hs
  have HT := Lib.hid hs'
  have HN := Lib.hid hn
  clear hs hs' hn hn'
  by_cases hl : l.length = l'.length
  case neg =>
    have e : decide (l = l') = false := decide_eq_false (fun h => hl (by rw [h]))
    have d1 : ((l.length : Int) != (l'.length : Int)) = true := by simp; omega
    rw [e]
    clear hl e
    go_enter Try.func29, Try.ntmps29
    go_wp2
    go_ret
    exact ⟨rfl, Below.refl _ _⟩
  have d1 : ((l.length : Int) != (l'.length : Int)) = false := by simp [hl]
  have HLL := Lib.hid hl
  clear hl
  go_enter Try.func29, Try.ntmps29
  go_wp2_with fail
  go_loopw [5] (fun i wr => ∃ j : Nat, j ≤ l.length ∧ i = .int .i64 j ∧ Hid (∀ m, m < j → l[m]? = l'[m]?) ∧ Hid (Below w.heap.size w wr)) (fun i _ => l.length - (intOf i).toNat)
  case atStart => exact ⟨0, by omega, rfl, Lib.hid (fun m hm => by omega), Lib.hid (Below.refl _ _)⟩
  case round =>
    obtain ⟨j, hj, rfl, E, B⟩ := hrel
    by_cases hjl : j = l.length
    · subst hjl
      have e : decide (l = l') = true := decide_eq_true (list_ext HLL.out E.out)
      have E2 := Lib.hid e
      clear e
      go_wp2
      go_ret
      exact ⟨by rw [E2.out]; rfl, B.out⟩
    · have hlt : (j : Int) < l.length := by omega
      have hlt' : (j : Int) < l'.length := by have := HLL.out; omega
      have hj0 : (0 : Int) ≤ j := by omega
      obtain ⟨o, ho⟩ : ∃ o, l[j]? = some o := ⟨l[j]'(by omega), List.getElem?_eq_getElem (by omega)⟩
      obtain ⟨o', ho'⟩ : ∃ o', l'[j]? = some o' := ⟨l'[j]'(by have := HLL.out; omega), List.getElem?_eq_getElem (by have := HLL.out; omega)⟩
      obtain ⟨b, off, rfl, x0⟩ := (HS.out.below B.out).at_ ho
      obtain ⟨b', off', rfl, x1⟩ := (HT.out.below B.out).at_ ho'
      have STEP : Hid (j + 1 ≤ l.length ∧ l.length - (j + 1) < l.length - j) := Lib.hid (by omega)
      have hw64 : IntKind.i64.wrap ((j : Int) + 1) = (j : Int) + 1 := by have := HN.out; simp [IntKind.wrap, IntKind.bits, IntKind.signed]; omega
      have O := Lib.hid ho
      have O' := Lib.hid ho'
      clear hj hjl ho ho'
      have X0 : Hid (OC wr.drew b (off + j * 4) o) := Lib.hid x0
      have X1 : Hid (OC wr.drew b' (off' + j * 4) o') := Lib.hid x1
      clear x0 x1
      have BD := Lib.hid B.out.drew
      cases hq : o.eqb o'
      · have e37 : ∀ w, (Op.equalIn 10000 37 o.val o'.val).run Try.prog w = .ok false w := fun w => by rw [eq37, hq]
        have e : decide (l = l') = false := decide_eq_false (fun h => by
          have h1 := O.out
          rw [h, O'.out] at h1
          injection h1 with h1
          rw [Ot.eqb_iff, h1] at hq
          simp at hq)
        have E2 := Lib.hid e
        clear hq e
        go_wp2
        go_region_held3 (fun w' => OC w' b (off + j * 4) o ∧ OC w' b' (off' + j * 4) o') (first | with_reducible exact ⟨X0.out, X1.out⟩ | go_keep) (fail)
        all_goals go_wp2
        all_goals go_ret
        all_goals exact ⟨by rw [E2.out]; rfl, BD.out⟩
      · have e37 : ∀ w, (Op.equalIn 10000 37 o.val o'.val).run Try.prog w = .ok true w := fun w => by rw [eq37, hq]
        have HE : Hid (o = o') := Lib.hid (by rw [Ot.eqb_iff] at hq; exact of_decide_eq_true hq)
        clear hq
        go_wp2
        go_region_held3 (fun w' => OC w' b (off + j * 4) o ∧ OC w' b' (off' + j * 4) o') (first | with_reducible exact ⟨X0.out, X1.out⟩ | go_keep) (fail)
        all_goals go_wp2
        all_goals go_roundw
        all_goals first
          | exact meas STEP.out.2
          | exact ⟨j + 1, STEP.out.1, by go_num, Lib.hid (fun m hm => by
              rcases Nat.lt_or_ge m j with h | h
              · exact E.out m h
              · obtain rfl : m = j := by omega
                rw [O.out, O'.out, HE.out]), BD⟩
set_option maxRecDepth 100000 in
set_option maxHeartbeats 2000000 in
theorem refSame_calls (d d' : Dk) (s s' : Value) (l l' : List Ot) (w : World) (hs : Sl w s l) (hs' : Sl w s' l') (hn : l.length ≤ 1000000) (hn' : l'.length ≤ 1000000) :
    Calls Try.prog 18 #[d.val s, d'.val s'] w fun e w' => e = .returned (.bool (sameB d d' l l')) ∧ Below w.heap.size w w' := by
  obtain ⟨A, c, rfl, _, _, _⟩ := id hs
  obtain ⟨A', c', rfl, _, _, _⟩ := id hs'
  have HS := Lib.hid hs
  have HT := Lib.hid hs'
  have HN := Lib.hid (And.intro hn hn')
  clear hs hs' hn hn'
  have M : Hid (Scene w [(26, d.row (.slice A l.length c)), (26, d'.row (.slice A' l'.length c'))] ((w.alloc (.cells (d.row (.slice A l.length c)) 26)).alloc (.cells (d'.row (.slice A' l'.length c')) 26))) := Lib.hid (((Scene.none w).push (by simp) _ _).push (by simp) _ _)
  go_enter Try.func18, Try.ntmps18
  go_wp2_with fail
  refine (outs_calls (.slice A l.length c) (.slice A' l'.length c') l l' _ (HS.out.below M.out.be) (HT.out.below M.out.be) HN.out.1 HN.out.2).mono ?_
  rintro e w1 ⟨rfl, hb⟩
  have N := Lib.hid (M.out.below hb)
  clear hb M
  have c0 := N.out.r0.cell
  have c1 := N.out.r1.cell
  have l0 := N.out.r0.lt
  have l1 := N.out.r1.lt
  cases hll : decide (l = l')
  · go_wp2
    go_ret
    exact ⟨by simp [sameB, hll], N.out.be⟩
  cases f0 : (d.gen == d'.gen)
  · go_wp2
    go_ret
    exact ⟨by simp [sameB, Dk.eqb, f0], N.out.be⟩
  cases f1 : (d.k == d'.k)
  · go_wp2
    go_ret
    exact ⟨by simp [sameB, Dk.eqb, f1], N.out.be⟩
  cases f2 : (d.acked == d'.acked)
  · go_wp2
    go_ret
    exact ⟨by simp [sameB, Dk.eqb, f2], N.out.be⟩
  cases f3 : (d.peer == d'.peer)
  · go_wp2
    go_ret
    exact ⟨by simp [sameB, Dk.eqb, f3], N.out.be⟩
  cases f4 : (d.stage == d'.stage)
  · go_wp2
    go_ret
    exact ⟨by simp [sameB, Dk.eqb, f4], N.out.be⟩
  cases f5 : (d.seq == d'.seq)
  · go_wp2
    go_ret
    exact ⟨by simp [sameB, Dk.eqb, f5], N.out.be⟩
  go_wp2
  go_ret
  exact ⟨by simp [sameB, Dk.eqb, hll, f0, f1, f2, f3, f4, f5], N.out.be⟩
end Go.Proofs.Ytbchepdaomhgeaa.MM
