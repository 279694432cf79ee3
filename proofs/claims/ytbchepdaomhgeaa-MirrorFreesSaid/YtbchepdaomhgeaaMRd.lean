import Derived.Test.YtbchepdaomhgeaaMRa
/- Layer 14: which desks are right, by the document; what the selector is told. -/
namespace Go.Proofs.Ytbchepdaomhgeaa.MM
open Go.RowKit
set_option linter.unusedVariables false
set_option linter.unusedSimpArgs false
set_option maxRecDepth 100000 in
set_option maxHeartbeats 4000000 in
theorem refRight_else (gen k acked peer stage seq : Int) (s : Value) (l : List Ot) (w : World) (hs : Sl w s l) (h0 : inB gen = true) (h1 : inB k = true) (h2 : inB acked = true) (h3 : inB seq = true) (g0 : decide (acked ≤ k) = true) (g3 : decide ((l.length : Int) ≤ 64) = true) (g1 : decide (stage ≥ 0) = true) (g2 : decide (stage ≤ 3) = true) (hs0 : ¬ stage = 0) (hs3 : ¬ stage = 3) :
    Calls Try.prog 14 #[Dk.val ⟨gen, k, acked, peer, stage, seq⟩ s] w fun e w' => e = .returned (.bool (Dk.right ⟨gen, k, acked, peer, stage, seq⟩ l)) ∧ Below w.heap.size w w' := by
  obtain ⟨A, c, rfl, hc, hA, hw⟩ := hs
  have HW := Lib.hid hw
  clear hw hc hA
  have N : Hid (Scene w [(26, Dk.row ⟨gen, k, acked, peer, stage, seq⟩ (.slice A l.length c))] (w.alloc (.cells (Dk.row ⟨gen, k, acked, peer, stage, seq⟩ (.slice A l.length c)) 26))) := Lib.hid ((Scene.none w).push (by simp) _ _)
  have d0 : decide (acked > k) = false := decide_eq_false (by have := of_decide_eq_true g0; omega)
  have d3 : decide ((l.length : Int) > 64) = false := decide_eq_false (by have := of_decide_eq_true g3; omega)
  have HL : Hid (l.length ≤ 64) := Lib.hid (by have := of_decide_eq_true g3; omega)
  have d1 : decide (stage < 0) = false := decide_eq_false (by have := of_decide_eq_true g1; omega)
  have d2 : decide (stage > 3) = false := decide_eq_false (by have := of_decide_eq_true g2; omega)
  have ha : apartB stage = false := by simp [apartB, hs0, hs3]
  have e0 : (stage == 0) = false := by simp [hs0]
  have e3 : (stage == 3) = false := by simp [hs3]
  clear hs0 hs3
  go_enter Try.func14, Try.ntmps14
  go_wp2_with fail
  refine (refIn_same _ _).mono ?_
  rw [h0]
  rintro e _ ⟨rfl, rfl⟩
  go_wp2_with fail
  refine (refIn_same _ _).mono ?_
  rw [h1]
  rintro e _ ⟨rfl, rfl⟩
  go_wp2_with fail
  refine (refIn_same _ _).mono ?_
  rw [h2]
  rintro e _ ⟨rfl, rfl⟩
  go_wp2_with fail
  refine (refIn_same _ _).mono ?_
  rw [h3]
  rintro e _ ⟨rfl, rfl⟩
  go_wp2_with fail
  refine (refIn_same _ _).mono ?_
  rintro e _ ⟨rfl, rfl⟩
  cases hp : inB peer
  · go_wp2
    go_ret
    exact ⟨by simp [Dk.right, *], N.out.be⟩
  · go_wp2_with fail
    go_loopw [3] (fun i wr => ∃ j : Nat, j ≤ l.length ∧ i = .int .i64 j ∧ Hid (riseB k 0 (l.take j) = true) ∧ Hid (Scene w [(26, Dk.row ⟨gen, k, acked, peer, stage, seq⟩ (.slice A l.length c))] wr)) (fun i _ => l.length - (intOf i).toNat)
    case atStart => exact ⟨0, by omega, rfl, Lib.hid rfl, N⟩
    case round =>
      clear N
      obtain ⟨j, hj, rfl, R, N⟩ := hrel
      have hlt := N.out.r0.lt
      have cr := N.out.r0.cell
      by_cases hjl : j = l.length
      · subst hjl
        have hR := R.out
        rw [List.take_length] at hR
        go_wp2
        go_ret
        exact ⟨by simp [Dk.right, *], N.out.be⟩
      · have hlt2 : (j : Int) < l.length := by omega
        have hj0 : (0 : Int) ≤ j := by omega
        obtain ⟨b, off, rfl, hb, hc⟩ := (HW.out.below N.out.be) (by intro e; subst e; simp at hlt2; omega)
        obtain ⟨o, ho⟩ : ∃ o, l[j]? = some o := ⟨l[j]'(by omega), List.getElem?_eq_getElem (by omega)⟩
        obtain ⟨c0, _⟩ := hc j o ho
        have HC := Lib.hid hc
        have hw64 : IntKind.i64.wrap ((j : Int) + 1) = (j : Int) + 1 := by have := HL.out; simp [IntKind.wrap, IntKind.bits, IntKind.signed]; omega
        have O := Lib.hid ho
        have LK := Lib.hid hjl
        have HJ := Lib.hid hj
        clear hc ho hjl hj
        obtain ⟨ok, oa, ob, oc⟩ := o
        by_cases b8 : ok < 1
        · have d8 : decide (ok < 1) = true := decide_eq_true b8
          have hbad : riseB k 0 l = false := rise_bad O.out (.inl (by
            have := b8
            cases j with
            | zero => simp [lastK]; omega
            | succ j' =>
              have ho' : l[j']? = some (l[j']'(by have := HJ.out; omega)) := List.getElem?_eq_getElem _
              rw [lastK_succ ho']
              have hp := rise_pos (by exact R.out) (show (l.take (j' + 1))[j']? = some (l[j']'(by have := HJ.out; omega)) by rw [List.getElem?_take, if_pos (by omega)]; exact ho')
              dsimp only
              omega))
          clear b8
          go_wp2
          go_ret
          exact ⟨by simp [Dk.right, hbad], N.out.be⟩
        have d8 : decide (ok < 1) = false := decide_eq_false b8
        by_cases b9 : ok > k
        · have d9 : decide (ok > k) = true := decide_eq_true b9
          have hbad : riseB k 0 l = false := rise_bad O.out (.inr b9)
          clear b8 b9
          go_wp2
          go_ret
          exact ⟨by simp [Dk.right, hbad], N.out.be⟩
        have d9 : decide (ok > k) = false := decide_eq_false b9
        have B8 := Lib.hid b8
        have B9 := Lib.hid b9
        clear b8 b9
        cases j with
        | zero =>
          simp only [Nat.zero_mul, Nat.add_zero] at c0
          go_wp2
          go_roundw
          case rel => exact ⟨1, by have := LK.out; omega, by go_num, Lib.hid (rise_step O.out R.out (by show 0 < ok; have := B8.out; omega) (by show ok ≤ k; have := B9.out; omega)), N⟩
          case measure =>
            have := LK.out
            simp [intOf]
            omega
        | succ j' =>
          obtain ⟨o', ho'⟩ : ∃ o', l[j']? = some o' := ⟨l[j']'(by have := HJ.out; omega), List.getElem?_eq_getElem _⟩
          obtain ⟨c0', _⟩ := HC.out j' o' ho'
          have O' := Lib.hid ho'
          have hpos : decide (((j' + 1 : Nat) : Int) > 0) = true := decide_eq_true (by omega)
          have hw1 : IntKind.i64.wrap (((j' + 1 : Nat) : Int) - 1) = (j' : Int) := by have := HL.out; have := HJ.out; simp [IntKind.wrap, IntKind.bits, IntKind.signed]; omega
          have hw2 : (((j' + 1 : Nat) : Int) - 1) = (j' : Int) := by omega
          have hj1 : (0 : Int) ≤ j' := by omega
          have hn1 : ((j' : Int) + 1).toNat = j' + 1 := by omega
          have hn2 : (0 : Int) ≤ (j' : Int) + 1 := by omega
          have hn3 : (j' : Int) + 1 < l.length := by omega
          have hn4 : decide ((j' : Int) + 1 > 0) = true := decide_eq_true (by omega)
          have hn5 : IntKind.i64.wrap ((j' : Int) + 1 - 1) = (j' : Int) := by have := HL.out; have := HJ.out; simp [IntKind.wrap, IntKind.bits, IntKind.signed]; omega
          have hn6 : IntKind.i64.wrap ((j' : Int) + 1 + 1) = (j' : Int) + 1 + 1 := by have := HL.out; have := HJ.out; simp [IntKind.wrap, IntKind.bits, IntKind.signed]; omega
          have hj2 : (j' : Int) < l.length := by omega
          have hn7 : wrap64 (j' : Int) = j' := by have := HL.out; have := HJ.out; unfold wrap64; omega
          clear ho'
          by_cases b10 : ok ≤ o'.k
          · have d10 : decide (ok ≤ o'.k) = true := decide_eq_true b10
            have hbad : riseB k 0 l = false := rise_bad O.out (.inl (by rw [lastK_succ O'.out]; exact b10))
            clear b10
            go_wp2
            go_ret
            exact ⟨by simp [Dk.right, hbad], N.out.be⟩
          · have d10 : decide (ok ≤ o'.k) = false := decide_eq_false b10
            have B10 := Lib.hid b10
            clear b10
            have STEP : Hid (j' + 1 + 1 ≤ l.length ∧ l.length - (j' + 1 + 1) < l.length - (j' + 1)) := Lib.hid (by clear hw64 hw1 hw2 hn1 hn2 hn3 hn4 hn5 hn6 hn7 hpos; have := LK.out; have := HJ.out; omega)
            have RS : Hid (riseB k 0 (l.take (j' + 1 + 1)) = true) := Lib.hid (rise_step O.out R.out (by rw [lastK_succ O'.out]; exact Int.not_le.1 B10.out) (Int.not_lt.1 B9.out))
            go_wp2
            go_roundw
            case rel => exact ⟨j' + 1 + 1, STEP.out.1, by go_num, RS, N⟩
            case measure =>
              show l.length - ((j' : Int) + 1 + 1).toNat < l.length - ((j' : Int) + 1).toNat
              rw [toNat_two, hn1]
              exact STEP.out.2
end Go.Proofs.Ytbchepdaomhgeaa.MM
