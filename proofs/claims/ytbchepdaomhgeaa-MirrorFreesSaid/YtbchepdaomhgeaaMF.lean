import Derived.Test.YtbchepdaomhgeaaME
/- Layer 14: what rises. -/
namespace Go.Proofs.Ytbchepdaomhgeaa.MM
open Go.RowKit
set_option linter.unusedVariables false
set_option linter.unusedSimpArgs false
theorem in_same (n : Int) (w : World) : Calls Try.prog 42 #[I n] w fun e w' => e = .returned (.bool (inB n)) ∧ w' = w := by
  by_cases h : 0 ≤ n
  · have h0 : decide (0 ≤ n) = true := decide_eq_true h
    go_enter Try.func42, Try.ntmps42
    go_wp2
    go_ret
    exact ⟨by simp [inB, h], rfl⟩
  · have h0 : decide (0 ≤ n) = false := decide_eq_false h
    go_enter Try.func42, Try.ntmps42
    go_wp2
    go_ret
    exact ⟨by simp [inB, h0], rfl⟩
/-- places rise from 'last' on, up to k -/
def riseB (k : Int) : Int → List Ot → Bool
  | _, [] => true
  | last, o :: l => !(decide (o.k ≤ last) || decide (o.k > k)) && riseB k o.k l
/-- the last place of the first i, behind 'last' -/
def lastK (last : Int) (l : List Ot) (i : Nat) : Int := match i with | 0 => last | i + 1 => match l[i]? with | some o => o.k | none => 0
theorem riseB_split (k : Int) : ∀ (l : List Ot) (last : Int) (i : Nat), i ≤ l.length → riseB k last l = (riseB k last (l.take i) && riseB k (lastK last l i) (l.drop i)) := by
  intro l
  induction l with
  | nil => intro last i hi; simp at hi; subst hi; rfl
  | cons x l ih =>
    intro last i hi
    cases i with
    | zero => simp [riseB, lastK]
    | succ i =>
      simp only [List.take_succ_cons, List.drop_succ_cons, riseB]
      rw [ih x.k i (by simpa using hi), Bool.and_assoc]
      congr 2
      cases i with
      | zero => rfl
      | succ i => simp [lastK]
theorem lastK_take {last : Int} {l : List Ot} {i j : Nat} (h : i ≤ j) : lastK last (l.take j) i = lastK last l i := by
  cases i with
  | zero => rfl
  | succ i => simp only [lastK]; rw [List.getElem?_take, if_pos (by omega)]
theorem rise_bad {k last : Int} {l : List Ot} {j : Nat} {o : Ot} (ho : l[j]? = some o) (h : o.k ≤ lastK last l j ∨ o.k > k) : riseB k last l = false := by
  have hj : j < l.length := by
    rcases Nat.lt_or_ge j l.length with hl | hl
    · exact hl
    · rw [List.getElem?_eq_none hl] at ho; cases ho
  rw [riseB_split k l last j (by omega), List.drop_eq_getElem_cons hj]
  have e : l[j] = o := by rw [List.getElem?_eq_getElem hj] at ho; injection ho
  rw [e, riseB]
  rcases h with h | h <;> simp [h]
theorem rise_step {k last : Int} {l : List Ot} {j : Nat} {o : Ot} (ho : l[j]? = some o) (hr : riseB k last (l.take j) = true) (h : lastK last l j < o.k) (h2 : o.k ≤ k) : riseB k last (l.take (j + 1)) = true := by
  have hj : j < l.length := by
    rcases Nat.lt_or_ge j l.length with hl | hl
    · exact hl
    · rw [List.getElem?_eq_none hl] at ho; cases ho
  have e : l[j] = o := by rw [List.getElem?_eq_getElem hj] at ho; injection ho
  have hd : (l.take (j + 1)).drop j = [o] := by
    rw [List.drop_take, List.drop_eq_getElem_cons hj, e, show j + 1 - j = 1 by omega]; rfl
  rw [riseB_split k (l.take (j + 1)) last j (by simp; omega), List.take_take, Nat.min_eq_left (by omega), hr, lastK_take (by omega), hd]
  simp [riseB]
  omega
theorem lastK_succ {last : Int} {l : List Ot} {j : Nat} {o : Ot} (ho : l[j]? = some o) : lastK last l (j + 1) = o.k := by simp only [lastK, ho]
set_option maxRecDepth 100000 in
theorem rise_calls (B : Nat) (d : Dk) (A : Option Addr) (c : Nat) (l : List Ot) (w : World) (hr : Row w B 69 (d.row (.slice A l.length c))) (hw : Wts w w.heap.size A l) (hl : l.length ≤ 64) :
    Calls Try.prog 43 #[.pointer (some ⟨B, 0, none⟩)] w fun e w' => e = .returned (.bool (riseB d.k 0 l)) ∧ Below w.heap.size w w' := by
  obtain ⟨gen, k, acked, peer, stage, seq⟩ := d
  have HR := Lib.hid hr
  have HW := Lib.hid hw
  have HL := Lib.hid hl
  have cr := hr.cell
  clear hr hw hl
  go_enter Try.func43, Try.ntmps43
  go_wp2_with fail
  go_loopw [3, 12] (fun s i wr => ∃ j : Nat, j ≤ l.length ∧ i = .int .i64 j ∧ s = I (lastK 0 l j) ∧ Hid (riseB k 0 (l.take j) = true) ∧ Hid (Below w.heap.size w wr)) (fun _ i _ => l.length - (intOf i).toNat)
  case atStart => exact ⟨0, by omega, rfl, rfl, Lib.hid rfl, Lib.hid (Below.refl _ _)⟩
  case round =>
    obtain ⟨j, hj, rfl, rfl, N, HB⟩ := hrel
    clear cr
    have HR2 := Lib.hid (HR.out.below HB.out HR.out.lt)
    have hlt := HR2.out.lt
    have cr := HR2.out.cell
    by_cases hjl : j = l.length
    · subst hjl
      go_wp2
      go_ret
      exact ⟨by have := N.out; rw [List.take_length] at this; rw [this]; rfl, HB.out⟩
    · have hlt2 : (j : Int) < l.length := by omega
      have hj0 : (0 : Int) ≤ j := by omega
      obtain ⟨b, off, rfl, hb, hc⟩ := (HW.out.below HB.out) (by intro e; subst e; simp at hlt2; omega)
      obtain ⟨o, ho⟩ : ∃ o, l[j]? = some o := ⟨l[j]'(by omega), List.getElem?_eq_getElem (by omega)⟩
      obtain ⟨c0, c1, c2, c3⟩ := hc j o ho
      have hw64 : IntKind.i64.wrap ((j : Int) + 1) = (j : Int) + 1 := by have := HL.out; simp [IntKind.wrap, IntKind.bits, IntKind.signed]; omega
      have O := Lib.hid ho
      have LK := Lib.hid hjl
      have HJ := Lib.hid hj
      clear hc ho hjl hj
      generalize hlk : lastK 0 l j = last at *
      have HLK := Lib.hid hlk
      clear hlk
      obtain ⟨ok, oa, ob, oc⟩ := o
      have R5 := Lib.hid (Row.new wr 37 #[I ok, I oa, I ob, I oc]).drew
      have HR5 := Lib.hid ((HR2.out.alloc (.cells #[I ok, I oa, I ob, I oc] 37)).drew)
      have HB5 := Lib.hid ((HB.out.alloc HB.out.size (.cells #[I ok, I oa, I ob, I oc] 37)).drew)
      have hok := R5.out.cell 0
      have hB5 := HR5.out.cell 1
      clear HR
      by_cases h1 : ok ≤ last
      · have d1 : decide (ok ≤ last) = true := decide_eq_true h1
        have H1 := Lib.hid h1
        clear h1
        go_wp2
        go_region
        all_goals go_wp2
        all_goals go_ret
        all_goals exact ⟨by rw [rise_bad O.out (.inl (by rw [HLK.out]; exact H1.out))]; rfl, HB5.out⟩
      · have d1 : decide (ok ≤ last) = false := decide_eq_false h1
        have H1 := Lib.hid h1
        clear h1
        by_cases h2 : ok > k
        · have d2 : decide (ok > k) = true := decide_eq_true h2
          have H2 := Lib.hid h2
          clear h2
          go_wp2
          go_region
          all_goals go_wp2
          all_goals go_ret
          all_goals exact ⟨by rw [rise_bad O.out (.inr H2.out)]; rfl, HB5.out⟩
        · have d2 : decide (ok > k) = false := decide_eq_false h2
          have H2 := Lib.hid h2
          clear h2
          go_wp2
          go_region
          all_goals go_wp2
          all_goals go_roundw
          all_goals first
            | exact ⟨j + 1, by have := HJ.out; have := LK.out; omega, by go_num, by rw [lastK_succ O.out], Lib.hid (rise_step O.out N.out (by rw [HLK.out]; have := H1.out; omega) (by have := H2.out; dsimp only at this ⊢; omega)), HB5⟩
            | (simp [intOf]; omega)
end Go.Proofs.Ytbchepdaomhgeaa.MM
