import Derived.Test.YtbchepdaomhgeaaMA
/- Layer 14: bounds, and what may be put out. -/
namespace Go.Proofs.Ytbchepdaomhgeaa.MM
open Go.RowKit
set_option linter.unusedVariables false
set_option linter.unusedSimpArgs false

def Dk.bound (d : Dk) : Int := if d.stage = 0 ∨ d.stage = 1 then d.k else d.acked
def Dk.refBound (d : Dk) : Int := if d.stage < 2 then d.k else d.acked
theorem bound_calls (d : Dk) (s : Value) (w : World) : Calls Try.prog 15 #[d.val s] w fun e w' => e = .returned (I d.bound) ∧ Below w.heap.size w w' := by
  obtain ⟨gen, k, acked, peer, stage, seq⟩ := d
  have HB := Lib.hid ((Below.refl w.heap.size w).alloc (Nat.le_refl _) (.cells (Dk.row ⟨gen, k, acked, peer, stage, seq⟩ s) 26))
  by_cases h : stage = 0
  · subst h
    go_enter Try.func15, Try.ntmps15
    go_wp2
    go_ret
    exact ⟨rfl, HB.out⟩
  · have h0 : (stage == 0) = false := by simp [h]
    have H := Lib.hid h
    clear h
    by_cases h : stage = 1
    · subst h
      go_enter Try.func15, Try.ntmps15
      go_wp2
      go_ret
      exact ⟨rfl, HB.out⟩
    · have h1 : (stage == 1) = false := by simp [h]
      have H1 := Lib.hid h
      clear h
      go_enter Try.func15, Try.ntmps15
      go_wp2
      go_ret
      exact ⟨by simp [Dk.bound, H.out, H1.out], HB.out⟩
theorem refBound_calls (d : Dk) (s : Value) (w : World) : Calls Try.prog 33 #[d.val s] w fun e w' => e = .returned (I d.refBound) ∧ Below w.heap.size w w' := by
  obtain ⟨gen, k, acked, peer, stage, seq⟩ := d
  have HB := Lib.hid ((Below.refl w.heap.size w).alloc (Nat.le_refl _) (.cells (Dk.row ⟨gen, k, acked, peer, stage, seq⟩ s) 26))
  by_cases h : stage < 2
  · have h0 : decide (stage < 2) = true := decide_eq_true h
    have H := Lib.hid h
    clear h
    go_enter Try.func33, Try.ntmps33
    go_wp2
    go_ret
    exact ⟨by simp [Dk.refBound, H.out], HB.out⟩
  · have h0 : decide (stage < 2) = false := decide_eq_false h
    have H := Lib.hid h
    clear h
    go_enter Try.func33, Try.ntmps33
    go_wp2
    go_ret
    exact ⟨by simp [Dk.refBound, Int.not_lt.2 H.out], HB.out⟩
def apartB (n : Int) : Bool := decide (n = 0) || decide (n = 3)
theorem apart_calls (B : Nat) (t : TypeId) (d : Dk) (s : Value) (w : World) (hr : Row w B t (d.row s)) : Calls Try.prog 39 #[.pointer (some ⟨B, 0, none⟩)] w fun e w' => e = .returned (.bool (apartB d.stage)) ∧ w' = w := by
  obtain ⟨gen, k, acked, peer, stage, seq⟩ := d
  have c := hr.cell
  clear hr
  by_cases h : stage = 0
  · subst h
    go_enter Try.func39, Try.ntmps39
    go_wp2
    go_ret
    exact ⟨rfl, rfl⟩
  · have h0 : (stage == 0) = false := by simp [h]
    have H := Lib.hid h
    clear h
    go_enter Try.func39, Try.ntmps39
    go_wp2
    go_ret
    have e : (stage == 3) = decide (stage = 3) := by by_cases h3 : stage = 3 <;> simp [h3]
    exact ⟨by simp [apartB, H.out, e], rfl⟩
theorem cell_lt {w : World} {a : Addr} {v : Value} (h : w.cell? a = some v) : a.block < w.heap.size := by
  rcases Nat.lt_or_ge a.block w.heap.size with hl | hl
  · exact hl
  · simp [World.cell?, Array.getElem?_eq_none hl] at h
theorem over_calls (o : Ot) (B : Nat) (n : Int) (w : World) (hr : w.cell? ⟨B, 0, none⟩ = some (I n)) : Calls Try.prog 36 #[o.val, .pointer (some ⟨B, 0, none⟩)] w fun e w' => e = .returned (.bool (decide (o.k > n))) ∧ Below w.heap.size w w' := by
  obtain ⟨k, a, b, c⟩ := o
  have HB := Lib.hid ((Below.refl w.heap.size w).alloc (Nat.le_refl _) (.cells (Ot.row ⟨k, a, b, c⟩) 37))
  have hl : B < w.heap.size := by
    rcases Nat.lt_or_ge B w.heap.size with hl | hl
    · exact hl
    · simp [World.cell?, Array.getElem?_eq_none hl] at hr
  go_enter Try.func36, Try.ntmps36
  go_wp2
  go_ret
  exact ⟨by simp, HB.out⟩
/-- the first one that is above n -/
def firstOver (n : Int) : List Ot → Option Nat
  | [] => none
  | o :: l => if o.k > n then some 0 else (firstOver n l).map (· + 1)
def idx (o : Option Nat) : Int := match o with | some i => i | none => -1
theorem firstOver_none {n : Int} : ∀ {l : List Ot}, (∀ (j : Nat) (o : Ot), j < l.length → l[j]? = some o → o.k ≤ n) → firstOver n l = none := by
  intro l
  induction l with
  | nil => intro _; rfl
  | cons x l ih =>
    intro h
    have h0 := h 0 x (by simp) rfl
    unfold firstOver
    rw [if_neg (by omega), ih (fun j o hj ho => h (j + 1) o (by simp; omega) ho)]
    rfl
theorem firstOver_some {n : Int} : ∀ {l : List Ot} {k : Nat} {o : Ot}, (∀ (j : Nat) (o : Ot), j < k → l[j]? = some o → o.k ≤ n) → l[k]? = some o → o.k > n → firstOver n l = some k := by
  intro l
  induction l with
  | nil => intro k o _ ho; simp at ho
  | cons x l ih =>
    intro k o h ho hk
    unfold firstOver
    cases k with
    | zero =>
      simp at ho
      subst ho
      rw [if_pos hk]
    | succ k =>
      have h0 := h 0 x (by omega) rfl
      rw [if_neg (by omega), ih (fun j o hj ho => h (j + 1) o (by omega) ho) ho hk]
      rfl
theorem index_calls (A : Option Addr) (c : Nat) (l : List Ot) (B : Nat) (n : Int) (w : World) (hw : Wts w w.heap.size A l) (hlen : l.length ≤ 64) (hr : w.cell? ⟨B, 0, none⟩ = some (I n)) :
    Calls Try.prog 35 #[.slice A l.length c, .func (.func 36) #[] #[.pointer (some ⟨B, 0, none⟩)]] w fun e w' => e = .returned (I (idx (firstOver n l))) ∧ Below w.heap.size w w' := by
  have HW := Lib.hid hw
  have HR := Lib.hid hr
  have HL := Lib.hid hlen
  clear hw hr hlen
  go_enter Try.func35, Try.ntmps35
  go_wp2_with fail
  go_loopw [8] (fun i wr => ∃ k : Nat, k ≤ l.length ∧ i = .int .i64 k ∧ Hid (∀ (j : Nat) (o : Ot), j < k → l[j]? = some o → o.k ≤ n) ∧ Hid (Below w.heap.size w wr)) (fun i _ => l.length - (intOf i).toNat)
  case atStart => exact ⟨0, by omega, rfl, Lib.hid (fun j o hj => by omega), Lib.hid (Below.refl _ _)⟩
  case round =>
    obtain ⟨k, hk, rfl, N, HB⟩ := hrel
    by_cases hkl : k = l.length
    · subst hkl
      go_wp2
      go_ret
      exact ⟨by rw [firstOver_none N.out]; rfl, HB.out⟩
    · have hlt : (k : Int) < l.length := by omega
      have hk0 : (0 : Int) ≤ k := by omega
      have hle := HL.out
      obtain ⟨b, off, rfl, hb, hc⟩ := (HW.out.below HB.out) (by intro e; subst e; simp at hlt; omega)
      obtain ⟨o, ho⟩ : ∃ o, l[k]? = some o := ⟨l[k]'(by omega), List.getElem?_eq_getElem (by omega)⟩
      obtain ⟨c0, c1, c2, c3⟩ := hc k o ho
      clear hc
      have hr := (HB.out.cell (p := ⟨B, 0, none⟩) (cell_lt HR.out)).trans HR.out
      have O := Lib.hid ho
      have LK := Lib.hid hkl
      clear ho hkl hle hk
      go_wp2_with fail
      refine (over_calls o B n _ hr).mono ?_
      rintro e w1 ⟨rfl, hb1⟩
      have HB1 := Lib.hid (HB.out.trans (hb1.mono HB.out.size))
      clear hb1 HB c0 c1 c2 c3 hr
      by_cases hov : o.k > n
      · have h1 : decide (o.k > n) = true := decide_eq_true hov
        have HO := Lib.hid hov
        clear hov
        go_wp2
        go_ret
        exact ⟨by rw [firstOver_some N.out O.out HO.out]; rfl, HB1.out⟩
      · have h1 : decide (o.k > n) = false := decide_eq_false hov
        have HO := Lib.hid hov
        clear hov
        have hw64 : IntKind.i64.wrap ((k : Int) + 1) = (k : Int) + 1 := by have := HL.out; simp [IntKind.wrap, IntKind.bits, IntKind.signed]; omega
        go_wp2
        go_roundw
        case rel => exact ⟨k + 1, by have := LK.out; omega, by go_num, Lib.hid (fun j o' hj ho' => by
          rcases Nat.lt_or_ge j k with h | h
          · exact N.out j o' h ho'
          · obtain rfl : j = k := by omega
            rw [O.out] at ho'
            injection ho' with ho'
            subst ho'
            have := HO.out
            omega), HB1⟩
        case measure =>
          have := LK.out
          simp [intOf]
          omega
end Go.Proofs.Ytbchepdaomhgeaa.MM
