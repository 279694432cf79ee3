import Derived.Test.YtmjncjaalleblaaQA
import Derived.Test.YtmjncjaalleblaaQT
/- Layer 4: the product. -/
namespace Go.Proofs.Ytmjncjaalleblaa.PQ
open Go.RowKit Go.Proofs.YtmjncjaalleblaaW.PrintWords Go.Proofs.YtmjncjaalleblaaW.PrintLast Go.Proofs.YtmjncjaalleblaaW.PrintMore
set_option linter.unusedVariables false
set_option linter.unusedSimpArgs false

/-- four numbers in a block of their own -/
abbrev Quat (w : World) (B : Nat) (p : Nat → Int) : Prop := Row w B 24 #[.int .i64 (p 0), .int .i64 (p 1), .int .i64 (p 2), .int .i64 (p 3)]
theorem Quat.at_ {w : World} {B : Nat} {p : Nat → Int} (h : Quat w B p) (k : Nat) (hk : k < 4) : w.cell? ⟨B, k, none⟩ = some (.int .i64 (p k)) := by
  rw [h.cell]
  obtain rfl | rfl | rfl | rfl : k = 0 ∨ k = 1 ∨ k = 2 ∨ k = 3 := by omega
  all_goals rfl
theorem bcell {W w1 : World} (hb : Below W.heap.size W w1) : (∀ b o, b < W.heap.size → w1.cell? ⟨b, o, none⟩ = W.cell? ⟨b, o, none⟩) ∧ (∀ b o, b < W.heap.size → w1.frozen? ⟨b, o, none⟩ = W.frozen? ⟨b, o, none⟩) :=
  ⟨fun b o h => hb.cell (p := ⟨b, o, none⟩) h, fun b o h => hb.frozen (p := ⟨b, o, none⟩) h⟩
theorem gcell {W w1 : World} {F : Nat} (hg : W.grownBy w1 (some F)) : ∀ b o, b < W.heap.size → b ≠ F → w1.cell? ⟨b, o, none⟩ = W.cell? ⟨b, o, none⟩ :=
  fun b o h hn => World.cell?_of_block (hg.block b h (by simpa using hn))
/-- a term -/
def trm (p q : Nat → Int) (i j : Nat) (s : Int) : Int := if s < 0 then subV 0 (mulV (p i) (q j)) else mulV (p i) (q j)
def trmO (p q : Nat → Int) (i j : Nat) (s : Int) (f : Bool) : Bool := if s < 0 then (f || mulO (p i) (q j)) || subO 0 (mulV (p i) (q j)) else f || mulO (p i) (q j)
theorem term_one {w w1 : World} {F A B : Nat} {f : Bool} {p q : Nat → Int} {cs : Array Value} (hf : Flag w F f) (hp : Quat w A p) (hq : Quat w B q)
    (hb : Below ((w.alloc (.cells cs 47)).drew).heap.size ((w.alloc (.cells cs 47)).drew) w1) : Flag w1 F f ∧ Quat w1 A p ∧ Quat w1 B q ∧ Row w1 w.heap.size 47 cs ∧ Below w.heap.size w w1 := by
  have e : ((w.alloc (.cells cs 47)).drew).heap.size = w.heap.size + 1 := by simp
  rw [e] at hb
  have l1 := hf.lt
  have l2 := hp.lt
  have l3 := hq.lt
  exact ⟨((hf.alloc _).drew).below hb (by omega), ((hp.alloc _).drew).below hb (by omega), ((hq.alloc _).drew).below hb (by omega), ((Row.new w 47 cs).drew).below hb (by omega),
    (((Below.refl w.heap.size w).alloc (Nat.le_refl _) _).drew).trans (hb.mono (by omega))⟩
theorem term_two {w w1 w2 : World} {F A B X : Nat} {p q : Nat → Int} {cs : Array Value} (hp : Quat w1 A p) (hq : Quat w1 B q) (hX : Row w1 X 47 cs) (hB : Below w.heap.size w w1) (hg : w1.grownBy w2 (some F)) (nA : A ≠ F) (nB : B ≠ F) (nX : X ≠ F) :
    Quat w2 A p ∧ Quat w2 B q ∧ Row w2 X 47 cs ∧ w.grownBy w2 (some F) :=
  ⟨hp.grown hg (by simpa using nA), hq.grown hg (by simpa using nB), hX.grown hg (by simpa using nX), grown_trans (grown_of_below hB _) hg⟩
set_option maxHeartbeats 2000000 in
theorem term_calls (F A B i j : Nat) (s : Int) (f : Bool) (p q : Nat → Int) (w : World) (hi : i < 4) (hj : j < 4) (hf : Flag w F f) (hp : Quat w A p) (hq : Quat w B q) (hA : A ≠ F) (hB : B ≠ F) :
    Calls Try.prog 23 #[.agg #[.int .i64 i, .int .i64 j, .int .i64 s], .pointer (some ⟨F, 0, none⟩), .pointer (some ⟨A, 0, none⟩), .pointer (some ⟨B, 0, none⟩)] w
      (Flagged w F (.int .i64 (trm p q i j s)) (trmO p q i j s f)) := by
  have ci := hp.at_ i hi
  have cj := hq.at_ j hj
  have lF := hf.lt
  have lA := hp.lt
  have lB := hq.lt
  have HF := Lib.hid hf
  have HP := Lib.hid hp
  have HQ := Lib.hid hq
  have HA := Lib.hid hA
  have HB := Lib.hid hB
  clear hf hp hq hA hB
  have HX := Lib.hid (show w.heap.size ≠ F by omega)
  have i0 : (0 : Int) ≤ (i : Int) := Int.natCast_nonneg _
  have i1 : (i : Int) < 4 := by omega
  have j0 : (0 : Int) ≤ (j : Int) := Int.natCast_nonneg _
  have j1 : (j : Int) < 4 := by omega
  go_enter Try.func23, Try.ntmps23
  go_wp2_with fail
  go_region_held3 (fun w' => w'.cell? ⟨w.heap.size, 0, none⟩ = some (.int .i64 i) ∧ w'.cell? ⟨w.heap.size, 1, none⟩ = some (.int .i64 j) ∧ w'.cell? ⟨A, i, none⟩ = some (.int .i64 (p i)) ∧ w'.cell? ⟨B, j, none⟩ = some (.int .i64 (q j))) (go_keep)
    (first
      | (go_at_call 25
         refine (mul_calls _ _ _).mono ?_
         rintro e w1 ⟨rfl, hb⟩
         obtain ⟨h1, h2, h3, h4, h5⟩ := term_one HF.out HP.out HQ.out hb
         have ca1 := h2.at_ i hi
         have cb1 := h3.at_ j hj
         have cx10 := h4.cell 0
         have cx11 := h4.cell 1
         have H1 := Lib.hid h1
         have H2 := Lib.hid h2
         have H3 := Lib.hid h3
         have H4 := Lib.hid h4
         have H5 := Lib.hid h5
         clear hb h1 h2 h3 h4 h5)
      | (go_at_call 24
         refine (one_calls F f _ _ _ H1.out).mono ?_
         rintro e w2 ⟨rfl, hg, hf2⟩
         obtain ⟨h2, h3, h4, h5⟩ := term_two H2.out H3.out H4.out H5.out hg HA.out HB.out HX.out
         have ca2 := h2.at_ i hi
         have cb2 := h3.at_ j hj
         have cx20 := h4.cell 0
         have cx21 := h4.cell 1
         have cx22 := h4.cell 2
         have J1 := Lib.hid hf2
         have J5 := Lib.hid h5
         clear hg hf2 h2 h3 h4 h5))
  all_goals
    by_cases hs : s < 0
    · have hs' : decide (s < 0) = true := decide_eq_true hs
      go_wp2_with fail
      refine (less_calls F _ _ _ J1.out).mono ?_
      rintro e w3 ⟨rfl, hg3, hf3⟩
      have G3 := Lib.hid (grown_trans J5.out hg3)
      have F3 := Lib.hid hf3
      clear hg3 hf3
      go_wp2
      go_ret
      exact ⟨by simp [trm, hs], G3.out, by simpa [trmO, hs] using F3.out⟩
    · have hs' : decide (s < 0) = false := decide_eq_false hs
      go_wp2
      go_ret
      have e1 : trm p q i j s = mulV (p i) (q j) := if_neg (by omega)
      have e2 : trmO p q i j s f = (f || mulO (p i) (q j)) := if_neg (by omega)
      exact ⟨by simp [e1], J5.out, by rw [e2]; exact J1.out⟩
end Go.Proofs.Ytmjncjaalleblaa.PQ
