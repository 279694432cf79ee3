import Derived.Test.YtmjncjaalleblaaQB
/- Layer 4: the product. -/
namespace Go.Proofs.Ytmjncjaalleblaa.PQ
open Go.RowKit Go.Proofs.YtmjncjaalleblaaW.PrintWords Go.Proofs.YtmjncjaalleblaaW.PrintLast Go.Proofs.YtmjncjaalleblaaW.PrintMore
set_option linter.unusedVariables false
set_option linter.unusedSimpArgs false

/-- what lies in memory in a product: both factors, the result, the flag, what is put out -/
structure MS (w0 : World) (p q : Nat → Int) (f : Bool) (out : Array Value) (w : World) : Prop where
  rp : Quat w w0.heap.size p
  rq : Quat w (w0.heap.size + 1) q
  rr : Row w (w0.heap.size + 1 + 1) 24 #[.int .i64 0, .int .i64 0, .int .i64 0, .int .i64 0]
  fl : Flag w (w0.heap.size + 1 + 1 + 1) f
  ou : Row w (w0.heap.size + 1 + 1 + 1 + 1) 24 out
  be : Below w0.heap.size w0 w
section
variable {w0 w w' : World} {p q : Nat → Int} {f f' : Bool} {out : Array Value}
theorem MS.below (h : MS w0 p q f out w) (hb : Below w.heap.size w w') : MS w0 p q f out w' :=
  ⟨h.rp.below hb h.rp.lt, h.rq.below hb h.rq.lt, h.rr.below hb h.rr.lt, h.fl.below hb h.fl.lt, h.ou.below hb h.ou.lt, h.be.trans (hb.mono h.be.size)⟩
theorem MS.alloc (h : MS w0 p q f out w) (o : Obj) : MS w0 p q f out (w.alloc o) :=
  ⟨h.rp.alloc o, h.rq.alloc o, h.rr.alloc o, h.fl.alloc o, h.ou.alloc o, h.be.alloc h.be.size o⟩
theorem MS.drew (h : MS w0 p q f out w) : MS w0 p q f out w.drew := ⟨h.rp, h.rq, h.rr, h.fl, h.ou, h.be.drew⟩
theorem MS.flagged (h : MS w0 p q f out w) (hg : w.grownBy w' (some (w0.heap.size + 1 + 1 + 1))) (hf : Flag w' (w0.heap.size + 1 + 1 + 1) f') : MS w0 p q f' out w' :=
  ⟨h.rp.grown hg (by (try simp); (try omega)), h.rq.grown hg (by (try simp); (try omega)), h.rr.grown hg (by (try simp); (try omega)), hf, h.ou.grown hg (by (try simp); (try omega)),
    ⟨hg.os.trans h.be.os, hg.tape.trans h.be.tape, hg.output.trans h.be.output, Nat.le_trans h.be.size hg.size, fun k hk => (hg.block k (Nat.lt_of_lt_of_le hk h.be.size) (by (try simp); (try omega))).trans (h.be.block k hk)⟩⟩
theorem MS.put (h : MS w0 p q f out w) (i : Nat) (u : Value) : MS w0 p q f (out.setIfInBounds i u) (w.setCell ⟨w0.heap.size + 1 + 1 + 1 + 1, i, none⟩ u) :=
  ⟨h.rp.far (by (try simp); (try omega)) u, h.rq.far (by (try simp); (try omega)) u, h.rr.far (by (try simp); (try omega)) u, h.fl.far (by (try simp); (try omega)) u, h.ou.set i u, h.be.setCell (by (try simp); (try omega)) u⟩
end
theorem Row.at_ (w : World) (t : TypeId) (cs : Array Value) {B : Nat} (h : B = w.heap.size) : Row (w.alloc (.cells cs t)) B t cs := h ▸ Row.new w t cs
theorem term_any (a b s : Int) (F A B : Nat) (f : Bool) (p q : Nat → Int) (w : World) (ha : 0 ≤ a ∧ a < 4) (hb : 0 ≤ b ∧ b < 4) (hf : Flag w F f) (hp : Quat w A p) (hq : Quat w B q) (hA : A ≠ F) (hB : B ≠ F) :
    Calls Try.prog 23 #[.agg #[.int .i64 a, .int .i64 b, .int .i64 s], .pointer (some ⟨F, 0, none⟩), .pointer (some ⟨A, 0, none⟩), .pointer (some ⟨B, 0, none⟩)] w
      (Flagged w F (.int .i64 (trm p q a.toNat b.toNat s)) (trmO p q a.toNat b.toNat s f)) := by
  have h := term_calls F A B a.toNat b.toNat s f p q w (by omega) (by omega) hf hp hq hA hB
  rwa [Int.toNat_of_nonneg ha.1, Int.toNat_of_nonneg hb.1] at h
/-- a number of the product, and the flag behind it -/
def comp (p q : Nat → Int) : Nat → Int
  | 0 => sumV (at3 (trm p q 1 1 (-1)) (trm p q 2 2 (-1)) (trm p q 3 3 (-1))) (trm p q 0 0 1) 3
  | 1 => sumV (at3 (trm p q 1 0 1) (trm p q 2 3 1) (trm p q 3 2 (-1))) (trm p q 0 1 1) 3
  | 2 => sumV (at3 (trm p q 1 3 (-1)) (trm p q 2 0 1) (trm p q 3 1 1)) (trm p q 0 2 1) 3
  | _ => sumV (at3 (trm p q 1 2 1) (trm p q 2 1 (-1)) (trm p q 3 0 1)) (trm p q 0 3 1) 3
def compO (p q : Nat → Int) (f : Bool) : Nat → Bool
  | 0 => sumO (at3 (trm p q 1 1 (-1)) (trm p q 2 2 (-1)) (trm p q 3 3 (-1))) (trmO p q 3 3 (-1) (trmO p q 2 2 (-1) (trmO p q 1 1 (-1) (trmO p q 0 0 1 f)))) (trm p q 0 0 1) 3
  | 1 => sumO (at3 (trm p q 1 0 1) (trm p q 2 3 1) (trm p q 3 2 (-1))) (trmO p q 3 2 (-1) (trmO p q 2 3 1 (trmO p q 1 0 1 (trmO p q 0 1 1 f)))) (trm p q 0 1 1) 3
  | 2 => sumO (at3 (trm p q 1 3 (-1)) (trm p q 2 0 1) (trm p q 3 1 1)) (trmO p q 3 1 1 (trmO p q 2 0 1 (trmO p q 1 3 (-1) (trmO p q 0 2 1 f)))) (trm p q 0 2 1) 3
  | _ => sumO (at3 (trm p q 1 2 1) (trm p q 2 1 (-1)) (trm p q 3 0 1)) (trmO p q 3 0 1 (trmO p q 2 1 (-1) (trmO p q 1 2 1 (trmO p q 0 3 1 f)))) (trm p q 0 3 1) 3
def flagK (p q : Nat → Int) : Nat → Bool
  | 0 => false
  | k + 1 => compO p q (flagK p q k) k
def outK (p q : Nat → Int) : Nat → Array Value
  | 0 => #[.int .i64 0, .int .i64 0, .int .i64 0, .int .i64 0]
  | k + 1 => (outK p q k).setIfInBounds k (.int .i64 (comp p q k))
def rowV : Nat → Array Value
  | 0 => #[.int .i64 0, .int .i64 0, .int .i64 1, .int .i64 1, .int .i64 1, .int .i64 (-1), .int .i64 2, .int .i64 2, .int .i64 (-1), .int .i64 3, .int .i64 3, .int .i64 (-1)]
  | 1 => #[.int .i64 0, .int .i64 1, .int .i64 1, .int .i64 1, .int .i64 0, .int .i64 1, .int .i64 2, .int .i64 3, .int .i64 1, .int .i64 3, .int .i64 2, .int .i64 (-1)]
  | 2 => #[.int .i64 0, .int .i64 2, .int .i64 1, .int .i64 1, .int .i64 3, .int .i64 (-1), .int .i64 2, .int .i64 0, .int .i64 1, .int .i64 3, .int .i64 1, .int .i64 1]
  | _ => #[.int .i64 0, .int .i64 3, .int .i64 1, .int .i64 1, .int .i64 2, .int .i64 1, .int .i64 2, .int .i64 1, .int .i64 (-1), .int .i64 3, .int .i64 0, .int .i64 1]
theorem ix0 (w : World) : (Instr.index 53 (.agg termsV) (.int .i64 0)).run Try.prog w = .ok (.agg #[.int .i64 0, .int .i64 0, .int .i64 1, .int .i64 1, .int .i64 1, .int .i64 (-1), .int .i64 2, .int .i64 2, .int .i64 (-1), .int .i64 3, .int .i64 3, .int .i64 (-1)]) w := by kernel_rfl
theorem ix1 (w : World) : (Instr.index 53 (.agg termsV) (.int .i64 1)).run Try.prog w = .ok (.agg #[.int .i64 0, .int .i64 1, .int .i64 1, .int .i64 1, .int .i64 0, .int .i64 1, .int .i64 2, .int .i64 3, .int .i64 1, .int .i64 3, .int .i64 2, .int .i64 (-1)]) w := by kernel_rfl
theorem ix2 (w : World) : (Instr.index 53 (.agg termsV) (.int .i64 2)).run Try.prog w = .ok (.agg #[.int .i64 0, .int .i64 2, .int .i64 1, .int .i64 1, .int .i64 3, .int .i64 (-1), .int .i64 2, .int .i64 0, .int .i64 1, .int .i64 3, .int .i64 1, .int .i64 1]) w := by kernel_rfl
theorem ix3 (w : World) : (Instr.index 53 (.agg termsV) (.int .i64 3)).run Try.prog w = .ok (.agg #[.int .i64 0, .int .i64 3, .int .i64 1, .int .i64 1, .int .i64 2, .int .i64 1, .int .i64 2, .int .i64 1, .int .i64 (-1), .int .i64 3, .int .i64 0, .int .i64 1]) w := by kernel_rfl

set_option maxRecDepth 100000 in
set_option maxHeartbeats 4000000 in
theorem mul_start (p q : Nat → Int) (w : World) :
    Calls Try.prog 11 #[.agg #[.int .i64 (p 0), .int .i64 (p 1), .int .i64 (p 2), .int .i64 (p 3)], .agg #[.int .i64 (q 0), .int .i64 (q 1), .int .i64 (q 2), .int .i64 (q 3)]] w fun e w' =>
      e = .returned (.tuple #[.agg (outK p q 4), .bool (flagK p q 4)]) ∧ Below w.heap.size w w' := by
  go_enter Try.func11, Try.ntmps11
  go_wp2_with fail
  refine (terms_calls _).mono ?_
  rintro e w1 ⟨rfl, hb⟩
  have M : Hid (MS w p q false (outK p q 0) w1) := by
    refine Lib.hid (MS.below ⟨?_, ?_, ?_, ?_, ?_, ?_⟩ hb)
    · exact ((((Row.new w 24 _).alloc _).alloc _).alloc _).alloc _
    · exact (((Row.at_ (w.alloc _) 24 _ (by simp)).alloc _).alloc _).alloc _
    · exact ((Row.at_ ((w.alloc _).alloc _) 24 _ (by simp)).alloc _).alloc _
    · exact (Row.at_ (((w.alloc _).alloc _).alloc _) 46 _ (by simp)).alloc _
    · exact Row.at_ ((((w.alloc _).alloc _).alloc _).alloc _) 24 _ (by simp)
    · exact (((((Below.refl _ w).alloc (by simp) _).alloc (by simp) _).alloc (by simp; omega) _).alloc (by simp; omega) _).alloc (by simp; omega) _
  clear hb
  go_wp2_with fail
  go_loopw [13] (fun i wr => ∃ k : Nat, k ≤ 4 ∧ i = .int .i64 k ∧ Hid (MS w p q (flagK p q k) (outK p q k) wr)) (fun i _ => 4 - (intOf i).toNat)
  case atStart => exact ⟨0, by omega, rfl, M⟩
  case round =>
    clear M
    obtain ⟨k, hk, rfl, M⟩ := hrel
    obtain rfl | rfl | rfl | rfl | rfl : k = 0 ∨ k = 1 ∨ k = 2 ∨ k = 3 ∨ k = 4 := by omega
    · have ixk := ix0
      go_wp2_with fail
      have lw := M.out.ou.lt
      have X : Hid (Row (wr.alloc (.cells #[.int .i64 0, .int .i64 0, .int .i64 1, .int .i64 1, .int .i64 1, .int .i64 (-1), .int .i64 2, .int .i64 2, .int .i64 (-1), .int .i64 3, .int .i64 3, .int .i64 (-1)] 52)).drew wr.heap.size 52 #[.int .i64 0, .int .i64 0, .int .i64 1, .int .i64 1, .int .i64 1, .int .i64 (-1), .int .i64 2, .int .i64 2, .int .i64 (-1), .int .i64 3, .int .i64 3, .int .i64 (-1)]) := Lib.hid (Row.new wr 52 _).drew
      have M' := Lib.hid (M.out.alloc (.cells #[.int .i64 0, .int .i64 0, .int .i64 1, .int .i64 1, .int .i64 1, .int .i64 (-1), .int .i64 2, .int .i64 2, .int .i64 (-1), .int .i64 3, .int .i64 3, .int .i64 (-1)] 52)).drew
      clear M
      have M := M'
      clear M'
      go_region_held3 (fun w' => ∀ o, w'.cell? ⟨wr.heap.size, o, none⟩ = (#[.int .i64 0, .int .i64 0, .int .i64 1, .int .i64 1, .int .i64 1, .int .i64 (-1), .int .i64 2, .int .i64 2, .int .i64 (-1), .int .i64 3, .int .i64 3, .int .i64 (-1)] : Array Value)[o]?) (first | exact X.out.cell | exact (X.out.alloc _).cell | exact (X.out.far (p := ⟨w.heap.size + 1 + 1 + 1 + 1, _, none⟩) (by show wr.heap.size ≠ w.heap.size + 1 + 1 + 1 + 1; omega) _).cell | go_keep)
        (first
          | (go_at_call 23
             refine (term_any _ _ _ _ _ _ _ p q _ (by omega) (by omega) (by exact M.out.fl) (by exact M.out.rp) (by exact M.out.rq) (by omega) (by omega)).mono ?_
             rintro e wn ⟨rfl, hg, hf⟩
             have M' := Lib.hid (M.out.flagged hg hf)
             have X' := Lib.hid (X.out.grown hg (by simp; omega))
             clear M X hg hf
             have M := M'
             have X := X'
             clear M' X')
          | (go_at_call 28
             refine (sum_calls _ _ _ _ _ _ _ _ _ _ (by exact (M.out.alloc _).fl) (Row.new _ _ _) (by have := M.out.fl.lt; omega)).mono ?_
             rintro e wn ⟨rfl, hg, hf⟩
             have M' := Lib.hid ((M.out.alloc _).flagged hg hf)
             have X' := Lib.hid ((X.out.alloc _).grown hg (by simp; omega))
             have co := M'.out.ou.cell 0
             have fo := M'.out.ou.free 0
             clear M X hg hf
             have M := M'
             have X := X'
             clear M' X'))
      go_wp2
      go_roundw
      case rel => exact ⟨1, by omega, by go_num, Lib.hid (M.out.put 0 _)⟩
      case measure => simp [intOf]
    · have ixk := ix1
      go_wp2_with fail
      have lw := M.out.ou.lt
      have X : Hid (Row (wr.alloc (.cells #[.int .i64 0, .int .i64 1, .int .i64 1, .int .i64 1, .int .i64 0, .int .i64 1, .int .i64 2, .int .i64 3, .int .i64 1, .int .i64 3, .int .i64 2, .int .i64 (-1)] 52)).drew wr.heap.size 52 #[.int .i64 0, .int .i64 1, .int .i64 1, .int .i64 1, .int .i64 0, .int .i64 1, .int .i64 2, .int .i64 3, .int .i64 1, .int .i64 3, .int .i64 2, .int .i64 (-1)]) := Lib.hid (Row.new wr 52 _).drew
      have M' := Lib.hid (M.out.alloc (.cells #[.int .i64 0, .int .i64 1, .int .i64 1, .int .i64 1, .int .i64 0, .int .i64 1, .int .i64 2, .int .i64 3, .int .i64 1, .int .i64 3, .int .i64 2, .int .i64 (-1)] 52)).drew
      clear M
      have M := M'
      clear M'
      go_region_held3 (fun w' => ∀ o, w'.cell? ⟨wr.heap.size, o, none⟩ = (#[.int .i64 0, .int .i64 1, .int .i64 1, .int .i64 1, .int .i64 0, .int .i64 1, .int .i64 2, .int .i64 3, .int .i64 1, .int .i64 3, .int .i64 2, .int .i64 (-1)] : Array Value)[o]?) (first | exact X.out.cell | exact (X.out.alloc _).cell | exact (X.out.far (p := ⟨w.heap.size + 1 + 1 + 1 + 1, _, none⟩) (by show wr.heap.size ≠ w.heap.size + 1 + 1 + 1 + 1; omega) _).cell | go_keep)
        (first
          | (go_at_call 23
             refine (term_any _ _ _ _ _ _ _ p q _ (by omega) (by omega) (by exact M.out.fl) (by exact M.out.rp) (by exact M.out.rq) (by omega) (by omega)).mono ?_
             rintro e wn ⟨rfl, hg, hf⟩
             have M' := Lib.hid (M.out.flagged hg hf)
             have X' := Lib.hid (X.out.grown hg (by simp; omega))
             clear M X hg hf
             have M := M'
             have X := X'
             clear M' X')
          | (go_at_call 28
             refine (sum_calls _ _ _ _ _ _ _ _ _ _ (by exact (M.out.alloc _).fl) (Row.new _ _ _) (by have := M.out.fl.lt; omega)).mono ?_
             rintro e wn ⟨rfl, hg, hf⟩
             have M' := Lib.hid ((M.out.alloc _).flagged hg hf)
             have X' := Lib.hid ((X.out.alloc _).grown hg (by simp; omega))
             have co := M'.out.ou.cell 1
             have fo := M'.out.ou.free 1
             clear M X hg hf
             have M := M'
             have X := X'
             clear M' X'))
      go_wp2
      go_roundw
      case rel => exact ⟨2, by omega, by go_num, Lib.hid (M.out.put 1 _)⟩
      case measure => simp [intOf]
    · have ixk := ix2
      go_wp2_with fail
      have lw := M.out.ou.lt
      have X : Hid (Row (wr.alloc (.cells #[.int .i64 0, .int .i64 2, .int .i64 1, .int .i64 1, .int .i64 3, .int .i64 (-1), .int .i64 2, .int .i64 0, .int .i64 1, .int .i64 3, .int .i64 1, .int .i64 1] 52)).drew wr.heap.size 52 #[.int .i64 0, .int .i64 2, .int .i64 1, .int .i64 1, .int .i64 3, .int .i64 (-1), .int .i64 2, .int .i64 0, .int .i64 1, .int .i64 3, .int .i64 1, .int .i64 1]) := Lib.hid (Row.new wr 52 _).drew
      have M' := Lib.hid (M.out.alloc (.cells #[.int .i64 0, .int .i64 2, .int .i64 1, .int .i64 1, .int .i64 3, .int .i64 (-1), .int .i64 2, .int .i64 0, .int .i64 1, .int .i64 3, .int .i64 1, .int .i64 1] 52)).drew
      clear M
      have M := M'
      clear M'
      go_region_held3 (fun w' => ∀ o, w'.cell? ⟨wr.heap.size, o, none⟩ = (#[.int .i64 0, .int .i64 2, .int .i64 1, .int .i64 1, .int .i64 3, .int .i64 (-1), .int .i64 2, .int .i64 0, .int .i64 1, .int .i64 3, .int .i64 1, .int .i64 1] : Array Value)[o]?) (first | exact X.out.cell | exact (X.out.alloc _).cell | exact (X.out.far (p := ⟨w.heap.size + 1 + 1 + 1 + 1, _, none⟩) (by show wr.heap.size ≠ w.heap.size + 1 + 1 + 1 + 1; omega) _).cell | go_keep)
        (first
          | (go_at_call 23
             refine (term_any _ _ _ _ _ _ _ p q _ (by omega) (by omega) (by exact M.out.fl) (by exact M.out.rp) (by exact M.out.rq) (by omega) (by omega)).mono ?_
             rintro e wn ⟨rfl, hg, hf⟩
             have M' := Lib.hid (M.out.flagged hg hf)
             have X' := Lib.hid (X.out.grown hg (by simp; omega))
             clear M X hg hf
             have M := M'
             have X := X'
             clear M' X')
          | (go_at_call 28
             refine (sum_calls _ _ _ _ _ _ _ _ _ _ (by exact (M.out.alloc _).fl) (Row.new _ _ _) (by have := M.out.fl.lt; omega)).mono ?_
             rintro e wn ⟨rfl, hg, hf⟩
             have M' := Lib.hid ((M.out.alloc _).flagged hg hf)
             have X' := Lib.hid ((X.out.alloc _).grown hg (by simp; omega))
             have co := M'.out.ou.cell 2
             have fo := M'.out.ou.free 2
             clear M X hg hf
             have M := M'
             have X := X'
             clear M' X'))
      go_wp2
      go_roundw
      case rel => exact ⟨3, by omega, by go_num, Lib.hid (M.out.put 2 _)⟩
      case measure => simp [intOf]
    · have ixk := ix3
      go_wp2_with fail
      have lw := M.out.ou.lt
      have X : Hid (Row (wr.alloc (.cells #[.int .i64 0, .int .i64 3, .int .i64 1, .int .i64 1, .int .i64 2, .int .i64 1, .int .i64 2, .int .i64 1, .int .i64 (-1), .int .i64 3, .int .i64 0, .int .i64 1] 52)).drew wr.heap.size 52 #[.int .i64 0, .int .i64 3, .int .i64 1, .int .i64 1, .int .i64 2, .int .i64 1, .int .i64 2, .int .i64 1, .int .i64 (-1), .int .i64 3, .int .i64 0, .int .i64 1]) := Lib.hid (Row.new wr 52 _).drew
      have M' := Lib.hid (M.out.alloc (.cells #[.int .i64 0, .int .i64 3, .int .i64 1, .int .i64 1, .int .i64 2, .int .i64 1, .int .i64 2, .int .i64 1, .int .i64 (-1), .int .i64 3, .int .i64 0, .int .i64 1] 52)).drew
      clear M
      have M := M'
      clear M'
      go_region_held3 (fun w' => ∀ o, w'.cell? ⟨wr.heap.size, o, none⟩ = (#[.int .i64 0, .int .i64 3, .int .i64 1, .int .i64 1, .int .i64 2, .int .i64 1, .int .i64 2, .int .i64 1, .int .i64 (-1), .int .i64 3, .int .i64 0, .int .i64 1] : Array Value)[o]?) (first | exact X.out.cell | exact (X.out.alloc _).cell | exact (X.out.far (p := ⟨w.heap.size + 1 + 1 + 1 + 1, _, none⟩) (by show wr.heap.size ≠ w.heap.size + 1 + 1 + 1 + 1; omega) _).cell | go_keep)
        (first
          | (go_at_call 23
             refine (term_any _ _ _ _ _ _ _ p q _ (by omega) (by omega) (by exact M.out.fl) (by exact M.out.rp) (by exact M.out.rq) (by omega) (by omega)).mono ?_
             rintro e wn ⟨rfl, hg, hf⟩
             have M' := Lib.hid (M.out.flagged hg hf)
             have X' := Lib.hid (X.out.grown hg (by simp; omega))
             clear M X hg hf
             have M := M'
             have X := X'
             clear M' X')
          | (go_at_call 28
             refine (sum_calls _ _ _ _ _ _ _ _ _ _ (by exact (M.out.alloc _).fl) (Row.new _ _ _) (by have := M.out.fl.lt; omega)).mono ?_
             rintro e wn ⟨rfl, hg, hf⟩
             have M' := Lib.hid ((M.out.alloc _).flagged hg hf)
             have X' := Lib.hid ((X.out.alloc _).grown hg (by simp; omega))
             have co := M'.out.ou.cell 3
             have fo := M'.out.ou.free 3
             clear M X hg hf
             have M := M'
             have X := X'
             clear M' X'))
      go_wp2
      go_roundw
      case rel => exact ⟨4, by omega, by go_num, Lib.hid (M.out.put 3 _)⟩
      case measure => simp [intOf]
    · have M4 : Hid (MS w p q (flagK p q 4) #[.int .i64 (comp p q 0), .int .i64 (comp p q 1), .int .i64 (comp p q 2), .int .i64 (comp p q 3)] wr) := Lib.hid M.out
      clear M
      have cr := M4.out.rr.cell
      have fr := M4.out.rr.free
      have c0 := M4.out.ou.cell 0
      have c1 := M4.out.ou.cell 1
      have c2 := M4.out.ou.cell 2
      have c3 := M4.out.ou.cell 3
      have cf := M4.out.fl.cell 0
      go_wp2_with fail
      have nx : w.heap.size + 1 + 1 ≠ w.heap.size + 1 + 1 + 1 := by omega
      have ny : w.heap.size + 1 + 1 ≠ w.heap.size + 1 + 1 + 1 + 1 := by omega
      go_region_held3 (fun w' => w'.cell? ⟨w.heap.size + 1 + 1 + 1 + 1, 0, none⟩ = some (.int .i64 (comp p q 0)) ∧ w'.cell? ⟨w.heap.size + 1 + 1 + 1 + 1, 1, none⟩ = some (.int .i64 (comp p q 1)) ∧
        w'.cell? ⟨w.heap.size + 1 + 1 + 1 + 1, 2, none⟩ = some (.int .i64 (comp p q 2)) ∧ w'.cell? ⟨w.heap.size + 1 + 1 + 1 + 1, 3, none⟩ = some (.int .i64 (comp p q 3)) ∧ w'.cell? ⟨w.heap.size + 1 + 1 + 1, 0, none⟩ = some (.bool (flagK p q 4))) (go_keep) (fail)
      all_goals go_wp2
      all_goals refine bodyPost_ret (v := .tuple #[.agg #[.int .i64 (comp p q 0), .int .i64 (comp p q 1), .int .i64 (comp p q 2), .int .i64 (comp p q 3)], .bool (flagK p q 4)]) ?_ ?_ ⟨rfl, ?_⟩
      · have R := (((((M4.out.rr.set 0 (.int .i64 (comp p q 0))).set 1 (.int .i64 (comp p q 1))).set 2 (.int .i64 (comp p q 2))).set 3 (.int .i64 (comp p q 3))).drew)
        revert R
        generalize World.drew _ = wf
        intro R
        have r0 := R.cell 0
        have r1 := R.cell 1
        have r2 := R.cell 2
        have r3 := R.cell 3
        simp at r0 r1 r2 r3
        simp [results, Try.f11, Try.results11, go_sem, r0, r1, r2, r3]
      · rfl
      · exact ((((M4.out.be.setCell (p := ⟨_, 0, none⟩) (by simp; omega) _).setCell (p := ⟨_, 1, none⟩) (by simp; omega) _).setCell (p := ⟨_, 2, none⟩) (by simp; omega) _).setCell (p := ⟨_, 3, none⟩) (by simp; omega) _).drew
end Go.Proofs.Ytmjncjaalleblaa.PQ
