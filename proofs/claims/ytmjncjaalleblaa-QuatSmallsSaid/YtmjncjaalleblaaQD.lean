import Derived.Test.YtmjncjaalleblaaQB
/- Layer 4: scenes, and a quaternion turned round. -/
namespace Go.Proofs.Ytmjncjaalleblaa.PQ
open Go.RowKit Go.Proofs.YtmjncjaalleblaaW.PrintWords Go.Proofs.YtmjncjaalleblaaW.PrintLast Go.Proofs.YtmjncjaalleblaaW.PrintMore
set_option linter.unusedVariables false
set_option linter.unusedSimpArgs false

/-- blocks that lie side by side, from b on -/
def Rows (w : World) : Nat → List (TypeId × Array Value) → Prop
  | _, [] => True
  | b, x :: l => Row w b x.1 x.2 ∧ Rows w (b + 1) l
section
variable {w w' w0 : World} {b : Nat} {L : List (TypeId × Array Value)}
theorem Rows.imp (h : ∀ k t cs, b ≤ k → k < b + L.length → Row w k t cs → Row w' k t cs) (H : Rows w b L) : Rows w' b L := by
  induction L generalizing b with
  | nil => trivial
  | cons x l ih =>
    refine ⟨h b _ _ (Nat.le_refl _) (by simp) H.1, ih (fun k t cs h1 h2 => h k t cs (by omega) (by simp; omega)) H.2⟩
theorem Rows.le (H : Rows w b L) (hb : b ≤ w.heap.size) : b + L.length ≤ w.heap.size := by
  induction L generalizing b with
  | nil => simpa using hb
  | cons x l ih => have := ih H.2 H.1.lt; simp; omega
theorem Rows.alloc (h : Rows w b L) (o : Obj) : Rows (w.alloc o) b L := h.imp fun _ _ _ _ _ r => r.alloc o
theorem Rows.drew (h : Rows w b L) : Rows w.drew b L := h.imp fun _ _ _ _ _ r => r.drew
theorem Rows.below (h : Rows w b L) (hb : Below w.heap.size w w') : Rows w' b L := h.imp fun _ _ _ _ _ r => r.below hb r.lt
theorem Rows.set_imp (j : Nat) (t : TypeId) (cs : Array Value) (hr : Row w' (b + j) t cs) (h : ∀ k t cs, k ≠ b + j → Row w k t cs → Row w' k t cs) (H : Rows w b L) : Rows w' b (L.set j (t, cs)) := by
  induction L generalizing b j with
  | nil => trivial
  | cons x l ih =>
    cases j with
    | zero => exact ⟨hr, H.2.imp fun k t cs h1 h2 => h k t cs (by omega)⟩
    | succ j => exact ⟨h _ _ _ (by omega) H.1, ih j (by rwa [Nat.add_assoc, Nat.add_comm 1]) (fun k t cs h1 => h k t cs (by omega)) H.2⟩
theorem Rows.push (H : Rows w b L) (h : w.heap.size = b + L.length) (t : TypeId) (cs : Array Value) : Rows (w.alloc (.cells cs t)) b (L ++ [(t, cs)]) := by
  have := (H.alloc (.cells cs t))
  have e := Row.new w t cs
  rw [h] at e
  clear H h
  induction L generalizing b with
  | nil => exact ⟨e, trivial⟩
  | cons x l ih => exact ⟨this.1, ih this.2 (by simp only [List.length_cons] at e; rwa [Nat.add_assoc, Nat.add_comm 1])⟩
end
/-- blocks of a call's own, and nothing else was touched -/
structure Scene (w0 : World) (L : List (TypeId × Array Value)) (w : World) : Prop where
  rows : Rows w w0.heap.size L
  be : Below w0.heap.size w0 w
section
variable {w w' w0 : World} {L : List (TypeId × Array Value)}
theorem Scene.none (w : World) : Scene w [] w := ⟨trivial, Below.refl _ w⟩
theorem Scene.push (h : Scene w0 L w) (e : w.heap.size = w0.heap.size + L.length) (t : TypeId) (cs : Array Value) : Scene w0 (L ++ [(t, cs)]) (w.alloc (.cells cs t)) :=
  ⟨h.rows.push e t cs, h.be.alloc h.be.size _⟩
theorem Scene.alloc (h : Scene w0 L w) (o : Obj) : Scene w0 L (w.alloc o) := ⟨h.rows.alloc o, h.be.alloc h.be.size o⟩
theorem Scene.drew (h : Scene w0 L w) : Scene w0 L w.drew := ⟨h.rows.drew, h.be.drew⟩
theorem Scene.below (h : Scene w0 L w) (hb : Below w.heap.size w w') : Scene w0 L w' := ⟨h.rows.below hb, h.be.trans (hb.mono h.be.size)⟩
theorem Scene.grown (j : Nat) (t : TypeId) (cs : Array Value) (h : Scene w0 L w) (hg : w.grownBy w' (some (w0.heap.size + j))) (hr : Row w' (w0.heap.size + j) t cs) : Scene w0 (L.set j (t, cs)) w' :=
  ⟨h.rows.set_imp j t cs hr fun k t cs hk r => r.grown hg (by simpa using hk),
    ⟨hg.os.trans h.be.os, hg.tape.trans h.be.tape, hg.output.trans h.be.output, Nat.le_trans h.be.size hg.size, fun k hk => (hg.block k (Nat.lt_of_lt_of_le hk h.be.size) (by simp; omega)).trans (h.be.block k hk)⟩⟩
theorem Scene.put (j : Nat) (h : Scene w0 L w) (t : TypeId) (cs : Array Value) (hr : Row w (w0.heap.size + j) t cs) (i : Nat) (u : Value) : Scene w0 (L.set j (t, cs.setIfInBounds i u)) (w.setCell ⟨w0.heap.size + j, i, .none⟩ u) :=
  ⟨h.rows.set_imp j t _ (hr.set i u) fun k t cs hk r => r.far (by simpa using hk) u, h.be.setCell (by simp) u⟩
variable {x0 x1 x2 x3 x4 x5 : TypeId × Array Value}
theorem Scene.r0 (h : Scene w0 (x0 :: L) w) : Row w w0.heap.size x0.1 x0.2 := h.rows.1
theorem Scene.r1 (h : Scene w0 (x0 :: x1 :: L) w) : Row w (w0.heap.size + 1) x1.1 x1.2 := h.rows.2.1
theorem Scene.r2 (h : Scene w0 (x0 :: x1 :: x2 :: L) w) : Row w (w0.heap.size + 1 + 1) x2.1 x2.2 := h.rows.2.2.1
theorem Scene.r3 (h : Scene w0 (x0 :: x1 :: x2 :: x3 :: L) w) : Row w (w0.heap.size + 1 + 1 + 1) x3.1 x3.2 := h.rows.2.2.2.1
theorem Scene.r4 (h : Scene w0 (x0 :: x1 :: x2 :: x3 :: x4 :: L) w) : Row w (w0.heap.size + 1 + 1 + 1 + 1) x4.1 x4.2 := h.rows.2.2.2.2.1
theorem Scene.r5 (h : Scene w0 (x0 :: x1 :: x2 :: x3 :: x4 :: x5 :: L) w) : Row w (w0.heap.size + 1 + 1 + 1 + 1 + 1) x5.1 x5.2 := h.rows.2.2.2.2.2.1
end
theorem Row.fill4 {w : World} {B : Nat} {t : TypeId} {u0 u1 u2 u3 : Value} (h : Row w B t #[u0, u1, u2, u3]) (a b c d : Value) :
    Row ((((w.setCell ⟨B, 0, none⟩ a).setCell ⟨B, 1, none⟩ b).setCell ⟨B, 2, none⟩ c).setCell ⟨B, 3, none⟩ d) B t #[a, b, c, d] := (((h.set 0 a).set 1 b).set 2 c).set 3 d
theorem Below.fill4 {n : Nat} {w0 w : World} {B : Nat} (h : Below n w0 w) (hn : n ≤ B) (a b c d : Value) :
    Below n w0 ((((w.setCell ⟨B, 0, none⟩ a).setCell ⟨B, 1, none⟩ b).setCell ⟨B, 2, none⟩ c).setCell ⟨B, 3, none⟩ d) :=
  (((h.setCell (p := ⟨B, 0, none⟩) hn a).setCell (p := ⟨B, 1, none⟩) hn b).setCell (p := ⟨B, 2, none⟩) hn c).setCell (p := ⟨B, 3, none⟩) hn d
abbrev q4 (a b c d : Int) : Array Value := #[.int .i64 a, .int .i64 b, .int .i64 c, .int .i64 d]

set_option maxRecDepth 100000 in
set_option maxHeartbeats 4000000 in
theorem conj_calls (a b c d : Int) (w : World) :
    Calls Try.prog 13 #[.agg #[.int .i64 a, .int .i64 b, .int .i64 c, .int .i64 d]] w fun e w' =>
      e = .returned (.agg #[.int .i64 a, .int .i64 (subV 0 b), .int .i64 (subV 0 c), .int .i64 (subV 0 d)]) ∧ Below w.heap.size w w' := by
  go_enter Try.func13, Try.ntmps13
  go_wp2_with fail
  have M : Hid (Scene w [(24, q4 a b c d), (24, q4 0 0 0 0), (46, #[.bool false])] (((w.alloc (.cells (q4 a b c d) 24)).alloc (.cells (q4 0 0 0 0) 24)).alloc (.cells #[.bool false] 46)).drew) :=
    Lib.hid ((((Scene.none w).push (by simp) _ _).push (by simp) _ _).push (by simp) _ _).drew
  have M1 : Hid (∃ f, Scene w [(24, q4 a b c d), (24, q4 0 0 0 0), (46, #[.bool f])] (((w.alloc (.cells (q4 a b c d) 24)).alloc (.cells (q4 0 0 0 0) 24)).alloc (.cells #[.bool false] 46)).drew) := Lib.hid ⟨false, M.out⟩
  clear M
  go_region_held3 (fun w' => ∀ o, w'.cell? ⟨w.heap.size, o, none⟩ = (q4 a b c d)[o]?) (first | exact M1.out.choose_spec.r0.cell | go_keep)
    (first
    | (go_at_call 26
       obtain ⟨f, M⟩ := M1.out
       refine (less_calls _ f _ _ (by exact M.r2)).mono ?_
       rintro e wn ⟨rfl, hg, hf⟩
       have M' := Lib.hid (⟨_, M.grown 2 _ _ hg hf⟩ : ∃ f, Scene w [(24, q4 a b c d), (24, q4 0 0 0 0), (46, #[.bool f])] wn)
       clear M M1 hg hf
       have M1 := M'
       clear M'
       have co0 := M1.out.choose_spec.r1.cell 0
       have co1 := M1.out.choose_spec.r1.cell 1
       have co2 := M1.out.choose_spec.r1.cell 2
       have co3 := M1.out.choose_spec.r1.cell 3
       have fo0 := M1.out.choose_spec.r1.free 0
       have fo1 := M1.out.choose_spec.r1.free 1
       have fo2 := M1.out.choose_spec.r1.free 2
       have fo3 := M1.out.choose_spec.r1.free 3))
  all_goals go_wp2
  have R := M1.out.choose_spec.r1.fill4 (.int .i64 a) (.int .i64 (subV 0 b)) (.int .i64 (subV 0 c)) (.int .i64 (subV 0 d))
  have HB := Below.fill4 (B := w.heap.size + 1) M1.out.choose_spec.be (by omega) (.int .i64 a) (.int .i64 (subV 0 b)) (.int .i64 (subV 0 c)) (.int .i64 (subV 0 d))
  clear M1 co0 co1 co2 co3 fo0 fo1 fo2 fo3
  revert R HB
  generalize World.setCell (World.setCell (World.setCell (World.setCell wn _ _) _ _) _ _) _ _ = wf
  intro R HB
  refine bodyPost_ret (v := .agg (q4 a (subV 0 b) (subV 0 c) (subV 0 d))) ?_ rfl ⟨rfl, HB⟩
  have r0 := R.cell 0
  have r1 := R.cell 1
  have r2 := R.cell 2
  have r3 := R.cell 3
  simp at r0 r1 r2 r3
  simp [results, Try.f13, Try.results13, go_sem, r0, r1, r2, r3]
end Go.Proofs.Ytmjncjaalleblaa.PQ
