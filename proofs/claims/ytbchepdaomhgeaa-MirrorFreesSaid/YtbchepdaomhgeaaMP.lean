import Derived.Test.YtbchepdaomhgeaaMH
import Derived.BigQuiet
/- Layer 14: what is done to a desk. -/
namespace Go.Proofs.Ytbchepdaomhgeaa.MM
open Go.RowKit
set_option linter.unusedVariables false
set_option linter.unusedSimpArgs false
theorem grown_set {w w1 : World} {B : Nat} (h : w.grownBy w1 (some B)) (i : Nat) (u : Value) : w.grownBy (w1.setCell ⟨B, i, none⟩ u) (some B) :=
  ⟨h.os, h.tape, h.output, by simpa using h.size, fun k hk hr => (Below.heap_setCell w1 ⟨B, i, none⟩ u k (fun e => hr (by rw [e]))).trans (h.block k hk hr)⟩
def Dk.changed (d : Dk) (stage peer : Int) : Dk := { d with stage := stage, peer := peer, seq := d.seq + 1 }
/-- what a method leaves that may write its desk -/
def Left_ (w : World) (B : Nat) (t : TypeId) (cs : Array Value) (w' : World) : Prop := w.grownBy w' (some B) ∧ Row w' B t cs ∧ w'.heap.size = w.heap.size
theorem change_full (B : Nat) (t : TypeId) (d : Dk) (s : Value) (st pe : Int) (w : World) (hr : Row w B t (d.row s)) (hq : d.seq ≥ 4611686018427387904) :
    Calls Try.prog 40 #[.pointer (some ⟨B, 0, none⟩), I st, I pe] w fun e w' => e = .returned (.bool false) ∧ w' = w := by
  obtain ⟨gen, k, acked, peer, stage, seq⟩ := d
  have c := hr.cell
  have h0 : decide (seq ≥ 4611686018427387904) = true := decide_eq_true hq
  clear hr hq
  go_enter Try.func40, Try.ntmps40
  go_wp2
  go_ret
  exact ⟨rfl, rfl⟩
theorem change_calls (B : Nat) (t : TypeId) (d : Dk) (s : Value) (st pe : Int) (w : World) (hr : Row w B t (d.row s)) (hq : d.seq < 4611686018427387904) (hq0 : 0 ≤ d.seq) :
    Calls Try.prog 40 #[.pointer (some ⟨B, 0, none⟩), I st, I pe] w fun e w' => e = .returned (.bool true) ∧ Left_ w B t ((d.changed st pe).row s) w' := by
  obtain ⟨gen, k, acked, peer, stage, seq⟩ := d
  dsimp only at hq hq0
  have c := hr.cell
  have f := hr.free
  have R := Lib.hid hr
  have h0 : decide (seq ≥ 4611686018427387904) = false := decide_eq_false (by omega)
  have hw64 : IntKind.i64.wrap (seq + 1) = seq + 1 := by simp [IntKind.wrap, IntKind.bits, IntKind.signed]; omega
  clear hr hq hq0
  go_enter Try.func40, Try.ntmps40
  go_wp2
  go_ret
  refine ⟨rfl, grown_set (grown_set (grown_set (World.grownBy.refl w _) 4 _) 3 _) 5 _, ?_, by simp⟩
  simpa [Dk.changed] using ((R.out.set 4 (I st)).set 3 (I pe)).set 5 (I (seq + 1))
def Dk.drop (d : Dk) : Dk := if d.stage = 1 then { d with stage := 0, peer := -1 } else if d.stage = 2 ∧ d.seq < 4611686018427387904 then d.changed 3 (-1) else d
theorem drop_calls (B : Nat) (t : TypeId) (d : Dk) (s : Value) (w : World) (hr : Row w B t (d.row s)) (hq0 : 0 ≤ d.seq) :
    Calls Try.prog 41 #[.pointer (some ⟨B, 0, none⟩)] w fun e w' => e = .returned (.tuple #[]) ∧ Left_ w B t (d.drop.row s) w' := by
  obtain ⟨gen, k, acked, peer, stage, seq⟩ := d
  dsimp only at hq0
  have c := hr.cell
  have f := hr.free
  have R := Lib.hid hr
  have HQ := Lib.hid hq0
  clear hr hq0
  by_cases h1 : stage = 1
  · subst h1
    go_enter Try.func41, Try.ntmps41
    go_wp2
    go_end0
    refine ⟨rfl, grown_set (grown_set (World.grownBy.refl w _) 4 _) 3 _, ?_, by simp⟩
    simpa [Dk.drop] using (R.out.set 4 (I 0)).set 3 (I (-1))
  · have e1 : (stage == 1) = false := by simp [h1]
    have H1 := Lib.hid h1
    clear h1
    by_cases h2 : stage = 2
    · subst h2
      by_cases hq : seq < 4611686018427387904
      · have HL := Lib.hid hq
        clear hq
        go_enter Try.func41, Try.ntmps41
        go_wp2_with fail
        refine (change_calls B t ⟨gen, k, acked, peer, 2, seq⟩ s 3 (-1) w R.out HL.out HQ.out).mono ?_
        rintro e w1 ⟨rfl, h⟩
        have HH := Lib.hid h
        clear h
        go_wp2
        go_end0
        have e : Dk.drop ⟨gen, k, acked, peer, 2, seq⟩ = Dk.changed ⟨gen, k, acked, peer, 2, seq⟩ 3 (-1) := by simp [Dk.drop, HL.out]
        rw [e]
        exact ⟨rfl, HH.out⟩
      · have HL := Lib.hid hq
        clear hq
        go_enter Try.func41, Try.ntmps41
        go_wp2_with fail
        refine (change_full B t ⟨gen, k, acked, peer, 2, seq⟩ s 3 (-1) w R.out HL.out).mono ?_
        rintro e _ ⟨rfl, rfl⟩
        go_wp2
        go_end0
        have e : Dk.drop ⟨gen, k, acked, peer, 2, seq⟩ = ⟨gen, k, acked, peer, 2, seq⟩ := by simp [Dk.drop, Int.not_lt.2 HL.out]
        rw [e]
        exact ⟨rfl, World.grownBy.refl _ _, R.out, rfl⟩
    · have e2 : (stage == 2) = false := by simp [h2]
      have H2 := Lib.hid h2
      clear h2
      go_enter Try.func41, Try.ntmps41
      go_wp2
      go_end0
      have e : Dk.drop ⟨gen, k, acked, peer, stage, seq⟩ = ⟨gen, k, acked, peer, stage, seq⟩ := by simp [Dk.drop, H1.out, H2.out]
      rw [e]
      exact ⟨rfl, World.grownBy.refl _ _, R.out, rfl⟩
theorem Scene.left (j : Nat) {w0 w w' : World} {L : List (TypeId × Array Value)} {t : TypeId} {cs : Array Value} (h : Scene w0 L w) (hl : Left_ w (w0.heap.size + j) t cs w') : Scene w0 (L.set j (t, cs)) w' := h.grown j t cs hl.1 hl.2.1
set_option maxRecDepth 100000 in
theorem Drop_calls (d : Dk) (s : Value) (w : World) (hq0 : 0 ≤ d.seq) (hs : ∃ A n c, s = .slice A n c) :
    Calls Try.prog 19 #[d.val s] w fun e w' => e = .returned (d.drop.val s) ∧ Below w.heap.size w w' := by
  obtain ⟨A, n, c, rfl⟩ := hs
  have HQ := Lib.hid hq0
  clear hq0
  have N : Hid (Scene w [(26, d.row (.slice A n c)), (26, z7), (69, d.row (.slice A n c))] ((((w.alloc (.cells (d.row (.slice A n c)) 26)).alloc (.cells z7 26)).alloc (.cells (d.row (.slice A n c)) 69)))) := Lib.hid ((((Scene.none w).push (by simp) _ _).push (by simp) _ _).push (by simp) _ _)
  go_enter Try.func19, Try.ntmps19
  go_wp2_with fail
  refine (drop_calls _ 69 d _ _ N.out.r2 HQ.out).mono ?_
  rintro e w1 ⟨rfl, hl⟩
  have M := Lib.hid (N.out.left 2 hl)
  clear hl N
  have c2 := M.out.r2.cell
  have c1 := M.out.r1.cell
  have f1 := M.out.r1.free
  have l2 := M.out.r2.lt
  go_wp2
  exact bodyPost_ret (results_cell rfl rfl (M.out.r1.fill7 _ _ _ _ _ _ _)) rfl ⟨rfl, Below.fill7 M.out.be (by omega) _ _ _ _ _ _ _⟩
def Dk.told (d : Dk) (seq sync : Int) : Dk := if d.stage = 3 ∧ seq = d.seq ∧ sync = -1 then { d with stage := 0 } else d
set_option maxRecDepth 100000 in
theorem Told_calls (d : Dk) (s : Value) (a b : Int) (w : World) (hs : ∃ A n c, s = .slice A n c) :
    Calls Try.prog 20 #[d.val s, I a, I b] w fun e w' => e = .returned ((d.told a b).val s) ∧ Below w.heap.size w w' := by
  obtain ⟨A, n, c, rfl⟩ := hs
  obtain ⟨gen, k, acked, peer, stage, seq⟩ := d
  have same : ∀ (d : Dk), Hid (Scene w [(26, d.row (.slice A n c)), (26, d.row (.slice A n c))] (((w.alloc (.cells (d.row (.slice A n c)) 26)).alloc (.cells (d.row (.slice A n c)) 26)))) := fun d => Lib.hid (((Scene.none w).push (by simp) _ _).push (by simp) _ _)
  by_cases h3 : stage = 3
  · subst h3
    by_cases ha : a = seq
    · subst ha
      by_cases hb : b = -1
      · subst hb
        have e : Dk.told ⟨gen, k, acked, peer, 3, a⟩ a (-1) = ⟨gen, k, acked, peer, 0, a⟩ := by simp [Dk.told]
        have N := same ⟨gen, k, acked, peer, 0, a⟩
        rw [e]
        go_enter Try.func20, Try.ntmps20
        go_wp2
        exact bodyPost_ret (results_cell rfl rfl N.out.r1) rfl ⟨rfl, N.out.be⟩
      · have e : Dk.told ⟨gen, k, acked, peer, 3, a⟩ a b = ⟨gen, k, acked, peer, 3, a⟩ := by simp [Dk.told, hb]
        have eb : (b == -1) = false := by simp [hb]
        have N := same ⟨gen, k, acked, peer, 3, a⟩
        rw [e]
        clear hb
        go_enter Try.func20, Try.ntmps20
        go_wp2
        exact bodyPost_ret (results_cell rfl rfl N.out.r1) rfl ⟨rfl, N.out.be⟩
    · have e : Dk.told ⟨gen, k, acked, peer, 3, seq⟩ a b = ⟨gen, k, acked, peer, 3, seq⟩ := by simp [Dk.told, ha]
      have eb : (a == seq) = false := by simp [ha]
      have N := same ⟨gen, k, acked, peer, 3, seq⟩
      rw [e]
      clear ha
      go_enter Try.func20, Try.ntmps20
      go_wp2
      exact bodyPost_ret (results_cell rfl rfl N.out.r1) rfl ⟨rfl, N.out.be⟩
  · have e : Dk.told ⟨gen, k, acked, peer, stage, seq⟩ a b = ⟨gen, k, acked, peer, stage, seq⟩ := by simp [Dk.told, h3]
    have eb : (stage == 3) = false := by simp [h3]
    have N := same ⟨gen, k, acked, peer, stage, seq⟩
    rw [e]
    clear h3
    go_enter Try.func20, Try.ntmps20
    go_wp2
    exact bodyPost_ret (results_cell rfl rfl N.out.r1) rfl ⟨rfl, N.out.be⟩
def Dk.wanted (d : Dk) (inc : Int) : Dk := if inB inc = false ∨ d.stage = 3 ∨ (d.stage = 2 ∧ inc = d.peer) then d else if d.stage = 2 then d.drop else { d with peer := inc, stage := 1, acked := 0 }
def Dk.wants (d : Dk) (inc : Int) : Bool := inB inc && (d.stage != 3) && (d.stage != 2)
set_option maxRecDepth 100000 in
theorem Want_calls (d : Dk) (s : Value) (a : Int) (w : World) (hq0 : 0 ≤ d.seq) (hs : ∃ A n c, s = .slice A n c) :
    Calls Try.prog 21 #[d.val s, I a] w fun e w' => e = .returned (.tuple #[(d.wanted a).val s, .bool (d.wants a)]) ∧ Below w.heap.size w w' := by
  obtain ⟨A, n, c, rfl⟩ := hs
  have HQ := Lib.hid hq0
  clear hq0
  have N : Hid (Scene w [(26, d.row (.slice A n c)), (26, z7), (69, d.row (.slice A n c))] ((((w.alloc (.cells (d.row (.slice A n c)) 26)).alloc (.cells z7 26)).alloc (.cells (d.row (.slice A n c)) 69)))) := Lib.hid ((((Scene.none w).push (by simp) _ _).push (by simp) _ _).push (by simp) _ _)
  obtain ⟨gen, k, acked, peer, stage, seq⟩ := d
  have c0 := N.out.r0.cell
  have c1 := N.out.r1.cell
  have f1 := N.out.r1.free
  have c2 := N.out.r2.cell
  have f2 := N.out.r2.free
  have T3 : ∀ (d1 d2 : Dk), Hid (Scene w [(26, Dk.row ⟨gen, k, acked, peer, stage, seq⟩ (.slice A n c)), (26, d1.row (.slice A n c)), (69, d2.row (.slice A n c))] ((((w.alloc (.cells (Dk.row ⟨gen, k, acked, peer, stage, seq⟩ (.slice A n c)) 26)).alloc (.cells (d1.row (.slice A n c)) 26)).alloc (.cells (d2.row (.slice A n c)) 69)))) := fun d1 d2 => Lib.hid ((((Scene.none w).push (by simp) _ _).push (by simp) _ _).push (by simp) _ _)
  have D := T3 ⟨gen, k, acked, peer, stage, seq⟩ ⟨gen, k, acked, peer, stage, seq⟩
  go_enter Try.func21, Try.ntmps21
  go_wp2_with fail
  refine (in_same _ _).mono ?_
  rintro e _ ⟨rfl, rfl⟩
  cases hi : inB a
  · have ew : Dk.wanted ⟨gen, k, acked, peer, stage, seq⟩ a = ⟨gen, k, acked, peer, stage, seq⟩ := by simp [Dk.wanted, hi]
    have eb : Dk.wants ⟨gen, k, acked, peer, stage, seq⟩ a = false := by simp [Dk.wants, hi]
    go_wp2
    rw [ew, eb]
    exact bodyPost_ret (results_cell_tmp' rfl rfl rfl D.out.r1) rfl ⟨rfl, D.out.be⟩
  · by_cases h3 : stage = 3
    · subst h3
      have ew : Dk.wanted ⟨gen, k, acked, peer, 3, seq⟩ a = ⟨gen, k, acked, peer, 3, seq⟩ := by simp [Dk.wanted]
      have eb : Dk.wants ⟨gen, k, acked, peer, 3, seq⟩ a = false := by simp [Dk.wants]
      go_wp2
      rw [ew, eb]
      exact bodyPost_ret (results_cell_tmp' rfl rfl rfl D.out.r1) rfl ⟨rfl, D.out.be⟩
    · have e3 : (stage == 3) = false := by simp [h3]
      have H3 := Lib.hid h3
      clear h3
      by_cases h2 : stage = 2
      · subst h2
        by_cases ha : a = peer
        · have ew : Dk.wanted ⟨gen, k, acked, peer, 2, seq⟩ a = ⟨gen, k, acked, peer, 2, seq⟩ := by simp [Dk.wanted, ha]
          have eb : Dk.wants ⟨gen, k, acked, peer, 2, seq⟩ a = false := by simp [Dk.wants]
          have ea : (a == peer) = true := by simp [ha]
          clear ha
          go_wp2
          rw [ew, eb]
          exact bodyPost_ret (results_cell_tmp' rfl rfl rfl D.out.r1) rfl ⟨rfl, D.out.be⟩
        · have ew : Dk.wanted ⟨gen, k, acked, peer, 2, seq⟩ a = Dk.drop ⟨gen, k, acked, peer, 2, seq⟩ := by simp [Dk.wanted, ha, hi]
          have eb : Dk.wants ⟨gen, k, acked, peer, 2, seq⟩ a = false := by simp [Dk.wants]
          have ea : (a == peer) = false := by simp [ha]
          have EW := Lib.hid ew
          clear ha ew
          go_wp2_with fail
          refine (drop_calls _ 69 ⟨gen, k, acked, peer, 2, seq⟩ _ _ N.out.r2 HQ.out).mono ?_
          rintro e w1 ⟨rfl, hl⟩
          have M := Lib.hid (N.out.left 2 hl)
          clear hl N D T3 c0 c1 f1 c2 f2
          have c2 := M.out.r2.cell
          have c1 := M.out.r1.cell
          have f1 := M.out.r1.free
          have l2 := M.out.r2.lt
          go_wp2
          rw [EW.out, eb]
          exact bodyPost_ret (results_cell_tmp' rfl rfl rfl (M.out.r1.fill7 _ _ _ _ _ _ _)) rfl ⟨rfl, Below.fill7 M.out.be (by omega) _ _ _ _ _ _ _⟩
      · have e2 : (stage == 2) = false := by simp [h2]
        have ew : Dk.wanted ⟨gen, k, acked, peer, stage, seq⟩ a = ⟨gen, k, 0, a, 1, seq⟩ := by simp [Dk.wanted, hi, H3.out, h2]
        have eb : Dk.wants ⟨gen, k, acked, peer, stage, seq⟩ a = true := by simp [Dk.wants, hi, H3.out, h2]
        have D2 := T3 ⟨gen, k, 0, a, 1, seq⟩ ⟨gen, k, 0, a, 1, seq⟩
        clear h2
        go_wp2
        rw [ew, eb]
        exact bodyPost_ret (results_cell_tmp' rfl rfl rfl D2.out.r1) rfl ⟨rfl, D2.out.be⟩
def Dk.ack (d : Dk) (inc hv : Int) : Dk :=
  if apartB d.stage = true ∨ ¬ inc = d.peer ∨ hv < d.acked ∨ hv > d.k then d
  else if d.stage = 1 ∧ hv = d.k then (if d.seq ≥ 4611686018427387904 then d else ⟨d.gen, d.k, hv, d.peer, 2, d.seq + 1⟩) else { d with acked := hv }
set_option maxRecDepth 100000 in
set_option maxHeartbeats 2000000 in
theorem Ack_calls (d : Dk) (s : Value) (a b : Int) (w : World) (hq0 : 0 ≤ d.seq) (hs : ∃ A n c, s = .slice A n c) :
    Calls Try.prog 17 #[d.val s, I a, I b] w fun e w' => e = .returned ((d.ack a b).val s) ∧ Below w.heap.size w w' := by
  obtain ⟨A, n, c, rfl⟩ := hs
  have HQ := Lib.hid hq0
  clear hq0
  obtain ⟨gen, k, acked, peer, stage, seq⟩ := d
  have T3 : ∀ (d1 d2 : Dk), Hid (Scene w [(26, Dk.row ⟨gen, k, acked, peer, stage, seq⟩ (.slice A n c)), (26, d1.row (.slice A n c)), (69, d2.row (.slice A n c))] ((((w.alloc (.cells (Dk.row ⟨gen, k, acked, peer, stage, seq⟩ (.slice A n c)) 26)).alloc (.cells (d1.row (.slice A n c)) 26)).alloc (.cells (d2.row (.slice A n c)) 69)))) := fun d1 d2 => Lib.hid ((((Scene.none w).push (by simp) _ _).push (by simp) _ _).push (by simp) _ _)
  have T0 : ∀ (d2 : Dk), Hid (Scene w [(26, Dk.row ⟨gen, k, acked, peer, stage, seq⟩ (.slice A n c)), (26, z7), (69, d2.row (.slice A n c))] ((((w.alloc (.cells (Dk.row ⟨gen, k, acked, peer, stage, seq⟩ (.slice A n c)) 26)).alloc (.cells z7 26)).alloc (.cells (d2.row (.slice A n c)) 69)))) := fun d2 => Lib.hid ((((Scene.none w).push (by simp) _ _).push (by simp) _ _).push (by simp) _ _)
  have N := T0 ⟨gen, k, acked, peer, stage, seq⟩
  have D := T3 ⟨gen, k, acked, peer, stage, seq⟩ ⟨gen, k, acked, peer, stage, seq⟩
  go_enter Try.func17, Try.ntmps17
  go_wp2_with fail
  refine (apart_calls _ 69 ⟨gen, k, acked, peer, stage, seq⟩ _ _ N.out.r2).mono ?_
  rintro e _ ⟨rfl, rfl⟩
  dsimp only
  cases ha : apartB stage
  · have es : (stage == 0) = false ∧ (stage == 3) = false := by simpa [apartB] using ha
    by_cases h1 : a = peer
    · subst h1
      have d1 : (a != a) = false := by simp
      by_cases h2 : b < acked
      · have d2 : decide (b < acked) = true := decide_eq_true h2
        have ew : Dk.ack ⟨gen, k, acked, a, stage, seq⟩ a b = ⟨gen, k, acked, a, stage, seq⟩ := by simp [Dk.ack, h2]
        clear h2
        go_wp2
        rw [ew]
        exact bodyPost_ret (results_cell rfl rfl D.out.r1) rfl ⟨rfl, D.out.be⟩
      · have d2 : decide (b < acked) = false := decide_eq_false h2
        by_cases h3 : b > k
        · have d3 : decide (b > k) = true := decide_eq_true h3
          have ew : Dk.ack ⟨gen, k, acked, a, stage, seq⟩ a b = ⟨gen, k, acked, a, stage, seq⟩ := by simp [Dk.ack, h3]
          clear h2 h3
          go_wp2
          rw [ew]
          exact bodyPost_ret (results_cell rfl rfl D.out.r1) rfl ⟨rfl, D.out.be⟩
        · have d3 : decide (b > k) = false := decide_eq_false h3
          have H23 := Lib.hid (And.intro h2 h3)
          clear h2 h3
          have M := T0 ⟨gen, k, b, a, stage, seq⟩
          have MD := Lib.hid M.out.drew
          by_cases h4 : stage = 1
          · subst h4
            by_cases h5 : b = k
            · subst h5
              have k5 : (b == b) = true := by simp
              by_cases h6 : seq ≥ 4611686018427387904
              · have EW := Lib.hid (show Dk.ack ⟨gen, b, acked, a, 1, seq⟩ a b = ⟨gen, b, acked, a, 1, seq⟩ by simp [Dk.ack, h6])
                have H6 := Lib.hid h6
                clear h6
                go_wp2
                refine wp_region_noPanic ?_
                refine wp_region_held_drew (S := fun w' => ∀ o, w'.cell? ⟨w.heap.size + 1 + 1, o, none⟩ = (Dk.row ⟨gen, b, b, a, 1, seq⟩ (.slice A n c))[o]?) (by kernel_rfl) (MD.out.r2.cell) (fun hHeld => ?_)
                refine wpAnyH_take (i := 0) (oi := _) (v := ?v1) rfl (by kernel_rfl) (by kernel_rfl) (by kernel_rfl) (fun _ _ _ h => h) (Or.inl ⟨by rfl, ?hy1⟩) (by assumption) ?_
                case hy1 =>
                  intro w' hSw
                  (try dsimp only at hSw)
                  simp only [List.getElem_toArray, List.getElem_cons_succ, List.getElem_cons_zero]
                  go_simp
                  (try with_reducible rfl)
                change wpAnyH _ _ _ _ _ _ _ (Act.put _ (some 37) _) _
                simp only [Act.put, List.setIfInBounds_toArray, List.set_cons_zero, List.set_cons_succ]
                refine wpAnyH_take (i := 1) (oi := _) (v := ?v2) rfl (by kernel_rfl) (by kernel_rfl) (by kernel_rfl) (fun _ _ _ h => h) (Or.inl ⟨by rfl, ?hy2⟩) (by assumption) ?_
                case hy2 =>
                  intro w' hSw
                  (try dsimp only at hSw)
                  simp only [List.getElem_toArray, List.getElem_cons_succ, List.getElem_cons_zero]
                  go_simp
                  (try with_reducible rfl)
                change wpAnyH _ _ _ _ _ _ _ (Act.put _ (some 38) _) _
                simp only [Act.put, List.setIfInBounds_toArray, List.set_cons_zero, List.set_cons_succ]
                refine wpAnyH_take (i := 2) (oi := _) (v := ?v3) rfl (by kernel_rfl) (by kernel_rfl) (by kernel_rfl) (fun _ _ _ h => h) (Or.inl ⟨by rfl, ?hy3⟩) (by assumption) ?_
                case hy3 =>
                  intro w' hSw
                  (try dsimp only at hSw)
                  simp only [List.getElem_toArray, List.getElem_cons_succ, List.getElem_cons_zero]
                  go_simp
                  (try with_reducible rfl)
                change wpAnyH _ _ _ _ _ _ _ (Act.put _ (some 39) _) _
                simp only [Act.put, List.setIfInBounds_toArray, List.set_cons_zero, List.set_cons_succ]
                refine wpAnyH_take (i := 3) (oi := _) (v := ?v4) rfl (by kernel_rfl) (by kernel_rfl) (by kernel_rfl) (fun _ _ _ h => h) (Or.inl ⟨by rfl, ?hy4⟩) (by assumption) ?_
                case hy4 =>
                  intro w' hSw
                  (try dsimp only at hSw)
                  simp only [List.getElem_toArray, List.getElem_cons_succ, List.getElem_cons_zero]
                  go_simp
                  (try with_reducible rfl)
                change wpAnyH _ _ _ _ _ _ _ (Act.put _ (some 40) _) _
                simp only [Act.put, List.setIfInBounds_toArray, List.set_cons_zero, List.set_cons_succ]
                refine wpAnyH_take (i := 4) (oi := _) (v := ?v5) rfl (by kernel_rfl) (by kernel_rfl) (by kernel_rfl) (fun _ _ _ h => h) (Or.inl ⟨by rfl, ?hy5⟩) (by assumption) ?_
                case hy5 =>
                  intro w' hSw
                  (try dsimp only at hSw)
                  simp only [List.getElem_toArray, List.getElem_cons_succ, List.getElem_cons_zero]
                  go_simp
                  (try with_reducible rfl)
                change wpAnyH _ _ _ _ _ _ _ (Act.put _ (some 41) _) _
                simp only [Act.put, List.setIfInBounds_toArray, List.set_cons_zero, List.set_cons_succ]
                refine wpAnyH_take (i := 5) (oi := _) (v := ?v6) rfl (by kernel_rfl) (by kernel_rfl) (by kernel_rfl) (fun _ _ _ h => h) (Or.inl ⟨by rfl, ?hy6⟩) (by assumption) ?_
                case hy6 =>
                  intro w' hSw
                  (try dsimp only at hSw)
                  simp only [List.getElem_toArray, List.getElem_cons_succ, List.getElem_cons_zero]
                  go_simp
                  (try with_reducible rfl)
                change wpAnyH _ _ _ _ _ _ _ (Act.put _ (some 42) _) _
                simp only [Act.put, List.setIfInBounds_toArray, List.set_cons_zero, List.set_cons_succ]
                refine wpAnyH_take (i := 6) (oi := _) (v := ?v7) rfl (by kernel_rfl) (by kernel_rfl) (by kernel_rfl) (fun _ _ _ h => h) (Or.inl ⟨by rfl, ?hy7⟩) (by assumption) ?_
                case hy7 =>
                  intro w' hSw
                  (try dsimp only at hSw)
                  simp only [List.getElem_toArray, List.getElem_cons_succ, List.getElem_cons_zero]
                  go_simp
                  (try with_reducible rfl)
                change wpAnyH _ _ _ _ _ _ _ (Act.put _ (some 43) _) _
                simp only [Act.put, List.setIfInBounds_toArray, List.set_cons_zero, List.set_cons_succ]
                refine wpAnyH_take (i := 7) (oi := _) (v := ?v8) rfl (by kernel_rfl) (by kernel_rfl) (by kernel_rfl) (fun _ _ _ h => h) (Or.inl ⟨by rfl, ?hy8⟩) (by assumption) ?_
                case hy8 =>
                  intro w' hSw
                  (try dsimp only at hSw)
                  simp only [List.getElem_toArray, List.getElem_cons_succ, List.getElem_cons_zero]
                  go_simp
                  (try with_reducible rfl)
                change wpAnyH _ _ _ _ _ _ _ (Act.put _ (some 44) _) _
                simp only [Act.put, List.setIfInBounds_toArray, List.set_cons_zero, List.set_cons_succ]
                refine wpAnyH_take (i := 8) (oi := _) (v := ?v9) rfl (by kernel_rfl) (by kernel_rfl) (by kernel_rfl) (fun _ _ _ h => h) (Or.inl ⟨by rfl, ?hy9⟩) (by assumption) ?_
                case hy9 =>
                  intro w' hSw
                  (try dsimp only at hSw)
                  simp only [List.getElem_toArray, List.getElem_cons_succ, List.getElem_cons_zero]
                  go_simp
                  (try with_reducible rfl)
                change wpAnyH _ _ _ _ _ _ _ (Act.put _ (some 45) _) _
                simp only [Act.put, List.setIfInBounds_toArray, List.set_cons_zero, List.set_cons_succ]
                refine wpAnyH_take (i := 9) (oi := _) (v := ?v10) rfl (by kernel_rfl) (by kernel_rfl) (by kernel_rfl) (fun _ _ _ h => h) (Or.inl ⟨by rfl, ?hy10⟩) (by assumption) ?_
                case hy10 =>
                  intro w' hSw
                  (try dsimp only at hSw)
                  simp only [List.getElem_toArray, List.getElem_cons_succ, List.getElem_cons_zero]
                  go_simp
                  (try with_reducible rfl)
                change wpAnyH _ _ _ _ _ _ _ (Act.put _ (some 46) _) _
                simp only [Act.put, List.setIfInBounds_toArray, List.set_cons_zero, List.set_cons_succ]
                refine wpAnyH_take (i := 10) (oi := _) (v := ?v11) rfl (by kernel_rfl) (by kernel_rfl) (by kernel_rfl) (fun _ _ _ h => h) (Or.inl ⟨by rfl, ?hy11⟩) (by assumption) ?_
                case hy11 =>
                  intro w' hSw
                  (try dsimp only at hSw)
                  simp only [List.getElem_toArray, List.getElem_cons_succ, List.getElem_cons_zero]
                  go_simp
                  (try with_reducible rfl)
                change wpAnyH _ _ _ _ _ _ _ (Act.put _ (some 47) _) _
                simp only [Act.put, List.setIfInBounds_toArray, List.set_cons_zero, List.set_cons_succ]
                refine wpAnyH_take (i := 11) (oi := _) (v := ?v12) rfl (by kernel_rfl) (by kernel_rfl) (by kernel_rfl) (fun _ _ _ h => h) (Or.inl ⟨by rfl, ?hy12⟩) (by assumption) ?_
                case hy12 =>
                  intro w' hSw
                  (try dsimp only at hSw)
                  simp only [List.getElem_toArray, List.getElem_cons_succ, List.getElem_cons_zero]
                  go_simp
                  (try with_reducible rfl)
                change wpAnyH _ _ _ _ _ _ _ (Act.put _ (some 48) _) _
                simp only [Act.put, List.setIfInBounds_toArray, List.set_cons_zero, List.set_cons_succ]
                refine wpAnyH_take (i := 12) (oi := _) (v := ?v13) rfl (by kernel_rfl) (by kernel_rfl) (by kernel_rfl) (fun _ _ _ h => h) (Or.inl ⟨by rfl, ?hy13⟩) (by assumption) ?_
                case hy13 =>
                  intro w' hSw
                  (try dsimp only at hSw)
                  simp only [List.getElem_toArray, List.getElem_cons_succ, List.getElem_cons_zero]
                  go_simp
                  (try with_reducible rfl)
                change wpAnyH _ _ _ _ _ _ _ (Act.put _ (some 49) _) _
                simp only [Act.put, List.setIfInBounds_toArray, List.set_cons_zero, List.set_cons_succ]
                refine wpAnyH_take (i := 13) (oi := _) (v := ?v14) rfl (by kernel_rfl) (by kernel_rfl) (by kernel_rfl) (fun _ _ _ h => h) (Or.inl ⟨by rfl, ?hy14⟩) (by assumption) ?_
                case hy14 =>
                  intro w' hSw
                  (try dsimp only at hSw)
                  simp only [List.getElem_toArray, List.getElem_cons_succ, List.getElem_cons_zero]
                  go_simp
                  (try with_reducible rfl)
                change wpAnyH _ _ _ _ _ _ _ (Act.put _ (some 50) _) _
                simp only [Act.put, List.setIfInBounds_toArray, List.set_cons_zero, List.set_cons_succ]
                refine wpAnyH_take (i := 14) (oi := _) (v := ?v15) rfl (by kernel_rfl) (by kernel_rfl) (by kernel_rfl) (fun _ _ _ h => h) (Or.inl ⟨by rfl, ?hy15⟩) (by assumption) ?_
                case hy15 =>
                  intro w' hSw
                  (try dsimp only at hSw)
                  simp only [List.getElem_toArray, List.getElem_cons_succ, List.getElem_cons_zero]
                  go_simp
                  (try with_reducible rfl)
                change wpAnyH _ _ _ _ _ _ _ (Act.put _ (some 51) _) _
                simp only [Act.put, List.setIfInBounds_toArray, List.set_cons_zero, List.set_cons_succ]
                refine wpAnyH_take (i := 15) (oi := _) (v := ?v16) rfl (by kernel_rfl) (by kernel_rfl) (by kernel_rfl) (fun _ _ _ h => h) (Or.inl ⟨by rfl, ?hy16⟩) (by assumption) ?_
                case hy16 =>
                  intro w' hSw
                  (try dsimp only at hSw)
                  simp only [List.getElem_toArray, List.getElem_cons_succ, List.getElem_cons_zero]
                  go_simp
                  (try with_reducible rfl)
                change wpAnyH _ _ _ _ _ _ _ (Act.put _ (some 52) _) _
                simp only [Act.put, List.setIfInBounds_toArray, List.set_cons_zero, List.set_cons_succ]
                refine wpAnyH_take (i := 16) (oi := _) (v := ?v17) rfl (by kernel_rfl) (by kernel_rfl) (by kernel_rfl) (fun _ _ _ h => h) (Or.inl ⟨by rfl, ?hy17⟩) (by assumption) ?_
                case hy17 =>
                  intro w' hSw
                  (try dsimp only at hSw)
                  simp only [List.getElem_toArray, List.getElem_cons_succ, List.getElem_cons_zero]
                  go_simp
                  (try with_reducible rfl)
                change wpAnyH _ _ _ _ _ _ _ (Act.put _ (some 53) _) _
                simp only [Act.put, List.setIfInBounds_toArray, List.set_cons_zero, List.set_cons_succ]
                refine wpAnyH_take (i := 17) (oi := _) (v := ?v18) rfl (by kernel_rfl) (by kernel_rfl) (by kernel_rfl) (fun _ _ _ h => h) (Or.inl ⟨by rfl, ?hy18⟩) (by assumption) ?_
                case hy18 =>
                  intro w' hSw
                  (try dsimp only at hSw)
                  simp only [List.getElem_toArray, List.getElem_cons_succ, List.getElem_cons_zero]
                  go_simp
                  (try with_reducible rfl)
                change wpAnyH _ _ _ _ _ _ _ (Act.put _ (some 54) _) _
                simp only [Act.put, List.setIfInBounds_toArray, List.set_cons_zero, List.set_cons_succ]
                refine wpAnyH_take (i := 18) (oi := _) (v := ?v19) rfl (by kernel_rfl) (by kernel_rfl) (by kernel_rfl) (fun _ _ _ h => h) (Or.inl ⟨by rfl, ?hy19⟩) (by assumption) ?_
                case hy19 =>
                  intro w' hSw
                  (try dsimp only at hSw)
                  simp only [List.getElem_toArray, List.getElem_cons_succ, List.getElem_cons_zero]
                  go_simp
                  (try with_reducible rfl)
                change wpAnyH _ _ _ _ _ _ _ (Act.put _ (some 55) _) _
                simp only [Act.put, List.setIfInBounds_toArray, List.set_cons_zero, List.set_cons_succ]
                refine wpAnyH_take (i := 19) (oi := _) (v := ?v20) rfl (by kernel_rfl) (by kernel_rfl) (by kernel_rfl) (fun _ _ _ h => h) (Or.inl ⟨by rfl, ?hy20⟩) (by assumption) ?_
                case hy20 =>
                  intro w' hSw
                  (try dsimp only at hSw)
                  simp only [List.getElem_toArray, List.getElem_cons_succ, List.getElem_cons_zero]
                  go_simp
                  (try with_reducible rfl)
                change wpAnyH _ _ _ _ _ _ _ (Act.put _ (some 56) _) _
                simp only [Act.put, List.setIfInBounds_toArray, List.set_cons_zero, List.set_cons_succ]
                refine wpAnyH_take (i := 20) (oi := _) (v := ?v21) rfl (by kernel_rfl) (by kernel_rfl) (by kernel_rfl) (fun _ _ _ h => h) (Or.inl ⟨by rfl, ?hy21⟩) (by assumption) ?_
                case hy21 =>
                  intro w' hSw
                  (try dsimp only at hSw)
                  simp only [List.getElem_toArray, List.getElem_cons_succ, List.getElem_cons_zero]
                  go_simp
                  (try with_reducible rfl)
                change wpAnyH _ _ _ _ _ _ _ (Act.put _ (some 57) _) _
                simp only [Act.put, List.setIfInBounds_toArray, List.set_cons_zero, List.set_cons_succ]
                refine wpAnyH_take (i := 21) (oi := _) (v := ?v22) rfl (by kernel_rfl) (by kernel_rfl) (by kernel_rfl) (fun _ _ _ h => h) (Or.inl ⟨by rfl, ?hy22⟩) (by assumption) ?_
                case hy22 =>
                  intro w' hSw
                  (try dsimp only at hSw)
                  simp only [List.getElem_toArray, List.getElem_cons_succ, List.getElem_cons_zero]
                  go_simp
                  (try with_reducible rfl)
                change wpAnyH _ _ _ _ _ _ _ (Act.put _ (some 58) _) _
                simp only [Act.put, List.setIfInBounds_toArray, List.set_cons_zero, List.set_cons_succ]
                refine wpAnyH_take (i := 22) (oi := _) (v := ?v23) rfl (by kernel_rfl) (by kernel_rfl) (by kernel_rfl) (fun _ _ _ h => h) (Or.inl ⟨by rfl, ?hy23⟩) (by assumption) ?_
                case hy23 =>
                  intro w' hSw
                  (try dsimp only at hSw)
                  simp only [List.getElem_toArray, List.getElem_cons_succ, List.getElem_cons_zero]
                  go_simp
                  (try with_reducible rfl)
                change wpAnyH _ _ _ _ _ _ _ (Act.put _ (some 59) _) _
                simp only [Act.put, List.setIfInBounds_toArray, List.set_cons_zero, List.set_cons_succ]
                refine wpAnyH_take (i := 23) (oi := _) (v := ?v24) rfl (by kernel_rfl) (by kernel_rfl) (by kernel_rfl) (fun _ _ _ h => h) (Or.inl ⟨by rfl, ?hy24⟩) (by assumption) ?_
                case hy24 =>
                  intro w' hSw
                  (try dsimp only at hSw)
                  simp only [List.getElem_toArray, List.getElem_cons_succ, List.getElem_cons_zero]
                  go_simp
                  (try with_reducible rfl)
                change wpAnyH _ _ _ _ _ _ _ (Act.put _ (some 60) _) _
                simp only [Act.put, List.setIfInBounds_toArray, List.set_cons_zero, List.set_cons_succ]
                refine wpAnyH_take (i := 24) (oi := _) (v := ?v25) rfl (by kernel_rfl) (by kernel_rfl) (by kernel_rfl) (fun _ _ _ h => h) (Or.inl ⟨by rfl, ?hy25⟩) (by assumption) ?_
                case hy25 =>
                  intro w' hSw
                  (try dsimp only at hSw)
                  simp only [List.getElem_toArray, List.getElem_cons_succ, List.getElem_cons_zero]
                  go_simp
                  (try with_reducible rfl)
                change wpAnyH _ _ _ _ _ _ _ (Act.put _ (some 61) _) _
                simp only [Act.put, List.setIfInBounds_toArray, List.set_cons_zero, List.set_cons_succ]
                refine wpAnyH_take (i := 25) (oi := _) (v := ?v26) rfl (by kernel_rfl) (by kernel_rfl) (by kernel_rfl) (fun _ _ _ h => h) (Or.inl ⟨by rfl, ?hy26⟩) (by assumption) ?_
                case hy26 =>
                  intro w' hSw
                  (try dsimp only at hSw)
                  simp only [List.getElem_toArray, List.getElem_cons_succ, List.getElem_cons_zero]
                  go_simp
                  (try with_reducible rfl)
                change wpAnyH _ _ _ _ _ _ _ (Act.put _ (some 62) _) _
                simp only [Act.put, List.setIfInBounds_toArray, List.set_cons_zero, List.set_cons_succ]
                refine wpAnyH_ready (rs := [26]) (by kernel_rfl) (by simp) ?_
                refine AllReadyH.cons (o := _) rfl (fun K hK => ?_) AllReadyH.nil
                go_simp
                refine (change_full _ 69 ⟨gen, b, b, a, 1, seq⟩ _ 2 a _ MD.out.r2 H6.out).mono ?_
                rintro e _ ⟨rfl, rfl⟩
                go_wp2_with fail
                refine hK.out _ _ (MD.out.r2.cell) (fun hHeld => ?_)
                clear hK K
                try simp only [Act.put, List.setIfInBounds_toArray, List.set_cons_zero, List.set_cons_succ]
                refine wpAnyH_take (i := 27) (oi := _) (v := ?v27) rfl (by kernel_rfl) (by kernel_rfl) (by kernel_rfl) (fun _ _ _ h => h) (Or.inl ⟨by rfl, ?hy27⟩) (by assumption) ?_
                case hy27 =>
                  intro w' hSw
                  (try dsimp only at hSw)
                  simp only [List.getElem_toArray, List.getElem_cons_succ, List.getElem_cons_zero]
                  go_simp
                  (try with_reducible rfl)
                change wpAnyH _ _ _ _ _ _ _ (Act.put _ (some 64) _) _
                simp only [Act.put, List.setIfInBounds_toArray, List.set_cons_zero, List.set_cons_succ]
                refine wpAnyH_take (i := 28) (oi := _) (v := ?v28) rfl (by kernel_rfl) (by kernel_rfl) (by kernel_rfl) (fun _ _ _ h => h) (Or.inl ⟨by rfl, ?hy28⟩) (by assumption) ?_
                case hy28 =>
                  intro w' hSw
                  (try dsimp only at hSw)
                  simp only [List.getElem_toArray, List.getElem_cons_succ, List.getElem_cons_zero]
                  go_simp
                  (try with_reducible rfl)
                change wpAnyH _ _ _ _ _ _ _ (Act.put _ (some 65) _) _
                simp only [Act.put, List.setIfInBounds_toArray, List.set_cons_zero, List.set_cons_succ]
                refine wpAnyH_done (by kernel_rfl) ?_ _
                refine NoPanic.normal ?_
                have E := Lib.hid (T3 ⟨gen, b, acked, a, 1, seq⟩ ⟨gen, b, b, a, 1, seq⟩).out.drew
                go_wp2
                rw [EW.out]
                exact bodyPost_ret (results_cell rfl rfl E.out.r1) rfl ⟨rfl, E.out.be⟩
              · have EW := Lib.hid (show Dk.ack ⟨gen, b, acked, a, 1, seq⟩ a b = ⟨gen, b, b, a, 2, seq + 1⟩ by
                  have := H23.out
                  simp [Dk.ack, ha, h6, show ¬ b < acked by omega])
                have H6 := Lib.hid (show seq < 4611686018427387904 by omega)
                clear h6
                go_wp2
                refine wp_region_noPanic ?_
                refine wp_region_held_drew (S := fun w' => w'.cell? ⟨w.heap.size + 1 + 1, 1, none⟩ = some (I b) ∧ w'.cell? ⟨w.heap.size + 1 + 1, 2, none⟩ = some (I b)) (by kernel_rfl) (⟨MD.out.r2.cell 1, MD.out.r2.cell 2⟩) (fun hHeld => ?_)
                refine wpAnyH_take (i := 0) (oi := _) (v := ?v29) rfl (by kernel_rfl) (by kernel_rfl) (by kernel_rfl) (fun _ _ _ h => h) (Or.inl ⟨by rfl, ?hy29⟩) (by assumption) ?_
                case hy29 =>
                  intro w' hSw
                  (try dsimp only at hSw)
                  simp only [List.getElem_toArray, List.getElem_cons_succ, List.getElem_cons_zero]
                  go_simp
                  (try with_reducible rfl)
                change wpAnyH _ _ _ _ _ _ _ (Act.put _ (some 37) _) _
                simp only [Act.put, List.setIfInBounds_toArray, List.set_cons_zero, List.set_cons_succ]
                refine wpAnyH_take (i := 1) (oi := _) (v := ?v30) rfl (by kernel_rfl) (by kernel_rfl) (by kernel_rfl) (fun _ _ _ h => h) (Or.inl ⟨by rfl, ?hy30⟩) (by assumption) ?_
                case hy30 =>
                  intro w' hSw
                  (try dsimp only at hSw)
                  simp only [List.getElem_toArray, List.getElem_cons_succ, List.getElem_cons_zero]
                  go_simp
                  (try with_reducible rfl)
                change wpAnyH _ _ _ _ _ _ _ (Act.put _ (some 38) _) _
                simp only [Act.put, List.setIfInBounds_toArray, List.set_cons_zero, List.set_cons_succ]
                refine wpAnyH_take (i := 2) (oi := _) (v := ?v31) rfl (by kernel_rfl) (by kernel_rfl) (by kernel_rfl) (fun _ _ _ h => h) (Or.inl ⟨by rfl, ?hy31⟩) (by assumption) ?_
                case hy31 =>
                  intro w' hSw
                  (try dsimp only at hSw)
                  simp only [List.getElem_toArray, List.getElem_cons_succ, List.getElem_cons_zero]
                  go_simp
                  (try with_reducible rfl)
                change wpAnyH _ _ _ _ _ _ _ (Act.put _ (some 39) _) _
                simp only [Act.put, List.setIfInBounds_toArray, List.set_cons_zero, List.set_cons_succ]
                refine wpAnyH_take (i := 3) (oi := _) (v := ?v32) rfl (by kernel_rfl) (by kernel_rfl) (by kernel_rfl) (fun _ _ _ h => h) (Or.inl ⟨by rfl, ?hy32⟩) (by assumption) ?_
                case hy32 =>
                  intro w' hSw
                  (try dsimp only at hSw)
                  simp only [List.getElem_toArray, List.getElem_cons_succ, List.getElem_cons_zero]
                  go_simp
                  (try with_reducible rfl)
                change wpAnyH _ _ _ _ _ _ _ (Act.put _ (some 40) _) _
                simp only [Act.put, List.setIfInBounds_toArray, List.set_cons_zero, List.set_cons_succ]
                refine wpAnyH_ready (rs := [4]) (by kernel_rfl) (by simp) ?_
                refine AllReadyH.cons (o := _) rfl (fun K hK => ?_) AllReadyH.nil
                simp only [List.getElem_toArray, List.getElem_cons_succ, List.getElem_cons_zero]
                go_simp
                refine hK.out _ _ (⟨MD.out.r2.cell 1, MD.out.r2.cell 2⟩) (fun hHeld => ?_)
                clear hK K
                try simp only [Act.put, List.setIfInBounds_toArray, List.set_cons_zero, List.set_cons_succ]
                refine wpAnyH_take (i := 5) (oi := _) (v := ?v33) rfl (by kernel_rfl) (by kernel_rfl) (by kernel_rfl) (fun _ _ _ h => h) (Or.inl ⟨by rfl, ?hy33⟩) (by assumption) ?_
                case hy33 =>
                  intro w' hSw
                  (try dsimp only at hSw)
                  simp only [List.getElem_toArray, List.getElem_cons_succ, List.getElem_cons_zero]
                  go_simp
                  (try with_reducible rfl)
                change wpAnyH _ _ _ _ _ _ _ (Act.put _ (some 42) _) _
                simp only [Act.put, List.setIfInBounds_toArray, List.set_cons_zero, List.set_cons_succ]
                refine wpAnyH_take (i := 6) (oi := _) (v := ?v34) rfl (by kernel_rfl) (by kernel_rfl) (by kernel_rfl) (fun _ _ _ h => h) (Or.inl ⟨by rfl, ?hy34⟩) (by assumption) ?_
                case hy34 =>
                  intro w' hSw
                  (try dsimp only at hSw)
                  simp only [List.getElem_toArray, List.getElem_cons_succ, List.getElem_cons_zero]
                  go_simp
                  (try with_reducible rfl)
                change wpAnyH _ _ _ _ _ _ _ (Act.put _ (some 43) _) _
                simp only [Act.put, List.setIfInBounds_toArray, List.set_cons_zero, List.set_cons_succ]
                refine wpAnyH_take (i := 7) (oi := _) (v := ?v35) rfl (by kernel_rfl) (by kernel_rfl) (by kernel_rfl) (fun _ _ _ h => h) (Or.inl ⟨by rfl, ?hy35⟩) (by assumption) ?_
                case hy35 =>
                  intro w' hSw
                  (try dsimp only at hSw)
                  simp only [List.getElem_toArray, List.getElem_cons_succ, List.getElem_cons_zero]
                  go_simp
                  (try with_reducible rfl)
                change wpAnyH _ _ _ _ _ _ _ (Act.put _ (some 44) _) _
                simp only [Act.put, List.setIfInBounds_toArray, List.set_cons_zero, List.set_cons_succ]
                refine wpAnyH_take (i := 8) (oi := _) (v := ?v36) rfl (by kernel_rfl) (by kernel_rfl) (by kernel_rfl) (fun _ _ _ h => h) (Or.inl ⟨by rfl, ?hy36⟩) (by assumption) ?_
                case hy36 =>
                  intro w' hSw
                  (try dsimp only at hSw)
                  simp only [List.getElem_toArray, List.getElem_cons_succ, List.getElem_cons_zero]
                  go_simp
                  (try with_reducible rfl)
                change wpAnyH _ _ _ _ _ _ _ (Act.put _ (some 45) _) _
                simp only [Act.put, List.setIfInBounds_toArray, List.set_cons_zero, List.set_cons_succ]
                refine wpAnyH_take (i := 9) (oi := _) (v := ?v37) rfl (by kernel_rfl) (by kernel_rfl) (by kernel_rfl) (fun _ _ _ h => h) (Or.inl ⟨by rfl, ?hy37⟩) (by assumption) ?_
                case hy37 =>
                  intro w' hSw
                  (try dsimp only at hSw)
                  simp only [List.getElem_toArray, List.getElem_cons_succ, List.getElem_cons_zero]
                  go_simp
                  (try with_reducible rfl)
                change wpAnyH _ _ _ _ _ _ _ (Act.put _ (some 46) _) _
                simp only [Act.put, List.setIfInBounds_toArray, List.set_cons_zero, List.set_cons_succ]
                refine wpAnyH_take (i := 10) (oi := _) (v := ?v38) rfl (by kernel_rfl) (by kernel_rfl) (by kernel_rfl) (fun _ _ _ h => h) (Or.inl ⟨by rfl, ?hy38⟩) (by assumption) ?_
                case hy38 =>
                  intro w' hSw
                  (try dsimp only at hSw)
                  simp only [List.getElem_toArray, List.getElem_cons_succ, List.getElem_cons_zero]
                  go_simp
                  (try with_reducible rfl)
                change wpAnyH _ _ _ _ _ _ _ (Act.put _ (some 47) _) _
                simp only [Act.put, List.setIfInBounds_toArray, List.set_cons_zero, List.set_cons_succ]
                refine wpAnyH_take (i := 11) (oi := _) (v := ?v39) rfl (by kernel_rfl) (by kernel_rfl) (by kernel_rfl) (fun _ _ _ h => h) (Or.inl ⟨by rfl, ?hy39⟩) (by assumption) ?_
                case hy39 =>
                  intro w' hSw
                  (try dsimp only at hSw)
                  simp only [List.getElem_toArray, List.getElem_cons_succ, List.getElem_cons_zero]
                  go_simp
                  (try with_reducible rfl)
                change wpAnyH _ _ _ _ _ _ _ (Act.put _ (some 48) _) _
                simp only [Act.put, List.setIfInBounds_toArray, List.set_cons_zero, List.set_cons_succ]
                refine wpAnyH_take (i := 12) (oi := _) (v := ?v40) rfl (by kernel_rfl) (by kernel_rfl) (by kernel_rfl) (fun _ _ _ h => h) (Or.inl ⟨by rfl, ?hy40⟩) (by assumption) ?_
                case hy40 =>
                  intro w' hSw
                  (try dsimp only at hSw)
                  simp only [List.getElem_toArray, List.getElem_cons_succ, List.getElem_cons_zero]
                  go_simp
                  (try with_reducible rfl)
                change wpAnyH _ _ _ _ _ _ _ (Act.put _ (some 49) _) _
                simp only [Act.put, List.setIfInBounds_toArray, List.set_cons_zero, List.set_cons_succ]
                refine wpAnyH_take (i := 13) (oi := _) (v := ?v41) rfl (by kernel_rfl) (by kernel_rfl) (by kernel_rfl) (fun _ _ _ h => h) (Or.inl ⟨by rfl, ?hy41⟩) (by assumption) ?_
                case hy41 =>
                  intro w' hSw
                  (try dsimp only at hSw)
                  simp only [List.getElem_toArray, List.getElem_cons_succ, List.getElem_cons_zero]
                  go_simp
                  (try with_reducible rfl)
                change wpAnyH _ _ _ _ _ _ _ (Act.put _ (some 50) _) _
                simp only [Act.put, List.setIfInBounds_toArray, List.set_cons_zero, List.set_cons_succ]
                refine wpAnyH_take (i := 14) (oi := _) (v := ?v42) rfl (by kernel_rfl) (by kernel_rfl) (by kernel_rfl) (fun _ _ _ h => h) (Or.inl ⟨by rfl, ?hy42⟩) (by assumption) ?_
                case hy42 =>
                  intro w' hSw
                  (try dsimp only at hSw)
                  simp only [List.getElem_toArray, List.getElem_cons_succ, List.getElem_cons_zero]
                  go_simp
                  (try with_reducible rfl)
                change wpAnyH _ _ _ _ _ _ _ (Act.put _ (some 51) _) _
                simp only [Act.put, List.setIfInBounds_toArray, List.set_cons_zero, List.set_cons_succ]
                refine wpAnyH_take (i := 15) (oi := _) (v := ?v43) rfl (by kernel_rfl) (by kernel_rfl) (by kernel_rfl) (fun _ _ _ h => h) (Or.inl ⟨by rfl, ?hy43⟩) (by assumption) ?_
                case hy43 =>
                  intro w' hSw
                  (try dsimp only at hSw)
                  simp only [List.getElem_toArray, List.getElem_cons_succ, List.getElem_cons_zero]
                  go_simp
                  (try with_reducible rfl)
                change wpAnyH _ _ _ _ _ _ _ (Act.put _ (some 52) _) _
                simp only [Act.put, List.setIfInBounds_toArray, List.set_cons_zero, List.set_cons_succ]
                refine wpAnyH_take (i := 16) (oi := _) (v := ?v44) rfl (by kernel_rfl) (by kernel_rfl) (by kernel_rfl) (fun _ _ _ h => h) (Or.inl ⟨by rfl, ?hy44⟩) (by assumption) ?_
                case hy44 =>
                  intro w' hSw
                  (try dsimp only at hSw)
                  simp only [List.getElem_toArray, List.getElem_cons_succ, List.getElem_cons_zero]
                  go_simp
                  (try with_reducible rfl)
                change wpAnyH _ _ _ _ _ _ _ (Act.put _ (some 53) _) _
                simp only [Act.put, List.setIfInBounds_toArray, List.set_cons_zero, List.set_cons_succ]
                refine wpAnyH_take (i := 17) (oi := _) (v := ?v45) rfl (by kernel_rfl) (by kernel_rfl) (by kernel_rfl) (fun _ _ _ h => h) (Or.inl ⟨by rfl, ?hy45⟩) (by assumption) ?_
                case hy45 =>
                  intro w' hSw
                  (try dsimp only at hSw)
                  simp only [List.getElem_toArray, List.getElem_cons_succ, List.getElem_cons_zero]
                  go_simp
                  (try with_reducible rfl)
                change wpAnyH _ _ _ _ _ _ _ (Act.put _ (some 54) _) _
                simp only [Act.put, List.setIfInBounds_toArray, List.set_cons_zero, List.set_cons_succ]
                refine wpAnyH_take (i := 18) (oi := _) (v := ?v46) rfl (by kernel_rfl) (by kernel_rfl) (by kernel_rfl) (fun _ _ _ h => h) (Or.inl ⟨by rfl, ?hy46⟩) (by assumption) ?_
                case hy46 =>
                  intro w' hSw
                  (try dsimp only at hSw)
                  simp only [List.getElem_toArray, List.getElem_cons_succ, List.getElem_cons_zero]
                  go_simp
                  (try with_reducible rfl)
                change wpAnyH _ _ _ _ _ _ _ (Act.put _ (some 55) _) _
                simp only [Act.put, List.setIfInBounds_toArray, List.set_cons_zero, List.set_cons_succ]
                refine wpAnyH_take (i := 19) (oi := _) (v := ?v47) rfl (by kernel_rfl) (by kernel_rfl) (by kernel_rfl) (fun _ _ _ h => h) (Or.inl ⟨by rfl, ?hy47⟩) (by assumption) ?_
                case hy47 =>
                  intro w' hSw
                  (try dsimp only at hSw)
                  simp only [List.getElem_toArray, List.getElem_cons_succ, List.getElem_cons_zero]
                  go_simp
                  (try with_reducible rfl)
                change wpAnyH _ _ _ _ _ _ _ (Act.put _ (some 56) _) _
                simp only [Act.put, List.setIfInBounds_toArray, List.set_cons_zero, List.set_cons_succ]
                refine wpAnyH_take (i := 20) (oi := _) (v := ?v48) rfl (by kernel_rfl) (by kernel_rfl) (by kernel_rfl) (fun _ _ _ h => h) (Or.inl ⟨by rfl, ?hy48⟩) (by assumption) ?_
                case hy48 =>
                  intro w' hSw
                  (try dsimp only at hSw)
                  simp only [List.getElem_toArray, List.getElem_cons_succ, List.getElem_cons_zero]
                  go_simp
                  (try with_reducible rfl)
                change wpAnyH _ _ _ _ _ _ _ (Act.put _ (some 57) _) _
                simp only [Act.put, List.setIfInBounds_toArray, List.set_cons_zero, List.set_cons_succ]
                refine wpAnyH_take (i := 21) (oi := _) (v := ?v49) rfl (by kernel_rfl) (by kernel_rfl) (by kernel_rfl) (fun _ _ _ h => h) (Or.inl ⟨by rfl, ?hy49⟩) (by assumption) ?_
                case hy49 =>
                  intro w' hSw
                  (try dsimp only at hSw)
                  simp only [List.getElem_toArray, List.getElem_cons_succ, List.getElem_cons_zero]
                  go_simp
                  (try with_reducible rfl)
                change wpAnyH _ _ _ _ _ _ _ (Act.put _ (some 58) _) _
                simp only [Act.put, List.setIfInBounds_toArray, List.set_cons_zero, List.set_cons_succ]
                refine wpAnyH_take (i := 22) (oi := _) (v := ?v50) rfl (by kernel_rfl) (by kernel_rfl) (by kernel_rfl) (fun _ _ _ h => h) (Or.inl ⟨by rfl, ?hy50⟩) (by assumption) ?_
                case hy50 =>
                  intro w' hSw
                  (try dsimp only at hSw)
                  simp only [List.getElem_toArray, List.getElem_cons_succ, List.getElem_cons_zero]
                  go_simp
                  (try with_reducible rfl)
                change wpAnyH _ _ _ _ _ _ _ (Act.put _ (some 59) _) _
                simp only [Act.put, List.setIfInBounds_toArray, List.set_cons_zero, List.set_cons_succ]
                refine wpAnyH_take (i := 23) (oi := _) (v := ?v51) rfl (by kernel_rfl) (by kernel_rfl) (by kernel_rfl) (fun _ _ _ h => h) (Or.inl ⟨by rfl, ?hy51⟩) (by assumption) ?_
                case hy51 =>
                  intro w' hSw
                  (try dsimp only at hSw)
                  simp only [List.getElem_toArray, List.getElem_cons_succ, List.getElem_cons_zero]
                  go_simp
                  (try with_reducible rfl)
                change wpAnyH _ _ _ _ _ _ _ (Act.put _ (some 60) _) _
                simp only [Act.put, List.setIfInBounds_toArray, List.set_cons_zero, List.set_cons_succ]
                refine wpAnyH_take (i := 24) (oi := _) (v := ?v52) rfl (by kernel_rfl) (by kernel_rfl) (by kernel_rfl) (fun _ _ _ h => h) (Or.inl ⟨by rfl, ?hy52⟩) (by assumption) ?_
                case hy52 =>
                  intro w' hSw
                  (try dsimp only at hSw)
                  simp only [List.getElem_toArray, List.getElem_cons_succ, List.getElem_cons_zero]
                  go_simp
                  (try with_reducible rfl)
                change wpAnyH _ _ _ _ _ _ _ (Act.put _ (some 61) _) _
                simp only [Act.put, List.setIfInBounds_toArray, List.set_cons_zero, List.set_cons_succ]
                refine wpAnyH_ready (rs := [25]) (by kernel_rfl) (by simp) ?_
                refine AllReadyH.cons (o := _) rfl (fun K hK => ?_) AllReadyH.nil
                simp only [List.getElem_toArray, List.getElem_cons_succ, List.getElem_cons_zero]
                go_simp
                refine hK.out _ _ (⟨MD.out.r2.cell 1, MD.out.r2.cell 2⟩) (fun hHeld => ?_)
                clear hK K
                try simp only [Act.put, List.setIfInBounds_toArray, List.set_cons_zero, List.set_cons_succ]
                refine wpAnyH_ready (rs := [26]) (by kernel_rfl) (by simp) ?_
                refine AllReadyH.cons (o := _) rfl (fun K hK => ?_) AllReadyH.nil
                go_simp
                refine (change_calls _ 69 ⟨gen, b, b, a, 1, seq⟩ _ 2 a _ MD.out.r2 H6.out HQ.out).mono ?_
                rintro e wn ⟨rfl, hl⟩
                have MN := Lib.hid (MD.out.left 2 hl)
                clear hl
                go_wp2_with fail
                refine hK.out _ _ (⟨MN.out.r2.cell 1, MN.out.r2.cell 2⟩) (fun hHeld => ?_)
                clear hK K
                try simp only [Act.put, List.setIfInBounds_toArray, List.set_cons_zero, List.set_cons_succ]
                refine wpAnyH_take (i := 27) (oi := _) (v := ?v53) rfl (by kernel_rfl) (by kernel_rfl) (by kernel_rfl) (fun _ _ _ h => h) (Or.inl ⟨by rfl, ?hy53⟩) (by assumption) ?_
                case hy53 =>
                  intro w' hSw
                  (try dsimp only at hSw)
                  simp only [List.getElem_toArray, List.getElem_cons_succ, List.getElem_cons_zero]
                  go_simp
                  (try with_reducible rfl)
                change wpAnyH _ _ _ _ _ _ _ (Act.put _ (some 64) _) _
                simp only [Act.put, List.setIfInBounds_toArray, List.set_cons_zero, List.set_cons_succ]
                refine wpAnyH_take (i := 28) (oi := _) (v := ?v54) rfl (by kernel_rfl) (by kernel_rfl) (by kernel_rfl) (fun _ _ _ h => h) (Or.inl ⟨by rfl, ?hy54⟩) (by assumption) ?_
                case hy54 =>
                  intro w' hSw
                  (try dsimp only at hSw)
                  simp only [List.getElem_toArray, List.getElem_cons_succ, List.getElem_cons_zero]
                  go_simp
                  (try with_reducible rfl)
                change wpAnyH _ _ _ _ _ _ _ (Act.put _ (some 65) _) _
                simp only [Act.put, List.setIfInBounds_toArray, List.set_cons_zero, List.set_cons_succ]
                refine wpAnyH_done (by kernel_rfl) ?_ _
                refine NoPanic.normal ?_
                have c2 := MN.out.r2.cell
                have c0 := MN.out.r0.cell
                have c1 := MN.out.r1.cell
                have f1 := MN.out.r1.free
                have l2 := MN.out.r2.lt
                go_wp2
                rw [EW.out]
                exact bodyPost_ret (results_cell rfl rfl (MN.out.r1.fill7 _ _ _ _ _ _ _)) rfl ⟨rfl, Below.fill7 MN.out.be (by omega) _ _ _ _ _ _ _⟩
            · have EW := Lib.hid (show Dk.ack ⟨gen, k, acked, a, 1, seq⟩ a b = ⟨gen, k, b, a, 1, seq⟩ by
                have := H23.out
                simp [Dk.ack, ha, h5, show ¬ b < acked by omega, show ¬ k < b by omega])
              have k5 : (b == k) = false := by simp [h5]
              clear h5
              go_wp2
              refine wp_region_noPanic ?_
              refine wp_region_held_drew (S := fun w' => ∀ o, w'.cell? ⟨w.heap.size + 1 + 1, o, none⟩ = (Dk.row ⟨gen, k, b, a, 1, seq⟩ (.slice A n c))[o]?) (by kernel_rfl) (MD.out.r2.cell) (fun hHeld => ?_)
              refine wpAnyH_take (i := 0) (oi := _) (v := ?v55) rfl (by kernel_rfl) (by kernel_rfl) (by kernel_rfl) (fun _ _ _ h => h) (Or.inl ⟨by rfl, ?hy55⟩) (by assumption) ?_
              case hy55 =>
                intro w' hSw
                (try dsimp only at hSw)
                simp only [List.getElem_toArray, List.getElem_cons_succ, List.getElem_cons_zero]
                go_simp
                (try with_reducible rfl)
              change wpAnyH _ _ _ _ _ _ _ (Act.put _ (some 37) _) _
              simp only [Act.put, List.setIfInBounds_toArray, List.set_cons_zero, List.set_cons_succ]
              refine wpAnyH_take (i := 1) (oi := _) (v := ?v56) rfl (by kernel_rfl) (by kernel_rfl) (by kernel_rfl) (fun _ _ _ h => h) (Or.inl ⟨by rfl, ?hy56⟩) (by assumption) ?_
              case hy56 =>
                intro w' hSw
                (try dsimp only at hSw)
                simp only [List.getElem_toArray, List.getElem_cons_succ, List.getElem_cons_zero]
                go_simp
                (try with_reducible rfl)
              change wpAnyH _ _ _ _ _ _ _ (Act.put _ (some 38) _) _
              simp only [Act.put, List.setIfInBounds_toArray, List.set_cons_zero, List.set_cons_succ]
              refine wpAnyH_take (i := 2) (oi := _) (v := ?v57) rfl (by kernel_rfl) (by kernel_rfl) (by kernel_rfl) (fun _ _ _ h => h) (Or.inl ⟨by rfl, ?hy57⟩) (by assumption) ?_
              case hy57 =>
                intro w' hSw
                (try dsimp only at hSw)
                simp only [List.getElem_toArray, List.getElem_cons_succ, List.getElem_cons_zero]
                go_simp
                (try with_reducible rfl)
              change wpAnyH _ _ _ _ _ _ _ (Act.put _ (some 39) _) _
              simp only [Act.put, List.setIfInBounds_toArray, List.set_cons_zero, List.set_cons_succ]
              refine wpAnyH_take (i := 3) (oi := _) (v := ?v58) rfl (by kernel_rfl) (by kernel_rfl) (by kernel_rfl) (fun _ _ _ h => h) (Or.inl ⟨by rfl, ?hy58⟩) (by assumption) ?_
              case hy58 =>
                intro w' hSw
                (try dsimp only at hSw)
                simp only [List.getElem_toArray, List.getElem_cons_succ, List.getElem_cons_zero]
                go_simp
                (try with_reducible rfl)
              change wpAnyH _ _ _ _ _ _ _ (Act.put _ (some 40) _) _
              simp only [Act.put, List.setIfInBounds_toArray, List.set_cons_zero, List.set_cons_succ]
              refine wpAnyH_take (i := 4) (oi := _) (v := ?v59) rfl (by kernel_rfl) (by kernel_rfl) (by kernel_rfl) (fun _ _ _ h => h) (Or.inl ⟨by rfl, ?hy59⟩) (by assumption) ?_
              case hy59 =>
                intro w' hSw
                (try dsimp only at hSw)
                simp only [List.getElem_toArray, List.getElem_cons_succ, List.getElem_cons_zero]
                go_simp
                (try with_reducible rfl)
              change wpAnyH _ _ _ _ _ _ _ (Act.put _ (some 41) _) _
              simp only [Act.put, List.setIfInBounds_toArray, List.set_cons_zero, List.set_cons_succ]
              refine wpAnyH_take (i := 5) (oi := _) (v := ?v60) rfl (by kernel_rfl) (by kernel_rfl) (by kernel_rfl) (fun _ _ _ h => h) (Or.inl ⟨by rfl, ?hy60⟩) (by assumption) ?_
              case hy60 =>
                intro w' hSw
                (try dsimp only at hSw)
                simp only [List.getElem_toArray, List.getElem_cons_succ, List.getElem_cons_zero]
                go_simp
                (try with_reducible rfl)
              change wpAnyH _ _ _ _ _ _ _ (Act.put _ (some 42) _) _
              simp only [Act.put, List.setIfInBounds_toArray, List.set_cons_zero, List.set_cons_succ]
              refine wpAnyH_take (i := 6) (oi := _) (v := ?v61) rfl (by kernel_rfl) (by kernel_rfl) (by kernel_rfl) (fun _ _ _ h => h) (Or.inl ⟨by rfl, ?hy61⟩) (by assumption) ?_
              case hy61 =>
                intro w' hSw
                (try dsimp only at hSw)
                simp only [List.getElem_toArray, List.getElem_cons_succ, List.getElem_cons_zero]
                go_simp
                (try with_reducible rfl)
              change wpAnyH _ _ _ _ _ _ _ (Act.put _ (some 43) _) _
              simp only [Act.put, List.setIfInBounds_toArray, List.set_cons_zero, List.set_cons_succ]
              refine wpAnyH_take (i := 7) (oi := _) (v := ?v62) rfl (by kernel_rfl) (by kernel_rfl) (by kernel_rfl) (fun _ _ _ h => h) (Or.inl ⟨by rfl, ?hy62⟩) (by assumption) ?_
              case hy62 =>
                intro w' hSw
                (try dsimp only at hSw)
                simp only [List.getElem_toArray, List.getElem_cons_succ, List.getElem_cons_zero]
                go_simp
                (try with_reducible rfl)
              change wpAnyH _ _ _ _ _ _ _ (Act.put _ (some 44) _) _
              simp only [Act.put, List.setIfInBounds_toArray, List.set_cons_zero, List.set_cons_succ]
              refine wpAnyH_take (i := 8) (oi := _) (v := ?v63) rfl (by kernel_rfl) (by kernel_rfl) (by kernel_rfl) (fun _ _ _ h => h) (Or.inl ⟨by rfl, ?hy63⟩) (by assumption) ?_
              case hy63 =>
                intro w' hSw
                (try dsimp only at hSw)
                simp only [List.getElem_toArray, List.getElem_cons_succ, List.getElem_cons_zero]
                go_simp
                (try with_reducible rfl)
              change wpAnyH _ _ _ _ _ _ _ (Act.put _ (some 45) _) _
              simp only [Act.put, List.setIfInBounds_toArray, List.set_cons_zero, List.set_cons_succ]
              refine wpAnyH_take (i := 9) (oi := _) (v := ?v64) rfl (by kernel_rfl) (by kernel_rfl) (by kernel_rfl) (fun _ _ _ h => h) (Or.inl ⟨by rfl, ?hy64⟩) (by assumption) ?_
              case hy64 =>
                intro w' hSw
                (try dsimp only at hSw)
                simp only [List.getElem_toArray, List.getElem_cons_succ, List.getElem_cons_zero]
                go_simp
                (try with_reducible rfl)
              change wpAnyH _ _ _ _ _ _ _ (Act.put _ (some 46) _) _
              simp only [Act.put, List.setIfInBounds_toArray, List.set_cons_zero, List.set_cons_succ]
              refine wpAnyH_take (i := 10) (oi := _) (v := ?v65) rfl (by kernel_rfl) (by kernel_rfl) (by kernel_rfl) (fun _ _ _ h => h) (Or.inl ⟨by rfl, ?hy65⟩) (by assumption) ?_
              case hy65 =>
                intro w' hSw
                (try dsimp only at hSw)
                simp only [List.getElem_toArray, List.getElem_cons_succ, List.getElem_cons_zero]
                go_simp
                (try with_reducible rfl)
              change wpAnyH _ _ _ _ _ _ _ (Act.put _ (some 47) _) _
              simp only [Act.put, List.setIfInBounds_toArray, List.set_cons_zero, List.set_cons_succ]
              refine wpAnyH_take (i := 11) (oi := _) (v := ?v66) rfl (by kernel_rfl) (by kernel_rfl) (by kernel_rfl) (fun _ _ _ h => h) (Or.inl ⟨by rfl, ?hy66⟩) (by assumption) ?_
              case hy66 =>
                intro w' hSw
                (try dsimp only at hSw)
                simp only [List.getElem_toArray, List.getElem_cons_succ, List.getElem_cons_zero]
                go_simp
                (try with_reducible rfl)
              change wpAnyH _ _ _ _ _ _ _ (Act.put _ (some 48) _) _
              simp only [Act.put, List.setIfInBounds_toArray, List.set_cons_zero, List.set_cons_succ]
              refine wpAnyH_take (i := 12) (oi := _) (v := ?v67) rfl (by kernel_rfl) (by kernel_rfl) (by kernel_rfl) (fun _ _ _ h => h) (Or.inl ⟨by rfl, ?hy67⟩) (by assumption) ?_
              case hy67 =>
                intro w' hSw
                (try dsimp only at hSw)
                simp only [List.getElem_toArray, List.getElem_cons_succ, List.getElem_cons_zero]
                go_simp
                (try with_reducible rfl)
              change wpAnyH _ _ _ _ _ _ _ (Act.put _ (some 49) _) _
              simp only [Act.put, List.setIfInBounds_toArray, List.set_cons_zero, List.set_cons_succ]
              refine wpAnyH_take (i := 13) (oi := _) (v := ?v68) rfl (by kernel_rfl) (by kernel_rfl) (by kernel_rfl) (fun _ _ _ h => h) (Or.inl ⟨by rfl, ?hy68⟩) (by assumption) ?_
              case hy68 =>
                intro w' hSw
                (try dsimp only at hSw)
                simp only [List.getElem_toArray, List.getElem_cons_succ, List.getElem_cons_zero]
                go_simp
                (try with_reducible rfl)
              change wpAnyH _ _ _ _ _ _ _ (Act.put _ (some 50) _) _
              simp only [Act.put, List.setIfInBounds_toArray, List.set_cons_zero, List.set_cons_succ]
              refine wpAnyH_take (i := 14) (oi := _) (v := ?v69) rfl (by kernel_rfl) (by kernel_rfl) (by kernel_rfl) (fun _ _ _ h => h) (Or.inl ⟨by rfl, ?hy69⟩) (by assumption) ?_
              case hy69 =>
                intro w' hSw
                (try dsimp only at hSw)
                simp only [List.getElem_toArray, List.getElem_cons_succ, List.getElem_cons_zero]
                go_simp
                (try with_reducible rfl)
              change wpAnyH _ _ _ _ _ _ _ (Act.put _ (some 51) _) _
              simp only [Act.put, List.setIfInBounds_toArray, List.set_cons_zero, List.set_cons_succ]
              refine wpAnyH_take (i := 15) (oi := _) (v := ?v70) rfl (by kernel_rfl) (by kernel_rfl) (by kernel_rfl) (fun _ _ _ h => h) (Or.inl ⟨by rfl, ?hy70⟩) (by assumption) ?_
              case hy70 =>
                intro w' hSw
                (try dsimp only at hSw)
                simp only [List.getElem_toArray, List.getElem_cons_succ, List.getElem_cons_zero]
                go_simp
                (try with_reducible rfl)
              change wpAnyH _ _ _ _ _ _ _ (Act.put _ (some 52) _) _
              simp only [Act.put, List.setIfInBounds_toArray, List.set_cons_zero, List.set_cons_succ]
              refine wpAnyH_take (i := 16) (oi := _) (v := ?v71) rfl (by kernel_rfl) (by kernel_rfl) (by kernel_rfl) (fun _ _ _ h => h) (Or.inl ⟨by rfl, ?hy71⟩) (by assumption) ?_
              case hy71 =>
                intro w' hSw
                (try dsimp only at hSw)
                simp only [List.getElem_toArray, List.getElem_cons_succ, List.getElem_cons_zero]
                go_simp
                (try with_reducible rfl)
              change wpAnyH _ _ _ _ _ _ _ (Act.put _ (some 53) _) _
              simp only [Act.put, List.setIfInBounds_toArray, List.set_cons_zero, List.set_cons_succ]
              refine wpAnyH_take (i := 17) (oi := _) (v := ?v72) rfl (by kernel_rfl) (by kernel_rfl) (by kernel_rfl) (fun _ _ _ h => h) (Or.inl ⟨by rfl, ?hy72⟩) (by assumption) ?_
              case hy72 =>
                intro w' hSw
                (try dsimp only at hSw)
                simp only [List.getElem_toArray, List.getElem_cons_succ, List.getElem_cons_zero]
                go_simp
                (try with_reducible rfl)
              change wpAnyH _ _ _ _ _ _ _ (Act.put _ (some 54) _) _
              simp only [Act.put, List.setIfInBounds_toArray, List.set_cons_zero, List.set_cons_succ]
              refine wpAnyH_take (i := 18) (oi := _) (v := ?v73) rfl (by kernel_rfl) (by kernel_rfl) (by kernel_rfl) (fun _ _ _ h => h) (Or.inl ⟨by rfl, ?hy73⟩) (by assumption) ?_
              case hy73 =>
                intro w' hSw
                (try dsimp only at hSw)
                simp only [List.getElem_toArray, List.getElem_cons_succ, List.getElem_cons_zero]
                go_simp
                (try with_reducible rfl)
              change wpAnyH _ _ _ _ _ _ _ (Act.put _ (some 55) _) _
              simp only [Act.put, List.setIfInBounds_toArray, List.set_cons_zero, List.set_cons_succ]
              refine wpAnyH_take (i := 19) (oi := _) (v := ?v74) rfl (by kernel_rfl) (by kernel_rfl) (by kernel_rfl) (fun _ _ _ h => h) (Or.inl ⟨by rfl, ?hy74⟩) (by assumption) ?_
              case hy74 =>
                intro w' hSw
                (try dsimp only at hSw)
                simp only [List.getElem_toArray, List.getElem_cons_succ, List.getElem_cons_zero]
                go_simp
                (try with_reducible rfl)
              change wpAnyH _ _ _ _ _ _ _ (Act.put _ (some 56) _) _
              simp only [Act.put, List.setIfInBounds_toArray, List.set_cons_zero, List.set_cons_succ]
              refine wpAnyH_take (i := 20) (oi := _) (v := undef) rfl (by kernel_rfl) (by kernel_rfl) (by kernel_rfl) (fun _ _ _ h => h) (Or.inr ⟨by rfl, rfl⟩) (by assumption) ?_
              change wpAnyH _ _ _ _ _ _ _ (Act.put _ (some 57) _) _
              simp only [Act.put, List.setIfInBounds_toArray, List.set_cons_zero, List.set_cons_succ]
              refine wpAnyH_take (i := 21) (oi := _) (v := undef) rfl (by kernel_rfl) (by kernel_rfl) (by kernel_rfl) (fun _ _ _ h => h) (Or.inr ⟨by rfl, rfl⟩) (by assumption) ?_
              change wpAnyH _ _ _ _ _ _ _ (Act.put _ (some 58) _) _
              simp only [Act.put, List.setIfInBounds_toArray, List.set_cons_zero, List.set_cons_succ]
              refine wpAnyH_take (i := 22) (oi := _) (v := undef) rfl (by kernel_rfl) (by kernel_rfl) (by kernel_rfl) (fun _ _ _ h => h) (Or.inr ⟨by rfl, rfl⟩) (by assumption) ?_
              change wpAnyH _ _ _ _ _ _ _ (Act.put _ (some 59) _) _
              simp only [Act.put, List.setIfInBounds_toArray, List.set_cons_zero, List.set_cons_succ]
              refine wpAnyH_take (i := 23) (oi := _) (v := undef) rfl (by kernel_rfl) (by kernel_rfl) (by kernel_rfl) (fun _ _ _ h => h) (Or.inr ⟨by rfl, rfl⟩) (by assumption) ?_
              change wpAnyH _ _ _ _ _ _ _ (Act.put _ (some 60) _) _
              simp only [Act.put, List.setIfInBounds_toArray, List.set_cons_zero, List.set_cons_succ]
              refine wpAnyH_take (i := 24) (oi := _) (v := undef) rfl (by kernel_rfl) (by kernel_rfl) (by kernel_rfl) (fun _ _ _ h => h) (Or.inr ⟨by rfl, rfl⟩) (by assumption) ?_
              change wpAnyH _ _ _ _ _ _ _ (Act.put _ (some 61) _) _
              simp only [Act.put, List.setIfInBounds_toArray, List.set_cons_zero, List.set_cons_succ]
              refine wpAnyH_take (i := 25) (oi := _) (v := undef) rfl (by kernel_rfl) (by kernel_rfl) (by kernel_rfl) (fun _ _ _ h => h) (Or.inr ⟨by rfl, rfl⟩) (by assumption) ?_
              change wpAnyH _ _ _ _ _ _ _ (Act.put _ (some 62) _) _
              simp only [Act.put, List.setIfInBounds_toArray, List.set_cons_zero, List.set_cons_succ]
              refine wpAnyH_take (i := 26) (oi := _) (v := undef) rfl (by kernel_rfl) (by kernel_rfl) (by kernel_rfl) (fun _ _ _ h => h) (Or.inr ⟨by rfl, rfl⟩) (by assumption) ?_
              change wpAnyH _ _ _ _ _ _ _ (Act.put _ (some 63) _) _
              simp only [Act.put, List.setIfInBounds_toArray, List.set_cons_zero, List.set_cons_succ]
              refine wpAnyH_take (i := 27) (oi := _) (v := undef) rfl (by kernel_rfl) (by kernel_rfl) (by kernel_rfl) (fun _ _ _ h => h) (Or.inr ⟨by rfl, rfl⟩) (by assumption) ?_
              change wpAnyH _ _ _ _ _ _ _ (Act.put _ (some 64) _) _
              simp only [Act.put, List.setIfInBounds_toArray, List.set_cons_zero, List.set_cons_succ]
              refine wpAnyH_take (i := 28) (oi := _) (v := ?v75) rfl (by kernel_rfl) (by kernel_rfl) (by kernel_rfl) (fun _ _ _ h => h) (Or.inl ⟨by rfl, ?hy75⟩) (by assumption) ?_
              case hy75 =>
                intro w' hSw
                (try dsimp only at hSw)
                simp only [List.getElem_toArray, List.getElem_cons_succ, List.getElem_cons_zero]
                go_simp
                (try with_reducible rfl)
              change wpAnyH _ _ _ _ _ _ _ (Act.put _ (some 65) _) _
              simp only [Act.put, List.setIfInBounds_toArray, List.set_cons_zero, List.set_cons_succ]
              refine wpAnyH_done (by kernel_rfl) ?_ _
              refine NoPanic.normal ?_
              have E := Lib.hid (T3 ⟨gen, k, b, a, 1, seq⟩ ⟨gen, k, b, a, 1, seq⟩).out.drew
              go_wp2
              rw [EW.out]
              exact bodyPost_ret (results_cell rfl rfl E.out.r1) rfl ⟨rfl, E.out.be⟩
          · have EW := Lib.hid (show Dk.ack ⟨gen, k, acked, a, stage, seq⟩ a b = ⟨gen, k, b, a, stage, seq⟩ by
              have := H23.out
              simp [Dk.ack, ha, h4, show ¬ b < acked by omega, show ¬ k < b by omega])
            have e4 : (stage == 1) = false := by simp [h4]
            clear h4
            go_wp2
            refine wp_region_noPanic ?_
            refine wp_region_held_drew (S := fun w' => ∀ o, w'.cell? ⟨w.heap.size + 1 + 1, o, none⟩ = (Dk.row ⟨gen, k, b, a, stage, seq⟩ (.slice A n c))[o]?) (by kernel_rfl) (MD.out.r2.cell) (fun hHeld => ?_)
            refine wpAnyH_take (i := 0) (oi := _) (v := ?v76) rfl (by kernel_rfl) (by kernel_rfl) (by kernel_rfl) (fun _ _ _ h => h) (Or.inl ⟨by rfl, ?hy76⟩) (by assumption) ?_
            case hy76 =>
              intro w' hSw
              (try dsimp only at hSw)
              simp only [List.getElem_toArray, List.getElem_cons_succ, List.getElem_cons_zero]
              go_simp
              (try with_reducible rfl)
            change wpAnyH _ _ _ _ _ _ _ (Act.put _ (some 37) _) _
            simp only [Act.put, List.setIfInBounds_toArray, List.set_cons_zero, List.set_cons_succ]
            refine wpAnyH_take (i := 1) (oi := _) (v := ?v77) rfl (by kernel_rfl) (by kernel_rfl) (by kernel_rfl) (fun _ _ _ h => h) (Or.inl ⟨by rfl, ?hy77⟩) (by assumption) ?_
            case hy77 =>
              intro w' hSw
              (try dsimp only at hSw)
              simp only [List.getElem_toArray, List.getElem_cons_succ, List.getElem_cons_zero]
              go_simp
              (try with_reducible rfl)
            change wpAnyH _ _ _ _ _ _ _ (Act.put _ (some 38) _) _
            simp only [Act.put, List.setIfInBounds_toArray, List.set_cons_zero, List.set_cons_succ]
            refine wpAnyH_take (i := 2) (oi := _) (v := ?v78) rfl (by kernel_rfl) (by kernel_rfl) (by kernel_rfl) (fun _ _ _ h => h) (Or.inl ⟨by rfl, ?hy78⟩) (by assumption) ?_
            case hy78 =>
              intro w' hSw
              (try dsimp only at hSw)
              simp only [List.getElem_toArray, List.getElem_cons_succ, List.getElem_cons_zero]
              go_simp
              (try with_reducible rfl)
            change wpAnyH _ _ _ _ _ _ _ (Act.put _ (some 39) _) _
            simp only [Act.put, List.setIfInBounds_toArray, List.set_cons_zero, List.set_cons_succ]
            refine wpAnyH_take (i := 3) (oi := _) (v := ?v79) rfl (by kernel_rfl) (by kernel_rfl) (by kernel_rfl) (fun _ _ _ h => h) (Or.inl ⟨by rfl, ?hy79⟩) (by assumption) ?_
            case hy79 =>
              intro w' hSw
              (try dsimp only at hSw)
              simp only [List.getElem_toArray, List.getElem_cons_succ, List.getElem_cons_zero]
              go_simp
              (try with_reducible rfl)
            change wpAnyH _ _ _ _ _ _ _ (Act.put _ (some 40) _) _
            simp only [Act.put, List.setIfInBounds_toArray, List.set_cons_zero, List.set_cons_succ]
            refine wpAnyH_take (i := 4) (oi := _) (v := ?v80) rfl (by kernel_rfl) (by kernel_rfl) (by kernel_rfl) (fun _ _ _ h => h) (Or.inl ⟨by rfl, ?hy80⟩) (by assumption) ?_
            case hy80 =>
              intro w' hSw
              (try dsimp only at hSw)
              simp only [List.getElem_toArray, List.getElem_cons_succ, List.getElem_cons_zero]
              go_simp
              (try with_reducible rfl)
            change wpAnyH _ _ _ _ _ _ _ (Act.put _ (some 41) _) _
            simp only [Act.put, List.setIfInBounds_toArray, List.set_cons_zero, List.set_cons_succ]
            refine wpAnyH_take (i := 5) (oi := _) (v := ?v81) rfl (by kernel_rfl) (by kernel_rfl) (by kernel_rfl) (fun _ _ _ h => h) (Or.inl ⟨by rfl, ?hy81⟩) (by assumption) ?_
            case hy81 =>
              intro w' hSw
              (try dsimp only at hSw)
              simp only [List.getElem_toArray, List.getElem_cons_succ, List.getElem_cons_zero]
              go_simp
              (try with_reducible rfl)
            change wpAnyH _ _ _ _ _ _ _ (Act.put _ (some 42) _) _
            simp only [Act.put, List.setIfInBounds_toArray, List.set_cons_zero, List.set_cons_succ]
            refine wpAnyH_take (i := 6) (oi := _) (v := ?v82) rfl (by kernel_rfl) (by kernel_rfl) (by kernel_rfl) (fun _ _ _ h => h) (Or.inl ⟨by rfl, ?hy82⟩) (by assumption) ?_
            case hy82 =>
              intro w' hSw
              (try dsimp only at hSw)
              simp only [List.getElem_toArray, List.getElem_cons_succ, List.getElem_cons_zero]
              go_simp
              (try with_reducible rfl)
            change wpAnyH _ _ _ _ _ _ _ (Act.put _ (some 43) _) _
            simp only [Act.put, List.setIfInBounds_toArray, List.set_cons_zero, List.set_cons_succ]
            refine wpAnyH_take (i := 7) (oi := _) (v := undef) rfl (by kernel_rfl) (by kernel_rfl) (by kernel_rfl) (fun _ _ _ h => h) (Or.inr ⟨by rfl, rfl⟩) (by assumption) ?_
            change wpAnyH _ _ _ _ _ _ _ (Act.put _ (some 44) _) _
            simp only [Act.put, List.setIfInBounds_toArray, List.set_cons_zero, List.set_cons_succ]
            refine wpAnyH_take (i := 8) (oi := _) (v := undef) rfl (by kernel_rfl) (by kernel_rfl) (by kernel_rfl) (fun _ _ _ h => h) (Or.inr ⟨by rfl, rfl⟩) (by assumption) ?_
            change wpAnyH _ _ _ _ _ _ _ (Act.put _ (some 45) _) _
            simp only [Act.put, List.setIfInBounds_toArray, List.set_cons_zero, List.set_cons_succ]
            refine wpAnyH_take (i := 9) (oi := _) (v := undef) rfl (by kernel_rfl) (by kernel_rfl) (by kernel_rfl) (fun _ _ _ h => h) (Or.inr ⟨by rfl, rfl⟩) (by assumption) ?_
            change wpAnyH _ _ _ _ _ _ _ (Act.put _ (some 46) _) _
            simp only [Act.put, List.setIfInBounds_toArray, List.set_cons_zero, List.set_cons_succ]
            refine wpAnyH_take (i := 10) (oi := _) (v := undef) rfl (by kernel_rfl) (by kernel_rfl) (by kernel_rfl) (fun _ _ _ h => h) (Or.inr ⟨by rfl, rfl⟩) (by assumption) ?_
            change wpAnyH _ _ _ _ _ _ _ (Act.put _ (some 47) _) _
            simp only [Act.put, List.setIfInBounds_toArray, List.set_cons_zero, List.set_cons_succ]
            refine wpAnyH_take (i := 11) (oi := _) (v := undef) rfl (by kernel_rfl) (by kernel_rfl) (by kernel_rfl) (fun _ _ _ h => h) (Or.inr ⟨by rfl, rfl⟩) (by assumption) ?_
            change wpAnyH _ _ _ _ _ _ _ (Act.put _ (some 48) _) _
            simp only [Act.put, List.setIfInBounds_toArray, List.set_cons_zero, List.set_cons_succ]
            refine wpAnyH_take (i := 12) (oi := _) (v := undef) rfl (by kernel_rfl) (by kernel_rfl) (by kernel_rfl) (fun _ _ _ h => h) (Or.inr ⟨by rfl, rfl⟩) (by assumption) ?_
            change wpAnyH _ _ _ _ _ _ _ (Act.put _ (some 49) _) _
            simp only [Act.put, List.setIfInBounds_toArray, List.set_cons_zero, List.set_cons_succ]
            refine wpAnyH_take (i := 13) (oi := _) (v := undef) rfl (by kernel_rfl) (by kernel_rfl) (by kernel_rfl) (fun _ _ _ h => h) (Or.inr ⟨by rfl, rfl⟩) (by assumption) ?_
            change wpAnyH _ _ _ _ _ _ _ (Act.put _ (some 50) _) _
            simp only [Act.put, List.setIfInBounds_toArray, List.set_cons_zero, List.set_cons_succ]
            refine wpAnyH_take (i := 14) (oi := _) (v := undef) rfl (by kernel_rfl) (by kernel_rfl) (by kernel_rfl) (fun _ _ _ h => h) (Or.inr ⟨by rfl, rfl⟩) (by assumption) ?_
            change wpAnyH _ _ _ _ _ _ _ (Act.put _ (some 51) _) _
            simp only [Act.put, List.setIfInBounds_toArray, List.set_cons_zero, List.set_cons_succ]
            refine wpAnyH_take (i := 15) (oi := _) (v := undef) rfl (by kernel_rfl) (by kernel_rfl) (by kernel_rfl) (fun _ _ _ h => h) (Or.inr ⟨by rfl, rfl⟩) (by assumption) ?_
            change wpAnyH _ _ _ _ _ _ _ (Act.put _ (some 52) _) _
            simp only [Act.put, List.setIfInBounds_toArray, List.set_cons_zero, List.set_cons_succ]
            refine wpAnyH_take (i := 16) (oi := _) (v := undef) rfl (by kernel_rfl) (by kernel_rfl) (by kernel_rfl) (fun _ _ _ h => h) (Or.inr ⟨by rfl, rfl⟩) (by assumption) ?_
            change wpAnyH _ _ _ _ _ _ _ (Act.put _ (some 53) _) _
            simp only [Act.put, List.setIfInBounds_toArray, List.set_cons_zero, List.set_cons_succ]
            refine wpAnyH_take (i := 17) (oi := _) (v := undef) rfl (by kernel_rfl) (by kernel_rfl) (by kernel_rfl) (fun _ _ _ h => h) (Or.inr ⟨by rfl, rfl⟩) (by assumption) ?_
            change wpAnyH _ _ _ _ _ _ _ (Act.put _ (some 54) _) _
            simp only [Act.put, List.setIfInBounds_toArray, List.set_cons_zero, List.set_cons_succ]
            refine wpAnyH_take (i := 18) (oi := _) (v := ?v83) rfl (by kernel_rfl) (by kernel_rfl) (by kernel_rfl) (fun _ _ _ h => h) (Or.inl ⟨by rfl, ?hy83⟩) (by assumption) ?_
            case hy83 =>
              intro w' hSw
              (try dsimp only at hSw)
              simp only [List.getElem_toArray, List.getElem_cons_succ, List.getElem_cons_zero]
              go_simp
              (try with_reducible rfl)
            change wpAnyH _ _ _ _ _ _ _ (Act.put _ (some 55) _) _
            simp only [Act.put, List.setIfInBounds_toArray, List.set_cons_zero, List.set_cons_succ]
            refine wpAnyH_take (i := 19) (oi := _) (v := ?v84) rfl (by kernel_rfl) (by kernel_rfl) (by kernel_rfl) (fun _ _ _ h => h) (Or.inl ⟨by rfl, ?hy84⟩) (by assumption) ?_
            case hy84 =>
              intro w' hSw
              (try dsimp only at hSw)
              simp only [List.getElem_toArray, List.getElem_cons_succ, List.getElem_cons_zero]
              go_simp
              (try with_reducible rfl)
            change wpAnyH _ _ _ _ _ _ _ (Act.put _ (some 56) _) _
            simp only [Act.put, List.setIfInBounds_toArray, List.set_cons_zero, List.set_cons_succ]
            refine wpAnyH_take (i := 20) (oi := _) (v := undef) rfl (by kernel_rfl) (by kernel_rfl) (by kernel_rfl) (fun _ _ _ h => h) (Or.inr ⟨by rfl, rfl⟩) (by assumption) ?_
            change wpAnyH _ _ _ _ _ _ _ (Act.put _ (some 57) _) _
            simp only [Act.put, List.setIfInBounds_toArray, List.set_cons_zero, List.set_cons_succ]
            refine wpAnyH_take (i := 21) (oi := _) (v := undef) rfl (by kernel_rfl) (by kernel_rfl) (by kernel_rfl) (fun _ _ _ h => h) (Or.inr ⟨by rfl, rfl⟩) (by assumption) ?_
            change wpAnyH _ _ _ _ _ _ _ (Act.put _ (some 58) _) _
            simp only [Act.put, List.setIfInBounds_toArray, List.set_cons_zero, List.set_cons_succ]
            refine wpAnyH_take (i := 22) (oi := _) (v := undef) rfl (by kernel_rfl) (by kernel_rfl) (by kernel_rfl) (fun _ _ _ h => h) (Or.inr ⟨by rfl, rfl⟩) (by assumption) ?_
            change wpAnyH _ _ _ _ _ _ _ (Act.put _ (some 59) _) _
            simp only [Act.put, List.setIfInBounds_toArray, List.set_cons_zero, List.set_cons_succ]
            refine wpAnyH_take (i := 23) (oi := _) (v := undef) rfl (by kernel_rfl) (by kernel_rfl) (by kernel_rfl) (fun _ _ _ h => h) (Or.inr ⟨by rfl, rfl⟩) (by assumption) ?_
            change wpAnyH _ _ _ _ _ _ _ (Act.put _ (some 60) _) _
            simp only [Act.put, List.setIfInBounds_toArray, List.set_cons_zero, List.set_cons_succ]
            refine wpAnyH_take (i := 24) (oi := _) (v := undef) rfl (by kernel_rfl) (by kernel_rfl) (by kernel_rfl) (fun _ _ _ h => h) (Or.inr ⟨by rfl, rfl⟩) (by assumption) ?_
            change wpAnyH _ _ _ _ _ _ _ (Act.put _ (some 61) _) _
            simp only [Act.put, List.setIfInBounds_toArray, List.set_cons_zero, List.set_cons_succ]
            refine wpAnyH_take (i := 25) (oi := _) (v := undef) rfl (by kernel_rfl) (by kernel_rfl) (by kernel_rfl) (fun _ _ _ h => h) (Or.inr ⟨by rfl, rfl⟩) (by assumption) ?_
            change wpAnyH _ _ _ _ _ _ _ (Act.put _ (some 62) _) _
            simp only [Act.put, List.setIfInBounds_toArray, List.set_cons_zero, List.set_cons_succ]
            refine wpAnyH_take (i := 26) (oi := _) (v := undef) rfl (by kernel_rfl) (by kernel_rfl) (by kernel_rfl) (fun _ _ _ h => h) (Or.inr ⟨by rfl, rfl⟩) (by assumption) ?_
            change wpAnyH _ _ _ _ _ _ _ (Act.put _ (some 63) _) _
            simp only [Act.put, List.setIfInBounds_toArray, List.set_cons_zero, List.set_cons_succ]
            refine wpAnyH_take (i := 27) (oi := _) (v := undef) rfl (by kernel_rfl) (by kernel_rfl) (by kernel_rfl) (fun _ _ _ h => h) (Or.inr ⟨by rfl, rfl⟩) (by assumption) ?_
            change wpAnyH _ _ _ _ _ _ _ (Act.put _ (some 64) _) _
            simp only [Act.put, List.setIfInBounds_toArray, List.set_cons_zero, List.set_cons_succ]
            refine wpAnyH_take (i := 28) (oi := _) (v := ?v85) rfl (by kernel_rfl) (by kernel_rfl) (by kernel_rfl) (fun _ _ _ h => h) (Or.inl ⟨by rfl, ?hy85⟩) (by assumption) ?_
            case hy85 =>
              intro w' hSw
              (try dsimp only at hSw)
              simp only [List.getElem_toArray, List.getElem_cons_succ, List.getElem_cons_zero]
              go_simp
              (try with_reducible rfl)
            change wpAnyH _ _ _ _ _ _ _ (Act.put _ (some 65) _) _
            simp only [Act.put, List.setIfInBounds_toArray, List.set_cons_zero, List.set_cons_succ]
            refine wpAnyH_done (by kernel_rfl) ?_ _
            refine NoPanic.normal ?_
            have E := Lib.hid (T3 ⟨gen, k, b, a, stage, seq⟩ ⟨gen, k, b, a, stage, seq⟩).out.drew
            go_wp2
            rw [EW.out]
            exact bodyPost_ret (results_cell rfl rfl E.out.r1) rfl ⟨rfl, E.out.be⟩
    · have d1 : (a != peer) = true := by simp [h1]
      have ew : Dk.ack ⟨gen, k, acked, peer, stage, seq⟩ a b = ⟨gen, k, acked, peer, stage, seq⟩ := by simp [Dk.ack, h1]
      clear h1
      go_wp2
      rw [ew]
      exact bodyPost_ret (results_cell rfl rfl D.out.r1) rfl ⟨rfl, D.out.be⟩
  · have ew : Dk.ack ⟨gen, k, acked, peer, stage, seq⟩ a b = ⟨gen, k, acked, peer, stage, seq⟩ := by simp [Dk.ack, ha]
    clear N
    go_wp2
    rw [ew]
    exact bodyPost_ret (results_cell rfl rfl D.out.r1) rfl ⟨rfl, D.out.be⟩
end Go.Proofs.Ytbchepdaomhgeaa.MM
