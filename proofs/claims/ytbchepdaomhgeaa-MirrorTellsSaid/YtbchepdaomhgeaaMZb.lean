import Derived.Test.YtbchepdaomhgeaaMZa
/- Layer 14: the document's Free. -/
namespace Go.Proofs.Ytbchepdaomhgeaa.MM
open Go.RowKit
set_option linter.unusedVariables false
set_option linter.unusedSimpArgs false
def outs1 (n : Int) (l : List Ot) : List Ot := l.filter fun o => decide (o.k ≤ n)
def outs2 (n : Int) (l : List Ot) : List Ot := l.filter fun o => !decide (o.k ≤ n)
theorem take_snoc {l : List Ot} {j : Nat} {o : Ot} (h : l[j]? = some o) : l.take (j + 1) = l.take j ++ [o] := by
  rw [List.take_add_one, h]; rfl
theorem outs1_le {n : Int} {l : List Ot} : (outs1 n l).length ≤ l.length := List.length_filter_le _ _
theorem outs2_le {n : Int} {l : List Ot} : (outs2 n l).length ≤ l.length := List.length_filter_le _ _
/-- what the loop keeps -/
structure FV (n : Int) (l : List Ot) (j : Nat) (l1 l2 : List Ot) (base : Nat) (w : World) (v1 v2 : Value) : Prop where
  e1 : l1 = outs1 n (l.take j)
  e2 : l2 = outs2 n (l.take j)
  o1 : w.ownsRow base 37 4 v1 l1.length (outCells l1)
  o2 : w.ownsRow base 37 4 v2 l2.length (outCells l2)
  ne : ∀ g, v1.ownBlock = some g → v2.ownBlock ≠ some g
theorem FV.init (n : Int) (l : List Ot) (base : Nat) (w : World) : FV n l 0 [] [] base w (.slice none 0 0) (.slice none 0 0) :=
  ⟨rfl, rfl, ⟨rfl, .inl ⟨rfl, rfl⟩⟩, ⟨rfl, .inl ⟨rfl, rfl⟩⟩, fun g h => by simp [Value.ownBlock] at h⟩
theorem FV.len1 {n : Int} {l : List Ot} {j base : Nat} {l1 l2 : List Ot} {w : World} {v1 v2 : Value} (h : FV n l j l1 l2 base w v1 v2) : l1.length ≤ l.length := by
  rw [h.e1]; exact Nat.le_trans outs1_le (by rw [List.length_take]; omega)
theorem FV.len2 {n : Int} {l : List Ot} {j base : Nat} {l1 l2 : List Ot} {w : World} {v1 v2 : Value} (h : FV n l j l1 l2 base w v1 v2) : l2.length ≤ l.length := by
  rw [h.e2]; exact Nat.le_trans outs2_le (by rw [List.length_take]; omega)
theorem FV.step1 {n : Int} {l : List Ot} {j base : Nat} {l1 l2 : List Ot} {w w' : World} {v1 v2 v1' : Value} {o : Ot} (h : FV n l j l1 l2 base w v1 v2) (ho : l[j]? = some o) (hk : o.k ≤ n)
    (hown : w'.ownsRow base 37 4 v1' (l1 ++ [o]).length (outCells (l1 ++ [o]))) (hg : w.grownBy w' v1.ownBlock) (hat : v1'.ownBlock = v1.ownBlock ∨ v1'.ownBlock = some w.heap.size) : FV n l (j + 1) (l1 ++ [o]) l2 base w' v1' v2 where
  e1 := by rw [take_snoc ho, outs1, List.filter_append, h.e1]; simp [outs1, hk]
  e2 := by rw [take_snoc ho, outs2, List.filter_append, h.e2]; simp [outs2, hk]
  o1 := hown
  o2 := h.o2.kept hg (by
    cases e : v2.ownBlock with
    | none => exact .inl rfl
    | some g => exact .inr (fun e' => h.ne g e'.symm e))
  ne := fun g hg' e => by
    rcases hat with a | a
    · exact h.ne g (a ▸ hg') e
    · have := (h.o2.lt g e).2
      rw [a] at hg'
      injection hg' with hg'
      omega
theorem FV.step2 {n : Int} {l : List Ot} {j base : Nat} {l1 l2 : List Ot} {w w' : World} {v1 v2 v2' : Value} {o : Ot} (h : FV n l j l1 l2 base w v1 v2) (ho : l[j]? = some o) (hk : ¬ o.k ≤ n)
    (hown : w'.ownsRow base 37 4 v2' (l2 ++ [o]).length (outCells (l2 ++ [o]))) (hg : w.grownBy w' v2.ownBlock) (hat : v2'.ownBlock = v2.ownBlock ∨ v2'.ownBlock = some w.heap.size) : FV n l (j + 1) l1 (l2 ++ [o]) base w' v1 v2' where
  e1 := by rw [take_snoc ho, outs1, List.filter_append, h.e1]; simp [outs1, hk]
  e2 := by rw [take_snoc ho, outs2, List.filter_append, h.e2]; have hf : (!decide (o.k ≤ n)) = true := by simp; omega
           simp only [outs2, List.filter_cons, hf, if_true, List.filter_nil]
  o2 := hown
  o1 := h.o1.kept hg (by
    cases e : v1.ownBlock with
    | none => exact .inl rfl
    | some g => exact .inr (fun e' => h.ne g e e'.symm))
  ne := fun g hg' e => by
    rcases hat with a | a
    · exact h.ne g hg' (a ▸ e)
    · have := (h.o1.lt g hg').2
      rw [a] at e
      injection e with e
      omega
theorem FV.alloc {n : Int} {l : List Ot} {j base : Nat} {l1 l2 : List Ot} {w : World} {v1 v2 : Value} (h : FV n l j l1 l2 base w v1 v2) (ob : Obj) : FV n l j l1 l2 base (w.alloc ob) v1 v2 := ⟨h.e1, h.e2, h.o1.alloc ob, h.o2.alloc ob, h.ne⟩
theorem FV.drew {n : Int} {l : List Ot} {j base : Nat} {l1 l2 : List Ot} {w : World} {v1 v2 : Value} (h : FV n l j l1 l2 base w v1 v2) : FV n l j l1 l2 base w.drew v1 v2 := ⟨h.e1, h.e2, h.o1.drew', h.o2.drew', h.ne⟩
theorem FV.below {n : Int} {l : List Ot} {j base : Nat} {l1 l2 : List Ot} {w w' : World} {v1 v2 : Value} (h : FV n l j l1 l2 base w v1 v2) (hb : Below w.heap.size w w') : FV n l j l1 l2 base w' v1 v2 :=
  ⟨h.e1, h.e2, h.o1.kept (grown_of_below hb none) (by cases v1.ownBlock <;> simp), h.o2.kept (grown_of_below hb none) (by cases v2.ownBlock <;> simp), h.ne⟩
theorem free2_end {w wr : World} {d : Dk} {s : Value} {l l1 l2 : List Ot} {v1 v2 : Value} (N : Scene w [(26, d.row s), (26, z7)] wr) (F : FV d.refBound l l.length l1 l2 (w.heap.size + 2) wr v1 v2) (wf : World)
    (hwf : wf = (fill7 wr (w.heap.size + 1) (I d.gen) (I d.k) (I d.acked) (I d.peer) (I d.stage) (I d.seq) v2).alloc (.cells (d.row v2) 26)) :
    Row wf (w.heap.size + 1) 26 (d.row v2) ∧ Sl wf v2 (outs2 d.refBound l) ∧ Sl wf v1 (outs1 d.refBound l) ∧ Below w.heap.size w wf := by
  subst hwf
  have k1 := F.o1.lt
  have k2 := F.o2.lt
  have s1 := Sl.of_own F.o1 rfl
  have s2 := Sl.of_own F.o2 rfl
  have e1 := F.e1
  have e2 := F.e2
  rw [List.take_length] at e1 e2
  rw [e1] at s1
  rw [e2] at s2
  have hb := Below.fill7 (C := w.heap.size + 1) N.be (by omega) (I d.gen) (I d.k) (I d.acked) (I d.peer) (I d.stage) (I d.seq) v2
  refine ⟨(N.r1.fill7 _ _ _ _ _ _ _).alloc _, ?_, ?_, hb.alloc hb.size _⟩
  · exact (s2.fill7 (fun g h => by have := k2 g h; omega) _ _ _ _ _ _ _).alloc _
  · exact (s1.fill7 (fun g h => by have := k1 g h; omega) _ _ _ _ _ _ _).alloc _
set_option maxRecDepth 100000 in
set_option maxHeartbeats 4000000 in
theorem refFree_calls (d : Dk) (s : Value) (l : List Ot) (w : World) (hs : Sl w s l) (hn : l.length ≤ 64) :
    Calls Try.prog 27 #[d.val s] w fun e w' => ∃ s' v, e = .returned (.tuple #[d.val s', v]) ∧ Sl w' s' (outs2 d.refBound l) ∧ Sl w' v (outs1 d.refBound l) ∧ Below w.heap.size w w' := by
  obtain ⟨A, c, rfl, hc, hA, hw⟩ := hs
  have HW := Lib.hid hw
  have HL := Lib.hid hn
  clear hw hc hA hn
  have N : Hid (Scene w [(26, d.row (.slice A l.length c)), (26, z7)] ((w.alloc (.cells (d.row (.slice A l.length c)) 26)).alloc (.cells z7 26))) := Lib.hid (((Scene.none w).push (by simp) _ _).push (by simp) _ _)
  have hb0 : Hid (∀ g, g ≤ 64 → g + 1 ≤ 1000000) := Lib.hid (by intro g h; omega)
  go_enter Try.func27, Try.ntmps27
  go_wp2_with fail
  go_loopw [4, 5, 6] (fun fr re i wr => ∃ (j : Nat) (l1 l2 : List Ot) (A1 : Option Addr) (c1 : Nat) (A2 : Option Addr) (c2 : Nat), j ≤ l.length ∧ fr = .slice A1 l1.length c1 ∧ re = .slice A2 l2.length c2 ∧ i = .int .i64 j ∧ Hid (FV d.refBound l j l1 l2 (w.heap.size + 2) wr (.slice A1 l1.length c1) (.slice A2 l2.length c2)) ∧ Hid (Scene w [(26, d.row (.slice A l.length c)), (26, z7)] wr)) (fun _ _ i _ => l.length - (intOf i).toNat)
  case atStart => exact ⟨0, [], [], none, 0, none, 0, by omega, rfl, rfl, rfl, Lib.hid (FV.init _ _ _ _), N⟩
  case round =>
    clear N
    obtain ⟨j, l1, l2, A1, c1, A2, c2, hj, rfl, rfl, rfl, F, N⟩ := hrel
    have c0 := N.out.r0.cell
    have t0 := N.out.r0.lt
    have t1 := N.out.r1.lt
    by_cases hjl : j = l.length
    · subst hjl
      have hne : w.heap.size + 1 ≠ wr.heap.size := by omega
      have g1 := N.out.r1.free
      have d1 := N.out.r1.cell
      go_wp2
      have E := free2_end N.out F.out _ rfl
      exact bodyPost_ret (results_cell_tmp rfl rfl E.1) rfl ⟨_, _, rfl, E.2⟩
    have hlt2 : (j : Int) < l.length := by omega
    have hj0 : (0 : Int) ≤ j := by omega
    obtain ⟨bq, oq, rfl, hbq, hcs⟩ := (HW.out.below N.out.be) (by intro e; subst e; simp at hlt2; omega)
    obtain ⟨o, ho⟩ : ∃ o, l[j]? = some o := ⟨l[j]'(by omega), List.getElem?_eq_getElem (by omega)⟩
    obtain ⟨x0, x1, x2, x3⟩ := hcs j o ho
    have XX := Lib.hid (show ∀ w', Below wr.drew.heap.size wr.drew w' → w'.cell? ⟨bq, oq + j * 4, none⟩ = some (I o.k) ∧ w'.cell? ⟨bq, oq + j * 4 + 1, none⟩ = some (I o.a) ∧ w'.cell? ⟨bq, oq + j * 4 + 2, none⟩ = some (I o.b) ∧ w'.cell? ⟨bq, oq + j * 4 + 3, none⟩ = some (I o.c) from fun w' hb => by
      have hlt : bq < wr.heap.size := by omega
      have k : ∀ n, w'.cell? ⟨bq, n, none⟩ = wr.cell? ⟨bq, n, none⟩ := fun n => by unfold World.cell?; simp only [hb.block bq hlt]; rfl
      exact ⟨(k _).trans x0, (k _).trans x1, (k _).trans x2, (k _).trans x3⟩)
    have X0 := Lib.hid x0
    have hw64 : IntKind.i64.wrap ((j : Int) + 1) = (j : Int) + 1 := by have := HL.out; simp [IntKind.wrap, IntKind.bits, IntKind.signed]; omega
    have STEP : Hid (j + 1 ≤ l.length ∧ l.length - (j + 1) < l.length - j) := Lib.hid (by omega)
    have HO := Lib.hid ho
    have BQ : Hid (bq < wr.heap.size) := Lib.hid (by omega)
    have BW : Hid (bq < w.heap.size) := Lib.hid hbq
    clear hcs ho hj hjl x1 x2 x3 hbq
    obtain ⟨ok, oa, ob, oc⟩ := o
    dsimp only at x0 X0 XX
    go_wp2_with fail
    go_region_held3 (fun w' => (∀ o, w'.cell? ⟨w.heap.size, o, none⟩ = (d.row (.slice (some ⟨bq, oq, none⟩) l.length c))[o]?) ∧ w'.cell? ⟨bq, oq + j * 4, none⟩ = some (I ok))
      (first | with_reducible exact ⟨y0, X2.out⟩ | exact ⟨c0, X0.out⟩)
      (first
        | (go_at_call 33
           refine (refBound_calls d _ _).mono ?_
           rintro e w2 ⟨rfl, hb⟩
           have hb' := hb
           have N2 := Lib.hid (N.out.drew.below hb)
           have F2 := Lib.hid (F.out.drew.below hb)
           have y0 := N2.out.r0.cell
           have X2 := Lib.hid (XX.out _ hb).1
           have XY := Lib.hid (XX.out _ hb)
           have T2 := Lib.hid hb.size
           clear hb))
    clear F N X0 x0 c0
    have z0 := N2.out.r0.lt
    obtain ⟨x0, x1, x2, x3⟩ := XY.out
    have BQ2 : bq < w2.heap.size := by have := BQ.out; have h2 : wr.heap.size ≤ w2.heap.size := T2.out; omega
    have LL1 : Hid (l1.length ≤ l.length) := Lib.hid F2.out.len1
    have LL2 : Hid (l2.length ≤ l.length) := Lib.hid F2.out.len2
    clear XY XX X2 T2 BQ
    by_cases hok : ok ≤ d.refBound
    · have hok' : decide (ok ≤ d.refBound) = true := decide_eq_true hok
      have HOK := Lib.hid hok
      go_wp2_with (at_builtin
                   refine wpList_app _ rfl (.tmp 24) (.tmp 30) rfl (w.heap.size + 2) _ l1 [⟨ok, oa, ob, oc⟩] rfl ?own ?base ?sl ?len ?_
                   case own => exact F2.out.o1.alloc _
                   case base => (have h1 := N2.out.be.size; have h2 := N2.out.r1.lt; simp; omega)
                   case sl => exact sl_one (Row.new _ 37 #[I ok, I oa, I ob, I oc]) 1 (by omega)
                   case len => (have := HL.out; have := F2.out.len1; simp; omega)
                   intro A3 c3 w3 hown hg hat
                   have F3 := Lib.hid ((F2.out.alloc (.cells #[I ok, I oa, I ob, I oc] 37)).step1 HO.out HOK.out hown hg hat)
                   have N3 := Lib.hid ((N2.out.alloc (.cells #[I ok, I oa, I ob, I oc] 37)).app hg (fun g h => by have := F2.out.o1.lt g h; simp; omega))
                   clear hown hg hat)
      go_roundw
      case rel => exact ⟨j + 1, l1 ++ [⟨ok, oa, ob, oc⟩], l2, A3, c3, A2, c2, STEP.out.1, by simp, by simp, by go_num, by simpa using F3, N3⟩
      case measure =>
        have h := STEP.out.2
        show l.length - ((j : Int) + 1).toNat < l.length - ((j : Int)).toNat
        rw [show ((j : Int) + 1).toNat = j + 1 by omega, show ((j : Int)).toNat = j by omega]
        exact h
    · have hok' : decide (ok ≤ d.refBound) = false := decide_eq_false hok
      have HOK := Lib.hid hok
      go_wp2_with (at_builtin
                   refine wpList_app _ rfl (.tmp 32) (.tmp 38) rfl (w.heap.size + 2) _ l2 [⟨ok, oa, ob, oc⟩] rfl ?own ?base ?sl ?len ?_
                   case own => exact F2.out.o2.alloc _
                   case base => (have h1 := N2.out.be.size; have h2 := N2.out.r1.lt; simp; omega)
                   case sl => exact sl_one (Row.new _ 37 #[I ok, I oa, I ob, I oc]) 1 (by omega)
                   case len => (have := HL.out; have := F2.out.len2; simp; omega)
                   intro A3 c3 w3 hown hg hat
                   have F3 := Lib.hid ((F2.out.alloc (.cells #[I ok, I oa, I ob, I oc] 37)).step2 HO.out HOK.out hown hg hat)
                   have N3 := Lib.hid ((N2.out.alloc (.cells #[I ok, I oa, I ob, I oc] 37)).app hg (fun g h => by have := F2.out.o2.lt g h; simp; omega))
                   clear hown hg hat)
      go_roundw
      case rel => exact ⟨j + 1, l1, l2 ++ [⟨ok, oa, ob, oc⟩], A1, c1, A3, c3, STEP.out.1, by simp, by simp, by go_num, by simpa using F3, N3⟩
      case measure =>
        have h := STEP.out.2
        show l.length - ((j : Int) + 1).toNat < l.length - ((j : Int)).toNat
        rw [show ((j : Int) + 1).toNat = j + 1 by omega, show ((j : Int)).toNat = j by omega]
        exact h
end Go.Proofs.Ytbchepdaomhgeaa.MM
