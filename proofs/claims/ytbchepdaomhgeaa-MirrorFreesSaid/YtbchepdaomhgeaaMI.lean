import Derived.Test.YtbchepdaomhgeaaMH
/- MirrorSteps: the walk. -/
namespace Go.Proofs.Ytbchepdaomhgeaa.MM
open Go.RowKit
set_option linter.unusedVariables false
set_option linter.unusedSimpArgs false
structure Vc where
  a : Int
  b : Int
  c : Int
  deriving DecidableEq
/-- the slice at A reads as these vectors -/
def Vts (w : World) (B : Nat) (A : Option Addr) (l : List Vc) : Prop :=
  l ≠ [] → ∃ b off, A = some ⟨b, off, none⟩ ∧ b < B ∧ ∀ (i : Nat) (v : Vc), l[i]? = some v →
    w.cell? ⟨b, off + i * 3, none⟩ = some (I v.a) ∧ w.cell? ⟨b, off + i * 3 + 1, none⟩ = some (I v.b) ∧ w.cell? ⟨b, off + i * 3 + 2, none⟩ = some (I v.c)
theorem Vts.below {w w' : World} {B : Nat} {A : Option Addr} {l : List Vc} (h : Vts w B A l) (hb : Below B w w') : Vts w' B A l := fun hl => by
  obtain ⟨b, off, e, hlt, hc⟩ := h hl
  have k : ∀ n, w'.cell? ⟨b, n, none⟩ = w.cell? ⟨b, n, none⟩ := fun n => hb.cell (p := ⟨b, n, none⟩) hlt
  exact ⟨b, off, e, hlt, fun i o ho => by rw [k, k, k]; exact hc i o ho⟩
def outs (k : Int) : List Vc → List Ot
  | [] => []
  | v :: l => ⟨k, v.a, v.b, v.c⟩ :: outs (k + 1) l
theorem outs_length (k : Int) (l : List Vc) : (outs k l).length = l.length := by
  induction l generalizing k with
  | nil => rfl
  | cons x l ih => simp [outs, ih]
theorem outs_append (k : Int) (l r : List Vc) : outs k (l ++ r) = outs k l ++ outs (k + l.length) r := by
  induction l generalizing k with
  | nil => simp [outs]
  | cons x l ih =>
    simp only [List.cons_append, outs, ih, List.length_cons]
    congr 3
    omega
theorem outs_at (k : Int) (l : List Vc) (i : Nat) (v : Vc) (h : l[i]? = some v) : (outs k l)[i]? = some ⟨k + i, v.a, v.b, v.c⟩ := by
  induction l generalizing k i with
  | nil => simp at h
  | cons x l ih =>
    cases i with
    | zero => simp at h; subst h; simp [outs]
    | succ i =>
      simp only [outs, List.getElem?_cons_succ] at h ⊢
      rw [ih (k + 1) i h]
      congr 2
      omega
theorem take_succ_at {α : Type} {l : List α} {k : Nat} {v : α} (h : l[k]? = some v) : l.take (k + 1) = l.take k ++ [v] := by
  have hk : k < l.length := by
    rcases Nat.lt_or_ge k l.length with hl | hl
    · exact hl
    · rw [List.getElem?_eq_none hl] at h; cases h
  rw [List.take_add_one, h]; rfl
abbrev KP (w' : World) (B : Nat) (cs : Array Value) (b o : Nat) (va vb vc : Int) : Prop :=
  (∀ j, w'.cell? ⟨B, j, none⟩ = cs[j]?) ∧ w'.cell? ⟨b, o, none⟩ = some (I va) ∧ w'.cell? ⟨b, o + 1, none⟩ = some (I vb) ∧ w'.cell? ⟨b, o + 2, none⟩ = some (I vc)
theorem KP.keep {w w' : World} {B : Nat} {cs : Array Value} {b o : Nat} {va vb vc : Int} (h : KP w B cs b o va vb vc) (hk : ∀ p : Addr, p.block = B ∨ p.block = b → w'.cell? p = w.cell? p) : KP w' B cs b o va vb vc := by
  have k : ∀ n, w'.cell? ⟨b, n, none⟩ = w.cell? ⟨b, n, none⟩ := fun n => hk _ (.inr rfl)
  exact ⟨fun j => (hk _ (.inl rfl)).trans (h.1 j), (k _).trans h.2.1, (k _).trans h.2.2.1, (k _).trans h.2.2.2⟩
theorem KP.lt {w : World} {B : Nat} {cs : Array Value} {b o : Nat} {va vb vc : Int} (h : KP w B cs b o va vb vc) (h0 : 0 < cs.size) : B < w.heap.size ∧ b < w.heap.size := by
  obtain ⟨h1, h2, _⟩ := h
  exact ⟨cell_lt (a := ⟨B, 0, none⟩) ((h1 0).trans (Array.getElem?_eq_getElem h0)), cell_lt h2⟩
theorem KP.alloc {w : World} {B : Nat} {cs : Array Value} {b o : Nat} {va vb vc : Int} (h : KP w B cs b o va vb vc) (hl : B < w.heap.size ∧ b < w.heap.size) (x : Obj) : KP (w.alloc x) B cs b o va vb vc :=
  h.keep fun p hp => World.cell?_alloc_lt w x p (by omega)
theorem KP.below {w w' : World} {B : Nat} {cs : Array Value} {b o : Nat} {va vb vc : Int} (h : KP w B cs b o va vb vc) (hl : B < w.heap.size ∧ b < w.heap.size) (hb : Below w.heap.size w w') : KP w' B cs b o va vb vc :=
  h.keep fun p hp => hb.cell (by omega)
theorem KP.fill7 {w : World} {B C : Nat} {cs : Array Value} {b o : Nat} {va vb vc : Int} (h : KP w B cs b o va vb vc) (hl : B ≠ C ∧ b ≠ C) (x0 x1 x2 x3 x4 x5 x6 : Value) : KP (MM.fill7 w C x0 x1 x2 x3 x4 x5 x6) B cs b o va vb vc :=
  h.keep fun p hp => by
    have k : ∀ (w : World) (j : Nat) (u : Value), (w.setCell ⟨C, j, none⟩ u).cell? p = w.cell? p := fun w j u => World.cell?_setCell_other w ⟨C, j, none⟩ p u (fun e => by subst e; simp at hp; omega)
    rw [MM.fill7, k, k, k, k, k, k, k]
abbrev fillD (w : World) (B : Nat) (d : Dk) (s : Value) : World := fill7 w B (I d.gen) (I d.k) (I d.acked) (I d.peer) (I d.stage) (I d.seq) s
theorem end1 {w w3 : World} {B n : Nat} {d0 d : Dk} {s0 s : Value} {l : List Ot} (N : Row w3 B 26 (d0.row s0)) (hS : Sl w3 s l) (hg : ∀ g, s.ownBlock = some g → B < g) (hb : Below n w w3) (hn : n ≤ B) (o : Obj) :
    Row ((fillD w3 B d s).alloc o) B 26 (d.row s) ∧ Sl ((fillD w3 B d s).alloc o) s l ∧ Below n w ((fillD w3 B d s).alloc o) :=
  ⟨(N.fill7 _ _ _ _ _ _ _).alloc o, (hS.fill7 (fun g h => by have := hg g h; omega) _ _ _ _ _ _ _).alloc o, (Below.fill7 hb hn _ _ _ _ _ _ _).alloc (by have := N.lt; simp; omega) o⟩
theorem end2 {w w3 : World} {B C n : Nat} {d0 d : Dk} {s0 s : Value} {l : List Ot} (N : Row w3 B 26 (d0.row s0)) (hS : Sl w3 s l) (hg : ∀ g, s.ownBlock = some g → C < g) (hb : Below n w w3) (hn : n ≤ B) (hBC : B < C) :
    Row (fillD (fillD w3 C d s) B d s) B 26 (d.row s) ∧ Sl (fillD (fillD w3 C d s) B d s) s l ∧ Below n w (fillD (fillD w3 C d s) B d s) :=
  ⟨(N.far7 (by omega)).fill7 _ _ _ _ _ _ _, (hS.fill7 (fun g h => by have := hg g h; omega) _ _ _ _ _ _ _).fill7 (fun g h => by have := hg g h; omega) _ _ _ _ _ _ _, Below.fill7 (Below.fill7 hb (by omega) _ _ _ _ _ _ _) hn _ _ _ _ _ _ _⟩
theorem cut_all {n : Int} {l : List Ot} (h : ∀ (j : Nat) (o : Ot), j < l.length → l[j]? = some o → o.k ≤ n) : cutAt n l = l.length := by unfold cutAt; rw [firstOver_none h]; rfl
theorem outs_get (k : Int) (l : List Vc) (i : Nat) (o : Ot) (h : (outs k l)[i]? = some o) : ∃ v, l[i]? = some v ∧ o = ⟨k + i, v.a, v.b, v.c⟩ := by
  have hi : i < l.length := by
    rcases Nat.lt_or_ge i (outs k l).length with hl | hl
    · rwa [outs_length] at hl
    · rw [List.getElem?_eq_none hl] at h; cases h
  have hv : l[i]? = some (l[i]'hi) := List.getElem?_eq_getElem hi
  refine ⟨_, hv, ?_⟩
  rw [outs_at k l i _ hv] at h
  injection h with h
  exact h.symm
theorem outs_le (ys : List Vc) : ∀ (j : Nat) (o : Ot), j < (outs 6 ys).length → (outs 6 ys)[j]? = some o → o.k ≤ 5 + (ys.length : Int) := by
  intro j o hj ho
  rw [outs_length] at hj
  obtain ⟨v, _, rfl⟩ := outs_get 6 ys j o ho
  dsimp only
  omega
set_option maxRecDepth 100000 in
set_option maxHeartbeats 4000000 in
theorem steps_walk (A : Option Addr) (c : Nat) (ys : List Vc) (w : World) (hw : Vts w w.heap.size A ys) :
    Calls Try.prog 3 #[.slice A ys.length c] w fun e w' => e = .returned (.bool true) ∧ Below w.heap.size w w' := by
  have HW := Lib.hid hw
  clear hw
  go_enter Try.func3, Try.ntmps3
  go_wp2_with fail
  refine (shown_calls _).mono ?_
  rintro e w1 ⟨rfl, hb⟩
  have HB1 := Lib.hid hb
  clear hb
  by_cases hn : (ys.length : Int) > 64
  · go_wp2
    go_ret
    exact ⟨rfl, HB1.out⟩
  · have hd : decide ((ys.length : Int) > 64) = false := decide_eq_false hn
    have HN := Lib.hid (show ys.length ≤ 64 by omega)
    clear hn
    go_wp2_with fail
    refine (new_calls 3 5 _).mono ?_
    rw [known_in (n := 3) (by omega) (by omega), known_in (n := 5) (by omega) (by omega)]
    rintro e w2 ⟨rfl, hb⟩
    have HB2 := Lib.hid (HB1.out.trans (hb.mono HB1.out.size))
    clear hb HB1
    go_wp2_with fail
    go_loopw [5] (fun i wr => ∃ (k : Nat) (s : Value), k ≤ ys.length ∧ i = .int .i64 k ∧ Hid (Row wr w2.heap.size 26 (Dk.row ⟨3, 5 + k, 5, -1, 0, 0⟩ s)) ∧ Hid (Sl wr s (outs 6 (ys.take k))) ∧ Hid (Below w.heap.size w wr)) (fun i _ => ys.length - (intOf i).toNat)
    case atStart => exact ⟨0, .slice none 0 0, by omega, rfl, Lib.hid (Row.new w2 26 _), Lib.hid ⟨none, 0, rfl, by simp [outs], fun _ => rfl, Wts.nil _ _ _⟩, Lib.hid (HB2.out.alloc HB2.out.size _)⟩
    case round =>
      obtain ⟨k, s, hk, rfl, R, S, HB⟩ := hrel
      have cr := R.out.cell
      have lr := R.out.lt
      by_cases hkl : k = ys.length
      · subst hkl
        rw [List.take_length] at S
        obtain ⟨As, cs, rfl, _, _, _⟩ := S.out
        have hlen : (outs 6 ys).length ≤ 64 := by rw [outs_length]; exact HN.out
        have hb5 : Dk.bound ⟨3, 5 + ys.length, 5, -1, 0, 0⟩ = 5 + ys.length := rfl
        have hcut : cutAt (5 + (ys.length : Int)) (outs 6 ys) = (outs 6 ys).length := cut_all (outs_le ys)
        have HBn := Lib.hid hb5
        have HCn := Lib.hid hcut
        have HLn := Lib.hid hlen
        clear hb5 hcut hlen
        go_wp2_with fail
        refine (free_calls ⟨3, 5 + ys.length, 5, -1, 0, 0⟩ (.slice As (outs 6 ys).length cs) (outs 6 ys) _ S.out HLn.out).mono ?_
        rw [HBn.out, HCn.out, List.drop_length, List.take_length]
        rintro e w4 ⟨s2, v, rfl, hs2, hv, hb4⟩
        have HB4 := Lib.hid (HB.out.trans (hb4.mono HB.out.size))
        have HS2 := Lib.hid hs2
        have HV := Lib.hid hv
        clear hs2 hv hb4
        obtain ⟨A2, c2, rfl, _, _, _⟩ := HS2.out
        obtain ⟨A3, c3, rfl, _, _, _⟩ := HV.out
        have hol : (outs 6 ys).length = ys.length := outs_length 6 ys
        have hw5 : IntKind.i64.wrap (5 + (ys.length : Int)) = 5 + (ys.length : Int) := by have := HN.out; simp [IntKind.wrap, IntKind.bits, IntKind.signed]; omega
        rw [hol]
        clear cr
        go_wp2_with fail
        go_loopw [10] (fun i wq => ∃ j : Nat, j ≤ ys.length ∧ i = .int .i64 j ∧ Hid (Below w4.heap.size w4 wq)) (fun i _ => ys.length - (intOf i).toNat)
        case atStart => exact ⟨0, by omega, rfl, Lib.hid ((Below.refl _ _).alloc (Nat.le_refl _) _)⟩
        case round =>
          obtain ⟨j, hj, rfl, HQ⟩ := hrel
          have HBQ := Lib.hid (HB4.out.trans (HQ.out.mono HB4.out.size))
          by_cases hjl : j = ys.length
          · subst hjl
            go_wp2
            go_ret
            exact ⟨rfl, HBQ.out⟩
          · have hlt : (j : Int) < ys.length := by omega
            have hj0 : (0 : Int) ≤ j := by omega
            obtain ⟨b, off, rfl, hb, hc⟩ := (HW.out.below HBQ.out) (by intro e; subst e; simp at hlt; omega)
            obtain ⟨v, hv⟩ : ∃ v, ys[j]? = some v := ⟨ys[j]'(by omega), List.getElem?_eq_getElem (by omega)⟩
            obtain ⟨c0, c1, c2⟩ := hc j v hv
            obtain ⟨A4, c4, e4, _, _, hwv⟩ := HV.out
            injection e4 with e4 _ e6
            subst e4 e6
            obtain ⟨b', off', rfl, hb', hc'⟩ := (hwv.below HQ.out) (by intro e; rw [e] at hol; simp at hol; omega)
            obtain ⟨x0, x1, x2, x3⟩ := hc' j _ (outs_at 6 ys j v hv)
            obtain ⟨va, vb, vc⟩ := v
            have e33 : ∀ w, (Op.equalIn 10000 33 (.agg #[I va, I vb, I vc]) (.agg #[I va, I vb, I vc])).run Try.prog w = .ok true w := fun w => by have h := eq33 9998 va vb vc va vb vc w; simpa using h
            have hw1 : IntKind.i64.wrap ((j : Int) + 1) = (j : Int) + 1 := by have := HN.out; simp [IntKind.wrap, IntKind.bits, IntKind.signed]; omega
            have hw6 : IntKind.i64.wrap (6 + (j : Int)) = 6 + (j : Int) := by have := HN.out; simp [IntKind.wrap, IntKind.bits, IntKind.signed]; omega
            have LK := Lib.hid hjl
            have HK := Lib.hid hj
            clear hc hc' hv hjl hj
            go_wp2_with fail
            go_region_held3 (fun w' => (w'.cell? ⟨b', off' + j * 4, none⟩ = some (I (6 + j)) ∧ w'.cell? ⟨b', off' + j * 4 + 1, none⟩ = some (I va) ∧ w'.cell? ⟨b', off' + j * 4 + 2, none⟩ = some (I vb) ∧ w'.cell? ⟨b', off' + j * 4 + 3, none⟩ = some (I vc)) ∧ w'.cell? ⟨b, off + j * 3, none⟩ = some (I va) ∧ w'.cell? ⟨b, off + j * 3 + 1, none⟩ = some (I vb) ∧ w'.cell? ⟨b, off + j * 3 + 2, none⟩ = some (I vc))
              (first | with_reducible exact ⟨⟨x0, x1, x2, x3⟩, c0, c1, c2⟩ | go_keep) (fail)
            all_goals go_wp2
            all_goals go_roundw
            all_goals first
              | (have hm := LK.out
                 have hm2 := HK.out
                 simp [intOf]
                 omega)
              | exact ⟨j + 1, by have := LK.out; have := HK.out; omega, by go_num, HQ⟩
              | exact ⟨j + 1, by have := LK.out; have := HK.out; omega, by go_num, Lib.hid HQ.out.drew⟩
      · have hlt : (k : Int) < ys.length := by omega
        have hk0 : (0 : Int) ≤ k := by omega
        obtain ⟨b, off, rfl, hb, hc⟩ := (HW.out.below HB.out) (by intro e; subst e; simp at hlt; omega)
        obtain ⟨v, hv⟩ : ∃ v, ys[k]? = some v := ⟨ys[k]'(by omega), List.getElem?_eq_getElem (by omega)⟩
        obtain ⟨c0, c1, c2⟩ := hc k v hv
        obtain ⟨va, vb, vc⟩ := v
        have V := Lib.hid hv
        have LK := Lib.hid hkl
        have HK := Lib.hid hk
        have hw64 : IntKind.i64.wrap ((k : Int) + 1) = (k : Int) + 1 := by have := HN.out; simp [IntKind.wrap, IntKind.bits, IntKind.signed]; omega
        clear hc hv hkl hk
        go_wp2_with fail
        have NA : Hid (Row wr.drew w2.heap.size 26 (Dk.row ⟨3, 5 + k, 5, -1, 0, 0⟩ s)) := Lib.hid R.out.drew
        have NB : Hid (Row (wr.alloc (.cells z7 26)).drew w2.heap.size 26 (Dk.row ⟨3, 5 + k, 5, -1, 0, 0⟩ s)) := Lib.hid (R.out.alloc _).drew
        have SA : Hid (Sl wr.drew s (outs 6 (ys.take k))) := S
        have SB : Hid (Sl (wr.alloc (.cells z7 26)).drew s (outs 6 (ys.take k))) := Lib.hid (S.out.alloc _)
        have YA : Hid (∀ p : Addr, p.block < w.heap.size → wr.drew.cell? p = w.cell? p) := Lib.hid (fun p hp => HB.out.cell hp)
        have YB : Hid (∀ p : Addr, p.block < w.heap.size → (wr.alloc (.cells z7 26)).drew.cell? p = w.cell? p) := Lib.hid (fun p hp => (HB.out.alloc HB.out.size _).cell hp)
        have BA : Hid (Below w.heap.size w wr.drew) := Lib.hid HB.out.drew
        have BB : Hid (Below w.heap.size w (wr.alloc (.cells z7 26)).drew) := Lib.hid (HB.out.alloc HB.out.size _).drew
        have ol : (outs 6 (ys.take k)).length < 64 := by rw [outs_length, List.length_take]; have := HN.out; omega
        have OL := Lib.hid ol
        clear ol
        have lr2 : w2.heap.size < wr.heap.size ∧ b < wr.heap.size := ⟨lr, cell_lt c0⟩
        have KA : Hid (KP wr.drew w2.heap.size (Dk.row ⟨3, 5 + k, 5, -1, 0, 0⟩ s) b (off + k * 3) va vb vc) := Lib.hid ⟨cr, c0, c1, c2⟩
        have KB : Hid (KP (wr.alloc (.cells z7 26)).drew w2.heap.size (Dk.row ⟨3, 5 + k, 5, -1, 0, 0⟩ s) b (off + k * 3) va vb vc) := Lib.hid (KP.alloc (w := wr) ⟨cr, c0, c1, c2⟩ lr2 _)
        have TB : Hid (Row (wr.alloc (.cells z7 26)).drew wr.heap.size 26 z7) := Lib.hid (Row.new wr 26 z7).drew
        have LR := Lib.hid lr2
        obtain ⟨As, cs, rfl, _, _, _⟩ := S.out
        go_region_held3 (fun w' => KP w' w2.heap.size (Dk.row ⟨3, 5 + k, 5, -1, 0, 0⟩ (.slice As (outs 6 (ys.take k)).length cs)) b (off + k * 3) va vb vc)
          (first | with_reducible exact KA.out | with_reducible exact KB.out | with_reducible exact K3.out | with_reducible exact K3.out.alloc (by have := L3.out; omega) _ | with_reducible exact K3.out.fill7 (by have := LR.out; omega) _ _ _ _ _ _ _)
          (first
          | (go_at_call 12
             refine (add_calls ⟨3, 5 + k, 5, -1, 0, 0⟩ (.slice As (outs 6 (ys.take k)).length cs) (outs 6 (ys.take k)) va vb vc _ ?sl OL.out ?hk1 ?hk2).mono ?_
             case sl => first | with_reducible exact SA.out | with_reducible exact SB.out
             case hk1 => (have := HN.out; dsimp only; omega)
             case hk2 => (dsimp only; omega)
             rintro e w3 ⟨s', rfl, hs', hg', hb3⟩
             have HS3 := Lib.hid hs'
             obtain ⟨A3, c3, rfl, _, _, _⟩ := hs'
             have N3 : Hid (Row w3 w2.heap.size 26 (Dk.row ⟨3, 5 + k, 5, -1, 0, 0⟩ (.slice As (outs 6 (ys.take k)).length cs))) := by first | with_reducible exact Lib.hid (NA.out.below hb3 NA.out.lt) | with_reducible exact Lib.hid (NB.out.below hb3 NB.out.lt)
             have B3 : Hid (Below w.heap.size w w3) := by first | with_reducible exact Lib.hid (BA.out.trans (hb3.mono BA.out.size)) | with_reducible exact Lib.hid (BB.out.trans (hb3.mono BB.out.size))
             have K3 : Hid (KP w3 w2.heap.size (Dk.row ⟨3, 5 + k, 5, -1, 0, 0⟩ (.slice As (outs 6 (ys.take k)).length cs)) b (off + k * 3) va vb vc) := by first | with_reducible exact Lib.hid (KA.out.below (KA.out.lt (by simp)) hb3) | with_reducible exact Lib.hid (KB.out.below (KB.out.lt (by simp)) hb3)
             have L3 := Lib.hid (K3.out.lt (by simp))
             have l3 : w2.heap.size < w3.heap.size := L3.out.1
             have q0 := N3.out.cell
             have q1 := N3.out.free
             try have T3 : Hid (Row w3 wr.heap.size 26 z7) := by with_reducible exact Lib.hid (TB.out.below hb3 TB.out.lt)
             try have t3c := T3.out.cell
             try have t3f := T3.out.free
             have G3 : Hid (∀ g, (Value.slice A3 (outs 6 (ys.take k) ++ [(⟨5 + k + 1, va, vb, vc⟩ : Ot)]).length c3).ownBlock = some g → wr.heap.size ≤ g) := Lib.hid (fun g h => Nat.le_trans (by first | exact Nat.le_refl _ | simp) (hg' g h))
             try have G4 : Hid (∀ g, (Value.slice A3 (outs 6 (ys.take k) ++ [(⟨5 + k + 1, va, vb, vc⟩ : Ot)]).length c3).ownBlock = some g → wr.heap.size < g) := Lib.hid (fun g h => Nat.lt_of_lt_of_le (show wr.heap.size < (wr.alloc (.cells z7 26)).drew.heap.size by simp) (hg' g h))
             clear hb3 hg'))
        all_goals go_wp2
        all_goals go_roundw
        all_goals first
          | (have hm := LK.out
             have hm2 := HK.out
             simp [intOf]
             omega)
          | (have el : (outs 6 (ys.take k) ++ [(⟨5 + k + 1, va, vb, vc⟩ : Ot)]).length = (outs 6 (ys.take k)).length + 1 := by simp
             have e5 : (5 : Int) + ((k + 1 : Nat) : Int) = 5 + k + 1 := by omega
             have eo : outs 6 (ys.take (k + 1)) = outs 6 (ys.take k) ++ [(⟨5 + k + 1, va, vb, vc⟩ : Ot)] := by
               have hlen : (ys.take k).length = k := by rw [List.length_take]; have := HK.out; omega
               rw [take_succ_at V.out, outs_append, hlen]
               show _ ++ [(⟨6 + (k : Int), va, vb, vc⟩ : Ot)] = _
               rw [show (6 : Int) + k = 5 + k + 1 by omega]
             have hn2 := HB2.out.size
             have hlr := LR.out.1
             rw [el] at HS3 G3
             refine ⟨k + 1, .slice A3 ((outs 6 (ys.take k)).length + 1) c3, by have := HK.out; have := LK.out; omega, by go_num, ?_⟩
             rw [e5, eo]
             first
             | (rw [el] at G4
                obtain ⟨e1, e2, e3⟩ := end2 (d := ⟨3, 5 + k + 1, 5, -1, 0, 0⟩) N3.out HS3.out (C := wr.heap.size) G4.out B3.out hn2 hlr
                exact ⟨Lib.hid e1, Lib.hid e2, Lib.hid e3⟩)
             | (obtain ⟨e1, e2, e3⟩ := end1 (d := ⟨3, 5 + k + 1, 5, -1, 0, 0⟩) N3.out HS3.out (fun g h => by have := G3.out g h; omega) B3.out hn2 (.cells #[.int .i64 3, .int .i64 (5 + k + 1), .int .i64 5, .int .i64 (-1), .int .i64 0, .int .i64 0, .slice A3 ((outs 6 (ys.take k)).length + 1) c3] 26)
                exact ⟨Lib.hid e1, Lib.hid e2, Lib.hid e3⟩))
end Go.Proofs.Ytbchepdaomhgeaa.MM
