import Derived.Test.YtbchepdaomhgeaaMP
import Derived.Test.YtbchepdaomhgeaaMJ
/- MirrorNumbers: the walk. -/
namespace Go.Proofs.Ytbchepdaomhgeaa.MM
open Go.RowKit
set_option linter.unusedVariables false
set_option linter.unusedSimpArgs false
/-- what the law asks of a desk n that d has become -/
structure Nums (d n : Dk) (l : List Ot) : Prop where
  lo : n.seq ≥ d.seq
  hi : n.seq ≤ d.seq + 1
  same : d.says = true → n.says = true → d.seq = n.seq → d.peer = n.peer
  right : n.right l = true
theorem right_iff {d : Dk} {l : List Ot} : d.right l = true ↔ (inB d.gen = true ∧ inB d.k = true ∧ inB d.acked = true ∧ inB d.seq = true ∧ d.acked ≤ d.k ∧ d.stage ≥ 0 ∧ d.stage ≤ 3 ∧ (if apartB d.stage = true then d.peer == -1 else inB d.peer) = true ∧ (l.length : Int) ≤ 64 ∧ riseB d.k 0 l = true) := by
  simp only [Dk.right, Bool.and_eq_true, decide_eq_true_eq]
  constructor
  · rintro ⟨⟨⟨⟨⟨⟨⟨⟨⟨h0, h1⟩, h2⟩, h3⟩, h4⟩, h5⟩, h6⟩, h7⟩, h8⟩, h9⟩; exact ⟨h0, h1, h2, h3, h4, h5, h6, h7, h8, h9⟩
  · rintro ⟨h0, h1, h2, h3, h4, h5, h6, h7, h8, h9⟩; exact ⟨⟨⟨⟨⟨⟨⟨⟨⟨h0, h1⟩, h2⟩, h3⟩, h4⟩, h5⟩, h6⟩, h7⟩, h8⟩, h9⟩
theorem inB_iff {n : Int} : inB n = true ↔ 0 ≤ n ∧ n ≤ 4611686018427387904 := by simp [inB]
theorem apart_iff {n : Int} : apartB n = true ↔ n = 0 ∨ n = 3 := by simp [apartB]
theorem apart_ne {n : Int} : apartB n = false ↔ ¬ n = 0 ∧ ¬ n = 3 := by simp [apartB]
theorem nums_refl {d : Dk} {l : List Ot} (h : d.right l = true) : Nums d d l := ⟨by omega, by omega, fun _ _ _ => rfl, h⟩
theorem nums_drop {d : Dk} {l : List Ot} (h : d.right l = true) : Nums d d.drop l := by
  obtain ⟨gen, k, acked, peer, stage, seq⟩ := d
  have hr := right_iff.1 h
  obtain ⟨h0, h1, h2, h3, h4, h5, h6, h7, h8, h9⟩ := hr
  dsimp only at *
  have hq := inB_iff.1 h3
  by_cases s1 : stage = 1
  · subst s1
    have e : Dk.drop ⟨gen, k, acked, peer, 1, seq⟩ = ⟨gen, k, acked, -1, 0, seq⟩ := by simp [Dk.drop]
    rw [e]
    exact ⟨by dsimp only; omega, by dsimp only; omega, fun a _ _ => by simp [Dk.says] at a, right_iff.2 ⟨h0, h1, h2, h3, h4, by dsimp only; omega, by dsimp only; omega, by simp [apartB], h8, h9⟩⟩
  · by_cases s2 : stage = 2 ∧ seq < 4611686018427387904
    · obtain ⟨rfl, hl⟩ := s2
      have e : Dk.drop ⟨gen, k, acked, peer, 2, seq⟩ = ⟨gen, k, acked, -1, 3, seq + 1⟩ := by simp [Dk.drop, Dk.changed, hl]
      rw [e]
      exact ⟨by dsimp only; omega, by dsimp only; omega, fun _ _ c => by dsimp only at c; omega, right_iff.2 ⟨h0, h1, h2, inB_iff.2 (by dsimp only; omega), h4, by dsimp only; omega, by dsimp only; omega, by simp [apartB], h8, h9⟩⟩
    · have e : Dk.drop ⟨gen, k, acked, peer, stage, seq⟩ = ⟨gen, k, acked, peer, stage, seq⟩ := by
        unfold Dk.drop
        rw [if_neg s1, if_neg s2]
      rw [e]
      exact nums_refl h
theorem nums_told {d : Dk} {l : List Ot} (a b : Int) (h : d.right l = true) : Nums d (d.told a b) l := by
  obtain ⟨gen, k, acked, peer, stage, seq⟩ := d
  obtain ⟨h0, h1, h2, h3, h4, h5, h6, h7, h8, h9⟩ := right_iff.1 h
  unfold Dk.told
  split
  · rename_i hc
    obtain ⟨rfl, rfl, rfl⟩ := hc
    exact ⟨by dsimp only; omega, by dsimp only; omega, fun _ b _ => by simp [Dk.says] at b, right_iff.2 ⟨h0, h1, h2, h3, h4, by dsimp only; omega, by dsimp only; omega, by simpa [apartB] using h7, h8, h9⟩⟩
  · exact nums_refl h
theorem nums_want {d : Dk} {l : List Ot} (a : Int) (h : d.right l = true) : Nums d (d.wanted a) l := by
  unfold Dk.wanted
  split
  · exact nums_refl h
  · rename_i hc
    split
    · exact nums_drop h
    · rename_i h2
      obtain ⟨h0, h1, hh2, h3, h4, h5, h6, h7, h8, h9⟩ := right_iff.1 h
      have hi : inB a = true := by cases hx : inB a <;> simp_all
      exact ⟨by dsimp only; omega, by dsimp only; omega, fun _ b _ => by simp [Dk.says] at b, right_iff.2 ⟨h0, h1, inB_iff.2 (by dsimp only; omega), h3, by have := (inB_iff.1 h1).1; exact this, by dsimp only; omega, by dsimp only; omega, by simpa [apartB] using hi, h8, h9⟩⟩
theorem nums_ack {d : Dk} {l : List Ot} (a b : Int) (h : d.right l = true) : Nums d (d.ack a b) l := by
  obtain ⟨gen, k, acked, peer, stage, seq⟩ := d
  obtain ⟨h0, h1, h2, h3, h4, h5, h6, h7, h8, h9⟩ := right_iff.1 h
  dsimp only at *
  unfold Dk.ack
  dsimp only
  split
  · exact nums_refl h
  · rename_i hc
    have hc1 : apartB stage = false := by cases hx : apartB stage <;> simp_all
    have hc4 : ¬ b < acked ∧ ¬ b > k := ⟨fun x => hc (.inr (.inr (.inl x))), fun x => hc (.inr (.inr (.inr x)))⟩
    have hk := inB_iff.1 h1
    have hac := inB_iff.1 h2
    have hq := inB_iff.1 h3
    have hp : inB peer = true := by simpa [hc1] using h7
    have hb : inB b = true := inB_iff.2 (by omega)
    split
    · rename_i hs
      split
      · exact nums_refl h
      · rename_i hq2
        exact ⟨by dsimp only; omega, by dsimp only; omega, fun x _ _ => by simp [Dk.says, hs.1] at x, right_iff.2 ⟨h0, h1, hb, inB_iff.2 (by dsimp only; omega), by dsimp only; omega, by dsimp only; omega, by dsimp only; omega, by simpa [apartB] using hp, h8, h9⟩⟩
    · exact ⟨by dsimp only; omega, by dsimp only; omega, fun _ _ _ => rfl, right_iff.2 ⟨h0, h1, hb, h3, by dsimp only; omega, h5, h6, h7, h8, h9⟩⟩
abbrev row54 (d : Dk) (s : Value) (a b x : Int) : Array Value := #[I d.gen, I d.k, I d.acked, I d.peer, I d.stage, I d.seq, s, I a, I b, .int .u8 x]
set_option maxRecDepth 100000 in
set_option maxHeartbeats 8000000 in
theorem numbers_walk (d : Dk) (s : Value) (l : List Ot) (a b x : Int) (w : World) (hs : Sl w s l) (hx : 0 ≤ x ∧ x ≤ 255) :
    Calls Try.prog 8 #[.agg (row54 d s a b x)] w fun e w' => e = .returned (.bool true) ∧ Below w.heap.size w w' := by
  obtain ⟨A, c, rfl, _, _, _⟩ := id hs
  have HS := Lib.hid hs
  have HX := Lib.hid hx
  clear hs hx
  go_enter Try.func8, Try.ntmps8
  go_wp2_with fail
  refine (shown_calls _).mono ?_
  rintro e w1 ⟨rfl, hb⟩
  have M : Hid (Scene w [(54, row54 d (.slice A l.length c) a b x), (26, d.row (.slice A l.length c))] w1) := Lib.hid ((((Scene.none w).push (by simp) _ _).push (by simp) _ _).below hb)
  clear hb
  have c1 := M.out.r1.cell
  have l1 := M.out.r1.lt
  by_cases hn : (l.length : Int) > 100
  · have hd : decide ((l.length : Int) > 100) = true := decide_eq_true hn
    clear hn
    go_wp2
    go_ret
    exact ⟨rfl, M.out.be⟩
  have hd : decide ((l.length : Int) > 100) = false := decide_eq_false hn
  clear hn
  go_wp2_with fail
  refine (refRight_calls d (.slice A l.length c) l _ (HS.out.below M.out.be)).mono ?_
  rintro e w2 ⟨rfl, hb⟩
  have M2 := Lib.hid (M.out.below hb)
  clear hb M c1 l1
  have c1 := M2.out.r1.cell
  have l1 := M2.out.r1.lt
  cases hr : d.right l
  · go_wp2
    go_ret
    exact ⟨rfl, M2.out.be⟩
  have HR := Lib.hid hr
  clear hr
  cases k0 : (x.tmod 4 == 0)
  · cases k1 : (x.tmod 4 == 1)
    · cases k2 : (x.tmod 4 == 2)
      · go_wp2_with fail
        refine (Told_calls d _ a b _ ⟨_, _, _, rfl⟩).mono ?_
        rintro e w3 ⟨rfl, hb⟩
        have M3 := Lib.hid ((M2.out.alloc (.cells (d.row (.slice A l.length c)) 26)).below hb)
        have R8 := Lib.hid ((Row.new w2 26 (d.row (.slice A l.length c))).below hb (Row.new w2 26 (d.row (.slice A l.length c))).lt)
        have NM := Lib.hid (nums_told a b HR.out : Nums d (d.told a b) l)
        generalize d.told a b = n at *
        have c8 := R8.out.cell
        have f8 := R8.out.free
        have ne1 : w.heap.size + 1 ≠ w2.heap.size := by have := M2.out.r1.lt; omega
        clear hb
        have N0 : Hid (Scene w [(54, row54 d (.slice A l.length c) a b x), (26, d.row (.slice A l.length c))] (fill7 w3 w2.heap.size (I n.gen) (I n.k) (I n.acked) (I n.peer) (I n.stage) (I n.seq) (.slice A l.length c))) :=
          Lib.hid ⟨M3.out.rows.imp fun kk t cs h1 h2 r => r.far7 (by simp at h2; have := M2.out.r1.lt; omega), Below.fill7 M3.out.be (by have := M2.out.r1.lt; omega) _ _ _ _ _ _ _⟩
        have NN : Hid (Row (fill7 w3 w2.heap.size (I n.gen) (I n.k) (I n.acked) (I n.peer) (I n.stage) (I n.seq) (.slice A l.length c)) w2.heap.size 26 (n.row (.slice A l.length c))) := Lib.hid (R8.out.fill7 _ _ _ _ _ _ _)
        clear M2 M3 R8 c1 l1
        have X0 := Lib.hid N0.out.r1
        have l0 := N0.out.r1.lt
        have c0 := N0.out.r1.cell
        go_wp2_with fail
        refine (say_calls d _ _).mono ?_
        rintro e w4 ⟨rfl, hb⟩
        have P0 := Lib.hid (N0.out.below hb)
        have PN := Lib.hid (NN.out.below hb NN.out.lt)
        clear hb N0 NN X0 l0 c0
        have c0 := P0.out.r1.cell
        have l0 := P0.out.r1.lt
        have cn := PN.out.cell
        have ln := PN.out.lt
        have h1 := NM.out.lo
        have h2 := NM.out.hi
        have hq := inB_iff.1 (right_iff.1 HR.out).2.2.2.1
        have d1 : decide (n.seq ≥ d.seq) = true := decide_eq_true h1
        have d2 : decide (n.seq ≤ d.seq + 1) = true := decide_eq_true h2
        have hw64 : IntKind.i64.wrap (d.seq + 1) = d.seq + 1 := by simp [IntKind.wrap, IntKind.bits, IntKind.signed]; omega
        clear h1 h2 hq
        cases hsd : d.says
        · have e1 : d.say = .tuple #[I 0, I (-1), .bool false] := by simp [Dk.say, hsd]
          rw [e1]
          go_wp2_with fail
          refine (say_calls n _ _).mono ?_
          rintro e w5 ⟨rfl, hb⟩
          have Q0 := Lib.hid (P0.out.below hb)
          have QN := Lib.hid (PN.out.below hb PN.out.lt)
          clear hb P0 PN c0 l0 cn ln
          have c0 := Q0.out.r1.cell
          have l0 := Q0.out.r1.lt
          have cn := QN.out.cell
          have ln := QN.out.lt
          cases hsn : n.says
          · have e2 : n.say = .tuple #[I 0, I (-1), .bool false] := by simp [Dk.say, hsn]
            rw [e2]
            clear hsd hsn
            go_wp2_with fail
            refine (refRight_calls n (.slice A l.length c) l _ (HS.out.below Q0.out.be)).mono ?_
            rw [NM.out.right]
            rintro e w6 ⟨rfl, hb⟩
            have QF := Lib.hid (Q0.out.be.trans (hb.mono Q0.out.be.size))
            clear hb
            go_wp2
            go_ret
            exact ⟨rfl, QF.out⟩
          · have e2 : n.say = .tuple #[I n.seq, I n.peer, .bool true] := by simp [Dk.say, hsn]
            rw [e2]
            clear hsd hsn
            go_wp2_with fail
            refine (refRight_calls n (.slice A l.length c) l _ (HS.out.below Q0.out.be)).mono ?_
            rw [NM.out.right]
            rintro e w6 ⟨rfl, hb⟩
            have QF := Lib.hid (Q0.out.be.trans (hb.mono Q0.out.be.size))
            clear hb
            go_wp2
            go_ret
            exact ⟨rfl, QF.out⟩
        · have e1 : d.say = .tuple #[I d.seq, I d.peer, .bool true] := by simp [Dk.say, hsd]
          rw [e1]
          go_wp2_with fail
          refine (say_calls n _ _).mono ?_
          rintro e w5 ⟨rfl, hb⟩
          have Q0 := Lib.hid (P0.out.below hb)
          have QN := Lib.hid (PN.out.below hb PN.out.lt)
          clear hb P0 PN c0 l0 cn ln
          have c0 := Q0.out.r1.cell
          have l0 := Q0.out.r1.lt
          have cn := QN.out.cell
          have ln := QN.out.lt
          cases hsn : n.says
          · have e2 : n.say = .tuple #[I 0, I (-1), .bool false] := by simp [Dk.say, hsn]
            rw [e2]
            clear hsd hsn
            go_wp2_with fail
            refine (refRight_calls n (.slice A l.length c) l _ (HS.out.below Q0.out.be)).mono ?_
            rw [NM.out.right]
            rintro e w6 ⟨rfl, hb⟩
            have QF := Lib.hid (Q0.out.be.trans (hb.mono Q0.out.be.size))
            clear hb
            go_wp2
            go_ret
            exact ⟨rfl, QF.out⟩
          · have e2 : n.say = .tuple #[I n.seq, I n.peer, .bool true] := by simp [Dk.say, hsn]
            rw [e2]
            by_cases hq : d.seq = n.seq
            · have hp := NM.out.same hsd hsn hq
              have q1 : (d.seq != n.seq) = false := by simp [hq]
              have q2 : (d.peer == n.peer) = true := by simp [hp]
              clear hq hp
              clear hsd hsn
              go_wp2_with fail
              refine (refRight_calls n (.slice A l.length c) l _ (HS.out.below Q0.out.be)).mono ?_
              rw [NM.out.right]
              rintro e w6 ⟨rfl, hb⟩
              have QF := Lib.hid (Q0.out.be.trans (hb.mono Q0.out.be.size))
              clear hb
              go_wp2
              go_ret
              exact ⟨rfl, QF.out⟩
            · have q1 : (d.seq != n.seq) = true := by simp [hq]
              clear hq
              clear hsd hsn
              go_wp2_with fail
              refine (refRight_calls n (.slice A l.length c) l _ (HS.out.below Q0.out.be)).mono ?_
              rw [NM.out.right]
              rintro e w6 ⟨rfl, hb⟩
              have QF := Lib.hid (Q0.out.be.trans (hb.mono Q0.out.be.size))
              clear hb
              go_wp2
              go_ret
              exact ⟨rfl, QF.out⟩
      · go_wp2_with fail
        refine (Drop_calls d _ _ (inB_iff.1 (right_iff.1 HR.out).2.2.2.1).1 ⟨_, _, _, rfl⟩).mono ?_
        rintro e w3 ⟨rfl, hb⟩
        have M3 := Lib.hid ((M2.out.alloc (.cells (d.row (.slice A l.length c)) 26)).below hb)
        have R8 := Lib.hid ((Row.new w2 26 (d.row (.slice A l.length c))).below hb (Row.new w2 26 (d.row (.slice A l.length c))).lt)
        have NM := Lib.hid (nums_drop HR.out : Nums d (d.drop) l)
        generalize d.drop = n at *
        have c8 := R8.out.cell
        have f8 := R8.out.free
        have ne1 : w.heap.size + 1 ≠ w2.heap.size := by have := M2.out.r1.lt; omega
        clear hb
        have N0 : Hid (Scene w [(54, row54 d (.slice A l.length c) a b x), (26, d.row (.slice A l.length c))] (fill7 w3 w2.heap.size (I n.gen) (I n.k) (I n.acked) (I n.peer) (I n.stage) (I n.seq) (.slice A l.length c))) :=
          Lib.hid ⟨M3.out.rows.imp fun kk t cs h1 h2 r => r.far7 (by simp at h2; have := M2.out.r1.lt; omega), Below.fill7 M3.out.be (by have := M2.out.r1.lt; omega) _ _ _ _ _ _ _⟩
        have NN : Hid (Row (fill7 w3 w2.heap.size (I n.gen) (I n.k) (I n.acked) (I n.peer) (I n.stage) (I n.seq) (.slice A l.length c)) w2.heap.size 26 (n.row (.slice A l.length c))) := Lib.hid (R8.out.fill7 _ _ _ _ _ _ _)
        clear M2 M3 R8 c1 l1
        have X0 := Lib.hid N0.out.r1
        have l0 := N0.out.r1.lt
        have c0 := N0.out.r1.cell
        go_wp2_with fail
        refine (say_calls d _ _).mono ?_
        rintro e w4 ⟨rfl, hb⟩
        have P0 := Lib.hid (N0.out.below hb)
        have PN := Lib.hid (NN.out.below hb NN.out.lt)
        clear hb N0 NN X0 l0 c0
        have c0 := P0.out.r1.cell
        have l0 := P0.out.r1.lt
        have cn := PN.out.cell
        have ln := PN.out.lt
        have h1 := NM.out.lo
        have h2 := NM.out.hi
        have hq := inB_iff.1 (right_iff.1 HR.out).2.2.2.1
        have d1 : decide (n.seq ≥ d.seq) = true := decide_eq_true h1
        have d2 : decide (n.seq ≤ d.seq + 1) = true := decide_eq_true h2
        have hw64 : IntKind.i64.wrap (d.seq + 1) = d.seq + 1 := by simp [IntKind.wrap, IntKind.bits, IntKind.signed]; omega
        clear h1 h2 hq
        cases hsd : d.says
        · have e1 : d.say = .tuple #[I 0, I (-1), .bool false] := by simp [Dk.say, hsd]
          rw [e1]
          go_wp2_with fail
          refine (say_calls n _ _).mono ?_
          rintro e w5 ⟨rfl, hb⟩
          have Q0 := Lib.hid (P0.out.below hb)
          have QN := Lib.hid (PN.out.below hb PN.out.lt)
          clear hb P0 PN c0 l0 cn ln
          have c0 := Q0.out.r1.cell
          have l0 := Q0.out.r1.lt
          have cn := QN.out.cell
          have ln := QN.out.lt
          cases hsn : n.says
          · have e2 : n.say = .tuple #[I 0, I (-1), .bool false] := by simp [Dk.say, hsn]
            rw [e2]
            clear hsd hsn
            go_wp2_with fail
            refine (refRight_calls n (.slice A l.length c) l _ (HS.out.below Q0.out.be)).mono ?_
            rw [NM.out.right]
            rintro e w6 ⟨rfl, hb⟩
            have QF := Lib.hid (Q0.out.be.trans (hb.mono Q0.out.be.size))
            clear hb
            go_wp2
            go_ret
            exact ⟨rfl, QF.out⟩
          · have e2 : n.say = .tuple #[I n.seq, I n.peer, .bool true] := by simp [Dk.say, hsn]
            rw [e2]
            clear hsd hsn
            go_wp2_with fail
            refine (refRight_calls n (.slice A l.length c) l _ (HS.out.below Q0.out.be)).mono ?_
            rw [NM.out.right]
            rintro e w6 ⟨rfl, hb⟩
            have QF := Lib.hid (Q0.out.be.trans (hb.mono Q0.out.be.size))
            clear hb
            go_wp2
            go_ret
            exact ⟨rfl, QF.out⟩
        · have e1 : d.say = .tuple #[I d.seq, I d.peer, .bool true] := by simp [Dk.say, hsd]
          rw [e1]
          go_wp2_with fail
          refine (say_calls n _ _).mono ?_
          rintro e w5 ⟨rfl, hb⟩
          have Q0 := Lib.hid (P0.out.below hb)
          have QN := Lib.hid (PN.out.below hb PN.out.lt)
          clear hb P0 PN c0 l0 cn ln
          have c0 := Q0.out.r1.cell
          have l0 := Q0.out.r1.lt
          have cn := QN.out.cell
          have ln := QN.out.lt
          cases hsn : n.says
          · have e2 : n.say = .tuple #[I 0, I (-1), .bool false] := by simp [Dk.say, hsn]
            rw [e2]
            clear hsd hsn
            go_wp2_with fail
            refine (refRight_calls n (.slice A l.length c) l _ (HS.out.below Q0.out.be)).mono ?_
            rw [NM.out.right]
            rintro e w6 ⟨rfl, hb⟩
            have QF := Lib.hid (Q0.out.be.trans (hb.mono Q0.out.be.size))
            clear hb
            go_wp2
            go_ret
            exact ⟨rfl, QF.out⟩
          · have e2 : n.say = .tuple #[I n.seq, I n.peer, .bool true] := by simp [Dk.say, hsn]
            rw [e2]
            by_cases hq : d.seq = n.seq
            · have hp := NM.out.same hsd hsn hq
              have q1 : (d.seq != n.seq) = false := by simp [hq]
              have q2 : (d.peer == n.peer) = true := by simp [hp]
              clear hq hp
              clear hsd hsn
              go_wp2_with fail
              refine (refRight_calls n (.slice A l.length c) l _ (HS.out.below Q0.out.be)).mono ?_
              rw [NM.out.right]
              rintro e w6 ⟨rfl, hb⟩
              have QF := Lib.hid (Q0.out.be.trans (hb.mono Q0.out.be.size))
              clear hb
              go_wp2
              go_ret
              exact ⟨rfl, QF.out⟩
            · have q1 : (d.seq != n.seq) = true := by simp [hq]
              clear hq
              clear hsd hsn
              go_wp2_with fail
              refine (refRight_calls n (.slice A l.length c) l _ (HS.out.below Q0.out.be)).mono ?_
              rw [NM.out.right]
              rintro e w6 ⟨rfl, hb⟩
              have QF := Lib.hid (Q0.out.be.trans (hb.mono Q0.out.be.size))
              clear hb
              go_wp2
              go_ret
              exact ⟨rfl, QF.out⟩
    · go_wp2_with fail
      refine (Ack_calls d _ a b _ (inB_iff.1 (right_iff.1 HR.out).2.2.2.1).1 ⟨_, _, _, rfl⟩).mono ?_
      rintro e w3 ⟨rfl, hb⟩
      have M3 := Lib.hid ((M2.out.alloc (.cells (d.row (.slice A l.length c)) 26)).below hb)
      have R8 := Lib.hid ((Row.new w2 26 (d.row (.slice A l.length c))).below hb (Row.new w2 26 (d.row (.slice A l.length c))).lt)
      have NM := Lib.hid (nums_ack a b HR.out : Nums d (d.ack a b) l)
      generalize d.ack a b = n at *
      have c8 := R8.out.cell
      have f8 := R8.out.free
      have ne1 : w.heap.size + 1 ≠ w2.heap.size := by have := M2.out.r1.lt; omega
      clear hb
      have N0 : Hid (Scene w [(54, row54 d (.slice A l.length c) a b x), (26, d.row (.slice A l.length c))] (fill7 w3 w2.heap.size (I n.gen) (I n.k) (I n.acked) (I n.peer) (I n.stage) (I n.seq) (.slice A l.length c))) :=
        Lib.hid ⟨M3.out.rows.imp fun kk t cs h1 h2 r => r.far7 (by simp at h2; have := M2.out.r1.lt; omega), Below.fill7 M3.out.be (by have := M2.out.r1.lt; omega) _ _ _ _ _ _ _⟩
      have NN : Hid (Row (fill7 w3 w2.heap.size (I n.gen) (I n.k) (I n.acked) (I n.peer) (I n.stage) (I n.seq) (.slice A l.length c)) w2.heap.size 26 (n.row (.slice A l.length c))) := Lib.hid (R8.out.fill7 _ _ _ _ _ _ _)
      clear M2 M3 R8 c1 l1
      have X0 := Lib.hid N0.out.r1
      have l0 := N0.out.r1.lt
      have c0 := N0.out.r1.cell
      go_wp2_with fail
      refine (say_calls d _ _).mono ?_
      rintro e w4 ⟨rfl, hb⟩
      have P0 := Lib.hid (N0.out.below hb)
      have PN := Lib.hid (NN.out.below hb NN.out.lt)
      clear hb N0 NN X0 l0 c0
      have c0 := P0.out.r1.cell
      have l0 := P0.out.r1.lt
      have cn := PN.out.cell
      have ln := PN.out.lt
      have h1 := NM.out.lo
      have h2 := NM.out.hi
      have hq := inB_iff.1 (right_iff.1 HR.out).2.2.2.1
      have d1 : decide (n.seq ≥ d.seq) = true := decide_eq_true h1
      have d2 : decide (n.seq ≤ d.seq + 1) = true := decide_eq_true h2
      have hw64 : IntKind.i64.wrap (d.seq + 1) = d.seq + 1 := by simp [IntKind.wrap, IntKind.bits, IntKind.signed]; omega
      clear h1 h2 hq
      cases hsd : d.says
      · have e1 : d.say = .tuple #[I 0, I (-1), .bool false] := by simp [Dk.say, hsd]
        rw [e1]
        go_wp2_with fail
        refine (say_calls n _ _).mono ?_
        rintro e w5 ⟨rfl, hb⟩
        have Q0 := Lib.hid (P0.out.below hb)
        have QN := Lib.hid (PN.out.below hb PN.out.lt)
        clear hb P0 PN c0 l0 cn ln
        have c0 := Q0.out.r1.cell
        have l0 := Q0.out.r1.lt
        have cn := QN.out.cell
        have ln := QN.out.lt
        cases hsn : n.says
        · have e2 : n.say = .tuple #[I 0, I (-1), .bool false] := by simp [Dk.say, hsn]
          rw [e2]
          clear hsd hsn
          go_wp2_with fail
          refine (refRight_calls n (.slice A l.length c) l _ (HS.out.below Q0.out.be)).mono ?_
          rw [NM.out.right]
          rintro e w6 ⟨rfl, hb⟩
          have QF := Lib.hid (Q0.out.be.trans (hb.mono Q0.out.be.size))
          clear hb
          go_wp2
          go_ret
          exact ⟨rfl, QF.out⟩
        · have e2 : n.say = .tuple #[I n.seq, I n.peer, .bool true] := by simp [Dk.say, hsn]
          rw [e2]
          clear hsd hsn
          go_wp2_with fail
          refine (refRight_calls n (.slice A l.length c) l _ (HS.out.below Q0.out.be)).mono ?_
          rw [NM.out.right]
          rintro e w6 ⟨rfl, hb⟩
          have QF := Lib.hid (Q0.out.be.trans (hb.mono Q0.out.be.size))
          clear hb
          go_wp2
          go_ret
          exact ⟨rfl, QF.out⟩
      · have e1 : d.say = .tuple #[I d.seq, I d.peer, .bool true] := by simp [Dk.say, hsd]
        rw [e1]
        go_wp2_with fail
        refine (say_calls n _ _).mono ?_
        rintro e w5 ⟨rfl, hb⟩
        have Q0 := Lib.hid (P0.out.below hb)
        have QN := Lib.hid (PN.out.below hb PN.out.lt)
        clear hb P0 PN c0 l0 cn ln
        have c0 := Q0.out.r1.cell
        have l0 := Q0.out.r1.lt
        have cn := QN.out.cell
        have ln := QN.out.lt
        cases hsn : n.says
        · have e2 : n.say = .tuple #[I 0, I (-1), .bool false] := by simp [Dk.say, hsn]
          rw [e2]
          clear hsd hsn
          go_wp2_with fail
          refine (refRight_calls n (.slice A l.length c) l _ (HS.out.below Q0.out.be)).mono ?_
          rw [NM.out.right]
          rintro e w6 ⟨rfl, hb⟩
          have QF := Lib.hid (Q0.out.be.trans (hb.mono Q0.out.be.size))
          clear hb
          go_wp2
          go_ret
          exact ⟨rfl, QF.out⟩
        · have e2 : n.say = .tuple #[I n.seq, I n.peer, .bool true] := by simp [Dk.say, hsn]
          rw [e2]
          by_cases hq : d.seq = n.seq
          · have hp := NM.out.same hsd hsn hq
            have q1 : (d.seq != n.seq) = false := by simp [hq]
            have q2 : (d.peer == n.peer) = true := by simp [hp]
            clear hq hp
            clear hsd hsn
            go_wp2_with fail
            refine (refRight_calls n (.slice A l.length c) l _ (HS.out.below Q0.out.be)).mono ?_
            rw [NM.out.right]
            rintro e w6 ⟨rfl, hb⟩
            have QF := Lib.hid (Q0.out.be.trans (hb.mono Q0.out.be.size))
            clear hb
            go_wp2
            go_ret
            exact ⟨rfl, QF.out⟩
          · have q1 : (d.seq != n.seq) = true := by simp [hq]
            clear hq
            clear hsd hsn
            go_wp2_with fail
            refine (refRight_calls n (.slice A l.length c) l _ (HS.out.below Q0.out.be)).mono ?_
            rw [NM.out.right]
            rintro e w6 ⟨rfl, hb⟩
            have QF := Lib.hid (Q0.out.be.trans (hb.mono Q0.out.be.size))
            clear hb
            go_wp2
            go_ret
            exact ⟨rfl, QF.out⟩
  · go_wp2_with fail
    refine (Want_calls d _ a _ (inB_iff.1 (right_iff.1 HR.out).2.2.2.1).1 ⟨_, _, _, rfl⟩).mono ?_
    rintro e w3 ⟨rfl, hb⟩
    have M3 := Lib.hid ((M2.out.alloc (.cells (d.row (.slice A l.length c)) 26)).below hb)
    have R8 := Lib.hid ((Row.new w2 26 (d.row (.slice A l.length c))).below hb (Row.new w2 26 (d.row (.slice A l.length c))).lt)
    have NM := Lib.hid (nums_want a HR.out : Nums d (d.wanted a) l)
    generalize d.wanted a = n at *
    have c8 := R8.out.cell
    have f8 := R8.out.free
    have ne1 : w.heap.size + 1 ≠ w2.heap.size := by have := M2.out.r1.lt; omega
    clear hb
    have N0 : Hid (Scene w [(54, row54 d (.slice A l.length c) a b x), (26, d.row (.slice A l.length c))] (fill7 w3 w2.heap.size (I n.gen) (I n.k) (I n.acked) (I n.peer) (I n.stage) (I n.seq) (.slice A l.length c))) :=
      Lib.hid ⟨M3.out.rows.imp fun kk t cs h1 h2 r => r.far7 (by simp at h2; have := M2.out.r1.lt; omega), Below.fill7 M3.out.be (by have := M2.out.r1.lt; omega) _ _ _ _ _ _ _⟩
    have NN : Hid (Row (fill7 w3 w2.heap.size (I n.gen) (I n.k) (I n.acked) (I n.peer) (I n.stage) (I n.seq) (.slice A l.length c)) w2.heap.size 26 (n.row (.slice A l.length c))) := Lib.hid (R8.out.fill7 _ _ _ _ _ _ _)
    clear M2 M3 R8 c1 l1
    have X0 := Lib.hid N0.out.r1
    have l0 := N0.out.r1.lt
    have c0 := N0.out.r1.cell
    go_wp2_with fail
    refine (say_calls d _ _).mono ?_
    rintro e w4 ⟨rfl, hb⟩
    have P0 := Lib.hid (N0.out.below hb)
    have PN := Lib.hid (NN.out.below hb NN.out.lt)
    clear hb N0 NN X0 l0 c0
    have c0 := P0.out.r1.cell
    have l0 := P0.out.r1.lt
    have cn := PN.out.cell
    have ln := PN.out.lt
    have h1 := NM.out.lo
    have h2 := NM.out.hi
    have hq := inB_iff.1 (right_iff.1 HR.out).2.2.2.1
    have d1 : decide (n.seq ≥ d.seq) = true := decide_eq_true h1
    have d2 : decide (n.seq ≤ d.seq + 1) = true := decide_eq_true h2
    have hw64 : IntKind.i64.wrap (d.seq + 1) = d.seq + 1 := by simp [IntKind.wrap, IntKind.bits, IntKind.signed]; omega
    clear h1 h2 hq
    cases hsd : d.says
    · have e1 : d.say = .tuple #[I 0, I (-1), .bool false] := by simp [Dk.say, hsd]
      rw [e1]
      go_wp2_with fail
      refine (say_calls n _ _).mono ?_
      rintro e w5 ⟨rfl, hb⟩
      have Q0 := Lib.hid (P0.out.below hb)
      have QN := Lib.hid (PN.out.below hb PN.out.lt)
      clear hb P0 PN c0 l0 cn ln
      have c0 := Q0.out.r1.cell
      have l0 := Q0.out.r1.lt
      have cn := QN.out.cell
      have ln := QN.out.lt
      cases hsn : n.says
      · have e2 : n.say = .tuple #[I 0, I (-1), .bool false] := by simp [Dk.say, hsn]
        rw [e2]
        clear hsd hsn
        go_wp2_with fail
        refine (refRight_calls n (.slice A l.length c) l _ (HS.out.below Q0.out.be)).mono ?_
        rw [NM.out.right]
        rintro e w6 ⟨rfl, hb⟩
        have QF := Lib.hid (Q0.out.be.trans (hb.mono Q0.out.be.size))
        clear hb
        go_wp2
        go_ret
        exact ⟨rfl, QF.out⟩
      · have e2 : n.say = .tuple #[I n.seq, I n.peer, .bool true] := by simp [Dk.say, hsn]
        rw [e2]
        clear hsd hsn
        go_wp2_with fail
        refine (refRight_calls n (.slice A l.length c) l _ (HS.out.below Q0.out.be)).mono ?_
        rw [NM.out.right]
        rintro e w6 ⟨rfl, hb⟩
        have QF := Lib.hid (Q0.out.be.trans (hb.mono Q0.out.be.size))
        clear hb
        go_wp2
        go_ret
        exact ⟨rfl, QF.out⟩
    · have e1 : d.say = .tuple #[I d.seq, I d.peer, .bool true] := by simp [Dk.say, hsd]
      rw [e1]
      go_wp2_with fail
      refine (say_calls n _ _).mono ?_
      rintro e w5 ⟨rfl, hb⟩
      have Q0 := Lib.hid (P0.out.below hb)
      have QN := Lib.hid (PN.out.below hb PN.out.lt)
      clear hb P0 PN c0 l0 cn ln
      have c0 := Q0.out.r1.cell
      have l0 := Q0.out.r1.lt
      have cn := QN.out.cell
      have ln := QN.out.lt
      cases hsn : n.says
      · have e2 : n.say = .tuple #[I 0, I (-1), .bool false] := by simp [Dk.say, hsn]
        rw [e2]
        clear hsd hsn
        go_wp2_with fail
        refine (refRight_calls n (.slice A l.length c) l _ (HS.out.below Q0.out.be)).mono ?_
        rw [NM.out.right]
        rintro e w6 ⟨rfl, hb⟩
        have QF := Lib.hid (Q0.out.be.trans (hb.mono Q0.out.be.size))
        clear hb
        go_wp2
        go_ret
        exact ⟨rfl, QF.out⟩
      · have e2 : n.say = .tuple #[I n.seq, I n.peer, .bool true] := by simp [Dk.say, hsn]
        rw [e2]
        by_cases hq : d.seq = n.seq
        · have hp := NM.out.same hsd hsn hq
          have q1 : (d.seq != n.seq) = false := by simp [hq]
          have q2 : (d.peer == n.peer) = true := by simp [hp]
          clear hq hp
          clear hsd hsn
          go_wp2_with fail
          refine (refRight_calls n (.slice A l.length c) l _ (HS.out.below Q0.out.be)).mono ?_
          rw [NM.out.right]
          rintro e w6 ⟨rfl, hb⟩
          have QF := Lib.hid (Q0.out.be.trans (hb.mono Q0.out.be.size))
          clear hb
          go_wp2
          go_ret
          exact ⟨rfl, QF.out⟩
        · have q1 : (d.seq != n.seq) = true := by simp [hq]
          clear hq
          clear hsd hsn
          go_wp2_with fail
          refine (refRight_calls n (.slice A l.length c) l _ (HS.out.below Q0.out.be)).mono ?_
          rw [NM.out.right]
          rintro e w6 ⟨rfl, hb⟩
          have QF := Lib.hid (Q0.out.be.trans (hb.mono Q0.out.be.size))
          clear hb
          go_wp2
          go_ret
          exact ⟨rfl, QF.out⟩
end Go.Proofs.Ytbchepdaomhgeaa.MM
