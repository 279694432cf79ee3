import Derived.Test.YtnijhjbcjeohhaaV7
import Derived.Test.YtnijhjbcjeohhaaV6
import Derived.Test.YtnijhjbcjeohhaaV4
import Derived.Test.YtnijhjbcjeohhaaV5
/- Joined and thinned by a program of this session's own (wip/pack2.py) out of its texts (wip/ of its repo); parts were laid by its own program (wip/print-patch.py over the kit's print) out of the translation; Lean checks all. -/
set_option maxRecDepth 100000
set_option maxHeartbeats 8000000
namespace Go.Proofs.Ytnijhjbcjeohhaa.PR
open Go.RowKit Go.Proofs.Ytnijhjbcjeohhaa.PQ Go.Proofs.af.aO Go.Proofs.af.aU Go.Proofs.af.aV Go.Proofs.Ytnijhjbcjeohhaa.KK
set_option linter.unusedVariables false
set_option linter.unusedSimpArgs false
theorem Dv (n : Int) : TQ n n n = true := by simp [TQ]
structure Told (n : Nat) (lx lp lf lq X B M P : List Int) (b1 b2 b3 : Bool) : Prop where
 eX : mulL n n 1 lf lx = X
 eb1 : qF n n 1 lf lx = b1
 eB : ig n n lf lp = B
 eb2 : mV n n lf lp = b2
 eM : iL iw n n B lq = M
 eb3 : jv iw n n B lq = b3
 eP : uY n M = P
theorem CU (n : Nat) (A1 A2 A3 A4 : Option Addr) (c1 c2 c3 c4 : Nat) (lx lp lf lq X B M P : List Int) (b1 b2 b3 : Bool) (w : World) (h1 : 1 ≤ n) (h8 : n ≤ 8) (hx : lx.length = n * 1) (hp : lp.length = n * n) (hf : lf.length = n * n) (hq : lq.length = n * n) (T : Told n lx lp lf lq X B M P b1 b2 b3)
 (rx : Rd w A1 lx) (cx : lx.length ≤ c1) (rp : Rd w A2 lp) (cp : lp.length ≤ c2) (rf : Rd w A3 lf) (cf : lf.length ≤ c3) (rq : Rd w A4 lq) (cq : lq.length ≤ c4) :
 Calls Try.prog 68 #[.agg #[I n, I 1, .slice A1 lx.length c1, I n, I n, .slice A2 lp.length c2], .agg #[I n, I n, .slice A3 lf.length c3], .agg #[I n, I n, .slice A4 lq.length c4]] w fun e w' => ∃ Ax dx Ap dp, e = .returned (.tuple #[.agg #[I n, I 1, .slice Ax X.length dx, I n, I n, .slice Ap P.length dp], .bool (b1 || b2 || b3), I 0]) ∧ Own w' w.heap.size (.slice Ax X.length dx) X ∧ Own w' w.heap.size (.slice Ap P.length dp) P ∧ (∀ k, (Value.slice Ax X.length dx).ownBlock = some k → (Value.slice Ap P.length dp).ownBlock ≠ some k) ∧ Below w.heap.size w w' := by
 have N : Hid (aX w [(33, #[I n, I 1, .slice A1 lx.length c1, I n, I n, .slice A2 lp.length c2]), (31, #[I n, I n, .slice A3 lf.length c3]), (31, #[I n, I n, .slice A4 lq.length c4]), (33, #[I 0, I 0, .slice none 0 0, I 0, I 0, .slice none 0 0]), (3, #[I n])] (((((w.alloc (.cells #[I n, I 1, .slice A1 lx.length c1, I n, I n, .slice A2 lp.length c2] 33)).alloc (.cells #[I n, I n, .slice A3 lf.length c3] 31)).alloc (.cells #[I n, I n, .slice A4 lq.length c4] 31)).alloc (.cells #[I 0, I 0, .slice none 0 0, I 0, I 0, .slice none 0 0] 33)).alloc (.cells #[I n] 3))) := Lib.hid ((((((aX.none w).push (by simp) _ _).push (by simp) _ _).push (by simp) _ _).push (by simp) _ _).push (by simp) _ _)
 have RX := Lib.hid rx
 have RP := Lib.hid rp
 have RF := Lib.hid rf
 have RQ := Lib.hid rq
 have CX := Lib.hid cx
 have CP := Lib.hid cp
 have CF := Lib.hid cf
 have CQ := Lib.hid cq
 have HH := Lib.hid (And.intro (And.intro h1 h8) (And.intro hx (And.intro hp (And.intro hf hq))))
 have HT := Lib.hid T
 have hmf := KK.hmf
 clear rx rp rf rq cx cp cf cq h1 h8 hx hp hf hq T
 go_enter Try.func68, Try.ntmps68
 go_wp2_with fail
 refine (Bz n n n A3 lf.length c3 _ _ N.out.r4).mono ?_
 rw [Dv]
 rintro e w1 ⟨rfl, hb⟩
 have N1 := Lib.hid (N.out.below hb)
 clear hb N
 have y2 := N1.out.r2.cell
 have y4 := N1.out.r4.cell
 go_wp2_with fail
 refine (Bz n n n A4 lq.length c4 _ _ N1.out.r4).mono ?_
 rw [Dv]
 rintro e w2 ⟨rfl, hb⟩
 have N2 := Lib.hid (N1.out.below hb)
 clear hb N1 y2 y4
 have G2 := Lib.hid (Row.new w2 158 #[.bool false])
 have N3 := Lib.hid (N2.out.alloc (.cells #[.bool false] 158))
 have GE : Hid (w.heap.size + 5 ≤ w2.heap.size) := Lib.hid (by have h := N2.out.rows.le N2.out.be.size; simpa using h)
 have FX : Hid (∀ ad, A1 = some ad → 0 < lx.length → ad.block ≠ w2.heap.size) := Lib.hid (fun ad e hp => by have h1 := Rd.blk RX.out ad e hp; have h2 := GE.out; omega)
 have FP : Hid (∀ ad, A2 = some ad → 0 < lp.length → ad.block ≠ w2.heap.size) := Lib.hid (fun ad e hp => by have h1 := Rd.blk RP.out ad e hp; have h2 := GE.out; omega)
 have FF : Hid (∀ ad, A3 = some ad → 0 < lf.length → ad.block ≠ w2.heap.size) := Lib.hid (fun ad e hp => by have h1 := Rd.blk RF.out ad e hp; have h2 := GE.out; omega)
 have FQ : Hid (∀ ad, A4 = some ad → 0 < lq.length → ad.block ≠ w2.heap.size) := Lib.hid (fun ad e hp => by have h1 := Rd.blk RQ.out ad e hp; have h2 := GE.out; omega)
 have y0 := N2.out.r0.cell
 have y1 := N2.out.r1.cell
 have t0 := N2.out.r0.lt
 have t1 := N2.out.r1.lt
 have HM : Hid (∀ w', Rd w' A3 lf → Rd w' A1 lx → Calls Try.prog 101 #[.agg #[I n, I n, .slice A3 lf.length c3], .agg #[I n, I 1, .slice A1 lx.length c1]] w' fun e w'' => ∃ v, e = .returned (.tuple #[.agg #[I n, I 1, v], .bool b1, I 0]) ∧ Own w'' w'.heap.size v X ∧ Below w'.heap.size w' w'') := Lib.hid (fun w' h h' => by
  have hh := wM n n 1 A3 A1 c3 c1 lf lx w' HH.out.1.2 HH.out.1.2 (by omega) HH.out.2.2.2.1 HH.out.2.1 h h'
  rw [HT.out.eX, HT.out.eb1] at hh
  exact hh)
 go_wp2_with fail
 refine (HM.out _ (RF.out.below N3.out.be) (RX.out.below N3.out.be)).mono ?_
 rintro e w3 ⟨v, rfl, ho, hb⟩
 obtain ⟨Ax, dx, rfl, _, _⟩ := Own.reads ho
 have OX := Lib.hid ho
 have N4 := Lib.hid (N3.out.below hb)
 have G3 := Lib.hid (G2.out.below hb G2.out.lt)
 have L3 : Hid (w2.heap.size + 1 ≤ w3.heap.size) := Lib.hid (by have h := hb.size; simpa using h)
 clear ho hb y0 y1 t0 t1 N3 G2
 go_wp2_with fail
 refine (og w2.heap.size false b1 n 1 0 Ax X.length dx w3 G3.out).mono ?_
 rintro e w4 ⟨rfl, hr, hg⟩
 have XZ := Lib.hid (Own.touch OX.out hg (by simp))
 have N5 := Lib.hid (N4.out.app hg (fun g e => by injection e with e; have h := GE.out; simp; omega))
 have R4 := Lib.hid hr
 have L4 : Hid (w2.heap.size + 1 ≤ w4.heap.size) := Lib.hid (by have h := hg.size; have h2 := L3.out; omega)
 clear hr hg N4 G3 OX
 have x0 := N5.out.r0.cell
 go_wp2_with fail
 rename_i K8 Zh
 have N6 := Lib.hid (N5.out.alloc (.cells #[I n, I 1, .slice Ax X.length dx] 31))
 have RX6 := Lib.hid (Row.new w4 31 #[I n, I 1, .slice Ax X.length dx])
 have Zr : Hid (Own (w4.alloc (.cells #[I n, I 1, .slice Ax X.length dx] 31)) (w2.heap.size + 1) (.slice Ax X.length dx) X) := Lib.hid (Own.lower (XZ.out.alloc (.cells #[I n, I 1, .slice Ax X.length dx] 31)) (by simp))
 have R6 : Hid (Row (w4.alloc (.cells #[I n, I 1, .slice Ax X.length dx] 31)) w2.heap.size 158 #[.bool b1]) := Lib.hid (by have h := R4.out.alloc (.cells #[I n, I 1, .slice Ax X.length dx] 31); simpa using h)
 have L6 : Hid (w2.heap.size + 1 ≤ w4.heap.size ∧ (w4.alloc (.cells #[I n, I 1, .slice Ax X.length dx] 31)).heap.size = w4.heap.size + 1) := Lib.hid ⟨L4.out, by simp⟩
 clear x0 N5 XZ R4 L4 L3
 obtain ⟨wr, hwr⟩ : ∃ wr, w4.alloc (.cells #[I n, I 1, .slice Ax X.length dx] 31) = wr := ⟨_, rfl⟩
 rw [hwr] at N6 RX6 Zr R6 L6
 change Code.wp Try.prog _ _ _ (w4.alloc (.cells #[I n, I 1, .slice Ax X.length dx] 31))
 rw [hwr]
 clear hwr
 obtain ⟨kb, hkb⟩ : ∃ kb, w4.heap.size = kb := ⟨_, rfl⟩
 rw [hkb] at RX6 L6 ⊢
 obtain ⟨g, hg⟩ : ∃ g, w2.heap.size = g := ⟨_, rfl⟩
 rw [hg] at Zr R6 L6 FX FP FF FQ GE ⊢
 clear hkb hg
 have T48 : Hid (∀ w', wr.grownBy w' (some g) → Row w' g 158 #[.bool b1] → Calls Try.prog 103 #[.pointer (some ⟨g, 0, none⟩), .agg #[I n, I n, .slice A3 lf.length c3], .agg #[I n, I n, .slice A2 lp.length c2]] w' fun e w'' => ∃ A c, e = .returned (.agg #[I n, I n, .slice A B.length c]) ∧ Own w'' w'.heap.size (.slice A B.length c) B ∧ Row w'' g 158 #[.bool (b1 || b2)] ∧ w'.grownBy w'' (some g)) := Lib.hid (fun w' h hr => by
  have hh := rD b1 n n lf lp HH.out.1.2 HH.out.1.2 HH.out.2.2.2.1 HH.out.2.2.1
  rw [HT.out.eB, HT.out.eb2] at hh
  have hb := t_ N6.out.be (by have := GE.out; omega) h
  exact yg w w' g b1 n n A3 c3 lf n n A2 c2 lp n n B (b1 || b2) hr (by have := GE.out; omega) hb (RF.out.below hb) CF.out FF.out (RP.out.below hb) CP.out FP.out hh)
 have T47 : Hid (∀ w' A c, wr.grownBy w' (some g) → Rd w' A B → B.length ≤ c → Calls Try.prog 102 #[.agg #[I n, I n, .slice A B.length c], .agg #[I n, I n, .slice A4 lq.length c4]] w' fun e w'' => ∃ v, e = .returned (.tuple #[.agg #[I n, I n, v], .bool b3, I 0]) ∧ Own w'' w'.heap.size v M ∧ Below w'.heap.size w' w'') := Lib.hid (fun w' A c h hr hc => by
  have hb := t_ N6.out.be (by have := GE.out; omega) h
  have hh := Eu n n A A4 c c4 B lq w' HH.out.1.2 HH.out.1.2 (by rw [← HT.out.eB]; exact jD _ _ _ _ _) HH.out.2.2.2.2 hr (RQ.out.below hb) hc CQ.out
  rw [HT.out.eM, HT.out.eb3] at hh
  exact hh)
 have Xq : Hid (∀ w', wr.grownBy w' (some g) → (∀ o, w'.cell? ⟨w.heap.size, o, none⟩ = #[I n, I 1, .slice A1 lx.length c1, I n, I n, .slice A2 lp.length c2][o]?) ∧ (∀ o, w'.cell? ⟨w.heap.size + 1, o, none⟩ = #[I n, I n, .slice A3 lf.length c3][o]?) ∧ (∀ o, w'.cell? ⟨w.heap.size + 1 + 1, o, none⟩ = #[I n, I n, .slice A4 lq.length c4][o]?)) := Lib.hid (fun w' h => ⟨(Row.gr N6.out.r0 h (by have := GE.out; omega)).cell, (Row.gr N6.out.r1 h (by have := GE.out; omega)).cell, (Row.gr N6.out.r2 h (by have := GE.out; omega)).cell⟩)
 have GN := Lib.hid (TM wr (some g))
 have RG := Lib.hid R6.out
 have NG : Hid (wr.heap.size ≠ g ∧ g < wr.heap.size) := Lib.hid (by have := L6.out; omega)
 clear HM
 have IL : Hid (∀ (pb : Nat) (w9 : World) (Ab : Option Addr) (cb : Nat) (Am : Option Addr) (dm : Nat), wr.grownBy w9 (some g) → Row w9 pb 31 #[I n, I n, .slice Am M.length dm] → Rd w9 Am M → M.length ≤ dm → Row w9 g 158 #[.bool (b1 || b2 || b3)] → wr.heap.size ≤ pb → K8 { tmps := #[Value.agg #[I n, I 1, Value.slice A1 lx.length c1, I n, I n, Value.slice A2 lp.length c2], Value.agg #[I n, I n, Value.slice A3 lf.length c3], Value.agg #[I n, I n, Value.slice A4 lq.length c4], Value.pointer (some ⟨w.heap.size, 0, none⟩), Value.pointer (some ⟨w.heap.size + 1, 0, none⟩), Value.pointer (some ⟨w.heap.size + 1 + 1, 0, none⟩), Value.pointer (some ⟨w.heap.size + 1 + 1 + 1, 0, none⟩), Value.bool false, I 0, Value.pointer (some ⟨w.heap.size + 1 + 1 + 1 + 1, 0, none⟩), Value.func (Fn.func 99) #[] #[Value.pointer (some ⟨w.heap.size + 1 + 1 + 1 + 1, 0, none⟩)], Value.pointer (some ⟨g, 0, none⟩), Value.func (Fn.func 100) #[Value.pointer (some ⟨g, 0, none⟩)] #[], Value.pointer (some ⟨kb, 0, none⟩), Value.pointer (some ⟨pb, 0, none⟩), Value.pointer (some ⟨w.heap.size, 0, none⟩), Value.pointer (some ⟨w.heap.size, 0, none⟩), I n, Value.func (Fn.func 99) #[] #[Value.pointer (some ⟨w.heap.size + 1 + 1 + 1 + 1, 0, none⟩)], Value.func (Fn.func 99) #[] #[Value.pointer (some ⟨w.heap.size + 1 + 1 + 1 + 1, 0, none⟩)], Value.agg #[I n, I n, Value.slice A3 lf.length c3], Value.bool true, Value.bool false, Value.bool false, Value.func (Fn.func 99) #[] #[Value.pointer (some ⟨w.heap.size + 1 + 1 + 1 + 1, 0, none⟩)], Value.agg #[I n, I n, Value.slice A4 lq.length c4], Value.bool true, Value.bool false, Value.bool false, undef, Value.agg #[Value.bool false], Value.pointer (some ⟨g, 0, none⟩), Value.pointer (some ⟨g, 0, none⟩), Value.func (Fn.func 100) #[Value.pointer (some ⟨g, 0, none⟩)] #[], Value.func (Fn.func 100) #[Value.pointer (some ⟨g, 0, none⟩)] #[], Value.agg #[I n, I n, Value.slice A3 lf.length c3], Value.pointer (some ⟨w.heap.size, 0, none⟩), Value.agg #[I n, I 1, Value.slice A1 lx.length c1], Value.tuple #[Value.agg #[I n, I 1, Value.slice Ax X.length dx], Value.bool b1, I 0], Value.agg #[I n, I 1, Value.slice Ax X.length dx], Value.bool b1, I 0, Value.agg #[I n, I 1, Value.slice Ax X.length dx], Value.func (Fn.func 100) #[Value.pointer (some ⟨g, 0, none⟩)] #[], Value.pointer (some ⟨g, 0, none⟩), Value.agg #[I n, I n, Value.slice A3 lf.length c3], Value.pointer (some ⟨w.heap.size, 3, none⟩), Value.agg #[I n, I n, Value.slice A2 lp.length c2], Value.agg #[I n, I n, Value.slice Ab B.length cb], Value.agg #[I n, I n, Value.slice A4 lq.length c4], Value.tuple #[Value.agg #[I n, I n, Value.slice Am M.length dm], Value.bool b3, I 0], Value.agg #[I n, I n, Value.slice Am M.length dm], Value.bool b3, I 0, Value.agg #[I n, I n, Value.slice Am M.length dm], undef, undef, undef, undef, undef, undef, undef, undef], defers := [] } w9) := Lib.hid (by
  intro pb w9 Ab cb Am dm hgr hP hM hdm hR hpb
  refine Zh _ _ ?_
  have P9 := Lib.hid hP
  have R9 := Lib.hid hR
  have X9 := Lib.hid (Row.gr RX6.out hgr (by have := L6.out; omega))
  have N9 : Hid (aX w [(33, #[I n, I 1, .slice A1 lx.length c1, I n, I n, .slice A2 lp.length c2]), (31, #[I n, I n, .slice A3 lf.length c3]), (31, #[I n, I n, .slice A4 lq.length c4]), (33, #[I 0, I 0, .slice none 0 0, I 0, I 0, .slice none 0 0]), (3, #[I n])] w9) := Lib.hid (N6.out.app hgr (fun g' e => by injection e with e; have h := GE.out; simp; omega))
  have Ui := Lib.hid (Own.touch Zr.out hgr (by omega))
  have XB : Hid (∀ k, (Value.slice Ax X.length dx).ownBlock = some k → k < w9.heap.size) := Lib.hid (fun k hk => by have h1 := (Zr.out.row.lt k hk).2; have h2 := hgr.size; omega)
  have S9 : Hid (w.heap.size + 5 ≤ g ∧ g < wr.heap.size ∧ wr.heap.size ≤ w9.heap.size ∧ wr.heap.size ≤ pb ∧ w.heap.size + 5 ≤ kb) := Lib.hid ⟨GE.out, NG.out.2, hgr.size, hpb, by have h := L6.out; have h2 := GE.out; omega⟩
  have T15 : Hid (∀ w', Below w9.heap.size w9 w' → Calls Try.prog 104 #[.agg #[I n, I n, .slice Am M.length dm]] w' fun e w'' => ∃ A c, e = .returned (.agg #[I n, I n, .slice A P.length c]) ∧ Own w'' w'.heap.size (.slice A P.length c) P ∧ Below w'.heap.size w' w'') := Lib.hid (fun w' h => by
   have hh := Bq n Am dm M w' HH.out.1.2 (by rw [← HT.out.eM]; exact upto_length) (hM.below h) hdm
   rw [HT.out.eP] at hh
   exact hh)
  have KK9 : Hid (∀ w', Row w' kb 31 #[I n, I 1, .slice Ax X.length dx] → Row w' pb 31 #[I n, I n, .slice Am M.length dm] → Row w' g 158 #[.bool (b1 || b2 || b3)] → (∀ o, w'.cell? ⟨kb, o, none⟩ = #[I n, I 1, .slice Ax X.length dx][o]?) ∧ (∀ o, w'.cell? ⟨pb, o, none⟩ = #[I n, I n, .slice Am M.length dm][o]?) ∧ (∀ o, w'.cell? ⟨g, o, none⟩ = #[.bool (b1 || b2 || b3)][o]?)) := Lib.hid (fun w' a b c => ⟨a.cell, b.cell, c.cell⟩)
  have B9 := Lib.hid (Below.refl w9.heap.size w9)
  clear hgr hP hM hdm hR hpb T48 T47 Xq GN RG NG N6 RX6 Zr R6 L6 Zh
  obtain ⟨fl, hfl⟩ : ∃ fl, (b1 || b2 || b3) = fl := ⟨_, rfl⟩
  have Xz := Lib.hid hfl
  rw [hfl] at R9 KK9
  clear hfl
  have x3 := N9.out.r3.cell
  have g3 := N9.out.r3.free
  have y3 := N9.out.r3.lt
  go_wp2_with fail
  go_region_held3 (fun w' => (∀ o, w'.cell? ⟨kb, o, none⟩ = #[I n, I 1, .slice Ax X.length dx][o]?) ∧ (∀ o, w'.cell? ⟨pb, o, none⟩ = #[I n, I n, .slice Am M.length dm][o]?) ∧ (∀ o, w'.cell? ⟨g, o, none⟩ = #[.bool fl][o]?))
   (first | with_reducible exact KK9.out _ X9.out P9.out R9.out | with_reducible exact KK9.out _ X9.out.drew P9.out.drew R9.out.drew | with_reducible exact KK9.out _ (Row.rU X9.out (C := w.heap.size + 1 + 1 + 1) (by have h := S9.out; omega) _ _ _ _ _ _) (Row.rU P9.out (C := w.heap.size + 1 + 1 + 1) (by have h := S9.out; omega) _ _ _ _ _ _) (Row.rU R9.out (C := w.heap.size + 1 + 1 + 1) (by have h := S9.out; omega) _ _ _ _ _ _))
   (first
     | (go_at_call 104
        (with_reducible refine (T15.out _ (Kr B9.out)).mono ?_)
        rintro e w10 ⟨Ap, dp, rfl, ho, hb⟩
        have OP := Lib.hid ho
        have Ui := Lib.hid (Ui.out.drew.below hb)
        have Gl := Lib.hid (N9.out.drew.below hb)
        have x3 := Gl.out.r3.cell
        have g3 := Gl.out.r3.free
        have y3 := Gl.out.r3.lt
        have X9 := Lib.hid (Row.below X9.out.drew hb X9.out.drew.lt)
        have P9 := Lib.hid (Row.below P9.out.drew hb P9.out.drew.lt)
        have R9 := Lib.hid (Row.below R9.out.drew hb R9.out.drew.lt)
        clear ho hb))
  all_goals
   go_wp2
   have z9 := S9.out
   have hd9 : w9.drew.heap.size = w9.heap.size := rfl
   refine bodyPost_ret (VD rfl rfl (Row.eY Gl.out.r3 _ _ _ _ _ _)) rfl ?_
   rw [Xz.out]
   refine ⟨_, _, _, _, rfl, ?_, ?_, ?_, ?_⟩
   · exact (Own.eY Ui.out (by omega) _ _ _ _ _ _).lower (by omega)
   · exact (Own.eY OP.out (by omega) _ _ _ _ _ _).lower (by omega)
   · intro k h1 h2
     have a := XB.out k h1
     have b := (OP.out.row.lt k h2).1
     omega
   · exact Below.eY Gl.out.be (by omega) _ _ _ _ _ _)
 go_region_held3 (fun w' => (∀ o, w'.cell? ⟨w.heap.size, o, none⟩ = #[I n, I 1, .slice A1 lx.length c1, I n, I n, .slice A2 lp.length c2][o]?) ∧ (∀ o, w'.cell? ⟨w.heap.size + 1, o, none⟩ = #[I n, I n, .slice A3 lf.length c3][o]?) ∧ (∀ o, w'.cell? ⟨w.heap.size + 1 + 1, o, none⟩ = #[I n, I n, .slice A4 lq.length c4][o]?))
  (first | with_reducible exact Xq.out _ GN.out | with_reducible exact Xq.out _ (jG GN.out _) | with_reducible exact Xq.out _ (nI GN.out) | with_reducible exact Xq.out _ (jG (nI GN.out) _) | with_reducible exact Xq.out _ (nI (jG GN.out _)) | ((with_reducible refine Xq.out _ (wZ GN.out ?_ _ _ _)); first | omega | (simp; omega) | simp))
  (first
    | (go_at_call 100
       first
        | ((with_reducible refine (og g (b1 || b2) b3 n n 0 Am M.length dm _ RG.out).mono ?_)
           rintro e w7 ⟨rfl, hr, hg⟩
           have OM := Lib.hid (Own.touch OM.out hg (by omega))
           have NT : Hid (w6.heap.size ≠ g) := Lib.hid (by have h1 := GN.out.size; have h2 := NG.out; omega)
           have RG := Lib.hid hr
           have GN := Lib.hid (KK.bG GN.out hg)
           have z7 := GN.out.size
           first
            | (have TB := Lib.hid (Row.gr TB.out hg (by first | exact NG.out.1 | exact NT5.out))
               have kc := TB.out.cell
               have kf := TB.out.free)
            | skip
           clear hr hg)
        | ((with_reducible refine (og g (b1 || b2) b3 n n 0 Am M.length dm _ (Row.alloc RG.out _)).mono ?_)
           rintro e w7 ⟨rfl, hr, hg⟩
           have OM := Lib.hid (Own.touch (OM.out.alloc _) hg (by omega))
           have NT : Hid (w6.heap.size ≠ g) := Lib.hid (by have h1 := GN.out.size; have h2 := NG.out; omega)
           have RG := Lib.hid hr
           have GN := Lib.hid (KK.bG (jG GN.out _) hg)
           have z7 := GN.out.size
           have TB : Hid (Row w7 w6.heap.size 31 #[I 0, I 0, .slice none 0 0]) := Lib.hid (Row.gr (Row.new w6 31 #[I 0, I 0, .slice none 0 0]) hg NT.out)
           have zt := TB.out.lt
           have kc := TB.out.cell
           have kf := TB.out.free
           clear hr hg))
    | (go_at_call 102
       first
        | ((with_reducible refine (T47.out _ _ _ GN.out OB.out.1 OB.out.2).mono ?_)
           rintro e w6 ⟨v, rfl, ho, hb⟩
           obtain ⟨Am, dm, rfl, _, _⟩ := Own.reads ho
           have OMB := Lib.hid (fun q hq => ho.row.lt q hq)
           have OM : Hid (Own w6 (g + 1) (.slice Am M.length dm) M) := Lib.hid (Own.lower ho (by have h1 := GN.out.size; have h2 := NG.out; first | omega | (simp; omega)))
           have RG := Lib.hid (Row.below RG.out hb RG.out.lt)
           have NT5 : Hid (w5.heap.size ≠ g) := Lib.hid (by have h1 := GN.out.size; have h2 := NG.out; omega)
           have GN := Lib.hid (Ig GN.out hb)
           have z6 := GN.out.size
           first
            | (have TB := Lib.hid (Row.below TB.out hb TB.out.lt)
               have kc := TB.out.cell
               have kf := TB.out.free)
            | skip
           clear ho hb)
        | ((with_reducible refine (T47.out _ _ _ (jG GN.out _) (Rd.below OB.out.1 ((Below.refl _ _).alloc (Nat.le_refl _) _)) OB.out.2).mono ?_)
           rintro e w6 ⟨v, rfl, ho, hb⟩
           obtain ⟨Am, dm, rfl, _, _⟩ := Own.reads ho
           have OMB := Lib.hid (fun q hq => ho.row.lt q hq)
           have OM : Hid (Own w6 (g + 1) (.slice Am M.length dm) M) := Lib.hid (Own.lower ho (by have h1 := GN.out.size; have h2 := NG.out; first | omega | (simp; omega)))
           have RG := Lib.hid (Row.below (Row.alloc RG.out _) hb (Row.alloc RG.out _).lt)
           have NT5 : Hid (w5.heap.size ≠ g) := Lib.hid (by have h1 := GN.out.size; have h2 := NG.out; omega)
           have GN := Lib.hid (Ig (jG GN.out _) hb)
           have z6 := GN.out.size
           have TB : Hid (Row w6 w5.heap.size 31 #[I 0, I 0, .slice none 0 0]) := Lib.hid (Row.below (Row.new w5 31 #[I 0, I 0, .slice none 0 0]) hb (by simp))
           have zt := TB.out.lt
           have kc := TB.out.cell
           have kf := TB.out.free
           clear ho hb))
    | (go_at_call 103
       first
        | ((with_reducible refine (T48.out _ (nI GN.out) (Row.drew RG.out)).mono ?_)
           rintro e w5 ⟨Ab, cb, rfl, ho, hr, hg⟩
           have GN := Lib.hid (KK.bG (nI GN.out) hg)
           have RG := Lib.hid hr
           have OB := Lib.hid (Own.rd ho)
           have z5 := GN.out.size
           clear ho hr hg)
        | ((with_reducible refine (T48.out _ (jG (nI GN.out) _) (Row.alloc (Row.drew RG.out) _)).mono ?_)
           rintro e w5 ⟨Ab, cb, rfl, ho, hr, hg⟩
           have GN := Lib.hid (KK.bG (jG (nI GN.out) _) hg)
           have TB : Hid (Row w5 wr.heap.size 31 #[I 0, I 0, .slice none 0 0]) := Lib.hid (Row.gr (Row.new wr.drew 31 #[I 0, I 0, .slice none 0 0]) hg NG.out.1)
           have zt := TB.out.lt
           have kc := TB.out.cell
           have kf := TB.out.free
           have RG := Lib.hid hr
           have OB := Lib.hid (Own.rd ho)
           have z5 := GN.out.size
           clear ho hr hg)
        | ((with_reducible refine (T48.out _ (nI (jG GN.out _)) (Row.drew (Row.alloc RG.out _))).mono ?_)
           rintro e w5 ⟨Ab, cb, rfl, ho, hr, hg⟩
           have GN := Lib.hid (KK.bG (nI (jG GN.out _)) hg)
           have TB : Hid (Row w5 wr.heap.size 31 #[I 0, I 0, .slice none 0 0]) := Lib.hid (Row.gr (Row.drew (Row.new wr 31 #[I 0, I 0, .slice none 0 0])) hg NG.out.1)
           have zt := TB.out.lt
           have kc := TB.out.cell
           have kf := TB.out.free
           have RG := Lib.hid hr
           have OB := Lib.hid (Own.rd ho)
           have z5 := GN.out.size
           clear ho hr hg)))
 all_goals
  show K8 _ _
  first
   | (with_reducible refine IL.out _ _ _ _ _ _ (jG GN.out _) (Row.new _ _ _) (Own.rd (OM.out.alloc _)).1 (Own.rd OM.out).2 (Row.alloc RG.out _) (by omega))
   | ((with_reducible refine IL.out _ _ _ _ _ _ (wZ GN.out ?_ _ _ _) (Row.bQ TB.out _ _ _) (Own.rd (Own.jY OM.out (fun q hq => ?_) _ _ _)).1 (Own.rd OM.out).2 (Row.oL RG.out ?_) ?_)
      all_goals first | omega | exact NG.out.1.symm | exact NT.out.symm | exact NT5.out.symm | (have h := NG.out; omega) | (have h1 := OMB.out q hq; have h2 := TB.out.lt; omega) | (have h1 := OMB.out q hq; simp at h1; omega) | (simp; omega))
end Go.Proofs.Ytnijhjbcjeohhaa.PR

namespace Go.Proofs.Ytnijhjbcjeohhaa.EE
open Go.RowKit Go.Proofs.Ytnijhjbcjeohhaa.KK Go.Proofs.af.aO Go.Proofs.af.aU Go.Proofs.af.aV
set_option linter.unusedVariables false
set_option linter.unusedSimpArgs false
theorem Rd.gr {w w' : World} {A : Option Addr} {l : List Int} {g : Nat} (h : Rd w A l) (hg : w.grownBy w' (some g)) (ne : ∀ ad, A = some ad → ad.block ≠ g) : Rd w' A l :=
 ⟨h.1, h.2.1, fun hp => by
   obtain ⟨ad, e, hc⟩ := h.2.2 hp
   refine ⟨ad, e, fun j x hx => ?_⟩
   obtain ⟨c, p, hr, hcell⟩ := hc j x hx
   refine ⟨c, p, hr, fun i u hu => ?_⟩
   have hx := hcell i u hu
   have hb := rC ad (j * (Kd.int .i64).sz + i)
   rw [World.cell?_of_block (hg.block _ (cell_lt hx) (fun e' => by
    injection e' with e'
    rw [hb] at e'
    exact ne ad e e'))]
   exact hx⟩
structure Rg (o : Prop) (g : Nat) (w : World) (A : Option Addr) (l : List Int) : Prop where
 rd : Rd w A l
 nr : ∀ ad, A = some ad → (o ∧ ad.block + 2 < g) ∨ g < ad.block
theorem Rg.ne {o : Prop} {w : World} {g : Nat} {A : Option Addr} {l : List Int} (h : Rg o g w A l) : ∀ ad, A = some ad → ad.block ≠ g := fun ad e => by rcases h.nr ad e with ⟨_, h⟩ | h <;> omega
theorem Yh {o : Prop} {n g : Nat} {A1 A2 Ax Ap : Option Addr} (nb : ∀ b, b < n → (∀ ad, A1 = some ad → ad.block ≠ b) → (∀ ad, A2 = some ad → ad.block ≠ b) → (∀ ad, Ax = some ad → ad.block ≠ b) ∧ (∀ ad, Ap = some ad → ad.block ≠ b)) (hg : g < n)
 (h1 : ∀ ad, A1 = some ad → (o ∧ ad.block + 2 < g) ∨ g < ad.block) (h2 : ∀ ad, A2 = some ad → (o ∧ ad.block + 2 < g) ∨ g < ad.block) : (∀ ad, Ax = some ad → (o ∧ ad.block + 2 < g) ∨ g < ad.block) ∧ (∀ ad, Ap = some ad → (o ∧ ad.block + 2 < g) ∨ g < ad.block) := by
 refine ⟨fun ad e => ?_, fun ad e => ?_⟩
 all_goals
  apply Classical.byContradiction
  intro h
  have hn : ad.block < n := by
   rcases Nat.lt_or_ge ad.block n with hl | hl
   · exact hl
   · exact absurd (.inr (by omega)) h
  have hb := nb ad.block hn (fun ad' e' he => by
   rcases h1 ad' e' with ⟨h3, h4⟩ | h4
   · exact h (.inl ⟨h3, by omega⟩)
   · exact h (.inr (by omega))) (fun ad' e' he => by
   rcases h2 ad' e' with ⟨h3, h4⟩ | h4
   · exact h (.inl ⟨h3, by omega⟩)
   · exact h (.inr (by omega)))
  first | exact hb.1 ad e rfl | exact hb.2 ad e rfl
section
variable {o : Prop} {w w' : World} {g : Nat} {A : Option Addr} {l : List Int}
theorem Rg.below (h : Rg o g w A l) (hb : Below w.heap.size w w') : Rg o g w' A l := ⟨h.rd.below hb, h.nr⟩
theorem Rg.alloc (h : Rg o g w A l) (x : Obj) : Rg o g (w.alloc x) A l := h.below ((Below.refl _ _).alloc (Nat.le_refl _) x)
theorem Rg.drew (h : Rg o g w A l) : Rg o g w.drew A l := h.below (Below.refl _ _).drew
theorem Rg.gr (h : Rg o g w A l) (hg : w.grownBy w' (some g)) : Rg o g w' A l := ⟨Rd.gr h.rd hg h.ne, h.nr⟩
theorem Rg.own {base : Nat} {c : Nat} (h : Own w base (.slice A l.length c) l) (hg : g < base) : Rg o g w A l :=
 ⟨(PR.Own.rd h).1, fun ad e => by
   subst e
   have := (h.row.lt ad.block rfl).1
   exact .inr (by omega)⟩
theorem yD (w : World) (k : Nat) (a b c : Value) : w.grownBy (KK.bQ w k a b c) (some k) := bP (bP (bP (dY _ _) _ _) _ _) _ _
theorem Rg.oL (h : Rg o g w A l) {k : Nat} (ne : ∀ ad, A = some ad → ad.block ≠ k) (a b c : Value) : Rg o g (KK.bQ w k a b c) A l := ⟨Rd.gr h.rd (yD w k a b c) ne, h.nr⟩
theorem Tb.JF {w0 w1 : World} {n tb c : Nat} {t : TypeId} {cs : Array Value} (h : Tb w0 n tb t cs w) (ho : Own w1 w.heap.size (.slice A l.length c) l) : ∀ ad, A = some ad → ad.block ≠ tb := fun ad e => by
 subst e
 have := (ho.row.lt ad.block rfl).1
 have := h.row.lt
 omega
theorem Rd.new (w : World) (t : TypeId) (l : List Int) (hl : l.length ≤ 1000) : Rd (w.alloc (.cells (l.map I).toArray t)) (some ⟨w.heap.size, 0, none⟩) l := by
 refine ⟨rfl, by show l.length ≤ _; omega, fun hp => ⟨_, rfl, fun j x hx => ?_⟩⟩
 have R := Row.new w t (l.map I).toArray
 refine ⟨[I x], by first | rfl | (show _ ≤ _; omega) | trivial, rfl, fun k u hu => ?_⟩
 have hk : k = 0 := by
  cases k with
  | zero => rfl
  | succ k => simp at hu
 subst hk
 simp at hu
 subst hu
 have h1 : (Kd.int .i64).sz = 1 := rfl
 have ea : ∀ n, (⟨w.heap.size, 0, none⟩ : Addr).add n = ⟨w.heap.size, 0 + n, none⟩ := fun n => by unfold Addr.add; split <;> simp_all
 rw [h1, Nat.mul_one, Nat.add_zero, ea, Nat.zero_add, R.cell]
 simp [hx]
theorem Rd.put {w : World} {b off j : Nat} {l : List Int} (h : Rd w (some ⟨b, off, none⟩) l) (hj : j < l.length) (v : Int) : Rd (w.setCell ⟨b, off + j, none⟩ (I v)) (some ⟨b, off, none⟩) (l.set j v) := by
 refine ⟨by simp, by simpa using h.2.1, fun hp => ⟨_, rfl, fun i x hx => ?_⟩⟩
 obtain ⟨ad, e, hc⟩ := h.2.2 (by omega)
 injection e with e
 subst e
 rw [List.getElem?_set] at hx
 have hi : i < l.length := by
  rcases Nat.lt_or_ge i l.length with hl | hl
  · exact hl
  · split at hx
    · rename_i h0; subst h0; omega
    · rw [List.getElem?_eq_none hl] at hx; cases hx
 obtain ⟨c, p, hr, hcell⟩ := hc i _ (List.getElem?_eq_getElem hi)
 have e : c = [I l[i]] := hr
 subst e
 have h1 : (Kd.int .i64).sz = 1 := rfl
 have h0 := hcell 0 _ rfl
 rw [h1, Nat.mul_one, Nat.add_zero] at h0
 refine ⟨[I x], p, rfl, fun k u hu => ?_⟩
 have hk : k = 0 := by
  cases k with
  | zero => rfl
  | succ k => simp at hu
 subst hk
 simp at hu
 subst hu
 rw [h1, Nat.mul_one, Nat.add_zero]
 have ea : ∀ n, (⟨b, off, none⟩ : Addr).add n = ⟨b, off + n, none⟩ := fun n => by unfold Addr.add; split <;> simp_all
 rw [ea] at h0 ⊢
 by_cases hij : j = i
 · subst hij
   rw [if_pos rfl, if_pos hj] at hx
   injection hx with hx
   subst hx
   exact World.cell?_setCell_same' _ _ _ (by rw [h0]; rfl)
 · rw [if_neg hij, List.getElem?_eq_getElem hi] at hx
   injection hx with hx
   subst hx
   rw [World.cell?_setCell_other _ _ _ _ (fun e => by injection e with _ e; omega)]
   exact h0
theorem Row.range {B : Nat} {t : TypeId} {C : Array Value} (R : Row w B t C) (o : Nat) (cs : List Value) (h : (C.extract o (o + cs.length)).toList = cs) : w.rangeAt B o cs := by
 have := World.rangeAt_of_block R o cs.length
 rwa [h] at this
theorem Sw.set' {w0 : World} {C : Array Value} (h : Sw w0 [] g C w) {p : Addr} (hp : w0.heap.size ≤ p.block) (u : Value) : Sw w0 [] g C (w.setCell p u) := h.set (by simpa using hp) u
theorem Rg.set (h : Rg o g w A l) {b i : Nat} (ne : ∀ ad, A = some ad → ad.block ≠ b) (u : Value) : Rg o g (w.setCell ⟨b, i, none⟩ u) A l := ⟨Rd.gr h.rd (bP (dY _ _) _ _) ne, h.nr⟩
end
end Go.Proofs.Ytnijhjbcjeohhaa.EE

namespace Go.Proofs.Ytnijhjbcjeohhaa.EE
open Go.RowKit Go.Proofs.Ytnijhjbcjeohhaa.KK Go.Proofs.af.aO Go.Proofs.af.aU Go.Proofs.af.aV
set_option linter.unusedVariables false
set_option linter.unusedSimpArgs false
structure Rx (o : Prop) (g : Nat) (w : World) (t : Tr) : Prop where
 x : Rg o g w t.A t.x
 xc : t.x.length ≤ t.c
 p : Rg o g w t.B t.p
 pd : t.p.length ≤ t.d
theorem Rx.below {o : Prop} {w w' : World} {g : Nat} {t : Tr} (h : Rx o g w t) (hb : Below w.heap.size w w') : Rx o g w' t := ⟨h.x.below hb, h.xc, h.p.below hb, h.pd⟩
theorem Rx.gr {o : Prop} {w w' : World} {g : Nat} {t : Tr} (h : Rx o g w t) (hg : w.grownBy w' (some g)) : Rx o g w' t := ⟨h.x.gr hg, h.xc, h.p.gr hg, h.pd⟩
def Nw (g : Nat) (t : Tr) : Prop := (∀ ad, t.A = some ad → g < ad.block) ∧ (∀ ad, t.B = some ad → g < ad.block)
theorem Rg.strict {o : Prop} {w : World} {g : Nat} {A : Option Addr} {l : List Int} (h : Rg o g w A l) (k : ∀ ad, A = some ad → g < ad.block) : Rg False g w A l := ⟨h.rd, fun ad e => .inr (k ad e)⟩
theorem Rg.weak {o : Prop} {w : World} {g : Nat} {A : Option Addr} {l : List Int} (h : Rg False g w A l) : Rg o g w A l := ⟨h.rd, fun ad e => (h.nr ad e).elim (fun x => x.1.elim) .inr⟩
theorem Rg.beyond {w : World} {g : Nat} {A : Option Addr} {l : List Int} (h : Rg False g w A l) : ∀ ad, A = some ad → g < ad.block := fun ad e => (h.nr ad e).elim (fun x => x.1.elim) id
theorem Rx.strict {o : Prop} {w : World} {g : Nat} {t : Tr} (h : Rx o g w t) (k : Nw g t) : Rx False g w t := ⟨h.x.strict k.1, h.xc, h.p.strict k.2, h.pd⟩
def Es.ax (e : Es) : Nat → Tr
 | 0 => e.t0
 | 1 => e.t1
 | _ => e.t2
structure AI (w0 : World) (g : Nat) (c : Cf) (e : Es) (s : Sm) (a : Nat → Int) (T : Nat → Tr) (fb qb : Nat) (Af Aq : Option Addr) (cf cq : Nat) (lf lq : List Int) (st : Bool) (w : World) : Prop where
 work : iC w0 g c { e with t0 := T 0, t1 := T 1, t2 := T 2, sat := st } s (a 0) (a 1) (a 2) w
 lt : g < w0.heap.size
 f : Tb w0 0 fb 31 #[I 3, I 3, .slice Af 9 cf] w
 q : Tb w0 0 qb 31 #[I 3, I 3, .slice Aq 9 cq] w
 rf : Rg True g w Af lf
 rq : Rg True g w Aq lq
 rx : ∀ j, j < 3 → Rx True g w (T j)
section
variable {w0 w w' : World} {g : Nat} {c : Cf} {e : Es} {s : Sm} {a : Nat → Int} {T : Nat → Tr} {fb qb : Nat} {Af Aq : Option Addr} {cf cq : Nat} {lf lq : List Int} {st st' : Bool}
theorem AI.below (h : AI w0 g c e s a T fb qb Af Aq cf cq lf lq st w) (hb : Below w.heap.size w w') : AI w0 g c e s a T fb qb Af Aq cf cq lf lq st w' :=
 ⟨h.work.below hb, h.lt, h.f.below hb, h.q.below hb, h.rf.below hb, h.rq.below hb, fun j hj => (h.rx j hj).below hb⟩
theorem AI.alloc (h : AI w0 g c e s a T fb qb Af Aq cf cq lf lq st w) (o : Obj) : AI w0 g c e s a T fb qb Af Aq cf cq lf lq st (w.alloc o) := h.below ((Below.refl _ _).alloc (Nat.le_refl _) o)
theorem AI.drew (h : AI w0 g c e s a T fb qb Af Aq cf cq lf lq st w) : AI w0 g c e s a T fb qb Af Aq cf cq lf lq st w.drew := h.below (Below.refl _ _).drew
theorem AI.told (h : AI w0 g c e s a T fb qb Af Aq cf cq lf lq st w) (k : iC w g c { e with t0 := T 0, t1 := T 1, t2 := T 2, sat := st' } s (a 0) (a 1) (a 2) w') : AI w0 g c e s a T fb qb Af Aq cf cq lf lq st' w' :=
 ⟨h.work.step k, h.lt, h.f.work h.lt k.gr, h.q.work h.lt k.gr, h.rf.gr k.gr, h.rq.gr k.gr, fun j hj => (h.rx j hj).gr k.gr⟩
end
theorem AI.to {w0 w w' : World} {g : Nat} {c : Cf} {e : Es} {s : Sm} {a : Nat → Int} {T : Nat → Tr} {fb qb : Nat} {Af Aq : Option Addr} {cf cq : Nat} {lf lq : List Int} {st st' : Bool} (h : AI w0 g c e s a T fb qb Af Aq cf cq lf lq st w)
 (k : Sw w [] g (wk c { e with t0 := T 0, t1 := T 1, t2 := T 2, sat := st' } s (a 0) (a 1) (a 2)) w') : AI w0 g c e s a T fb qb Af Aq cf cq lf lq st' w' := h.told ⟨k.row, k.gr⟩
abbrev IC (w : World) (g k : Nat) (a b c d e f : Value) : World := (((((w.setCell ⟨g, 10 + k * 6, none⟩ a).setCell ⟨g, 10 + k * 6 + 1, none⟩ b).setCell ⟨g, 10 + k * 6 + 2, none⟩ c).setCell ⟨g, 10 + k * 6 + 3, none⟩ d).setCell ⟨g, 10 + k * 6 + 4, none⟩ e).setCell ⟨g, 10 + k * 6 + 5, none⟩ f
theorem Row.YM {w : World} {b g k : Nat} {t : TypeId} {cs : Array Value} (R : Row w b t cs) (h : b ≠ g) (v0 v1 v2 v3 v4 v5 : Value) : Row (IC w g k v0 v1 v2 v3 v4 v5) b t cs :=
 (((((R.far (p := ⟨g, _, none⟩) h v0).far (p := ⟨g, _, none⟩) h v1).far (p := ⟨g, _, none⟩) h v2).far (p := ⟨g, _, none⟩) h v3).far (p := ⟨g, _, none⟩) h v4).far (p := ⟨g, _, none⟩) h v5
theorem Bo (w : World) (g k : Nat) (v0 v1 v2 v3 v4 v5 : Value) : w.grownBy (IC w g k v0 v1 v2 v3 v4 v5) (some g) := bP (bP (bP (bP (bP (bP (dY _ _) _ _) _ _) _ _) _ _) _ _) _ _
theorem AI.ax {w0 w : World} {g : Nat} {c : Cf} {e : Es} {s : Sm} {a : Nat → Int} {T : Nat → Tr} {fb qb : Nat} {Af Aq : Option Addr} {cf cq : Nat} {lf lq : List Int} {st : Bool} (h : AI w0 g c e s a T fb qb Af Aq cf cq lf lq st w) (k : Nat) (hk : k < 3) (t : Tr) (n : Nat) (hn : t.x.length = n)
 (hx : Rx True g w t) : AI w0 g c e s a (fun j => if j = k then t else T j) fb qb Af Aq cf cq lf lq st (IC w g k (.int .i64 3) (.int .i64 1) (.slice t.A n t.c) (.int .i64 3) (.int .i64 3) (.slice t.B t.p.length t.d)) := by
 subst hn
 have hg := Bo w g k (.int .i64 3) (.int .i64 1) (.slice t.A t.x.length t.c) (.int .i64 3) (.int .i64 3) (.slice t.B t.p.length t.d)
 refine ⟨⟨?_, bG h.work.gr hg⟩, h.lt, h.f.work h.lt hg, h.q.work h.lt hg, h.rf.gr hg, h.rq.gr hg, fun j hj => ?_⟩
 · have R := (((((h.work.row.set (10 + k * 6) (.int .i64 3)).set (10 + k * 6 + 1) (.int .i64 1)).set (10 + k * 6 + 2) (.slice t.A t.x.length t.c)).set (10 + k * 6 + 3) (.int .i64 3)).set (10 + k * 6 + 4) (.int .i64 3)).set (10 + k * 6 + 5) (.slice t.B t.p.length t.d)
   obtain rfl | rfl | rfl : k = 0 ∨ k = 1 ∨ k = 2 := by omega
   all_goals simpa using R
 · by_cases e : j = k
   · simp only [if_pos e]
     exact hx.gr hg
   · simp only [if_neg e]
     exact (h.rx j hj).gr hg
abbrev Zn (a b r : Int) (o : Bool) : Prop := ∀ w, Calls Try.prog 66 #[I a, I b] w fun e w' => e = .returned (.tuple #[I r, .bool o]) ∧ Below w.heap.size w w'
abbrev KH (a b r : Int) (o : Bool) : Prop := ∀ w, Calls Try.prog 67 #[I a, I b] w fun e w' => e = .returned (.tuple #[I r, .bool o]) ∧ Below w.heap.size w w'
abbrev aat (a b r : Int) (o : Bool) : Prop := ∀ w, Calls Try.prog 69 #[I a, I b] w fun e w' => e = .returned (.tuple #[I r, .bool o]) ∧ Below w.heap.size w w'
def Pz (s0 : Bool) (bp ba o1 o2 o3 : Nat → Bool) : Nat → Bool
 | 0 => s0
 | k + 1 => ((Pz s0 bp ba o1 o2 o3 k || bp k) || ba k) || ((o1 k || o2 k) || o3 k)
theorem IE (g : Nat) (c : Cf) (e : Es) (s : Sm) (a : Nat → Int) (less ma mb : Int) (z0 z1 z2 : Bool) (lq : List Int) (X0 B Mm P : Nat → List Int) (o1 o2 o3 bp ba : Nat → Bool) (p y : Nat → Int) (w : World) (R : Row w g 89 (wk c e s (a 0) (a 1) (a 2)))
 (hr : ∀ j, j < 3 → Rx True g w (e.ax j)) (hl : ∀ j, j < 3 → (e.ax j).x.length = 3 ∧ (e.ax j).p.length = 9)
 (hs : Zn 0 c.dt less z0) (hm1 : KH c.acc c.dt ma z1) (hm2 : KH c.bias c.dt mb z2) (hq : fF [0, ma, mb] = lq) (hq9 : lq.length = 9) (hin : [0, ma, mb].any kR = false)
 (T : ∀ j, j < 3 → PR.Told 3 (e.ax j).x (e.ax j).p [16777216, c.dt, 0, 0, 16777216, less, 0, 0, 16777216] lq (X0 j) (B j) (Mm j) (P j) (o1 j) (o2 j) (o3 j)) (hx : ∀ j, j < 3 → (X0 j).length = 3)
 (hp : ∀ j, j < 3 → KH (a j) c.dt (p j) (bp j)) (ha : ∀ j, j < 3 → aat ((X0 j).getD 1 0) (p j) (y j) (ba j)) :
 Calls Try.prog 38 #[.pointer (some ⟨g, 0, none⟩)] w fun r w' => r = .returned (.tuple #[]) ∧ ∃ t : Nat → Tr, (∀ j, j < 3 → (t j).x = (X0 j).set 1 (y j) ∧ (t j).p = P j ∧ Rx False g w' (t j)) ∧
  iC w g c { e with t0 := t 0, t1 := t 1, t2 := t 2, sat := Pz (((e.sat || z0) || z1) || z2) bp ba o1 o2 o3 3 } s (a 0) (a 1) (a 2) w' := by
 have hg := R.lt
 have M0 : Hid (Sw w [] g (wk c e s (a 0) (a 1) (a 2)) w) := Lib.hid (Sw.of R)
 have HR := Lib.hid hr
 have HL := Lib.hid hl
 have HS := Lib.hid hs
 have HM1 := Lib.hid hm1
 have HM2 := Lib.hid hm2
 have HQ := Lib.hid hq
 have HQ9 := Lib.hid hq9
 have HIN := Lib.hid hin
 have HT := Lib.hid T
 have HX := Lib.hid hx
 have HP := Lib.hid hp
 have HA := Lib.hid ha
 have hc := R.cell
 clear R hr hl hs hm1 hm2 hq hq9 hin T hx hp ha
 go_enter Try.func38, Try.ntmps38
 go_wp2_with fail
 refine (HS.out _).mono ?_
 rintro r w1 ⟨rfl, hb⟩
 have M1 := Lib.hid (M0.out.below hb)
 clear hb M0 hc
 go_wp2_with fail
 refine (dK g c _ s _ _ _ _ _ _ M1.out.row).mono ?_
 rintro r w2 ⟨rfl, hw⟩
 have M2 := Lib.hid (M1.out.work hw)
 clear hw M1
 have hc := M2.out.row.cell
 go_upto_region 2 with fail
 have M3 := Lib.hid ((M2.out.alloc (.cells #[.int .i64 16777216, I c.dt, .int .i64 0, .int .i64 0, .int .i64 16777216, I less, .int .i64 0, .int .i64 0, .int .i64 16777216] 22)).alloc (.cells #[.int .i64 3, .int .i64 3, .slice (some ⟨w2.heap.size, 0, none⟩) 9 9] 31))
 have TF := Lib.hid (Tb.jX 31 #[.int .i64 3, .int .i64 3, .slice (some ⟨w2.heap.size, 0, none⟩) 9 9] (M2.out.alloc (.cells #[.int .i64 16777216, I c.dt, .int .i64 0, .int .i64 0, .int .i64 16777216, I less, .int .i64 0, .int .i64 0, .int .i64 16777216] 22)))
 have RF : Hid (Rg True g ((w2.alloc (.cells #[.int .i64 16777216, I c.dt, .int .i64 0, .int .i64 0, .int .i64 16777216, I less, .int .i64 0, .int .i64 0, .int .i64 16777216] 22)).alloc (.cells #[.int .i64 3, .int .i64 3, .slice (some ⟨w2.heap.size, 0, none⟩) 9 9] 31)) (some ⟨w2.heap.size, 0, none⟩) [16777216, c.dt, 0, 0, 16777216, less, 0, 0, 16777216]) :=
  Lib.hid (Rg.alloc ⟨Rd.new w2 22 [16777216, c.dt, 0, 0, 16777216, less, 0, 0, 16777216] (by simp), fun ad e => .inr (by injection e with e; subst e; have := M2.out.lt; have := M2.out.gr.size; simp; omega)⟩ _)
 clear M2 hc
 simp only [World.size_alloc] at TF
 generalize ((w2.alloc (.cells #[.int .i64 16777216, I c.dt, .int .i64 0, .int .i64 0, .int .i64 16777216, I less, .int .i64 0, .int .i64 0, .int .i64 16777216] 22)).alloc (.cells #[.int .i64 3, .int .i64 3, .slice (some ⟨w2.heap.size, 0, none⟩) 9 9] 31)) = wd at M3 TF RF ⊢
 generalize w2.heap.size + 1 = fb at TF ⊢
 generalize (some (⟨w2.heap.size, 0, none⟩ : Addr)) = Af at TF RF
 have M := Lib.hid (Sw.of M3.out.row)
 have K2 : Hid (∀ w' e', Row w' g 89 (wk c e' s (a 0) (a 1) (a 2)) → (w'.cell? ⟨g, 0, none⟩ = some (I c.dt) ∧ w'.cell? ⟨g, 1, none⟩ = some (I c.acc) ∧ w'.cell? ⟨g, 2, none⟩ = some (I c.bias))) := Lib.hid (fun w' e' R => ⟨R.cell 0, R.cell 1, R.cell 2⟩)
 have RL : Hid (∀ w' : World, Rd (w'.alloc (.cells #[.int .i64 0, I ma, I mb] 22)) (some ⟨w'.heap.size, 0, none⟩) [0, ma, mb]) := Lib.hid (fun w' => Rd.new w' 22 [0, ma, mb] (by simp))
 have RL2 : Hid (∀ (w' : World) (o : Obj), Rd ((w'.alloc o).alloc (.cells #[.int .i64 0, I ma, I mb] 22)) (some ⟨w'.heap.size + 1, 0, none⟩) [0, ma, mb]) := Lib.hid (fun w' o => by have := Rd.new (w'.alloc o) 22 [0, ma, mb] (by simp); simpa using this)
 have HD : Hid (∀ (nb : Nat) (w' : World), Rd w' (some ⟨nb, 0, none⟩) [0, ma, mb] → Calls Try.prog 57 #[.slice (some ⟨nb, 0, none⟩) 3 3] w' fun e w'' => ∃ Aq cq, e = .returned (.tuple #[.agg #[I 3, I 3, .slice Aq 9 cq], I 0]) ∧ 9 ≤ cq ∧ Own w'' w'.heap.size (.slice Aq lq.length cq) lq ∧ Below w'.heap.size w' w'') := Lib.hid (fun nb w' h => by
  have hh := xY (some ⟨nb, 0, none⟩) 3 [0, ma, mb] w' h (by simp) (by simp) HIN.out
  refine hh.mono ?_
  rintro e w'' ⟨v, rfl, ho, hb⟩
  rw [HQ.out] at ho
  obtain ⟨Aq, cq, rfl, hc, _⟩ := Own.reads ho
  exact ⟨Aq, cq, by rw [HQ9.out]; rfl, by have := HQ9.out; omega, ho, hb⟩)
 go_cut [4] (fun v4 wc => ∃ (qb : Nat) (Aq : Option Addr) (cq : Nat), v4 = .pointer (some ⟨qb, 0, none⟩) ∧ Hid (9 ≤ cq ∧ Tb w 0 qb 31 #[I 3, I 3, .slice Aq 9 cq] wc ∧ Rg True g wc Aq lq) ∧ Hid (Sw wd [] g (wk c { e with sat := (((e.sat || z0) || z1) || z2) } s (a 0) (a 1) (a 2)) wc))
 case first =>
  go_region_held3 (fun w' => (w'.cell? ⟨g, 0, none⟩ = some (I c.dt) ∧ w'.cell? ⟨g, 1, none⟩ = some (I c.acc) ∧ w'.cell? ⟨g, 2, none⟩ = some (I c.bias)))
   (first | with_reducible exact K2.out _ _ (M.out).row | with_reducible exact K2.out _ _ (M.out.drew).row | with_reducible exact K2.out _ _ (M.out.alloc _).row | with_reducible exact K2.out _ _ (M.out.drew.alloc _).row | with_reducible exact K2.out _ _ ((M.out.alloc _).drew).row | with_reducible exact K2.out _ _ (M.out.jY TB.out.le _ _ _).row | with_reducible exact K2.out _ _ ((M.out.alloc _).jY M.out.le' _ _ _).row | with_reducible exact K2.out _ _ ((M.out.alloc _).alloc _).row)
   (first
     | (go_at_call 57
        first
         | ((with_reducible refine (HD.out _ _ (RL.out _)).mono ?_)
            rintro r wn ⟨Aq, cq, rfl, hcq, ho, hb⟩
            with_reducible have M' := Lib.hid ((M.out.alloc _).below hb)
            (try (have NQ := Lib.hid (Tb.JF (TB.out.alloc _) ho); have DR := Lib.hid (Tb.below (TB.out.alloc _) hb); clear TB kc kf zt; have TB := DR; clear DR; have kc := TB.out.row.cell; have kf := TB.out.row.free; have zt := TB.out.row.lt))
            have RQ := Lib.hid (Rg.own (o := True) (g := g) ho (M.out.alloc _).row.lt)
            have QC := Lib.hid hcq
            clear hb ho hcq M
            have M := M'
            clear M')
         | ((with_reducible refine (HD.out _ _ (Rd.below (RL.out _) ((Below.refl _ _).alloc (Nat.le_refl _) _))).mono ?_)
            rintro r wn ⟨Aq, cq, rfl, hcq, ho, hb⟩
            with_reducible have M' := Lib.hid (((M.out.alloc _).alloc _).below hb)
            have NQ := Lib.hid (Tb.JF (Tb.jX 31 #[I 0, I 0, .slice none 0 0] (M.out.alloc _)) ho)
            have TB := Lib.hid (Tb.below (Tb.jX 31 #[I 0, I 0, .slice none 0 0] (M.out.alloc _)) hb)
            (try simp only [World.size_alloc] at TB NQ)
            have kc := TB.out.row.cell
            have kf := TB.out.row.free
            have zt := TB.out.row.lt
            have RQ := Lib.hid (Rg.own (o := True) (g := g) ho ((M.out.alloc _).alloc _).row.lt)
            have QC := Lib.hid hcq
            clear hb ho hcq M
            have M := M'
            clear M')
         | ((with_reducible refine (HD.out _ _ (RL2.out _ _)).mono ?_)
            rintro r wn ⟨Aq, cq, rfl, hcq, ho, hb⟩
            with_reducible have M' := Lib.hid (((M.out.alloc _).alloc _).below hb)
            have NQ := Lib.hid (Tb.JF (Tb.alloc (Tb.jX 31 #[I 0, I 0, .slice none 0 0] M.out) _) ho)
            have TB := Lib.hid (Tb.below (Tb.alloc (Tb.jX 31 #[I 0, I 0, .slice none 0 0] M.out) _) hb)
            (try simp only [World.size_alloc] at TB NQ)
            have kc := TB.out.row.cell
            have kf := TB.out.row.free
            have zt := TB.out.row.lt
            have RQ := Lib.hid (Rg.own (o := True) (g := g) ho ((M.out.alloc _).alloc _).row.lt)
            have QC := Lib.hid hcq
            clear hb ho hcq M
            have M := M'
            clear M'))
     | (first
     | (go_at_call 67
        first
         | ((with_reducible refine (HM2.out _).mono ?_)
            rintro r wn ⟨rfl, hb⟩
            with_reducible have M' := Lib.hid (M.out.below hb)
            (try (have DR := Lib.hid (Tb.below (TB.out) hb); clear TB kc kf zt; have TB := DR; clear DR; have kc := TB.out.row.cell; have kf := TB.out.row.free; have zt := TB.out.row.lt))
            clear hb M
            have M := M'
            clear M')
         | ((with_reducible refine (HM2.out _).mono ?_)
            rintro r wn ⟨rfl, hb⟩
            with_reducible have M' := Lib.hid ((M.out.alloc _).below hb)
            have TB := Lib.hid (Tb.below (Tb.jX 31 #[I 0, I 0, .slice none 0 0] M.out) hb)
            have kc := TB.out.row.cell
            have kf := TB.out.row.free
            have zt := TB.out.row.lt
            clear hb M
            have M := M'
            clear M'))
     | (go_at_call 65
        first
         | ((with_reducible refine (dK g c _ s _ _ _ _ _ _ M.out.row).mono ?_)
            rintro r wn ⟨rfl, hw⟩
            with_reducible have M' := Lib.hid (M.out.work hw)
            (try (have DR := Lib.hid (Tb.work (TB.out) M.out.lt hw.gr); clear TB kc kf zt; have TB := DR; clear DR; have kc := TB.out.row.cell; have kf := TB.out.row.free; have zt := TB.out.row.lt))
            clear hw M
            have M := M'
            clear M')
         | ((with_reducible refine (dK g c _ s _ _ _ _ _ _ (M.out.alloc _).row).mono ?_)
            rintro r wn ⟨rfl, hw⟩
            with_reducible have M' := Lib.hid ((M.out.alloc _).work hw)
            have TB := Lib.hid (Tb.work (Tb.jX 31 #[I 0, I 0, .slice none 0 0] M.out) M.out.lt hw.gr)
            have kc := TB.out.row.cell
            have kf := TB.out.row.free
            have zt := TB.out.row.lt
            clear hw M
            have M := M'
            clear M'))
     | (go_at_call 67
        first
         | ((with_reducible refine (HM1.out _).mono ?_)
            rintro r wn ⟨rfl, hb⟩
            with_reducible have M' := Lib.hid (M.out.drew.below hb)
            clear hb M
            have M := M'
            clear M')
         | ((with_reducible refine (HM1.out _).mono ?_)
            rintro r wn ⟨rfl, hb⟩
            with_reducible have M' := Lib.hid ((M.out.drew.alloc _).below hb)
            have TB := Lib.hid (Tb.below (Tb.jX 31 #[I 0, I 0, .slice none 0 0] M.out.drew) hb)
            have kc := TB.out.row.cell
            have kf := TB.out.row.free
            have zt := TB.out.row.lt
            clear hb M
            have M := M'
            clear M')
         | ((with_reducible refine (HM1.out _).mono ?_)
            rintro r wn ⟨rfl, hb⟩
            with_reducible have M' := Lib.hid ((M.out.alloc _).drew.below hb)
            have TB := Lib.hid (Tb.below (Tb.drew (Tb.jX 31 #[I 0, I 0, .slice none 0 0] M.out)) hb)
            have kc := TB.out.row.cell
            have kf := TB.out.row.free
            have zt := TB.out.row.lt
            clear hb M
            have M := M'
            clear M'))))
  all_goals (go_wp2_with fail; go_meet)
  all_goals
   first
    | with_reducible exact ⟨_, _, _, rfl, Lib.hid ⟨QC.out, (TB.out.bQ _ _ _).up M3.out.gr.size, RQ.out.oL NQ.out _ _ _⟩, Lib.hid (M.out.jY TB.out.le _ _ _)⟩
    | with_reducible exact ⟨_, _, _, rfl, Lib.hid ⟨QC.out, (Tb.jX 31 _ M.out).up M3.out.gr.size, RQ.out.alloc _⟩, Lib.hid (M.out.alloc _)⟩
 case rest =>
  clear K2 RL RL2 HD
  obtain ⟨qb, Aq, cq, rfl, Q, M⟩ := hcut
  have QC := Lib.hid Q.out.1
  have A0 : Hid (AI w g c e s a e.ax fb qb Af Aq 9 cq [16777216, c.dt, 0, 0, 16777216, less, 0, 0, 16777216] lq (((e.sat || z0) || z1) || z2) wc) := Lib.hid ⟨⟨M.out.row, bG M3.out.gr M.out.gr⟩, M3.out.lt, TF.out.work M3.out.lt M.out.gr, Q.out.2.1, RF.out.gr M.out.gr, Q.out.2.2, fun j hj => (HR.out j hj).gr (bG M3.out.gr M.out.gr)⟩
  have RA := Lib.hid (Row.range M.out.row 10 [I 3, I 1, .slice e.t0.A e.t0.x.length e.t0.c, I 3, I 3, .slice e.t0.B e.t0.p.length e.t0.d, I 3, I 1, .slice e.t1.A e.t1.x.length e.t1.c, I 3, I 3, .slice e.t1.B e.t1.p.length e.t1.d, I 3, I 1, .slice e.t2.A e.t2.x.length e.t2.c, I 3, I 3, .slice e.t2.B e.t2.p.length e.t2.d] rfl)
  clear M M3 TF RF HR
  go_wp2_with (with_reducible refine wpList_load_mid rfl 34 (.tmp 67) rfl g 10 rfl [I 3, I 1, .slice e.t0.A e.t0.x.length e.t0.c, I 3, I 3, .slice e.t0.B e.t0.p.length e.t0.d, I 3, I 1, .slice e.t1.A e.t1.x.length e.t1.c, I 3, I 3, .slice e.t1.B e.t1.p.length e.t1.d, I 3, I 1, .slice e.t2.A e.t2.x.length e.t2.c, I 3, I 3, .slice e.t2.B e.t2.p.length e.t2.d] _ RA.out Try.underlying34 rfl rfl ?_)
  clear RA
  go_loopw [69] (fun i wr => ∃ (k : Nat) (T : Nat → Tr), k ≤ 3 ∧ i = .int .i64 k ∧ Hid ((∀ j, j < k → (T j).x = (X0 j).set 1 (y j) ∧ (T j).p = P j ∧ Nw g (T j)) ∧ (∀ j, k ≤ j → T j = e.ax j)) ∧ Hid (AI w g c e s a T fb qb Af Aq 9 cq [16777216, c.dt, 0, 0, 16777216, less, 0, 0, 16777216] lq (Pz (((e.sat || z0) || z1) || z2) bp ba o1 o2 o3 k) wr)) (fun i _ => 3 - (intOf i).toNat)
  case atStart => exact ⟨0, e.ax, by omega, rfl, Lib.hid ⟨fun j hj => absurd hj (Nat.not_lt_zero j), fun j _ => rfl⟩, A0⟩
  case round =>
   clear A0
   obtain ⟨k, T, hk, rfl, TT, A⟩ := hrel
   by_cases hlt : k < 3
   case neg =>
    obtain rfl : k = 3 := by omega
    go_wp2
    go_end0
    exact ⟨rfl, T, fun j hj => ⟨(TT.out.1 j hj).1, (TT.out.1 j hj).2.1, (A.out.rx j hj).strict (TT.out.1 j hj).2.2⟩, A.out.work⟩
   have ix : ∀ w', (Instr.index 34 (.agg #[I 3, I 1, .slice e.t0.A e.t0.x.length e.t0.c, I 3, I 3, .slice e.t0.B e.t0.p.length e.t0.d, I 3, I 1, .slice e.t1.A e.t1.x.length e.t1.c, I 3, I 3, .slice e.t1.B e.t1.p.length e.t1.d, I 3, I 1, .slice e.t2.A e.t2.x.length e.t2.c, I 3, I 3, .slice e.t2.B e.t2.p.length e.t2.d]) (.int .i64 k)).run Try.prog w' = .ok (.agg (Tr.row (e.ax k))) w' := fun w' => by
    obtain rfl | rfl | rfl : k = 0 ∨ k = 1 ∨ k = 2 := by omega
    all_goals kernel_rfl
   have RT : Hid (Rx True g wr (e.ax k)) := Lib.hid (by have := A.out.rx k hlt; rwa [TT.out.2 k (Nat.le_refl _)] at this)
   have HPr : Hid (∀ w', Rd w' (e.ax k).A (e.ax k).x → Rd w' (e.ax k).B (e.ax k).p → Rd w' Af [16777216, c.dt, 0, 0, 16777216, less, 0, 0, 16777216] → Rd w' Aq lq → Calls Try.prog 68 #[.agg (Tr.row (e.ax k)), .agg #[I 3, I 3, .slice Af 9 9], .agg #[I 3, I 3, .slice Aq 9 cq]] w' fun e w'' => ∃ Ax dx Ap dp, e = .returned (.tuple #[.agg #[I 3, I 1, .slice Ax 3 dx, I 3, I 3, .slice Ap (P k).length dp], .bool ((o1 k || o2 k) || o3 k), I 0]) ∧ Own w'' w'.heap.size (.slice Ax (X0 k).length dx) (X0 k) ∧ Own w'' w'.heap.size (.slice Ap (P k).length dp) (P k) ∧ (∀ q, (Value.slice Ax (X0 k).length dx).ownBlock = some q → (Value.slice Ap (P k).length dp).ownBlock ≠ some q) ∧ Below w'.heap.size w' w'') := Lib.hid (fun w' r1 r2 r3 r4 => by
    have hh := PR.CU 3 (e.ax k).A (e.ax k).B Af Aq (e.ax k).c (e.ax k).d 9 cq (e.ax k).x (e.ax k).p [16777216, c.dt, 0, 0, 16777216, less, 0, 0, 16777216] lq _ _ _ _ _ _ _ w' (by decide) (by decide) (HL.out k hlt).1 (HL.out k hlt).2 rfl HQ9.out (HT.out k hlt) r1 RT.out.xc r2 RT.out.pd r3 (Nat.le_refl _) r4 (by rw [HQ9.out]; exact QC.out)
    rw [HQ9.out] at hh
    have h3 := HX.out k hlt
    refine hh.mono ?_
    rintro e w'' ⟨Ax, dx, Ap, dp, rfl, hh⟩
    exact ⟨Ax, dx, Ap, dp, by rw [h3]; rfl, hh⟩)
   obtain ⟨tk, htk⟩ : ∃ tk, e.ax k = tk := ⟨_, rfl⟩
   rw [htk] at ix RT HPr
   obtain ⟨tA, tc, tx, tB, td, tp⟩ := tk
   have HTK := Lib.hid htk
   clear htk
   have hd : decide ((k : Int) < 3) = true := decide_eq_true (by omega)
   have cf := A.out.f.row.cell
   have cqq := A.out.q.row.cell
   have zf := A.out.f.row.lt
   have zq := A.out.q.row.lt
   go_wp2_with fail
   refine (HPr.out _ (RT.out.x.alloc _).rd (RT.out.p.alloc _).rd (A.out.rf.alloc _).rd (A.out.rq.alloc _).rd).mono ?_
   rintro r w1 ⟨Ax, dx, Ap, dp, rfl, ox, op, hne, hb⟩
   obtain ⟨bx, rfl, hbx⟩ := PR.Own.form ox (by rw [HX.out k hlt]; decide)
   have A1 := Lib.hid ((A.out.alloc _).below hb)
   have GX : Hid (wr.heap.size < bx ∧ g < bx ∧ g < wr.heap.size) := Lib.hid (by have h1 := A.out.work.row.lt; simp at hbx; omega)
   have M := Lib.hid ((((Sw.of A.out.work.row).alloc _).below hb).alloc (.cells #[.int .i64 3, .int .i64 1, .slice (some ⟨bx, 0, none⟩) 3 dx, .int .i64 3, .int .i64 3, .slice Ap (P k).length dp] 33))
   have TU := Lib.hid (Tb.jX 33 #[.int .i64 3, .int .i64 1, .slice (some ⟨bx, 0, none⟩) 3 dx, .int .i64 3, .int .i64 3, .slice Ap (P k).length dp] (((Sw.of A.out.work.row).alloc _).below hb))
   have OX := Lib.hid (Own.lower (base' := wr.heap.size) (KK.Own.alloc ox (.cells #[.int .i64 3, .int .i64 1, .slice (some ⟨bx, 0, none⟩) 3 dx, .int .i64 3, .int .i64 3, .slice Ap (P k).length dp] 33)) (by simp))
   have NU : Hid (bx < w1.heap.size) := Lib.hid (ox.row.lt bx rfl).2
   have RP := Lib.hid ((Rg.own (o := False) (g := g) op (by have h1 := GX.out; simp; omega)).alloc (.cells #[.int .i64 3, .int .i64 1, .slice (some ⟨bx, 0, none⟩) 3 dx, .int .i64 3, .int .i64 3, .slice Ap (P k).length dp] 33))
   have NP : Hid (∀ ad, Ap = some ad → ad.block ≠ bx) := Lib.hid (fun ad e h => by subst e; exact hne bx rfl (by rw [← h]; rfl))
   have CX : Hid ((X0 k).length ≤ dx ∧ (P k).length ≤ dp) := Lib.hid ⟨(PR.Own.rd ox).2, (PR.Own.rd op).2⟩
   clear ox op hne hb A1 cf cqq zf zq ix hbx HPr
   go_upto_region 7 with fail
   generalize (w1.alloc (.cells #[.int .i64 3, .int .i64 1, .slice (some ⟨bx, 0, none⟩) 3 dx, .int .i64 3, .int .i64 3, .slice Ap (P k).length dp] 33)) = wt at M TU OX RP ⊢
   generalize w1.heap.size = tu at TU NU ⊢
   have HPk := Lib.hid (HP.out k hlt)
   have HAk := Lib.hid (HA.out k hlt)
   have K7 : Hid (∀ w' e' bs', Row w' g 89 (wk c e' s (a 0) (a 1) (a 2)) → Row w' tu 33 #[.int .i64 3, .int .i64 1, .slice (some ⟨bx, 0, none⟩) 3 dx, .int .i64 3, .int .i64 3, .slice Ap (P k).length dp] → Own w' bs' (.slice (some ⟨bx, 0, none⟩) (X0 k).length dx) (X0 k) → (w'.cell? ⟨tu, 2, none⟩ = some (.slice (some ⟨bx, 0, none⟩) 3 dx) ∧ w'.cell? ⟨bx, 1, none⟩ = some (I ((X0 k).getD 1 0)) ∧ w'.cell? ⟨g, 48 + k, none⟩ = some (I (a k)) ∧ w'.cell? ⟨g, 0, none⟩ = some (I c.dt))) := Lib.hid (fun w' e' bs' R U O => by
    have hx3 := HX.out k hlt
    refine ⟨by rw [U.cell 2, ← hx3]; rfl, ?_, ?_, R.cell 0⟩
    · have := (PR.Own.rd O).1.flat 1 _ (by rw [List.getElem?_map, gX (show 1 < (X0 k).length by omega)]; rfl)
      simpa [Addr.add] using this
    · rw [R.cell]
      obtain rfl | rfl | rfl : k = 0 ∨ k = 1 ∨ k = 2 := by omega
      all_goals rfl)
   have k0 : (0 : Int) ≤ (k : Int) := by omega
   have k3 : (k : Int) < 3 := by omega
   go_cut [] (fun wc => Hid (Sw wr [] g (wk c { e with t0 := T 0, t1 := T 1, t2 := T 2, sat := (Pz (((e.sat || z0) || z1) || z2) bp ba o1 o2 o3 k || bp k) || ba k } s (a 0) (a 1) (a 2)) wc) ∧ Hid (Tb wr 0 tu 33 #[.int .i64 3, .int .i64 1, .slice (some ⟨bx, 0, none⟩) 3 dx, .int .i64 3, .int .i64 3, .slice Ap (P k).length dp] wc) ∧ Hid (Rg False g wc (some ⟨bx, 0, none⟩) ((X0 k).set 1 (y k)) ∧ Rg False g wc Ap (P k)))
   case first =>
    refine wE (S := fun w' => (w'.cell? ⟨tu, 2, none⟩ = some (.slice (some ⟨bx, 0, none⟩) 3 dx) ∧ w'.cell? ⟨bx, 1, none⟩ = some (I ((X0 k).getD 1 0)) ∧ w'.cell? ⟨g, 48 + k, none⟩ = some (I (a k)) ∧ w'.cell? ⟨g, 0, none⟩ = some (I c.dt))) 30 (by kernel_rfl) (K7.out _ _ _ M.out.drew.row TU.out.drew.row (OX.out.below (Below.refl _ _).drew)) (fun hHeld => ?_)
    have M' := Lib.hid M.out.drew
    have IJ := Lib.hid TU.out.drew
    have MJ := Lib.hid (OX.out.below (Below.refl _ _).drew)
    have MI := Lib.hid RP.out.drew
    clear M TU OX RP
    have M := M'
    have TU := IJ
    have OX := MJ
    have RP := MI
    clear M' IJ MJ MI
    refine Until.take (i := 0) (oi := _) (v := ?u1) rfl (by kernel_rfl) (by kernel_rfl) (by kernel_rfl) (by kernel_rfl) (by kernel_rfl) (fun _ _ _ h => h) (Or.inl ⟨by rfl, ?hu1⟩) hHeld ?_
    case hu1 =>
     intro w' hSw
     (try dsimp only at hSw)
     simp only [List.getElem_toArray, List.getElem_cons_succ, List.getElem_cons_zero]
     go_simp
     (try with_reducible rfl)
    change Until _ _ _ _ _ _ _ _ (Act.put _ (some 81) _) _
    simp only [Act.put, List.setIfInBounds_toArray, List.set_cons_zero, List.set_cons_succ]
    refine Until.take (i := 1) (oi := _) (v := ?u2) rfl (by kernel_rfl) (by kernel_rfl) (by kernel_rfl) (by kernel_rfl) (by kernel_rfl) (fun _ _ _ h => h) (Or.inl ⟨by rfl, ?hu2⟩) hHeld ?_
    case hu2 =>
     intro w' hSw
     (try dsimp only at hSw)
     simp only [List.getElem_toArray, List.getElem_cons_succ, List.getElem_cons_zero]
     go_simp
     (try with_reducible rfl)
    change Until _ _ _ _ _ _ _ _ (Act.put _ (some 82) _) _
    simp only [Act.put, List.setIfInBounds_toArray, List.set_cons_zero, List.set_cons_succ]
    refine Until.take (i := 2) (oi := _) (v := ?u3) rfl (by kernel_rfl) (by kernel_rfl) (by kernel_rfl) (by kernel_rfl) (by kernel_rfl) (fun _ _ _ h => h) (Or.inl ⟨by rfl, ?hu3⟩) hHeld ?_
    case hu3 =>
     intro w' hSw
     (try dsimp only at hSw)
     simp only [List.getElem_toArray, List.getElem_cons_succ, List.getElem_cons_zero]
     go_simp
     (try with_reducible rfl)
    change Until _ _ _ _ _ _ _ _ (Act.put _ (some 83) _) _
    simp only [Act.put, List.setIfInBounds_toArray, List.set_cons_zero, List.set_cons_succ]
    refine Until.take (i := 3) (oi := _) (v := ?u4) rfl (by kernel_rfl) (by kernel_rfl) (by kernel_rfl) (by kernel_rfl) (by kernel_rfl) (fun _ _ _ h => h) (Or.inl ⟨by rfl, ?hu4⟩) hHeld ?_
    case hu4 =>
     intro w' hSw
     (try dsimp only at hSw)
     simp only [List.getElem_toArray, List.getElem_cons_succ, List.getElem_cons_zero]
     go_simp
     (try with_reducible rfl)
    change Until _ _ _ _ _ _ _ _ (Act.put _ (some 84) _) _
    simp only [Act.put, List.setIfInBounds_toArray, List.set_cons_zero, List.set_cons_succ]
    refine Until.take (i := 4) (oi := _) (v := ?u5) rfl (by kernel_rfl) (by kernel_rfl) (by kernel_rfl) (by kernel_rfl) (by kernel_rfl) (fun _ _ _ h => h) (Or.inl ⟨by rfl, ?hu5⟩) hHeld ?_
    case hu5 =>
     intro w' hSw
     (try dsimp only at hSw)
     simp only [List.getElem_toArray, List.getElem_cons_succ, List.getElem_cons_zero]
     go_simp
     (try with_reducible rfl)
    change Until _ _ _ _ _ _ _ _ (Act.put _ (some 85) _) _
    simp only [Act.put, List.setIfInBounds_toArray, List.set_cons_zero, List.set_cons_succ]
    refine Until.take (i := 5) (oi := _) (v := ?u6) rfl (by kernel_rfl) (by kernel_rfl) (by kernel_rfl) (by kernel_rfl) (by kernel_rfl) (fun _ _ _ h => h) (Or.inl ⟨by rfl, ?hu6⟩) hHeld ?_
    case hu6 =>
     intro w' hSw
     (try dsimp only at hSw)
     simp only [List.getElem_toArray, List.getElem_cons_succ, List.getElem_cons_zero]
     go_simp
     (try with_reducible rfl)
    change Until _ _ _ _ _ _ _ _ (Act.put _ (some 86) _) _
    simp only [Act.put, List.setIfInBounds_toArray, List.set_cons_zero, List.set_cons_succ]
    refine Until.take (i := 6) (oi := _) (v := ?u7) rfl (by kernel_rfl) (by kernel_rfl) (by kernel_rfl) (by kernel_rfl) (by kernel_rfl) (fun _ _ _ h => h) (Or.inl ⟨by rfl, ?hu7⟩) hHeld ?_
    case hu7 =>
     intro w' hSw
     (try dsimp only at hSw)
     simp only [List.getElem_toArray, List.getElem_cons_succ, List.getElem_cons_zero]
     go_simp
     (try with_reducible rfl)
    change Until _ _ _ _ _ _ _ _ (Act.put _ (some 87) _) _
    simp only [Act.put, List.setIfInBounds_toArray, List.set_cons_zero, List.set_cons_succ]
    refine Until.take (i := 7) (oi := _) (v := ?u8) rfl (by kernel_rfl) (by kernel_rfl) (by kernel_rfl) (by kernel_rfl) (by kernel_rfl) (fun _ _ _ h => h) (Or.inl ⟨by rfl, ?hu8⟩) hHeld ?_
    case hu8 =>
     intro w' hSw
     (try dsimp only at hSw)
     simp only [List.getElem_toArray, List.getElem_cons_succ, List.getElem_cons_zero]
     go_simp
     (try with_reducible rfl)
    change Until _ _ _ _ _ _ _ _ (Act.put _ (some 88) _) _
    simp only [Act.put, List.setIfInBounds_toArray, List.set_cons_zero, List.set_cons_succ]
    refine Until.take (i := 8) (oi := _) (v := ?u9) rfl (by kernel_rfl) (by kernel_rfl) (by kernel_rfl) (by kernel_rfl) (by kernel_rfl) (fun _ _ _ h => h) (Or.inl ⟨by rfl, ?hu9⟩) hHeld ?_
    case hu9 =>
     intro w' hSw
     (try dsimp only at hSw)
     simp only [List.getElem_toArray, List.getElem_cons_succ, List.getElem_cons_zero]
     go_simp
     (try with_reducible rfl)
    change Until _ _ _ _ _ _ _ _ (Act.put _ (some 89) _) _
    simp only [Act.put, List.setIfInBounds_toArray, List.set_cons_zero, List.set_cons_succ]
    refine Until.take (i := 9) (oi := _) (v := ?u10) rfl (by kernel_rfl) (by kernel_rfl) (by kernel_rfl) (by kernel_rfl) (by kernel_rfl) (fun _ _ _ h => h) (Or.inl ⟨by rfl, ?V6⟩) hHeld ?_
    case V6 =>
     intro w' hSw
     (try dsimp only at hSw)
     simp only [List.getElem_toArray, List.getElem_cons_succ, List.getElem_cons_zero]
     go_simp
     (try with_reducible rfl)
    change Until _ _ _ _ _ _ _ _ (Act.put _ (some 90) _) _
    simp only [Act.put, List.setIfInBounds_toArray, List.set_cons_zero, List.set_cons_succ]
    refine Until.take (i := 10) (oi := _) (v := ?u11) rfl (by kernel_rfl) (by kernel_rfl) (by kernel_rfl) (by kernel_rfl) (by kernel_rfl) (fun _ _ _ h => h) (Or.inl ⟨by rfl, ?V5⟩) hHeld ?_
    case V5 =>
     intro w' hSw
     (try dsimp only at hSw)
     simp only [List.getElem_toArray, List.getElem_cons_succ, List.getElem_cons_zero]
     go_simp
     (try with_reducible rfl)
    change Until _ _ _ _ _ _ _ _ (Act.put _ (some 91) _) _
    simp only [Act.put, List.setIfInBounds_toArray, List.set_cons_zero, List.set_cons_succ]
    refine Until.take (i := 11) (oi := _) (v := ?u12) rfl (by kernel_rfl) (by kernel_rfl) (by kernel_rfl) (by kernel_rfl) (by kernel_rfl) (fun _ _ _ h => h) (Or.inl ⟨by rfl, ?VZ⟩) hHeld ?_
    case VZ =>
     intro w' hSw
     (try dsimp only at hSw)
     simp only [List.getElem_toArray, List.getElem_cons_succ, List.getElem_cons_zero]
     go_simp
     (try with_reducible rfl)
    change Until _ _ _ _ _ _ _ _ (Act.put _ (some 92) _) _
    simp only [Act.put, List.setIfInBounds_toArray, List.set_cons_zero, List.set_cons_succ]
    refine Until.take (i := 12) (oi := _) (v := ?u13) rfl (by kernel_rfl) (by kernel_rfl) (by kernel_rfl) (by kernel_rfl) (by kernel_rfl) (fun _ _ _ h => h) (Or.inl ⟨by rfl, ?adf⟩) hHeld ?_
    case adf =>
     intro w' hSw
     (try dsimp only at hSw)
     simp only [List.getElem_toArray, List.getElem_cons_succ, List.getElem_cons_zero]
     go_simp
     (try with_reducible rfl)
    change Until _ _ _ _ _ _ _ _ (Act.put _ (some 93) _) _
    simp only [Act.put, List.setIfInBounds_toArray, List.set_cons_zero, List.set_cons_succ]
    refine Until.take (i := 13) (oi := _) (v := ?u14) rfl (by kernel_rfl) (by kernel_rfl) (by kernel_rfl) (by kernel_rfl) (by kernel_rfl) (fun _ _ _ h => h) (Or.inl ⟨by rfl, ?ade⟩) hHeld ?_
    case ade =>
     intro w' hSw
     (try dsimp only at hSw)
     simp only [List.getElem_toArray, List.getElem_cons_succ, List.getElem_cons_zero]
     go_simp
     (try with_reducible rfl)
    change Until _ _ _ _ _ _ _ _ (Act.put _ (some 94) _) _
    simp only [Act.put, List.setIfInBounds_toArray, List.set_cons_zero, List.set_cons_succ]
    refine Until.take (i := 14) (oi := _) (v := ?u15) rfl (by kernel_rfl) (by kernel_rfl) (by kernel_rfl) (by kernel_rfl) (by kernel_rfl) (fun _ _ _ h => h) (Or.inl ⟨by rfl, ?adb⟩) hHeld ?_
    case adb =>
     intro w' hSw
     (try dsimp only at hSw)
     simp only [List.getElem_toArray, List.getElem_cons_succ, List.getElem_cons_zero]
     go_simp
     (try with_reducible rfl)
    change Until _ _ _ _ _ _ _ _ (Act.put _ (some 95) _) _
    simp only [Act.put, List.setIfInBounds_toArray, List.set_cons_zero, List.set_cons_succ]
    refine Until.take (i := 15) (oi := _) (v := ?u16) rfl (by kernel_rfl) (by kernel_rfl) (by kernel_rfl) (by kernel_rfl) (by kernel_rfl) (fun _ _ _ h => h) (Or.inl ⟨by rfl, ?ada⟩) hHeld ?_
    case ada =>
     intro w' hSw
     (try dsimp only at hSw)
     simp only [List.getElem_toArray, List.getElem_cons_succ, List.getElem_cons_zero]
     go_simp
     (try with_reducible rfl)
    change Until _ _ _ _ _ _ _ _ (Act.put _ (some 96) _) _
    simp only [Act.put, List.setIfInBounds_toArray, List.set_cons_zero, List.set_cons_succ]
    refine Until.take (i := 16) (oi := _) (v := ?u17) rfl (by kernel_rfl) (by kernel_rfl) (by kernel_rfl) (by kernel_rfl) (by kernel_rfl) (fun _ _ _ h => h) (Or.inl ⟨by rfl, ?ac_⟩) hHeld ?_
    case ac_ =>
     intro w' hSw
     (try dsimp only at hSw)
     simp only [List.getElem_toArray, List.getElem_cons_succ, List.getElem_cons_zero]
     go_simp
     (try with_reducible rfl)
    change Until _ _ _ _ _ _ _ _ (Act.put _ (some 97) _) _
    simp only [Act.put, List.setIfInBounds_toArray, List.set_cons_zero, List.set_cons_succ]
    refine Until.take (i := 17) (oi := _) (v := ?u18) rfl (by kernel_rfl) (by kernel_rfl) (by kernel_rfl) (by kernel_rfl) (by kernel_rfl) (fun _ _ _ h => h) (Or.inl ⟨by rfl, ?ac9⟩) hHeld ?_
    case ac9 =>
     intro w' hSw
     (try dsimp only at hSw)
     simp only [List.getElem_toArray, List.getElem_cons_succ, List.getElem_cons_zero]
     go_simp
     (try with_reducible rfl)
    change Until _ _ _ _ _ _ _ _ (Act.put _ (some 98) _) _
    simp only [Act.put, List.setIfInBounds_toArray, List.set_cons_zero, List.set_cons_succ]
    refine Until.take (i := 18) (oi := _) (v := ?u19) rfl (by kernel_rfl) (by kernel_rfl) (by kernel_rfl) (by kernel_rfl) (by kernel_rfl) (fun _ _ _ h => h) (Or.inl ⟨by rfl, ?ac8⟩) hHeld ?_
    case ac8 =>
     intro w' hSw
     (try dsimp only at hSw)
     simp only [List.getElem_toArray, List.getElem_cons_succ, List.getElem_cons_zero]
     go_simp
     (try with_reducible rfl)
    change Until _ _ _ _ _ _ _ _ (Act.put _ (some 99) _) _
    simp only [Act.put, List.setIfInBounds_toArray, List.set_cons_zero, List.set_cons_succ]
    refine Until.take (i := 19) (oi := _) (v := ?u20) rfl (by kernel_rfl) (by kernel_rfl) (by kernel_rfl) (by kernel_rfl) (by kernel_rfl) (fun _ _ _ h => h) (Or.inl ⟨by rfl, ?ac7⟩) hHeld ?_
    case ac7 =>
     intro w' hSw
     (try dsimp only at hSw)
     simp only [List.getElem_toArray, List.getElem_cons_succ, List.getElem_cons_zero]
     go_simp
     (try with_reducible rfl)
    change Until _ _ _ _ _ _ _ _ (Act.put _ (some 100) _) _
    simp only [Act.put, List.setIfInBounds_toArray, List.set_cons_zero, List.set_cons_succ]
    refine Until.take (i := 20) (oi := _) (v := ?u21) rfl (by kernel_rfl) (by kernel_rfl) (by kernel_rfl) (by kernel_rfl) (by kernel_rfl) (fun _ _ _ h => h) (Or.inl ⟨by rfl, ?hu21⟩) hHeld ?_
    case hu21 =>
     intro w' hSw
     (try dsimp only at hSw)
     simp only [List.getElem_toArray, List.getElem_cons_succ, List.getElem_cons_zero]
     go_simp
     (try with_reducible rfl)
    change Until _ _ _ _ _ _ _ _ (Act.put _ (some 101) _) _
    simp only [Act.put, List.setIfInBounds_toArray, List.set_cons_zero, List.set_cons_succ]
    refine Until.one (i := 21) (o := _) (by kernel_rfl) rfl (fun K hK => ?_)
    go_simp
    refine (HPk.out _).mono ?_
    rintro r wn ⟨rfl, hb⟩
    have M' := Lib.hid (M.out.below hb)
    have IJ := Lib.hid (TU.out.below hb)
    have MJ := Lib.hid (OX.out.below hb)
    have MI := Lib.hid (RP.out.below hb)
    clear hb M TU OX RP
    have M := M'
    have TU := IJ
    have OX := MJ
    have RP := MI
    clear M' IJ MJ MI
    go_wp2_with fail
    clear hHeld
    have hHeld := K7.out _ _ _ M.out.row TU.out.row OX.out
    refine hK.out _ _ (fun _ => hHeld) ?_
    clear hK K
    try simp only [Act.put, List.setIfInBounds_toArray, List.set_cons_zero, List.set_cons_succ]
    refine Until.take (i := 22) (oi := _) (v := ?u22) rfl (by kernel_rfl) (by kernel_rfl) (by kernel_rfl) (by kernel_rfl) (by kernel_rfl) (fun _ _ _ h => h) (Or.inl ⟨by rfl, ?ac6⟩) hHeld ?_
    case ac6 =>
     intro w' hSw
     (try dsimp only at hSw)
     simp only [List.getElem_toArray, List.getElem_cons_succ, List.getElem_cons_zero]
     go_simp
     (try with_reducible rfl)
    change Until _ _ _ _ _ _ _ _ (Act.put _ (some 103) _) _
    simp only [Act.put, List.setIfInBounds_toArray, List.set_cons_zero, List.set_cons_succ]
    refine Until.take (i := 23) (oi := _) (v := ?u23) rfl (by kernel_rfl) (by kernel_rfl) (by kernel_rfl) (by kernel_rfl) (by kernel_rfl) (fun _ _ _ h => h) (Or.inl ⟨by rfl, ?ac5⟩) hHeld ?_
    case ac5 =>
     intro w' hSw
     (try dsimp only at hSw)
     simp only [List.getElem_toArray, List.getElem_cons_succ, List.getElem_cons_zero]
     go_simp
     (try with_reducible rfl)
    change Until _ _ _ _ _ _ _ _ (Act.put _ (some 104) _) _
    simp only [Act.put, List.setIfInBounds_toArray, List.set_cons_zero, List.set_cons_succ]
    refine Until.one (i := 24) (o := _) (by kernel_rfl) rfl (fun K hK => ?_)
    go_simp
    refine (dK g c _ s _ _ _ _ _ _ M.out.row).mono ?_
    rintro r wn ⟨rfl, hw⟩
    have M' := Lib.hid (M.out.work hw)
    have IJ := Lib.hid (TU.out.work M.out.lt hw.gr)
    have MJ := Lib.hid (PR.Own.grown OX.out hw.gr (fun q e => by injection e with e; have := GX.out; omega))
    have MI := Lib.hid (RP.out.gr hw.gr)
    clear hw M TU OX RP
    have M := M'
    have TU := IJ
    have OX := MJ
    have RP := MI
    clear M' IJ MJ MI
    go_wp2_with fail
    clear hHeld
    have hHeld := K7.out _ _ _ M.out.row TU.out.row OX.out
    refine hK.out _ _ (fun _ => hHeld) ?_
    clear hK K
    try simp only [Act.put, List.setIfInBounds_toArray, List.set_cons_zero, List.set_cons_succ]
    refine Until.one (i := 25) (o := _) (by kernel_rfl) rfl (fun K hK => ?_)
    go_simp
    refine (HAk.out _).mono ?_
    rintro r wn ⟨rfl, hb⟩
    have M' := Lib.hid (M.out.below hb)
    have IJ := Lib.hid (TU.out.below hb)
    have MJ := Lib.hid (OX.out.below hb)
    have MI := Lib.hid (RP.out.below hb)
    clear hb M TU OX RP
    have M := M'
    have TU := IJ
    have OX := MJ
    have RP := MI
    clear M' IJ MJ MI
    go_wp2_with fail
    clear hHeld
    have hHeld := K7.out _ _ _ M.out.row TU.out.row OX.out
    refine hK.out _ _ (fun _ => hHeld) ?_
    clear hK K
    try simp only [Act.put, List.setIfInBounds_toArray, List.set_cons_zero, List.set_cons_succ]
    refine Until.take (i := 26) (oi := _) (v := ?u24) rfl (by kernel_rfl) (by kernel_rfl) (by kernel_rfl) (by kernel_rfl) (by kernel_rfl) (fun _ _ _ h => h) (Or.inl ⟨by rfl, ?VY⟩) hHeld ?_
    case VY =>
     intro w' hSw
     (try dsimp only at hSw)
     simp only [List.getElem_toArray, List.getElem_cons_succ, List.getElem_cons_zero]
     go_simp
     (try with_reducible rfl)
    change Until _ _ _ _ _ _ _ _ (Act.put _ (some 107) _) _
    simp only [Act.put, List.setIfInBounds_toArray, List.set_cons_zero, List.set_cons_succ]
    refine Until.take (i := 27) (oi := _) (v := ?u25) rfl (by kernel_rfl) (by kernel_rfl) (by kernel_rfl) (by kernel_rfl) (by kernel_rfl) (fun _ _ _ h => h) (Or.inl ⟨by rfl, ?ac4⟩) hHeld ?_
    case ac4 =>
     intro w' hSw
     (try dsimp only at hSw)
     simp only [List.getElem_toArray, List.getElem_cons_succ, List.getElem_cons_zero]
     go_simp
     (try with_reducible rfl)
    change Until _ _ _ _ _ _ _ _ (Act.put _ (some 108) _) _
    simp only [Act.put, List.setIfInBounds_toArray, List.set_cons_zero, List.set_cons_succ]
    refine Until.one (i := 28) (o := _) (by kernel_rfl) rfl (fun K hK => ?_)
    go_simp
    refine (dK g c _ s _ _ _ _ _ _ M.out.row).mono ?_
    rintro r wn ⟨rfl, hw⟩
    have M' := Lib.hid (M.out.work hw)
    have IJ := Lib.hid (TU.out.work M.out.lt hw.gr)
    have MJ := Lib.hid (PR.Own.grown OX.out hw.gr (fun q e => by injection e with e; have := GX.out; omega))
    have MI := Lib.hid (RP.out.gr hw.gr)
    clear hw M TU OX RP
    have M := M'
    have TU := IJ
    have OX := MJ
    have RP := MI
    clear M' IJ MJ MI
    go_wp2_with fail
    clear hHeld
    have hHeld := K7.out _ _ _ M.out.row TU.out.row OX.out
    refine hK.out _ _ (fun _ => hHeld) ?_
    clear hK K
    try simp only [Act.put, List.setIfInBounds_toArray, List.set_cons_zero, List.set_cons_succ]
    refine Until.take (i := 29) (oi := _) (v := ?u26) rfl (by kernel_rfl) (by kernel_rfl) (by kernel_rfl) (by kernel_rfl) (by kernel_rfl) (fun _ _ _ h => h) (Or.inl ⟨by rfl, ?ac3⟩) hHeld ?_
    case ac3 =>
     intro w' hSw
     (try dsimp only at hSw)
     simp only [List.getElem_toArray, List.getElem_cons_succ, List.getElem_cons_zero]
     go_simp
     (try with_reducible rfl)
    change Until _ _ _ _ _ _ _ _ (Act.put _ (some 110) _) _
    simp only [Act.put, List.setIfInBounds_toArray, List.set_cons_zero, List.set_cons_succ]
    have hfz : wn.frozen? ⟨bx, 1, none⟩ = false := World.ownsRow.frozenAt OX.out.row 1
    refine Until.one (i := 30) (o := _) (by kernel_rfl) rfl (fun K hK => ?_)
    go_simp
    refine hK.out _ _ (fun h => Bool.noConfusion (show true = false from h)) ?_
    clear hK K hHeld
    try simp only [Act.put, List.setIfInBounds_toArray, List.set_cons_zero, List.set_cons_succ]
    refine Until.done (by kernel_rfl) ?_ _
    refine NoPanic.normal ?_
    go_wp2_with fail
    go_meet
    refine ⟨Lib.hid (M.out.set' (p := ⟨bx, 1, none⟩) (by have := GX.out; simp; omega) _), Lib.hid ⟨TU.out.le, TU.out.row.far (p := ⟨bx, 1, none⟩) (by have := NU.out; simp; omega) _⟩, Lib.hid ⟨⟨?_, ?_⟩, RP.out.set NP.out _⟩⟩
    · have := Rd.put (PR.Own.rd OX.out).1 (j := 1) (by rw [HX.out k hlt]; decide) (y k)
      simpa using this
    · exact fun ad e => .inr (by injection e with e; subst e; have := GX.out; simp; omega)
   case rest =>
    clear M TU OX RP NP NU K7
    obtain ⟨M, TU, RR⟩ := hcut
    go_wp2_with fail
    refine (kP g c _ s _ _ _ _ _ M.out.row).mono ?_
    rintro r wn ⟨rfl, hw⟩
    have M' := Lib.hid (M.out.work hw)
    have IJ := Lib.hid (TU.out.work M.out.lt hw.gr)
    have RR' := Lib.hid (And.intro (RR.out.1.gr hw.gr) (RR.out.2.gr hw.gr))
    clear hw M TU RR
    have M := M'
    have TU := IJ
    have RR := RR'
    clear M' IJ RR'
    have A2 := Lib.hid (A.out.to M.out)
    clear A
    obtain ⟨q0, q1, q2, q3, q4, q5, h0, h1, h2, h3, h4, h5⟩ : ∃ q0 q1 q2 q3 q4 q5, wn.cell? ⟨g, 10 + k * 6, none⟩ = some q0 ∧ wn.cell? ⟨g, 10 + k * 6 + 1, none⟩ = some q1 ∧ wn.cell? ⟨g, 10 + k * 6 + 2, none⟩ = some q2 ∧ wn.cell? ⟨g, 10 + k * 6 + 3, none⟩ = some q3 ∧ wn.cell? ⟨g, 10 + k * 6 + 4, none⟩ = some q4 ∧ wn.cell? ⟨g, 10 + k * 6 + 5, none⟩ = some q5 := by
     obtain rfl | rfl | rfl : k = 0 ∨ k = 1 ∨ k = 2 := by omega
     all_goals exact ⟨_, _, _, _, _, _, M.out.row.cell _, M.out.row.cell _, M.out.row.cell _, M.out.row.cell _, M.out.row.cell _, M.out.row.cell _⟩
    have hfw := M.out.row.free
    have hz := M.out.row.lt
    have NT : Hid (tu ≠ g) := Lib.hid (by have h1 := TU.out.le; have h2 := GX.out; omega)
    have K9 : Hid (∀ w', Row w' tu 33 #[.int .i64 3, .int .i64 1, .slice (some ⟨bx, 0, none⟩) 3 dx, .int .i64 3, .int .i64 3, .slice Ap (P k).length dp] → (∀ o, w'.cell? ⟨tu, o, none⟩ = #[.int .i64 3, .int .i64 1, .slice (some ⟨bx, 0, none⟩) 3 dx, .int .i64 3, .int .i64 3, .slice Ap (P k).length dp][o]?)) := Lib.hid (fun w' U => U.cell)
    go_upto_region 9 with fail
    have k0 : (0 : Int) ≤ (k : Int) := by omega
    have k3 : (k : Int) < 3 := by omega
    go_region_held3 (fun w' => (∀ o, w'.cell? ⟨tu, o, none⟩ = #[.int .i64 3, .int .i64 1, .slice (some ⟨bx, 0, none⟩) 3 dx, .int .i64 3, .int .i64 3, .slice Ap (P k).length dp][o]?))
     (first | with_reducible exact K9.out _ TU.out.row | with_reducible exact K9.out _ TU.out.row.drew | with_reducible exact K9.out _ (Row.drew (Row.YM TU.out.row NT.out _ _ _ _ _ _)))
     (fail)
    have A3 := Lib.hid ((A2.out.ax k hlt ⟨some ⟨bx, 0, none⟩, dx, (X0 k).set 1 (y k), Ap, dp, P k⟩ 3 (by simpa using HX.out k hlt) ⟨RR.out.1.weak, by simpa using CX.out.1, RR.out.2.weak, CX.out.2⟩).drew)
    have NWk : Hid (Nw g (⟨some ⟨bx, 0, none⟩, dx, (X0 k).set 1 (y k), Ap, dp, P k⟩ : Tr)) := Lib.hid ⟨RR.out.1.beyond, RR.out.2.beyond⟩
    have T3 : Hid ((∀ j, j < k + 1 → ((fun j => if j = k then (⟨some ⟨bx, 0, none⟩, dx, (X0 k).set 1 (y k), Ap, dp, P k⟩ : Tr) else T j) j).x = (X0 j).set 1 (y j) ∧ ((fun j => if j = k then (⟨some ⟨bx, 0, none⟩, dx, (X0 k).set 1 (y k), Ap, dp, P k⟩ : Tr) else T j) j).p = P j ∧ Nw g ((fun j => if j = k then (⟨some ⟨bx, 0, none⟩, dx, (X0 k).set 1 (y k), Ap, dp, P k⟩ : Tr) else T j) j)) ∧ (∀ j, k + 1 ≤ j → (fun j => if j = k then (⟨some ⟨bx, 0, none⟩, dx, (X0 k).set 1 (y k), Ap, dp, P k⟩ : Tr) else T j) j = e.ax j)) := Lib.hid ⟨fun j hj => by
     by_cases e : j = k
     · subst e; exact ⟨by simp, by simp, by simpa using NWk.out⟩
     · simp only [if_neg e]; exact TT.out.1 j (by omega), fun j hj => by
     simp only [if_neg (show j ≠ k by omega)]; exact TT.out.2 j (by omega)⟩
    clear NWk A2 RR CX h0 h1 h2 h3 h4 h5 hfw hz NT K9 M TU TT
    go_wp2
    go_roundw
    case rel => exact ⟨k + 1, _, by omega, by go_num, T3, A3⟩
    case measure => simp [intOf]; omega
end Go.Proofs.Ytnijhjbcjeohhaa.EE

namespace Go.Proofs.Ytnijhjbcjeohhaa.PR
open Go.RowKit Go.Proofs.Ytnijhjbcjeohhaa.PQ Go.Proofs.af.aO Go.Proofs.af.aU Go.Proofs.af.aV Go.Proofs.Ytnijhjbcjeohhaa.KK
set_option linter.unusedVariables false
set_option linter.unusedSimpArgs false
theorem Rq (n : Nat) (A1 A2 A3 : Option Addr) (c1 c2 c3 : Nat) (lx lp lh : List Int) (z r gate y s q1 q2 : Int) (o f1 f2 : Bool) (w : World) (h1 : 1 ≤ n) (h8 : n ≤ 8) (hx : lx.length = n * 1) (hp : lp.length = n * n) (hh : lh.length = 1 * n)
 (rx : Rd w A1 lx) (cx : lx.length ≤ c1) (rp : Rd w A2 lp) (cp : lp.length ≤ c2) (rh : Rd w A3 lh) (ch : lh.length ≤ c3)
 (hm : PQ.dQ.f 1000 n 1 lx n n lp 1 n lh r = some 0) (hi : dJ.f false n 1 lx n n lp 1 n lh z r = some (y, s, o)) (h2 : iQ y y = (q1, f1)) (h3 : iQ gate s = (q2, f2)) (h4 : q1 > q2) :
 Calls Try.prog 105 #[.agg #[I n, I 1, .slice A1 lx.length c1, I n, I n, .slice A2 lp.length c2], .agg #[I 1, I n, .slice A3 lh.length c3], I z, I r, I gate] w fun e w' => e = .returned (.tuple #[.agg #[I n, I 1, .slice A1 lx.length c1, I n, I n, .slice A2 lp.length c2], .bool false, .bool (o || f1 || f2), I 0]) ∧ Below w.heap.size w w' := by
 have N : Hid (aX w [(33, #[I n, I 1, .slice A1 lx.length c1, I n, I n, .slice A2 lp.length c2]), (31, #[I 1, I n, .slice A3 lh.length c3]), (33, #[I 0, I 0, .slice none 0 0, I 0, I 0, .slice none 0 0])] (((w.alloc (.cells #[I n, I 1, .slice A1 lx.length c1, I n, I n, .slice A2 lp.length c2] 33)).alloc (.cells #[I 1, I n, .slice A3 lh.length c3] 31)).alloc (.cells #[I 0, I 0, .slice none 0 0, I 0, I 0, .slice none 0 0] 33))) := Lib.hid ((((aX.none w).push (by simp) _ _).push (by simp) _ _).push (by simp) _ _)
 have RX := Lib.hid rx
 have RP := Lib.hid rp
 have RH := Lib.hid rh
 have CX := Lib.hid cx
 have CP := Lib.hid cp
 have CH := Lib.hid ch
 have HM := Lib.hid hm
 have HI := Lib.hid hi
 have H2 := Lib.hid h2
 have H3 := Lib.hid h3
 have HT := Lib.hid (And.intro (And.intro h1 h8) (And.intro hx (And.intro hp hh)))
 have e4 : decide (q1 > q2) = true := decide_eq_true h4
 clear rx rp rh cx cp ch hm hi h1 h8 hx hp hh h2 h3 h4
 go_enter Try.func105, Try.ntmps105
 go_wp2_with fail
 refine (PQ.dQ.calls 1000 n 1 A1 c1 lx n n A2 c2 lp 1 n A3 c3 lh r 0 _ (RX.out.below N.out.be) CX.out (RP.out.below N.out.be) CP.out (RH.out.below N.out.be) CH.out HM.out).mono ?_
 rintro e w1 ⟨rfl, hb⟩
 have N1 := Lib.hid (N.out.below hb)
 have y0 := N1.out.r0.cell
 have y1 := N1.out.r1.cell
 have t0 := N1.out.r0.lt
 have t1 := N1.out.r1.lt
 clear hb N
 have G1 := Lib.hid (Row.new w1 158 #[.bool false])
 have N2 := Lib.hid (N1.out.alloc (.cells #[.bool false] 158))
 have GE : Hid (w.heap.size + 3 ≤ w1.heap.size) := Lib.hid (by have h := N1.out.rows.le N1.out.be.size; simpa using h)
 have FX : Hid (∀ ad, A1 = some ad → 0 < lx.length → ad.block ≠ w1.heap.size) := Lib.hid (fun ad e hp => by have h1 := Rd.blk RX.out ad e hp; have h2 := GE.out; omega)
 have FP : Hid (∀ ad, A2 = some ad → 0 < lp.length → ad.block ≠ w1.heap.size) := Lib.hid (fun ad e hp => by have h1 := Rd.blk RP.out ad e hp; have h2 := GE.out; omega)
 have FH : Hid (∀ ad, A3 = some ad → 0 < lh.length → ad.block ≠ w1.heap.size) := Lib.hid (fun ad e hp => by have h1 := Rd.blk RH.out ad e hp; have h2 := GE.out; omega)
 go_wp2_with fail
 refine (dJ.calls w1.heap.size false n 1 A1 c1 lx n n A2 c2 lp 1 n A3 c3 lh z r y s o w _ ⟨G1.out, by have h := GE.out; omega⟩ N2.out.be (RX.out.below N2.out.be) CX.out FX.out (RP.out.below N2.out.be) CP.out FP.out (RH.out.below N2.out.be) CH.out FH.out HI.out).mono ?_
 rintro e w2 ⟨rfl, hs, hb, hk⟩
 have R2 : Hid (Row w2 w1.heap.size 158 #[.bool o]) := Lib.hid hs.1
 have N3 := Lib.hid (N2.out.app (grown_of N2.out.be hb hk) (fun g e => by injection e with e; have h := GE.out; simp; omega))
 clear hs hb hk y0 y1 t0 t1
 go_wp2_with fail
 refine (fH y y w2).mono ?_
 rw [H2.out]
 rintro e w3 ⟨rfl, hb⟩
 have R3 := Lib.hid (Row.below R2.out hb R2.out.lt)
 have N4 := Lib.hid (N3.out.below hb)
 clear hb
 go_wp2_with fail
 refine (wK w1.heap.size o f1 q1 w3 R3.out).mono ?_
 rintro e w4 ⟨rfl, hr, hg⟩
 have R4 := Lib.hid hr
 have N5 := Lib.hid (N4.out.app hg (fun g e => by injection e with e; have h := GE.out; simp; omega))
 clear hr hg
 go_wp2_with fail
 refine (fH gate s w4).mono ?_
 rw [H3.out]
 rintro e w5 ⟨rfl, hb⟩
 have R5 := Lib.hid (Row.below R4.out hb R4.out.lt)
 have N6 := Lib.hid (N5.out.below hb)
 clear hb
 go_wp2_with fail
 refine (wK w1.heap.size (o || f1) f2 q2 w5 R5.out).mono ?_
 rintro e w6 ⟨rfl, hr, hg⟩
 have R6 := Lib.hid hr
 have N7 := Lib.hid (N6.out.app hg (fun g e => by injection e with e; have h := GE.out; simp; omega))
 clear hr hg
 have y0 := N7.out.r0.cell
 have x2 := N7.out.r2.cell
 have g2 := N7.out.r2.free
 have KS : Hid (∀ w', Row w' w.heap.size 33 #[I n, I 1, .slice A1 lx.length c1, I n, I n, .slice A2 lp.length c2] → Row w' w1.heap.size 158 #[.bool (o || f1 || f2)] → (∀ o, w'.cell? ⟨w.heap.size, o, none⟩ = #[I n, I 1, .slice A1 lx.length c1, I n, I n, .slice A2 lp.length c2][o]?) ∧ (∀ o', w'.cell? ⟨w1.heap.size, o', none⟩ = #[.bool (o || f1 || f2)][o']?)) := Lib.hid (fun w' a b => ⟨a.cell, b.cell⟩)
 have T7 := Lib.hid N7.out.r0
 obtain ⟨fl, hfl⟩ : ∃ fl, (o || f1 || f2) = fl := ⟨_, rfl⟩
 have Xz := Lib.hid hfl
 rw [hfl] at KS R6
 clear hfl
 have BE : Hid (w.heap.size + 3 ≤ w6.heap.size) := Lib.hid (by have h := N7.out.rows.le N7.out.be.size; simpa using h)
 go_wp2_with fail
 go_region_held3 (fun w' => (∀ o, w'.cell? ⟨w.heap.size, o, none⟩ = #[I n, I 1, .slice A1 lx.length c1, I n, I n, .slice A2 lp.length c2][o]?) ∧ (∀ o, w'.cell? ⟨w1.heap.size, o, none⟩ = #[.bool fl][o]?))
  (first | with_reducible exact KS.out _ T7.out.drew R6.out.drew | with_reducible exact KS.out _ (Row.drew (Row.rU T7.out (C := w.heap.size + 1 + 1) (by omega) _ _ _ _ _ _)) (Row.drew (Row.rU R6.out (C := w.heap.size + 1 + 1) (by have h := GE.out; omega) _ _ _ _ _ _)))
  (fail)
 go_wp2
 refine bodyPost_ret (Ef rfl rfl (Row.drew (Row.eY N7.out.r2 _ _ _ _ _ _))) rfl ?_
 rw [Xz.out]
 refine ⟨rfl, ?_⟩
 have hbb := N7.out.be
 exact (Below.eY hbb (by omega) _ _ _ _ _ _).drew
theorem Rt (n : Nat) (A1 A2 A3 : Option Addr) (c1 c2 c3 : Nat) (lx lp lh : List Int) (z r gate y s q1 q2 : Int) (o f1 f2 : Bool) (w : World) (h1 : 1 ≤ n) (h8 : n ≤ 8) (hx : lx.length = n * 1) (hp : lp.length = n * n) (hh : lh.length = 1 * n)
 (rx : Rd w A1 lx) (cx : lx.length ≤ c1) (rp : Rd w A2 lp) (cp : lp.length ≤ c2) (rh : Rd w A3 lh) (ch : lh.length ≤ c3)
 (hm : PQ.dQ.f 1000 n 1 lx n n lp 1 n lh r = some 0) (hi : dJ.f false n 1 lx n n lp 1 n lh z r = some (y, s, o)) (h2 : iQ y y = (q1, f1)) (h3 : iQ gate s = (q2, f2)) (h4 : ¬ q1 > q2) (h5 : s ≤ 0) :
 Calls Try.prog 105 #[.agg #[I n, I 1, .slice A1 lx.length c1, I n, I n, .slice A2 lp.length c2], .agg #[I 1, I n, .slice A3 lh.length c3], I z, I r, I gate] w fun e w' => e = .returned (.tuple #[.agg #[I n, I 1, .slice A1 lx.length c1, I n, I n, .slice A2 lp.length c2], .bool false, .bool (o || f1 || f2), I 0]) ∧ Below w.heap.size w w' := by
 have N : Hid (aX w [(33, #[I n, I 1, .slice A1 lx.length c1, I n, I n, .slice A2 lp.length c2]), (31, #[I 1, I n, .slice A3 lh.length c3]), (33, #[I 0, I 0, .slice none 0 0, I 0, I 0, .slice none 0 0])] (((w.alloc (.cells #[I n, I 1, .slice A1 lx.length c1, I n, I n, .slice A2 lp.length c2] 33)).alloc (.cells #[I 1, I n, .slice A3 lh.length c3] 31)).alloc (.cells #[I 0, I 0, .slice none 0 0, I 0, I 0, .slice none 0 0] 33))) := Lib.hid ((((aX.none w).push (by simp) _ _).push (by simp) _ _).push (by simp) _ _)
 have RX := Lib.hid rx
 have RP := Lib.hid rp
 have RH := Lib.hid rh
 have CX := Lib.hid cx
 have CP := Lib.hid cp
 have CH := Lib.hid ch
 have HM := Lib.hid hm
 have HI := Lib.hid hi
 have H2 := Lib.hid h2
 have H3 := Lib.hid h3
 have HT := Lib.hid (And.intro (And.intro h1 h8) (And.intro hx (And.intro hp hh)))
 have e4 : decide (q1 > q2) = false := decide_eq_false h4
 have e5 : decide (s ≤ 0) = true := decide_eq_true h5
 clear rx rp rh cx cp ch hm hi h1 h8 hx hp hh h2 h3 h4 h5
 go_enter Try.func105, Try.ntmps105
 go_wp2_with fail
 refine (PQ.dQ.calls 1000 n 1 A1 c1 lx n n A2 c2 lp 1 n A3 c3 lh r 0 _ (RX.out.below N.out.be) CX.out (RP.out.below N.out.be) CP.out (RH.out.below N.out.be) CH.out HM.out).mono ?_
 rintro e w1 ⟨rfl, hb⟩
 have N1 := Lib.hid (N.out.below hb)
 have y0 := N1.out.r0.cell
 have y1 := N1.out.r1.cell
 have t0 := N1.out.r0.lt
 have t1 := N1.out.r1.lt
 clear hb N
 have G1 := Lib.hid (Row.new w1 158 #[.bool false])
 have N2 := Lib.hid (N1.out.alloc (.cells #[.bool false] 158))
 have GE : Hid (w.heap.size + 3 ≤ w1.heap.size) := Lib.hid (by have h := N1.out.rows.le N1.out.be.size; simpa using h)
 have FX : Hid (∀ ad, A1 = some ad → 0 < lx.length → ad.block ≠ w1.heap.size) := Lib.hid (fun ad e hp => by have h1 := Rd.blk RX.out ad e hp; have h2 := GE.out; omega)
 have FP : Hid (∀ ad, A2 = some ad → 0 < lp.length → ad.block ≠ w1.heap.size) := Lib.hid (fun ad e hp => by have h1 := Rd.blk RP.out ad e hp; have h2 := GE.out; omega)
 have FH : Hid (∀ ad, A3 = some ad → 0 < lh.length → ad.block ≠ w1.heap.size) := Lib.hid (fun ad e hp => by have h1 := Rd.blk RH.out ad e hp; have h2 := GE.out; omega)
 go_wp2_with fail
 refine (dJ.calls w1.heap.size false n 1 A1 c1 lx n n A2 c2 lp 1 n A3 c3 lh z r y s o w _ ⟨G1.out, by have h := GE.out; omega⟩ N2.out.be (RX.out.below N2.out.be) CX.out FX.out (RP.out.below N2.out.be) CP.out FP.out (RH.out.below N2.out.be) CH.out FH.out HI.out).mono ?_
 rintro e w2 ⟨rfl, hs, hb, hk⟩
 have R2 : Hid (Row w2 w1.heap.size 158 #[.bool o]) := Lib.hid hs.1
 have N3 := Lib.hid (N2.out.app (grown_of N2.out.be hb hk) (fun g e => by injection e with e; have h := GE.out; simp; omega))
 clear hs hb hk y0 y1 t0 t1
 go_wp2_with fail
 refine (fH y y w2).mono ?_
 rw [H2.out]
 rintro e w3 ⟨rfl, hb⟩
 have R3 := Lib.hid (Row.below R2.out hb R2.out.lt)
 have N4 := Lib.hid (N3.out.below hb)
 clear hb
 go_wp2_with fail
 refine (wK w1.heap.size o f1 q1 w3 R3.out).mono ?_
 rintro e w4 ⟨rfl, hr, hg⟩
 have R4 := Lib.hid hr
 have N5 := Lib.hid (N4.out.app hg (fun g e => by injection e with e; have h := GE.out; simp; omega))
 clear hr hg
 go_wp2_with fail
 refine (fH gate s w4).mono ?_
 rw [H3.out]
 rintro e w5 ⟨rfl, hb⟩
 have R5 := Lib.hid (Row.below R4.out hb R4.out.lt)
 have N6 := Lib.hid (N5.out.below hb)
 clear hb
 go_wp2_with fail
 refine (wK w1.heap.size (o || f1) f2 q2 w5 R5.out).mono ?_
 rintro e w6 ⟨rfl, hr, hg⟩
 have R6 := Lib.hid hr
 have N7 := Lib.hid (N6.out.app hg (fun g e => by injection e with e; have h := GE.out; simp; omega))
 clear hr hg
 have y0 := N7.out.r0.cell
 have x2 := N7.out.r2.cell
 have g2 := N7.out.r2.free
 have KS : Hid (∀ w', Row w' w.heap.size 33 #[I n, I 1, .slice A1 lx.length c1, I n, I n, .slice A2 lp.length c2] → Row w' w1.heap.size 158 #[.bool (o || f1 || f2)] → (∀ o, w'.cell? ⟨w.heap.size, o, none⟩ = #[I n, I 1, .slice A1 lx.length c1, I n, I n, .slice A2 lp.length c2][o]?) ∧ (∀ o', w'.cell? ⟨w1.heap.size, o', none⟩ = #[.bool (o || f1 || f2)][o']?)) := Lib.hid (fun w' a b => ⟨a.cell, b.cell⟩)
 have T7 := Lib.hid N7.out.r0
 obtain ⟨fl, hfl⟩ : ∃ fl, (o || f1 || f2) = fl := ⟨_, rfl⟩
 have Xz := Lib.hid hfl
 rw [hfl] at KS R6
 clear hfl
 have BE : Hid (w.heap.size + 3 ≤ w6.heap.size) := Lib.hid (by have h := N7.out.rows.le N7.out.be.size; simpa using h)
 go_wp2_with fail
 go_region_held3 (fun w' => (∀ o, w'.cell? ⟨w.heap.size, o, none⟩ = #[I n, I 1, .slice A1 lx.length c1, I n, I n, .slice A2 lp.length c2][o]?) ∧ (∀ o, w'.cell? ⟨w1.heap.size, o, none⟩ = #[.bool fl][o]?))
  (first | with_reducible exact KS.out _ T7.out.drew R6.out.drew | with_reducible exact KS.out _ (Row.drew (Row.rU T7.out (C := w.heap.size + 1 + 1) (by omega) _ _ _ _ _ _)) (Row.drew (Row.rU R6.out (C := w.heap.size + 1 + 1) (by have h := GE.out; omega) _ _ _ _ _ _)))
  (fail)
 go_wp2
 refine bodyPost_ret (Ef rfl rfl (Row.drew (Row.eY N7.out.r2 _ _ _ _ _ _))) rfl ?_
 rw [Xz.out]
 refine ⟨rfl, ?_⟩
 have hbb := N7.out.be
 exact (Below.eY hbb (by omega) _ _ _ _ _ _).drew
end Go.Proofs.Ytnijhjbcjeohhaa.PR

namespace Go.Proofs.Ytnijhjbcjeohhaa.PR
open Go.RowKit Go.Proofs.Ytnijhjbcjeohhaa.PQ Go.Proofs.af.aO Go.Proofs.af.aU Go.Proofs.af.aV Go.Proofs.Ytnijhjbcjeohhaa.KK
set_option linter.unusedVariables false
set_option linter.unusedSimpArgs false
theorem VS (a : Int) : eF.f a = some (!kR a) := by
 rw [Yv]
 unfold kR
 congr 1
 by_cases h1 : a < -70368744177664
 · simp [h1]
   try omega
 · by_cases h2 : a > 70368744177663
   · simp [h1, h2]
     try omega
   · simp [h1, h2]
     try omega
theorem QF {l : List Int} {j : Nat} (h : j < l.length) : (l.drop j).any kR = (kR (l.getD j 0) || (l.drop (j + 1)).any kR) := by
 rw [List.drop_eq_getElem_cons h, List.any_cons]
 congr 2
 rw [List.getD_eq_getElem?_getD, List.getElem?_eq_getElem h]; rfl
theorem CJ (r c : Int) (l : List Int) (hl : l.length ≤ 1000000) : ∀ (d j : Nat), j + d = l.length → aA.l0 (d + 1) j r c l = some (!(l.drop j).any kR) := by
 intro d
 induction d with
 | zero =>
   intro j hj
   obtain rfl : j = l.length := by omega
   unfold aA.l0
   rw [if_neg (by omega)]
   simp
 | succ d ih =>
   intro j hj
   have hlt : j < l.length := by omega
   have e1 : wrap64 ((j : Int) + 1) = ((j + 1 : Nat) : Int) := by rw [Gq (by omega) (by omega)]; push_cast; rfl
   have e2 : rd l (j : Int) = l.getD j 0 := by unfold rd; rw [Int.toNat_natCast]
   unfold aA.l0
   rw [if_pos (by omega), if_pos (by omega), e2, VS, QF hlt]
   simp only [Option.bind_some]
   cases ho : kR (l.getD j 0)
   · simp only [Bool.not_false, if_true, e1, ih (j + 1) (by omega), Bool.false_or]
   · simp
theorem GR (r c : Int) (l : List Int) : ∃ k, aA.f k r c l = some (iH r c l) := by
 unfold aA.f iH
 by_cases h0 : r < 1
 · exact ⟨1, by rw [if_pos h0]; unfold aA.j0; (try simp); (try omega)⟩
 simp only [if_neg h0]
 by_cases h1 : r > 8
 · exact ⟨1, by rw [if_pos h1]; unfold aA.j0; (try simp); (try omega)⟩
 simp only [if_neg h1]
 by_cases h2 : c < 1
 · exact ⟨1, by rw [if_pos h2]; unfold aA.j0; (try simp); (try omega)⟩
 simp only [if_neg h2]
 by_cases h3 : c > 8
 · exact ⟨1, by rw [if_pos h3]; unfold aA.j0; (try simp); (try omega)⟩
 simp only [if_neg h3]
 by_cases h4 : (l.length : Int) = wrap64 (r * c)
 · have b0 : 0 ≤ r * c := Int.mul_nonneg (by omega) (by omega)
   have b1 : r * c ≤ 8 * c := Int.mul_le_mul_of_nonneg_right (by omega) (by omega)
   have hl : l.length ≤ 1000000 := by
    rw [Gq (by omega) (by omega)] at h4
    omega
   refine ⟨l.length + 2, ?_⟩
   have e : ((l.length : Int) != wrap64 (r * c)) = false := by simp [h4]
   unfold aA.j0
   rw [e]
   simp only [Bool.false_eq_true, if_false]
   have := CJ r c l hl l.length 0 (by omega)
   simp only [List.drop_zero] at this
   rw [show ((0 : Nat) : Int) = 0 from rfl] at this
   rw [this]
   have d0 : decide (r ≥ 1) = true := decide_eq_true (by omega)
   have d1 : decide (r ≤ 8) = true := decide_eq_true (by omega)
   have d2 : decide (c ≥ 1) = true := decide_eq_true (by omega)
   have d3 : decide (c ≤ 8) = true := decide_eq_true (by omega)
   have d4 : ((l.length : Int) == wrap64 (r * c)) = true := by simpa using h4
   simp [d0, d1, d2, d3, d4]
 · refine ⟨1, ?_⟩
   have e : ((l.length : Int) != wrap64 (r * c)) = true := by simpa using h4
   have e2 : ((l.length : Int) == wrap64 (r * c)) = false := by simpa using h4
   unfold aA.j0
   simp [e, e2]
end Go.Proofs.Ytnijhjbcjeohhaa.PR

namespace Go.Proofs.Ytnijhjbcjeohhaa.PR
open Go.RowKit Go.Proofs.Ytnijhjbcjeohhaa.PQ Go.Proofs.af.aO Go.Proofs.af.aU Go.Proofs.af.aV Go.Proofs.Ytnijhjbcjeohhaa.KK
set_option linter.unusedVariables false
set_option linter.unusedSimpArgs false
def hv (a : Int) : Int := if a % 2 = 0 then a / 2 else if a / 2 % 2 = 0 then a / 2 else a / 2 + 1
def fl (N : Nat) (Q : Nat → Int) : List Int := (List.range N).map Q
variable {N j c : Nat} {Q Q' : Nat → Int} {q : Nat → Nat → Int} {x : Int}
theorem l_ : (fl N Q).length = N := by simp [fl]
theorem xe (h : j < N) : (fl N Q).getD j 0 = Q j := by simp [fl, List.getD_eq_getElem?_getD, h]
theorem Qk {l : List Int} (hl : l.length = N) (h : ∀ j, j < N → l.getD j 0 = Q j) : l = fl N Q := by
 apply List.ext_getElem?
 intro j
 by_cases hj : j < N
 · have h1 := h j hj
   rw [List.getD_eq_getElem?_getD, List.getElem?_eq_getElem (by omega)] at h1
   rw [List.getElem?_eq_getElem (by omega), List.getElem?_eq_getElem (by rw [l_]; exact hj)]
   simp only [Option.getD_some] at h1
   rw [h1]
   simp [fl]
 · rw [List.getElem?_eq_none (by omega), List.getElem?_eq_none (by rw [l_]; omega)]
theorem dv {n i k : Nat} (hk : k < n) : (i * n + k) / n = i := by
 rw [Nat.mul_comm, Nat.mul_add_div (by omega), Nat.div_eq_of_lt hk, Nat.add_zero]
theorem md {n i k : Nat} (hk : k < n) : (i * n + k) % n = k := by
 rw [Nat.mul_comm, Nat.mul_add_mod, Nat.mod_eq_of_lt hk]
theorem KW : ∀ r, upto c q r = fl (r * c) (fun j => q (j / c) (j % c)) := by
 intro r
 induction r with
 | zero => simp [upto, fl]
 | succ r ih =>
   rw [upto_succ, ih]
   refine Qk (by simp [l_, Nat.succ_mul]) (fun j hj => ?_)
   rw [Nat.succ_mul] at hj
   by_cases h : j < r * c
   · rw [List.getD_eq_getElem?_getD, List.getElem?_append_left (by rw [l_]; exact h), ← List.getD_eq_getElem?_getD, xe h]
   · obtain ⟨k, rfl⟩ : ∃ k, j = r * c + k := ⟨j - r * c, by omega⟩
     have hk : k < c := by omega
     rw [List.getD_eq_getElem?_getD, List.getElem?_append_right (by rw [l_]; omega), l_, Nat.add_sub_cancel_left, dv hk, md hk]
     simp [hk]
end Go.Proofs.Ytnijhjbcjeohhaa.PR

namespace Go.Proofs.Ytnijhjbcjeohhaa.PR
open Go.RowKit Go.Proofs.Ytnijhjbcjeohhaa.PQ Go.Proofs.af.aO Go.Proofs.af.aU Go.Proofs.af.aV Go.Proofs.Ytnijhjbcjeohhaa.KK
set_option linter.unusedVariables false
set_option linter.unusedSimpArgs false
def ac (n m : Nat) : Nat := (m % n) * n + m / n
def VU (l : List Int) : Prop := ∀ j, -70368744177664 ≤ l.getD j 0 ∧ l.getD j 0 ≤ 70368744177663
theorem sq8 {n : Nat} (h : n ≤ 8) : n * n ≤ 64 := Nat.mul_le_mul h h
theorem yh {n i j : Nat} (h8 : n ≤ 8) (hi : i < n) (hj : j < n) : wrap64 (wrap64 ((i : Int) * (n : Int)) + (j : Int)) = ((i * n + j : Nat) : Int) := by
 have h1 := jE (c := n) hi hj
 have h2 := sq8 h8
 have e : (i : Int) * (n : Int) = ((i * n : Nat) : Int) := by push_cast; rfl
 rw [e, Gq (n := ((i * n : Nat) : Int)) (by omega) (by omega), Gq (by omega) (by omega)]
 push_cast; rfl
theorem I_ {i : Nat} (h : i ≤ 1000000) : wrap64 ((i : Int) + 1) = ((i + 1 : Nat) : Int) := by rw [Gq (by omega) (by omega)]; push_cast; rfl
theorem xO {l : List Int} {j : Nat} : rd l (j : Int) = l.getD j 0 := by unfold rd; rw [Int.toNat_natCast]
end Go.Proofs.Ytnijhjbcjeohhaa.PR

namespace Go.Proofs.Ytnijhjbcjeohhaa.PR
open Go.RowKit Go.Proofs.Ytnijhjbcjeohhaa.PQ Go.Proofs.af.aO Go.Proofs.af.aU Go.Proofs.af.aV Go.Proofs.Ytnijhjbcjeohhaa.KK
set_option linter.unusedVariables false
set_option linter.unusedSimpArgs false
theorem Zf {n m : Nat} (h : m < n * n) : ac n m < n * n := by
 have h0 : 0 < n := by rcases Nat.eq_zero_or_pos n with e | e; (subst e; omega); exact e
 exact jE (c := n) (Nat.mod_lt m h0) (Nat.div_lt_of_lt_mul h)
theorem Vz (n : Nat) (l : List Int) : yX n n l = fl (n * n) (fun m => l.getD (ac n m) 0) := KW n
theorem Md {n m : Nat} (h : m < n * n) (e : m / n = m % n) : ac n m = m := by
 unfold ac
 rw [← e]
 have := Nat.div_add_mod m n
 rw [← e, Nat.mul_comm] at this
 exact this
theorem Zg {n m : Nat} (h : m < n * n) : (ac n m / n = ac n m % n) ↔ m / n = m % n := by
 have h1 : m / n < n := Nat.div_lt_of_lt_mul h
 unfold ac
 rw [dv h1, md h1]
 exact eq_comm
theorem VT {N : Nat} {Q : Nat → Int} (h : ∀ m, m < N → -70368744177664 ≤ Q m ∧ Q m ≤ 70368744177663) : VU (fl N Q) := fun j => by
 by_cases hj : j < N
 · rw [xe hj]; exact h j hj
 · rw [List.getD_eq_getElem?_getD, List.getElem?_eq_none (by rw [l_]; omega)]
   simp
def Dx (n : Nat) (l : List Int) : Prop := ∀ m, m < n * n → l.getD m 0 = l.getD (ac n m) 0 ∧ (m / n = m % n → 0 ≤ l.getD m 0)
end Go.Proofs.Ytnijhjbcjeohhaa.PR

namespace Go.Proofs.Ytnijhjbcjeohhaa.PR
open Go.RowKit Go.Proofs.Ytnijhjbcjeohhaa.PQ Go.Proofs.af.aO Go.Proofs.af.aU Go.Proofs.af.aV Go.Proofs.Ytnijhjbcjeohhaa.KK
set_option linter.unusedVariables false
set_option linter.unusedSimpArgs false
instance XU (n : Nat) (l : List Int) : Decidable (Dx n l) := by unfold Dx; infer_instance
def rowP (n : Nat) (l : List Int) (a : Nat) : Prop := 0 ≤ l.getD (a * n + a) 0 ∧ ∀ b, b < a → l.getD (a * n + b) 0 = l.getD (b * n + a) 0
instance Yf (n : Nat) (l : List Int) (a : Nat) : Decidable (rowP n l a) := by unfold rowP; infer_instance
theorem xX (n : Nat) (l : List Int) : Dx n l ↔ ∀ a, a < n → rowP n l a := by
 constructor
 · intro h a ha
   refine ⟨(h _ (jE (c := n) ha ha)).2 (by rw [dv ha, md ha]), fun b hb => ?_⟩
   have := (h _ (jE (c := n) ha (by omega : b < n))).1
   unfold ac at this
   rw [dv (by omega), md (by omega)] at this
   exact this
 · intro h m hm
   have h0 : 0 < n := by rcases Nat.eq_zero_or_pos n with e | e; (subst e; omega); exact e
   have ha : m / n < n := Nat.div_lt_of_lt_mul hm
   have hb : m % n < n := Nat.mod_lt m h0
   have e : m / n * n + m % n = m := by rw [Nat.mul_comm]; exact Nat.div_add_mod m n
   refine ⟨?_, fun d => ?_⟩
   · rcases Nat.lt_trichotomy (m / n) (m % n) with c | c | c
     · have := (h _ hb).2 _ c
       rw [e] at this
       exact this.symm
     · rw [Md hm c]
     · have := (h _ ha).2 _ c
       rw [e] at this
       exact this
   · have := (h _ ha).1
     rwa [show m / n * n + m / n = m by rw [← d] at e; exact e] at this
def rG (n : Nat) (l : List Int) (i : Nat) : Prop := ∀ a, a < n → i ≤ a → rowP n l a
instance XT (n : Nat) (l : List Int) (a : Nat) : Decidable (rG n l a) := by unfold rG; infer_instance
theorem Oo (n : Nat) (l : List Int) : rG n l n := fun a h h' => by omega
theorem uD {n : Nat} {l : List Int} {i : Nat} (hi : i < n) : rG n l i ↔ rowP n l i ∧ rG n l (i + 1) := by
 constructor
 · exact fun h => ⟨h i hi (Nat.le_refl _), fun a h1 h2 => h a h1 (by omega)⟩
 · rintro ⟨h1, h2⟩ a ha hia
   rcases Nat.eq_or_lt_of_le hia with e | e
   · exact e ▸ h1
   · exact h2 a ha e
theorem oD {g : Nat → Option Bool} {P : Prop} [Decidable P] (h : ¬ P) (k : Ev g false) : Ev g (decide P) := by rw [decide_eq_false h]; exact k
theorem F7 {g : Nat → Option Bool} {P P' : Prop} [Decidable P] [Decidable P'] (h : P ↔ P') (k : Ev g (decide P)) : Ev g (decide P') := by
 have : decide P = decide P' := by simp [h]
 rw [← this]; exact k
theorem CG (n : Nat) (r c : Int) (x : List Int) (r' c' : Int) (l : List Int) (h8 : n ≤ 8) (hl : l.length = n * n) (i : Nat) (hi : i < n)
 (next : Ev (fun k => aI.l0 k n ((i + 1 : Nat) : Int) r c x r' c' l) (decide (rG n l (i + 1)))) :
 ∀ (d j : Nat), j + d = i → Ev (fun k => aI.l1 k n i j r c x r' c' l) (decide ((∀ b, b < i → j ≤ b → l.getD (i * n + b) 0 = l.getD (b * n + i) 0) ∧ rG n l (i + 1))) := by
 intro d
 induction d with
 | zero =>
   intro j hj
   obtain rfl : j = i := by omega
   refine F7 (P := rG n l (j + 1)) ⟨fun h => ⟨fun b h1 h2 => by omega, h⟩, fun h => h.2⟩ ?_
   refine Ev.step (fun k => ?_) next
   conv => lhs; unfold aI.l1
   rw [if_neg (by omega), I_ (by omega)]
 | succ d ih =>
   intro j hj
   have hji : j < i := by omega
   have h1 := jE (c := n) hi (by omega : j < n)
   have h2 := jE (c := n) (by omega : j < n) hi
   by_cases hx : l.getD (i * n + j) 0 = l.getD (j * n + i) 0
   · refine F7 (P := (∀ b, b < i → j + 1 ≤ b → l.getD (i * n + b) 0 = l.getD (b * n + i) 0) ∧ rG n l (i + 1)) ⟨fun h => ⟨fun b h1 h2 => ?_, h.2⟩, fun h => ⟨fun b h1 h2 => h.1 b h1 (by omega), h.2⟩⟩ ?_
     · rcases Nat.eq_or_lt_of_le h2 with e | e
       · exact e ▸ hx
       · exact h.1 b h1 e
     refine Ev.step (fun k => ?_) (ih (j + 1) (by omega))
     conv => lhs; unfold aI.l1
     rw [if_pos (by omega), yh h8 hi (by omega), yh h8 (by omega) hi, if_pos (by omega), if_pos (by omega), if_pos (by omega), if_pos (by omega), xO, xO, if_pos hx, I_ (by omega)]
   · refine oD (fun h => hx (h.1 j hji (Nat.le_refl _))) ?_
     refine Ev.step (f := fun _ => some false) (fun k => ?_) (Ev.now _)
     conv => lhs; unfold aI.l1
     rw [if_pos (by omega), yh h8 hi (by omega), yh h8 (by omega) hi, if_pos (by omega), if_pos (by omega), if_pos (by omega), if_pos (by omega), xO, xO, if_neg hx]
theorem zU (n : Nat) (r c : Int) (x : List Int) (r' c' : Int) (l : List Int) (h8 : n ≤ 8) (hl : l.length = n * n) :
 ∀ (d i : Nat), i + d = n → Ev (fun k => aI.l0 k n i r c x r' c' l) (decide (rG n l i)) := by
 intro d
 induction d with
 | zero =>
   intro i hi
   obtain rfl : i = n := by omega
   rw [decide_eq_true (Oo i l)]
   refine Ev.step (f := fun _ => some true) (fun k => ?_) (Ev.now _)
   conv => lhs; unfold aI.l0
   rw [if_neg (by omega)]
 | succ d ih =>
   intro i hi
   have hin : i < n := by omega
   have h1 := jE (c := n) hin hin
   by_cases hx : l.getD (i * n + i) 0 < 0
   · refine oD (fun h => by have := ((uD hin).1 h).1.1; omega) ?_
     refine Ev.step (f := fun _ => some false) (fun k => ?_) (Ev.now _)
     conv => lhs; unfold aI.l0
     rw [if_pos (by omega), yh h8 hin hin, if_pos (by omega), if_pos (by omega), xO, if_pos hx]
   · have h := CG n r c x r' c' l h8 hl i hin (ih (i + 1) (by omega)) i 0 (by omega)
     refine F7 (P := (∀ b, b < i → 0 ≤ b → l.getD (i * n + b) 0 = l.getD (b * n + i) 0) ∧ rG n l (i + 1)) ⟨fun h => (uD hin).2 ⟨⟨by omega, fun b hb => h.1 b hb (by omega)⟩, h.2⟩, fun h => ⟨fun b hb _ => ((uD hin).1 h).1.2 b hb, ((uD hin).1 h).2⟩⟩ ?_
     refine Ev.step (fun k => ?_) h
     conv => lhs; unfold aI.l0
     rw [if_pos (by omega), yh h8 hin hin, if_pos (by omega), if_pos (by omega), xO, if_neg hx]
     rfl
def kN (r c : Int) (x : List Int) (r' c' : Int) (l : List Int) : Prop := iH r c x = true ∧ iH r' c' l = true ∧ c = 1 ∧ r' = r ∧ c' = r ∧ Dx r.toNat l
instance Vy (r c : Int) (x : List Int) (r' c' : Int) (l : List Int) : Decidable (kN r c x r' c' l) := by unfold kN; infer_instance
theorem lg {r c : Int} {l : List Int} (h : iH r c l = true) : 1 ≤ r ∧ r ≤ 8 ∧ 1 ≤ c ∧ c ≤ 8 ∧ l.length = r.toNat * c.toNat ∧ l.any kR = false := by
 unfold iH at h
 simp only [Bool.and_eq_true, decide_eq_true_eq, Bool.not_eq_true', beq_iff_eq] at h
 obtain ⟨⟨⟨⟨⟨h1, h2⟩, h3⟩, h4⟩, h5⟩, h6⟩ := h
 have b0 : 0 ≤ r * c := Int.mul_nonneg (by omega) (by omega)
 have b1 : r * c ≤ 8 * c := Int.mul_le_mul_of_nonneg_right (by omega) (by omega)
 rw [Gq (by omega) (by omega)] at h5
 exact ⟨by omega, by omega, by omega, by omega, PV (by omega) (by omega) h5, h6⟩
theorem wF (r c : Int) (l : List Int) : Ev (fun k => aA.f k r c l) (iH r c l) := by
 obtain ⟨k, hk⟩ := GR r c l
 exact Ev.of (aA.mono r c l) hk
theorem Ei (r c : Int) (x : List Int) (r' c' : Int) (l : List Int) : Ev (fun k => aI.f k r c x r' c' l) (decide (kN r c x r' c' l)) := by
 have T : Ev (fun k => aI.j0 k r true r c x r' c' l) false := Ev.step (f := fun _ => some false) (fun k => rfl) (Ev.now _)
 unfold aI.f
 refine Ev.bind (wF r c x) ?_
 refine Ev.bind (wF r' c' l) ?_
 by_cases h1 : iH r c x = true
 · by_cases h2 : iH r' c' l = true
   · by_cases h3 : c = 1
     · by_cases h4 : r' = r
       · simp only [if_pos h1, if_pos h2, if_pos h3, if_pos h4]
         by_cases h5 : c' = r
         · have e : (c' != r) = false := by simp [h5]
           rw [e]
           obtain ⟨a1, a2, a3, a4, a5, a6⟩ := lg h2
           obtain ⟨n, rfl⟩ : ∃ n : Nat, r = n := ⟨r.toNat, by omega⟩
           subst h4 h5
           rw [Int.toNat_natCast] at a5
           refine F7 (P := rG n l 0) ⟨fun h => ⟨h1, h2, h3, rfl, rfl, (xX _ _).2 (fun a ha => h a ha (by omega))⟩, fun h a ha _ => (xX _ _).1 h.2.2.2.2.2 a ha⟩ ?_
           exact Ev.step (fun k => rfl) (zU n n c x n n l (by omega) a5 n 0 (by omega))
         · have e : (c' != r) = true := by simpa using h5
           rw [e]
           exact oD (fun h => h5 h.2.2.2.2.1) T
       · simp only [if_pos h1, if_pos h2, if_pos h3, if_neg h4]
         exact oD (fun h => h4 h.2.2.2.1) T
     · simp only [if_pos h1, if_pos h2, if_neg h3]
       exact oD (fun h => h3 h.2.2.1) T
   · simp only [if_pos h1, if_neg h2]
     exact oD (fun h => h2 h.2.1) T
 · simp only [if_neg h1]
   exact oD (fun h => h1 h.1) T
end Go.Proofs.Ytnijhjbcjeohhaa.PR

namespace Go.Proofs.Ytnijhjbcjeohhaa.PR
open Go.RowKit Go.Proofs.Ytnijhjbcjeohhaa.PQ Go.Proofs.af.aO Go.Proofs.af.aU Go.Proofs.af.aV Go.Proofs.Ytnijhjbcjeohhaa.KK
set_option linter.unusedVariables false
set_option linter.unusedSimpArgs false
theorem J3 (l m : List Int) (hlen : l.length = m.length) (hl : l.length ≤ 1000000) : ∀ (d j : Nat), j + d = l.length → Ev (fun k => dU.l0 k l m l.length j) (decide (l.drop j = m.drop j)) := by
 intro d
 induction d with
 | zero =>
   intro j hj
   refine Ev.step (f := fun _ => some true) (fun k => ?_) ?_
   · unfold dU.l0
     rw [if_neg (by omega)]
   · have : decide (l.drop j = m.drop j) = true := by
      rw [List.drop_eq_nil_of_le (by omega), List.drop_eq_nil_of_le (by omega)]; rfl
     rw [this]
     exact Ev.now _
 | succ d ih =>
   intro j hj
   have h1 : j < l.length := by omega
   have h2 : j < m.length := by omega
   have r1 : rd l (j : Int) = l[j] := by unfold rd; rw [Int.toNat_natCast, List.getD_eq_getElem?_getD, List.getElem?_eq_getElem h1]; rfl
   have r2 : rd m (j : Int) = m[j] := by unfold rd; rw [Int.toNat_natCast, List.getD_eq_getElem?_getD, List.getElem?_eq_getElem h2]; rfl
   have ed : decide (l.drop j = m.drop j) = (decide (l[j] = m[j]) && decide (l.drop (j + 1) = m.drop (j + 1))) := by
    rw [List.drop_eq_getElem_cons h1, List.drop_eq_getElem_cons h2, ← Bool.decide_and]
    congr 1
    rw [List.cons.injEq]
   rw [ed]
   by_cases hx : l[j] = m[j]
   · rw [decide_eq_true hx, Bool.true_and]
     refine Ev.step (fun k => ?_) (ih (j + 1) (by omega))
     conv => lhs; unfold dU.l0
     rw [if_pos (by omega), if_pos (by omega), if_pos (by omega), if_pos (by omega), r1, r2, if_pos hx, I_ (by omega)]
   · rw [decide_eq_false hx, Bool.false_and]
     refine Ev.step (f := fun _ => some false) (fun k => ?_) (Ev.now _)
     conv => lhs; unfold dU.l0
     rw [if_pos (by omega), if_pos (by omega), if_pos (by omega), if_pos (by omega), r1, r2, if_neg hx]
theorem G9 (r c r' c' : Int) (l m : List Int) (hl : l.length ≤ 1000000) : Ev (fun k => gy.f k r c l r' c' m) (decide (r = r' ∧ c = c' ∧ l = m)) := by
 by_cases h1 : r = r' ∧ c = c'
 · have e : (r == r' && (c == c')) = true := by simp [h1.1, h1.2]
   refine Ev.congr (f := fun k => (dU.f k l m).bind fun t => some t) (fun k => ?_) ?_
   · show (if (r == r' && (c == c')) = true then _ else _) = _
     rw [if_pos e]
   · by_cases h3 : l.length = m.length
     · have ed : decide (r = r' ∧ c = c' ∧ l = m) = decide (l = m) := by simp [h1.1, h1.2]
       rw [ed]
       refine Ev.bind (a := decide (l = m)) ?_ (Ev.now _)
       have := J3 l m h3 hl l.length 0 (by omega)
       simp only [List.drop_zero] at this
       refine Ev.congr (fun k => ?_) this
       unfold dU.f
       rw [if_pos (by omega)]
       rfl
     · have ed : decide (r = r' ∧ c = c' ∧ l = m) = false := decide_eq_false (fun h => h3 (by rw [h.2.2]))
       rw [ed]
       refine Ev.bind (a := false) ?_ (Ev.now _)
       refine Ev.congr (f := fun _ => some false) (fun k => ?_) (Ev.now _)
       unfold dU.f
       rw [if_neg (by omega)]
 · have e : ¬ (r == r' && (c == c')) = true := by simpa using h1
   have ed : decide (r = r' ∧ c = c' ∧ l = m) = false := decide_eq_false (fun h => h1 ⟨h.1, h.2.1⟩)
   rw [ed]
   refine Ev.congr (f := fun _ => some false) (fun k => ?_) (Ev.now _)
   show (if (r == r' && (c == c')) = true then _ else _) = _
   rw [if_neg e]
def YS (n : Nat) (l : List Int) (i : Nat) : Prop := ∀ a, a < n → i ≤ a → 0 ≤ l.getD (a * n + a) 0
theorem KZ (n : Nat) (l : List Int) (hl : l.length = n * n) : (l = yX n n l ∧ YS n l 0) ↔ Dx n l := by
 rw [Vz]
 constructor
 · rintro ⟨h, d⟩ m hm
   refine ⟨?_, fun e => ?_⟩
   · conv => lhs; rw [h]
     rw [xe hm]
   · have ha : m / n < n := Nat.div_lt_of_lt_mul hm
     have h2 := Nat.div_add_mod m n
     have := d (m / n) ha (by omega)
     rwa [show m / n * n + m / n = m by rw [Nat.mul_comm]; rw [← e] at h2; exact h2] at this
 · intro h
   refine ⟨Qk hl (fun m hm => (h m hm).1), fun a ha _ => ((xX n l).1 h a ha).1⟩
end Go.Proofs.Ytnijhjbcjeohhaa.PR

namespace Go.Proofs.Ytnijhjbcjeohhaa.PR
open Go.RowKit Go.Proofs.Ytnijhjbcjeohhaa.PQ Go.Proofs.af.aO Go.Proofs.af.aU Go.Proofs.af.aV Go.Proofs.Ytnijhjbcjeohhaa.KK
set_option linter.unusedVariables false
set_option linter.unusedSimpArgs false
theorem wJ (n : Nat) (A : Option Addr) (cp : Nat) (x : List Int) (A' : Option Addr) (cp' : Nat) (l : List Int) (w : World) (hA : Rd w A x) (kA : x.length ≤ cp) (hA' : Rd w A' l) (kA' : l.length ≤ cp') (ht : kN n 1 x n n l) :
 Calls Try.prog 45 #[.agg #[I n, I 1, .slice A x.length cp, I n, I n, .slice A' l.length cp']] w fun e w' => e = .returned (.bool true) ∧ Below w.heap.size w w' := by
 obtain ⟨p1, p2, _, _, _, p6⟩ := ht
 obtain ⟨a1, a2, _, _, a5, _⟩ := lg p1
 obtain ⟨_, _, _, _, b5, _⟩ := lg p2
 rw [Int.toNat_natCast] at a5 b5 p6
 have h8 : n ≤ 8 := by omega
 have h1 : 1 ≤ n := by omega
 have n64 := sq8 h8
 obtain ⟨b, off, hAe, _, hcells⟩ := hA'.cells (by have := Nat.mul_le_mul h1 h1; omega)
 subst hAe
 have et : l = yX n n l := ((KZ n l b5).2 p6).1
 have hd := ((KZ n l b5).2 p6).2
 have N : Hid (aX w [(33, #[I n, I 1, .slice A x.length cp, I n, I n, .slice (some ⟨b, off, none⟩) l.length cp'])] (w.alloc (.cells #[I n, I 1, .slice A x.length cp, I n, I n, .slice (some ⟨b, off, none⟩) l.length cp'] 33))) := Lib.hid ((aX.none w).push (by simp) _ _)
 obtain ⟨wr, hwr⟩ : ∃ wr, w.alloc (.cells #[I n, I 1, .slice A x.length cp, I n, I n, .slice (some ⟨b, off, none⟩) l.length cp'] 33) = wr := ⟨_, rfl⟩
 have NR : Hid (aX w [(33, #[I n, I 1, .slice A x.length cp, I n, I n, .slice (some ⟨b, off, none⟩) l.length cp'])] wr) := Lib.hid (by rw [← hwr]; exact N.out)
 have T39 : Hid (∀ w', Below wr.heap.size wr w' → Calls Try.prog 75 #[.agg #[I n, I 1, .slice A x.length cp]] w' fun e w'' => e = .returned (.bool true) ∧ Below w'.heap.size w' w'') := Lib.hid (fun w' h => by
  have hh := mM n 1 A cp x w' (hA.below (L8 NR.out.be h))
  rw [p1] at hh
  exact hh)
 have Zm : Hid (∀ w', Below wr.heap.size wr w' → Calls Try.prog 75 #[.agg #[I n, I n, .slice (some ⟨b, off, none⟩) l.length cp']] w' fun e w'' => e = .returned (.bool true) ∧ Below w'.heap.size w' w'') := Lib.hid (fun w' h => by
  have hh := mM n n (some ⟨b, off, none⟩) cp' l w' (hA'.below (L8 NR.out.be h))
  rw [p2] at hh
  exact hh)
 have XX : Hid (∀ w', Below wr.heap.size wr w' → Calls Try.prog 77 #[.agg #[I n, I n, .slice (some ⟨b, off, none⟩) l.length cp']] w' fun e w'' => ∃ Q dq, e = .returned (.agg #[I n, I n, .slice Q l.length dq]) ∧ Own w'' w'.heap.size (.slice Q l.length dq) l ∧ Below w'.heap.size w' w'') := Lib.hid (fun w' h => by
  have hh := mJ n n (some ⟨b, off, none⟩) cp' l w' h8 h8 b5 (hA'.below (L8 NR.out.be h))
  refine hh.mono ?_
  rintro e w'' ⟨v, rfl, ho, hb⟩
  rw [← et] at ho
  obtain ⟨Q, dq, rfl, _, _⟩ := Own.reads ho
  exact ⟨Q, dq, rfl, ho, hb⟩)
 have T40 : Hid (∀ w' Q dq, Below wr.heap.size wr w' → Rd w' Q l → l.length ≤ dq → Calls Try.prog 76 #[.agg #[I n, I n, .slice (some ⟨b, off, none⟩) l.length cp'], .agg #[I n, I n, .slice Q l.length dq]] w' fun e w'' => e = .returned (.bool true) ∧ Below w'.heap.size w' w'') := Lib.hid (fun w' Q dq h hq dq' => by
  have e1 := G9 n n n n l l (by omega)
  rw [decide_eq_true ⟨rfl, rfl, rfl⟩] at e1
  obtain ⟨k, hk⟩ := e1.rounds
  exact gy.calls k n n (some ⟨b, off, none⟩) cp' l n n Q dq l _ w' (hA'.below (L8 NR.out.be h)) kA' hq dq' hk)
 have KK : Hid (∀ w', Below wr.heap.size wr w' → (∀ o, w'.cell? ⟨w.heap.size, o, none⟩ = #[I n, I 1, .slice A x.length cp, I n, I n, .slice (some ⟨b, off, none⟩) l.length cp'][o]?) ∧ True) := Lib.hid (fun w' h => ⟨(NR.out.r0.below h NR.out.r0.lt).cell, trivial⟩)
 have CL : Hid (∀ w' (k : Nat), Below wr.heap.size wr w' → k < n → w'.cell? ⟨b, off + (k * n + k), none⟩ = some (I (l.getD (k * n + k) 0)) ∧ 0 ≤ l.getD (k * n + k) 0) := Lib.hid (fun w' k h hk => by
  have hlt := jE hk hk
  have hb := (L8 NR.out.be h)
  refine ⟨?_, hd k hk (by omega)⟩
  have hc := hcells (k * n + k) _ (gX (by omega))
  have := hb.cell (p := ⟨b, off + (k * n + k), none⟩) (by have := cell_lt hc; exact this)
  rw [this]
  exact hc)
 have LN : Hid (l.length = n * n ∧ n ≤ 8) := Lib.hid ⟨b5, h8⟩
 have BN := Lib.hid (Below.refl wr.heap.size wr)
 clear p1 p2 p6 a1 a2 a5 b5 h8 h1 n64 et hd hA kA hA' kA' hcells
 have HW := Lib.hid hwr
 clear hwr
 have x0 := N.out.r0.cell
 go_enter Try.func45, Try.ntmps45
 go_wp2_with fail
 change Code.wp Try.prog _ _ _ (w.alloc (.cells #[I n, I 1, .slice A x.length cp, I n, I n, .slice (some ⟨b, off, none⟩) l.length cp'] 33))
 rw [HW.out]
 clear HW N x0
 go_region_held3 (fun w' => (∀ o, w'.cell? ⟨w.heap.size, o, none⟩ = #[I n, I 1, .slice A x.length cp, I n, I n, .slice (some ⟨b, off, none⟩) l.length cp'][o]?) ∧ True)
  (first | with_reducible exact KK.out _ BN.out | with_reducible exact KK.out _ (bal BN.out _) | with_reducible exact KK.out _ (Kr BN.out) | with_reducible exact KK.out _ (bal (Kr BN.out) _) | with_reducible exact KK.out _ (Kr (bal BN.out _)))
  (first
      | (go_at_call 76
         first
          | ((with_reducible refine (T40.out _ _ _ (BN.out) RQ.out DQ.out).mono ?_)
             rintro e w4 ⟨rfl, hb⟩
             have RQ := Lib.hid (Rd.below RQ.out hb)
             have BN := Lib.hid (L8 (BN.out) hb)
             have zw4 := BN.out.size
             clear hb))
      | (go_at_call 77
         first
          | ((with_reducible refine (XX.out _ (BN.out)).mono ?_)
             rintro e w3 ⟨Q, dq, rfl, ho, hb⟩
             have RQ := Lib.hid (Own.rd ho).1
             have DQ := Lib.hid (Own.rd ho).2
             have BN := Lib.hid (L8 (BN.out) hb)
             have zw3 := BN.out.size
             clear hb ho))
      | (go_at_call 75
         first
          | ((with_reducible refine (Zm.out _ (BN.out)).mono ?_)
             rintro e w2 ⟨rfl, hb⟩
             have BN := Lib.hid (L8 (BN.out) hb)
             have zw2 := BN.out.size
             clear hb))
      | (go_at_call 75
         first
          | ((with_reducible refine (T39.out _ (Kr BN.out)).mono ?_)
             rintro e w1 ⟨rfl, hb⟩
             have BN := Lib.hid (L8 (Kr BN.out) hb)
             have zw1 := BN.out.size
             clear hb)))
 have x0 := (KK.out _ BN.out).1
 have BE := Lib.hid (L8 NR.out.be BN.out)
 have CM := Lib.hid (fun k (h : k < n) => CL.out w4 k BN.out h)
 clear T39 Zm T40 XX KK CL NR BN RQ DQ zw1 zw2 zw3 zw4
 go_wp2_with fail
 go_loop [48] (fun u => ∃ k : Nat, k ≤ n ∧ u = .int .i64 k) (fun u => n - (intOf u).toNat)
 case atStart => exact ⟨0, Nat.zero_le _, rfl⟩
 case round =>
  obtain ⟨k, hk, rfl⟩ := hrel
  by_cases hlt : k < n
  · obtain ⟨c1, c2⟩ := CM.out k hlt
    have hln := LN.out
    have n64 := sq8 hln.2
    have hlk := jE hlt hlt
    obtain ⟨q, hq⟩ : ∃ q, l.getD (k * n + k) 0 = q := ⟨_, rfl⟩
    rw [hq] at c1 c2
    have e1 : decide (q < 0) = false := decide_eq_false (by omega)
    obtain ⟨p, hp⟩ : ∃ p : Nat, k * n = p := ⟨_, rfl⟩
    have hp2 : (k : Int) * (n : Int) = (p : Int) := by rw [← hp]; push_cast; rfl
    rw [hp] at c1 hlk
    have hw1 : IntKind.i64.wrap ((k : Int) * (n : Int)) = (p : Int) := by rw [hp2]; simp [IntKind.wrap, IntKind.bits, IntKind.signed]; omega
    have hw2 : IntKind.i64.wrap ((p : Int) + (k : Int)) = ((p + k : Nat) : Int) := by simp [IntKind.wrap, IntKind.bits, IntKind.signed]; omega
    obtain ⟨j, hj⟩ : ∃ j : Nat, p + k = j := ⟨_, rfl⟩
    rw [hj] at c1 hlk hw2
    have hj0 : (0 : Int) ≤ (j : Int) := by omega
    have hj1 : (j : Int) < l.length := by omega
    have hk8 : k + 1 ≤ 8 := by omega
    have HK : Hid (k + 1 ≤ n ∧ n ≤ 8) := Lib.hid ⟨by omega, by omega⟩
    clear hq hp hp2 hj hln n64 hlk c2 CM LN
    go_wp2
    go_round
    case rel => exact ⟨k + 1, HK.out.1, by go_num⟩
    case measure => simp [intOf]; omega
  · go_wp2
    go_ret
    exact ⟨rfl, BE.out⟩
end Go.Proofs.Ytnijhjbcjeohhaa.PR

namespace Go.Proofs.Ytnijhjbcjeohhaa.PR
open Go.RowKit Go.Proofs.Ytnijhjbcjeohhaa.PQ Go.Proofs.af.aO Go.Proofs.af.aU Go.Proofs.af.aV Go.Proofs.Ytnijhjbcjeohhaa.KK
set_option linter.unusedVariables false
set_option linter.unusedSimpArgs false
theorem dP {l : List Int} (h : VU l) : l.any kR = false := by
 rw [List.any_eq_false]
 intro a ha
 obtain ⟨j, hj, rfl⟩ := List.getElem_of_mem ha
 have := h j
 rw [List.getD_eq_getElem?_getD, List.getElem?_eq_getElem hj] at this
 simp at this
 unfold kR
 simp
 omega
theorem Di {r c : Nat} {l : List Int} (h1 : 1 ≤ r) (h2 : r ≤ 8) (h3 : 1 ≤ c) (h4 : c ≤ 8) (hl : l.length = r * c) (h : VU l) : iH r c l = true := by
 have b1 : r * c ≤ 8 * 8 := Nat.mul_le_mul h2 h4
 have e : wrap64 ((r : Int) * (c : Int)) = ((r * c : Nat) : Int) := by
  have e : (r : Int) * (c : Int) = ((r * c : Nat) : Int) := by push_cast; rfl
  rw [e, Gq (by omega) (by omega)]
 unfold iH
 rw [dP h, e, hl]
 simp
 omega
end Go.Proofs.Ytnijhjbcjeohhaa.PR

namespace Go.Proofs.Ytnijhjbcjeohhaa.PR
open Go.RowKit Go.Proofs.Ytnijhjbcjeohhaa.PQ Go.Proofs.af.aO Go.Proofs.af.aU Go.Proofs.af.aV Go.Proofs.Ytnijhjbcjeohhaa.KK
set_option linter.unusedVariables false
set_option linter.unusedSimpArgs false
theorem Yg {w : World} {B : Nat} {a b c d e f : Value} {fn : Func} {k i : Nat} {tmps : Array Value} (h : fn.results = #[.cell k 33, .tmp i]) (hk : tmps.getD k undef = .pointer (some ⟨B, 0, none⟩)) (R : Row w B 33 #[a, b, c, d, e, f]) :
 (results fn tmps).run Try.prog w = .ok (.tuple #[.agg #[a, b, c, d, e, f], tmps.getD i undef]) w := by
 have c := R.cell
 have hk' : tmps[k]?.getD undef = .pointer (some ⟨B, 0, none⟩) := by simpa using hk
 simp only [results, h]
 simp [go_sem, hk', c]
def newP (x v : List Int) : Prop := x.length = v.length ∧ 1 ≤ v.length ∧ v.length ≤ 8 ∧ VU x ∧ VU v ∧ ∀ j, 0 ≤ v.getD j 0
theorem Io (l : List Int) : fF l = fl (l.length * l.length) (fun j => if j / l.length = j % l.length then l.getD (j / l.length) 0 else 0) := by
 unfold fF
 rw [KW]
theorem TS (l : List Int) (h : VU l) : VU (fF l) := by
 rw [Io]
 refine VT (fun m _ => ?_)
 split
 · exact h _
 · omega
theorem Oz (l : List Int) (h : ∀ j, 0 ≤ l.getD j 0) : Dx l.length (fF l) := by
 intro m hm
 rw [Io, xe hm, xe (Zf hm)]
 constructor
 · by_cases e : m / l.length = m % l.length
   · rw [if_pos e, if_pos ((Zg hm).2 e), Md hm e]
   · rw [if_neg e, if_neg (fun h => e ((Zg hm).1 h))]
 · intro e
   rw [if_pos e]
   exact h _
theorem NL {x v : List Int} (h : newP x v) : kN (v.length : Int) 1 x v.length v.length (fF v) := by
 obtain ⟨hl, h1, h8, hx, hv, h0⟩ := h
 refine ⟨Di (c := 1) h1 h8 (by omega) (by omega) (by omega) hx, Di h1 h8 h1 h8 (jU v) (TS v hv), rfl, rfl, rfl, ?_⟩
 rw [Int.toNat_natCast]
 exact Oz v h0
end Go.Proofs.Ytnijhjbcjeohhaa.PR

namespace Go.Proofs.Ytnijhjbcjeohhaa.PR
open Go.RowKit Go.Proofs.Ytnijhjbcjeohhaa.PQ Go.Proofs.af.aO Go.Proofs.af.aU Go.Proofs.af.aV Go.Proofs.Ytnijhjbcjeohhaa.KK
set_option linter.unusedVariables false
set_option linter.unusedSimpArgs false
def iY (n : Nat) (lx lh : List Int) (z : Int) : Int := (kQ z ((mulL 1 n 1 lh lx).getD 0 0)).1
def iS (n : Nat) (lp lh : List Int) (r : Int) : Int := (iw ((ig 1 n lh lp).getD 0 0) r).1
def iO (n : Nat) (lx lp lh : List Int) (z r : Int) : Bool := ((false || qF 1 n 1 lh lx || (kQ z ((mulL 1 n 1 lh lx).getD 0 0)).2) || mV 1 n lh lp) || (iw ((ig 1 n lh lp).getD 0 0) r).2
theorem JH (n : Nat) (lx lp lh : List Int) (z r : Int) (h8 : n ≤ 8) (hx : lx.length = n * 1) (hp : lp.length = n * n) (hh : lh.length = 1 * n) :
 dJ.f false n 1 lx n n lp 1 n lh z r = some (iY n lx lh z, iS n lp lh r, iO n lx lp lh z r) := by
 have e1 := Ar (r := 1) (c1 := n) (c2 := 1) (l := lh) (m := lx) (by omega) h8 (by omega) hh hx
 have eo : ((1 : Nat) : Int) = 1 := rfl
 rw [eo] at e1
 unfold dJ.f
 rw [e1]
 simp only [Option.bind_some]
 rw [if_pos (by rw [jD]; omega)]
 have e2 := rD (false || qF 1 n 1 lh lx || (kQ z ((mulL 1 n 1 lh lx).getD 0 0)).2) 1 n lh lp (by omega) h8 hh hp
 rw [eo] at e2
 rw [e2]
 simp only [Option.bind_some]
 rw [if_pos (by unfold ig; rw [jD]; omega)]
 rfl
theorem PY (n : Nat) (lx lp lh : List Int) (r : Int) (hr : 0 < r) : PQ.dQ.f 1000 n 1 lx n n lp 1 n lh r = some 0 := by
 unfold PQ.dQ.f
 rw [if_pos rfl, show (1000 : Nat) = 999 + 1 from rfl]
 unfold PQ.dQ.j0
 simp
 omega
def Ve (n : Nat) (lx lp lh : List Int) (z r gate : Int) (X P : List Int) (tk fl : Bool) : Prop :=
 if (iQ (iY n lx lh z) (iY n lx lh z)).1 > (iQ gate (iS n lp lh r)).1 ∨ iS n lp lh r ≤ 0 then
  X = lx ∧ P = lp ∧ tk = false ∧ fl = (iO n lx lp lh z r || (iQ (iY n lx lh z) (iY n lx lh z)).2 || (iQ gate (iS n lp lh r)).2)
 else X = tX n lx lp lh (iY n lx lh z) (iS n lp lh r) ∧ P = tP n lp lh (iS n lp lh r) r ∧ tk = true ∧ fl = tB n lx lp lh (iY n lx lh z) (iS n lp lh r) r (iO n lx lp lh z r || (iQ (iY n lx lh z) (iY n lx lh z)).2 || (iQ gate (iS n lp lh r)).2)
theorem Pm (n : Nat) (lx lp lh : List Int) (z r gate : Int) : ∃ X P tk fl, Ve n lx lp lh z r gate X P tk fl := by
 unfold Ve
 split
 · exact ⟨_, _, _, _, rfl, rfl, rfl, rfl⟩
 · exact ⟨_, _, _, _, rfl, rfl, rfl, rfl⟩
end Go.Proofs.Ytnijhjbcjeohhaa.PR

