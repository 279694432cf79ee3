import Derived.Test.YtninmcmajbfccaaZ16
import Derived.Test.YtninmcmajbfccaaProg
import Derived.Test.YtninmcmajbfccaaZ17
import Derived.Test.YtninmcmajbfccaaZ11
import Derived.Test.YtninmcmajbfccaaZ4
import Derived.Test.YtninmcmajbfccaaZ1
import Derived.Test.YtninmcmajbfccaaZ2
import Derived.Test.YtninmcmajbfccaaZ3
import Derived.Test.YtninmcmajbfccaaZ5
/- Joined by a program of this session's own (wip/pack.py) out of its texts; the parts PQ, PR, PS were laid by its own program (wip/print-patch.py over the kit's print) out of the translation; Lean checks all. -/
/- Layer 5: a track told on. -/
namespace Go.Proofs.Ytninmcmajbfccaa.PR
open Go.RowKit Go.Proofs.Ytninmcmajbfccaa.PQ Go.Proofs.YtninmcmajbfccaaW.PrintWords Go.Proofs.YtninmcmajbfccaaW.PrintLast Go.Proofs.YtninmcmajbfccaaW.PrintMore Go.Proofs.Ytninmcmajbfccaa.KK
set_option linter.unusedVariables false
set_option linter.unusedSimpArgs false
theorem fits_true (n : Int) : fitB n n n = true := by simp [fitB]
structure Told (n : Nat) (lx lp lf lq X B M P : List Int) (b1 b2 b3 : Bool) : Prop where
  eX : mulL n n 1 lf lx = X
  eb1 : mulB n n 1 lf lx = b1
  eB : betweenL n n lf lp = B
  eb2 : betweenB n n lf lp = b2
  eM : eachL addZ n n B lq = M
  eb3 : eachB addZ n n B lq = b3
  eP : goodL n M = P
set_option maxRecDepth 100000 in
set_option maxHeartbeats 8000000 in
theorem predict_calls (n : Nat) (A1 A2 A3 A4 : Option Addr) (c1 c2 c3 c4 : Nat) (lx lp lf lq X B M P : List Int) (b1 b2 b3 : Bool) (w : World) (h1 : 1 ≤ n) (h8 : n ≤ 8) (hx : lx.length = n * 1) (hp : lp.length = n * n) (hf : lf.length = n * n) (hq : lq.length = n * n) (T : Told n lx lp lf lq X B M P b1 b2 b3)
    (rx : Rd w A1 lx) (cx : lx.length ≤ c1) (rp : Rd w A2 lp) (cp : lp.length ≤ c2) (rf : Rd w A3 lf) (cf : lf.length ≤ c3) (rq : Rd w A4 lq) (cq : lq.length ≤ c4) :
    Calls Try.prog 25 #[.agg #[I n, I 1, .slice A1 lx.length c1, I n, I n, .slice A2 lp.length c2], .agg #[I n, I n, .slice A3 lf.length c3], .agg #[I n, I n, .slice A4 lq.length c4]] w fun e w' => ∃ Ax dx Ap dp, e = .returned (.tuple #[.agg #[I n, I 1, .slice Ax X.length dx, I n, I n, .slice Ap P.length dp], .bool (b1 || b2 || b3), I 0]) ∧ Own w' w.heap.size (.slice Ax X.length dx) X ∧ Own w' w.heap.size (.slice Ap P.length dp) P ∧ (∀ k, (Value.slice Ax X.length dx).ownBlock = some k → (Value.slice Ap P.length dp).ownBlock ≠ some k) ∧ Below w.heap.size w w' := by
  have N : Hid (Scene w [(28, #[I n, I 1, .slice A1 lx.length c1, I n, I n, .slice A2 lp.length c2]), (26, #[I n, I n, .slice A3 lf.length c3]), (26, #[I n, I n, .slice A4 lq.length c4]), (28, #[I 0, I 0, .slice none 0 0, I 0, I 0, .slice none 0 0]), (3, #[I n])] (((((w.alloc (.cells #[I n, I 1, .slice A1 lx.length c1, I n, I n, .slice A2 lp.length c2] 28)).alloc (.cells #[I n, I n, .slice A3 lf.length c3] 26)).alloc (.cells #[I n, I n, .slice A4 lq.length c4] 26)).alloc (.cells #[I 0, I 0, .slice none 0 0, I 0, I 0, .slice none 0 0] 28)).alloc (.cells #[I n] 3))) := Lib.hid ((((((Scene.none w).push (by simp) _ _).push (by simp) _ _).push (by simp) _ _).push (by simp) _ _).push (by simp) _ _)
  have RX := Lib.hid rx
  have RP := Lib.hid rp
  have RF := Lib.hid rf
  have RQ := Lib.hid rq
  have CX := Lib.hid cx
  have CP := Lib.hid cp
  have CF := Lib.hid cf
  have CQ := Lib.hid cq
  have HH := Lib.hid (And.intro (And.intro h1 h8) (And.intro hx (And.intro hp (And.intro hf hq))))
  have HT := Lib.hid T
  have hmf := KK.hmf
  clear rx rp rf rq cx cp cf cq h1 h8 hx hp hf hq T
  go_enter Try.func25, Try.ntmps25
  go_wp2_with fail
  refine (fits_calls n n n A3 lf.length c3 _ _ N.out.r4).mono ?_
  rw [fits_true]
  rintro e w1 ⟨rfl, hb⟩
  have N1 := Lib.hid (N.out.below hb)
  clear hb N
  have y2 := N1.out.r2.cell
  have y4 := N1.out.r4.cell
  go_wp2_with fail
  refine (fits_calls n n n A4 lq.length c4 _ _ N1.out.r4).mono ?_
  rw [fits_true]
  rintro e w2 ⟨rfl, hb⟩
  have N2 := Lib.hid (N1.out.below hb)
  clear hb N1 y2 y4
  have G2 := Lib.hid (Row.new w2 77 #[.bool false])
  have N3 := Lib.hid (N2.out.alloc (.cells #[.bool false] 77))
  have GE : Hid (w.heap.size + 5 ≤ w2.heap.size) := Lib.hid (by have h := N2.out.rows.le N2.out.be.size; simpa using h)
  have FX : Hid (∀ ad, A1 = some ad → 0 < lx.length → ad.block ≠ w2.heap.size) := Lib.hid (fun ad e hp => by have h1 := Rd.blk RX.out ad e hp; have h2 := GE.out; omega)
  have FP : Hid (∀ ad, A2 = some ad → 0 < lp.length → ad.block ≠ w2.heap.size) := Lib.hid (fun ad e hp => by have h1 := Rd.blk RP.out ad e hp; have h2 := GE.out; omega)
  have FF : Hid (∀ ad, A3 = some ad → 0 < lf.length → ad.block ≠ w2.heap.size) := Lib.hid (fun ad e hp => by have h1 := Rd.blk RF.out ad e hp; have h2 := GE.out; omega)
  have FQ : Hid (∀ ad, A4 = some ad → 0 < lq.length → ad.block ≠ w2.heap.size) := Lib.hid (fun ad e hp => by have h1 := Rd.blk RQ.out ad e hp; have h2 := GE.out; omega)
  have y0 := N2.out.r0.cell
  have y1 := N2.out.r1.cell
  have t0 := N2.out.r0.lt
  have t1 := N2.out.r1.lt
  have HM : Hid (∀ w', Rd w' A3 lf → Rd w' A1 lx → Calls Try.prog 46 #[.agg #[I n, I n, .slice A3 lf.length c3], .agg #[I n, I 1, .slice A1 lx.length c1]] w' fun e w'' => ∃ v, e = .returned (.tuple #[.agg #[I n, I 1, v], .bool b1, I 0]) ∧ Own w'' w'.heap.size v X ∧ Below w'.heap.size w' w'') := Lib.hid (fun w' h h' => by
    have hh := mat_mul n n 1 A3 A1 c3 c1 lf lx w' HH.out.1.2 HH.out.1.2 (by omega) HH.out.2.2.2.1 HH.out.2.1 h h'
    rw [HT.out.eX, HT.out.eb1] at hh
    exact hh)
  go_wp2_with fail
  refine (HM.out _ (RF.out.below N3.out.be) (RX.out.below N3.out.be)).mono ?_
  rintro e w3 ⟨v, rfl, ho, hb⟩
  obtain ⟨Ax, dx, rfl, _, _⟩ := Own.reads ho
  have OX := Lib.hid ho
  have N4 := Lib.hid (N3.out.below hb)
  have G3 := Lib.hid (G2.out.below hb G2.out.lt)
  have L3 : Hid (w2.heap.size + 1 ≤ w3.heap.size) := Lib.hid (by have h := hb.size; simpa using h)
  clear ho hb y0 y1 t0 t1 N3 G2
  go_wp2_with fail
  refine (mat45 w2.heap.size false b1 n 1 0 Ax X.length dx w3 G3.out).mono ?_
  rintro e w4 ⟨rfl, hr, hg⟩
  have OX4 := Lib.hid (Own.touch OX.out hg (by simp))
  have N5 := Lib.hid (N4.out.app hg (fun g e => by injection e with e; have h := GE.out; simp; omega))
  have R4 := Lib.hid hr
  have L4 : Hid (w2.heap.size + 1 ≤ w4.heap.size) := Lib.hid (by have h := hg.size; have h2 := L3.out; omega)
  clear hr hg N4 G3 OX
  have x0 := N5.out.r0.cell
  go_wp2_with fail
  rename_i K8 aK8
  have N6 := Lib.hid (N5.out.alloc (.cells #[I n, I 1, .slice Ax X.length dx] 26))
  have RX6 := Lib.hid (Row.new w4 26 #[I n, I 1, .slice Ax X.length dx])
  have OX6 : Hid (Own (w4.alloc (.cells #[I n, I 1, .slice Ax X.length dx] 26)) (w2.heap.size + 1) (.slice Ax X.length dx) X) := Lib.hid (Own.lower (OX4.out.alloc (.cells #[I n, I 1, .slice Ax X.length dx] 26)) (by simp))
  have R6 : Hid (Row (w4.alloc (.cells #[I n, I 1, .slice Ax X.length dx] 26)) w2.heap.size 77 #[.bool b1]) := Lib.hid (by have h := R4.out.alloc (.cells #[I n, I 1, .slice Ax X.length dx] 26); simpa using h)
  have L6 : Hid (w2.heap.size + 1 ≤ w4.heap.size ∧ (w4.alloc (.cells #[I n, I 1, .slice Ax X.length dx] 26)).heap.size = w4.heap.size + 1) := Lib.hid ⟨L4.out, by simp⟩
  clear x0 N5 OX4 R4 L4 L3
  obtain ⟨wr, hwr⟩ : ∃ wr, w4.alloc (.cells #[I n, I 1, .slice Ax X.length dx] 26) = wr := ⟨_, rfl⟩
  rw [hwr] at N6 RX6 OX6 R6 L6
  change Code.wp Try.prog _ _ _ (w4.alloc (.cells #[I n, I 1, .slice Ax X.length dx] 26))
  rw [hwr]
  clear hwr
  obtain ⟨kb, hkb⟩ : ∃ kb, w4.heap.size = kb := ⟨_, rfl⟩
  rw [hkb] at RX6 L6 ⊢
  obtain ⟨g, hg⟩ : ∃ g, w2.heap.size = g := ⟨_, rfl⟩
  rw [hg] at OX6 R6 L6 FX FP FF FQ GE ⊢
  clear hkb hg
  have T48 : Hid (∀ w', wr.grownBy w' (some g) → Row w' g 77 #[.bool b1] → Calls Try.prog 48 #[.pointer (some ⟨g, 0, none⟩), .agg #[I n, I n, .slice A3 lf.length c3], .agg #[I n, I n, .slice A2 lp.length c2]] w' fun e w'' => ∃ A c, e = .returned (.agg #[I n, I n, .slice A B.length c]) ∧ Own w'' w'.heap.size (.slice A B.length c) B ∧ Row w'' g 77 #[.bool (b1 || b2)] ∧ w'.grownBy w'' (some g)) := Lib.hid (fun w' h hr => by
    have hh := between_some b1 n n lf lp HH.out.1.2 HH.out.1.2 HH.out.2.2.2.1 HH.out.2.2.1
    rw [HT.out.eB, HT.out.eb2] at hh
    have hb := below_of N6.out.be (by have := GE.out; omega) h
    exact between48 w w' g b1 n n A3 c3 lf n n A2 c2 lp n n B (b1 || b2) hr (by have := GE.out; omega) hb (RF.out.below hb) CF.out FF.out (RP.out.below hb) CP.out FP.out hh)
  have T47 : Hid (∀ w' A c, wr.grownBy w' (some g) → Rd w' A B → B.length ≤ c → Calls Try.prog 47 #[.agg #[I n, I n, .slice A B.length c], .agg #[I n, I n, .slice A4 lq.length c4]] w' fun e w'' => ∃ v, e = .returned (.tuple #[.agg #[I n, I n, v], .bool b3, I 0]) ∧ Own w'' w'.heap.size v M ∧ Below w'.heap.size w' w'') := Lib.hid (fun w' A c h hr hc => by
    have hb := below_of N6.out.be (by have := GE.out; omega) h
    have hh := mat_add n n A A4 c c4 B lq w' HH.out.1.2 HH.out.1.2 (by rw [← HT.out.eB]; exact mulL_length _ _ _ _ _) HH.out.2.2.2.2 hr (RQ.out.below hb) hc CQ.out
    rw [HT.out.eM, HT.out.eb3] at hh
    exact hh)
  have KK8 : Hid (∀ w', wr.grownBy w' (some g) → (∀ o, w'.cell? ⟨w.heap.size, o, none⟩ = #[I n, I 1, .slice A1 lx.length c1, I n, I n, .slice A2 lp.length c2][o]?) ∧ (∀ o, w'.cell? ⟨w.heap.size + 1, o, none⟩ = #[I n, I n, .slice A3 lf.length c3][o]?) ∧ (∀ o, w'.cell? ⟨w.heap.size + 1 + 1, o, none⟩ = #[I n, I n, .slice A4 lq.length c4][o]?)) := Lib.hid (fun w' h => ⟨(Row.gr N6.out.r0 h (by have := GE.out; omega)).cell, (Row.gr N6.out.r1 h (by have := GE.out; omega)).cell, (Row.gr N6.out.r2 h (by have := GE.out; omega)).cell⟩)
  have GN := Lib.hid (gr_refl wr (some g))
  have RG := Lib.hid R6.out
  have NG : Hid (wr.heap.size ≠ g ∧ g < wr.heap.size) := Lib.hid (by have := L6.out; omega)
  clear HM
  have REST8 : Hid (∀ (pb : Nat) (w9 : World) (Ab : Option Addr) (cb : Nat) (Am : Option Addr) (dm : Nat), wr.grownBy w9 (some g) → Row w9 pb 26 #[I n, I n, .slice Am M.length dm] → Rd w9 Am M → M.length ≤ dm → Row w9 g 77 #[.bool (b1 || b2 || b3)] → wr.heap.size ≤ pb → K8 { tmps := #[Value.agg #[I n, I 1, Value.slice A1 lx.length c1, I n, I n, Value.slice A2 lp.length c2], Value.agg #[I n, I n, Value.slice A3 lf.length c3], Value.agg #[I n, I n, Value.slice A4 lq.length c4], Value.pointer (some ⟨w.heap.size, 0, none⟩), Value.pointer (some ⟨w.heap.size + 1, 0, none⟩), Value.pointer (some ⟨w.heap.size + 1 + 1, 0, none⟩), Value.pointer (some ⟨w.heap.size + 1 + 1 + 1, 0, none⟩), Value.bool false, I 0, Value.pointer (some ⟨w.heap.size + 1 + 1 + 1 + 1, 0, none⟩), Value.func (Fn.func 44) #[] #[Value.pointer (some ⟨w.heap.size + 1 + 1 + 1 + 1, 0, none⟩)], Value.pointer (some ⟨g, 0, none⟩), Value.func (Fn.func 45) #[Value.pointer (some ⟨g, 0, none⟩)] #[], Value.pointer (some ⟨kb, 0, none⟩), Value.pointer (some ⟨pb, 0, none⟩), Value.pointer (some ⟨w.heap.size, 0, none⟩), Value.pointer (some ⟨w.heap.size, 0, none⟩), I n, Value.func (Fn.func 44) #[] #[Value.pointer (some ⟨w.heap.size + 1 + 1 + 1 + 1, 0, none⟩)], Value.func (Fn.func 44) #[] #[Value.pointer (some ⟨w.heap.size + 1 + 1 + 1 + 1, 0, none⟩)], Value.agg #[I n, I n, Value.slice A3 lf.length c3], Value.bool true, Value.bool false, Value.bool false, Value.func (Fn.func 44) #[] #[Value.pointer (some ⟨w.heap.size + 1 + 1 + 1 + 1, 0, none⟩)], Value.agg #[I n, I n, Value.slice A4 lq.length c4], Value.bool true, Value.bool false, Value.bool false, undef, Value.agg #[Value.bool false], Value.pointer (some ⟨g, 0, none⟩), Value.pointer (some ⟨g, 0, none⟩), Value.func (Fn.func 45) #[Value.pointer (some ⟨g, 0, none⟩)] #[], Value.func (Fn.func 45) #[Value.pointer (some ⟨g, 0, none⟩)] #[], Value.agg #[I n, I n, Value.slice A3 lf.length c3], Value.pointer (some ⟨w.heap.size, 0, none⟩), Value.agg #[I n, I 1, Value.slice A1 lx.length c1], Value.tuple #[Value.agg #[I n, I 1, Value.slice Ax X.length dx], Value.bool b1, I 0], Value.agg #[I n, I 1, Value.slice Ax X.length dx], Value.bool b1, I 0, Value.agg #[I n, I 1, Value.slice Ax X.length dx], Value.func (Fn.func 45) #[Value.pointer (some ⟨g, 0, none⟩)] #[], Value.pointer (some ⟨g, 0, none⟩), Value.agg #[I n, I n, Value.slice A3 lf.length c3], Value.pointer (some ⟨w.heap.size, 3, none⟩), Value.agg #[I n, I n, Value.slice A2 lp.length c2], Value.agg #[I n, I n, Value.slice Ab B.length cb], Value.agg #[I n, I n, Value.slice A4 lq.length c4], Value.tuple #[Value.agg #[I n, I n, Value.slice Am M.length dm], Value.bool b3, I 0], Value.agg #[I n, I n, Value.slice Am M.length dm], Value.bool b3, I 0, Value.agg #[I n, I n, Value.slice Am M.length dm], undef, undef, undef, undef, undef, undef, undef, undef], defers := [] } w9) := Lib.hid (by
    intro pb w9 Ab cb Am dm hgr hP hM hdm hR hpb
    refine aK8 _ _ ?_
    have P9 := Lib.hid hP
    have R9 := Lib.hid hR
    have X9 := Lib.hid (Row.gr RX6.out hgr (by have := L6.out; omega))
    have N9 : Hid (Scene w [(28, #[I n, I 1, .slice A1 lx.length c1, I n, I n, .slice A2 lp.length c2]), (26, #[I n, I n, .slice A3 lf.length c3]), (26, #[I n, I n, .slice A4 lq.length c4]), (28, #[I 0, I 0, .slice none 0 0, I 0, I 0, .slice none 0 0]), (3, #[I n])] w9) := Lib.hid (N6.out.app hgr (fun g' e => by injection e with e; have h := GE.out; simp; omega))
    have OX9 := Lib.hid (Own.touch OX6.out hgr (by omega))
    have XB : Hid (∀ k, (Value.slice Ax X.length dx).ownBlock = some k → k < w9.heap.size) := Lib.hid (fun k hk => by have h1 := (OX6.out.row.lt k hk).2; have h2 := hgr.size; omega)
    have S9 : Hid (w.heap.size + 5 ≤ g ∧ g < wr.heap.size ∧ wr.heap.size ≤ w9.heap.size ∧ wr.heap.size ≤ pb ∧ w.heap.size + 5 ≤ kb) := Lib.hid ⟨GE.out, NG.out.2, hgr.size, hpb, by have h := L6.out; have h2 := GE.out; omega⟩
    have T15 : Hid (∀ w', Below w9.heap.size w9 w' → Calls Try.prog 15 #[.agg #[I n, I n, .slice Am M.length dm]] w' fun e w'' => ∃ A c, e = .returned (.agg #[I n, I n, .slice A P.length c]) ∧ Own w'' w'.heap.size (.slice A P.length c) P ∧ Below w'.heap.size w' w'') := Lib.hid (fun w' h => by
      have hh := good_calls n Am dm M w' HH.out.1.2 (by rw [← HT.out.eM]; exact upto_length) (hM.below h) hdm
      rw [HT.out.eP] at hh
      exact hh)
    have KK9 : Hid (∀ w', Row w' kb 26 #[I n, I 1, .slice Ax X.length dx] → Row w' pb 26 #[I n, I n, .slice Am M.length dm] → Row w' g 77 #[.bool (b1 || b2 || b3)] → (∀ o, w'.cell? ⟨kb, o, none⟩ = #[I n, I 1, .slice Ax X.length dx][o]?) ∧ (∀ o, w'.cell? ⟨pb, o, none⟩ = #[I n, I n, .slice Am M.length dm][o]?) ∧ (∀ o, w'.cell? ⟨g, o, none⟩ = #[.bool (b1 || b2 || b3)][o]?)) := Lib.hid (fun w' a b c => ⟨a.cell, b.cell, c.cell⟩)
    have B9 := Lib.hid (Below.refl w9.heap.size w9)
    clear hgr hP hM hdm hR hpb T48 T47 KK8 GN RG NG N6 RX6 OX6 R6 L6 aK8
    obtain ⟨fl, hfl⟩ : ∃ fl, (b1 || b2 || b3) = fl := ⟨_, rfl⟩
    have HFL := Lib.hid hfl
    rw [hfl] at R9 KK9
    clear hfl
    have x3 := N9.out.r3.cell
    have g3 := N9.out.r3.free
    have y3 := N9.out.r3.lt
    go_wp2_with fail
    go_region_held3 (fun w' => (∀ o, w'.cell? ⟨kb, o, none⟩ = #[I n, I 1, .slice Ax X.length dx][o]?) ∧ (∀ o, w'.cell? ⟨pb, o, none⟩ = #[I n, I n, .slice Am M.length dm][o]?) ∧ (∀ o, w'.cell? ⟨g, o, none⟩ = #[.bool fl][o]?))
      (first | with_reducible exact KK9.out _ X9.out P9.out R9.out | with_reducible exact KK9.out _ X9.out.drew P9.out.drew R9.out.drew | with_reducible exact KK9.out _ (Row.far6 X9.out (C := w.heap.size + 1 + 1 + 1) (by have h := S9.out; omega) _ _ _ _ _ _) (Row.far6 P9.out (C := w.heap.size + 1 + 1 + 1) (by have h := S9.out; omega) _ _ _ _ _ _) (Row.far6 R9.out (C := w.heap.size + 1 + 1 + 1) (by have h := S9.out; omega) _ _ _ _ _ _))
      (first
        | (go_at_call 15
           (with_reducible refine (T15.out _ (bdr B9.out)).mono ?_)
           rintro e w10 ⟨Ap, dp, rfl, ho, hb⟩
           have OP := Lib.hid ho
           have OX9 := Lib.hid (OX9.out.drew.below hb)
           have N10 := Lib.hid (N9.out.drew.below hb)
           have x3 := N10.out.r3.cell
           have g3 := N10.out.r3.free
           have y3 := N10.out.r3.lt
           have X9 := Lib.hid (Row.below X9.out.drew hb X9.out.drew.lt)
           have P9 := Lib.hid (Row.below P9.out.drew hb P9.out.drew.lt)
           have R9 := Lib.hid (Row.below R9.out.drew hb R9.out.drew.lt)
           clear ho hb))
    all_goals
      go_wp2
      have z9 := S9.out
      have hd9 : w9.drew.heap.size = w9.heap.size := rfl
      refine bodyPost_ret (res6tt rfl rfl (Row.fill6 N10.out.r3 _ _ _ _ _ _)) rfl ?_
      rw [HFL.out]
      refine ⟨_, _, _, _, rfl, ?_, ?_, ?_, ?_⟩
      · exact (Own.fill6 OX9.out (by omega) _ _ _ _ _ _).lower (by omega)
      · exact (Own.fill6 OP.out (by omega) _ _ _ _ _ _).lower (by omega)
      · intro k h1 h2
        have a := XB.out k h1
        have b := (OP.out.row.lt k h2).1
        omega
      · exact Below.fill6 N10.out.be (by omega) _ _ _ _ _ _)
  go_region_held3 (fun w' => (∀ o, w'.cell? ⟨w.heap.size, o, none⟩ = #[I n, I 1, .slice A1 lx.length c1, I n, I n, .slice A2 lp.length c2][o]?) ∧ (∀ o, w'.cell? ⟨w.heap.size + 1, o, none⟩ = #[I n, I n, .slice A3 lf.length c3][o]?) ∧ (∀ o, w'.cell? ⟨w.heap.size + 1 + 1, o, none⟩ = #[I n, I n, .slice A4 lq.length c4][o]?))
    (first | with_reducible exact KK8.out _ GN.out | with_reducible exact KK8.out _ (gr_alloc GN.out _) | with_reducible exact KK8.out _ (gr_drew GN.out) | with_reducible exact KK8.out _ (gr_alloc (gr_drew GN.out) _) | with_reducible exact KK8.out _ (gr_drew (gr_alloc GN.out _)) | ((with_reducible refine KK8.out _ (gr_fill3 GN.out ?_ _ _ _)); first | omega | (simp; omega) | simp))
    (first
      | (go_at_call 45
         first
           | ((with_reducible refine (mat45 g (b1 || b2) b3 n n 0 Am M.length dm _ RG.out).mono ?_)
              rintro e w7 ⟨rfl, hr, hg⟩
              have OM := Lib.hid (Own.touch OM.out hg (by omega))
              have NT : Hid (w6.heap.size ≠ g) := Lib.hid (by have h1 := GN.out.size; have h2 := NG.out; omega)
              have RG := Lib.hid hr
              have GN := Lib.hid (KK.grown_trans GN.out hg)
              have z7 := GN.out.size
              first
                | (have TB := Lib.hid (Row.gr TB.out hg (by first | exact NG.out.1 | exact NT5.out))
                   have kc := TB.out.cell
                   have kf := TB.out.free)
                | skip
              clear hr hg)
           | ((with_reducible refine (mat45 g (b1 || b2) b3 n n 0 Am M.length dm _ (Row.alloc RG.out _)).mono ?_)
              rintro e w7 ⟨rfl, hr, hg⟩
              have OM := Lib.hid (Own.touch (OM.out.alloc _) hg (by omega))
              have NT : Hid (w6.heap.size ≠ g) := Lib.hid (by have h1 := GN.out.size; have h2 := NG.out; omega)
              have RG := Lib.hid hr
              have GN := Lib.hid (KK.grown_trans (gr_alloc GN.out _) hg)
              have z7 := GN.out.size
              have TB : Hid (Row w7 w6.heap.size 26 #[I 0, I 0, .slice none 0 0]) := Lib.hid (Row.gr (Row.new w6 26 #[I 0, I 0, .slice none 0 0]) hg NT.out)
              have zt := TB.out.lt
              have kc := TB.out.cell
              have kf := TB.out.free
              clear hr hg))
      | (go_at_call 47
         first
           | ((with_reducible refine (T47.out _ _ _ GN.out OB.out.1 OB.out.2).mono ?_)
              rintro e w6 ⟨v, rfl, ho, hb⟩
              obtain ⟨Am, dm, rfl, _, _⟩ := Own.reads ho
              have OMB := Lib.hid (fun q hq => ho.row.lt q hq)
              have OM : Hid (Own w6 (g + 1) (.slice Am M.length dm) M) := Lib.hid (Own.lower ho (by have h1 := GN.out.size; have h2 := NG.out; first | omega | (simp; omega)))
              have RG := Lib.hid (Row.below RG.out hb RG.out.lt)
              have NT5 : Hid (w5.heap.size ≠ g) := Lib.hid (by have h1 := GN.out.size; have h2 := NG.out; omega)
              have GN := Lib.hid (gr_below GN.out hb)
              have z6 := GN.out.size
              first
                | (have TB := Lib.hid (Row.below TB.out hb TB.out.lt)
                   have kc := TB.out.cell
                   have kf := TB.out.free)
                | skip
              clear ho hb)
           | ((with_reducible refine (T47.out _ _ _ (gr_alloc GN.out _) (Rd.below OB.out.1 ((Below.refl _ _).alloc (Nat.le_refl _) _)) OB.out.2).mono ?_)
              rintro e w6 ⟨v, rfl, ho, hb⟩
              obtain ⟨Am, dm, rfl, _, _⟩ := Own.reads ho
              have OMB := Lib.hid (fun q hq => ho.row.lt q hq)
              have OM : Hid (Own w6 (g + 1) (.slice Am M.length dm) M) := Lib.hid (Own.lower ho (by have h1 := GN.out.size; have h2 := NG.out; first | omega | (simp; omega)))
              have RG := Lib.hid (Row.below (Row.alloc RG.out _) hb (Row.alloc RG.out _).lt)
              have NT5 : Hid (w5.heap.size ≠ g) := Lib.hid (by have h1 := GN.out.size; have h2 := NG.out; omega)
              have GN := Lib.hid (gr_below (gr_alloc GN.out _) hb)
              have z6 := GN.out.size
              have TB : Hid (Row w6 w5.heap.size 26 #[I 0, I 0, .slice none 0 0]) := Lib.hid (Row.below (Row.new w5 26 #[I 0, I 0, .slice none 0 0]) hb (by simp))
              have zt := TB.out.lt
              have kc := TB.out.cell
              have kf := TB.out.free
              clear ho hb))
      | (go_at_call 48
         first
           | ((with_reducible refine (T48.out _ (gr_drew GN.out) (Row.drew RG.out)).mono ?_)
              rintro e w5 ⟨Ab, cb, rfl, ho, hr, hg⟩
              have GN := Lib.hid (KK.grown_trans (gr_drew GN.out) hg)
              have RG := Lib.hid hr
              have OB := Lib.hid (Own.rd ho)
              have z5 := GN.out.size
              clear ho hr hg)
           | ((with_reducible refine (T48.out _ (gr_alloc (gr_drew GN.out) _) (Row.alloc (Row.drew RG.out) _)).mono ?_)
              rintro e w5 ⟨Ab, cb, rfl, ho, hr, hg⟩
              have GN := Lib.hid (KK.grown_trans (gr_alloc (gr_drew GN.out) _) hg)
              have TB : Hid (Row w5 wr.heap.size 26 #[I 0, I 0, .slice none 0 0]) := Lib.hid (Row.gr (Row.new wr.drew 26 #[I 0, I 0, .slice none 0 0]) hg NG.out.1)
              have zt := TB.out.lt
              have kc := TB.out.cell
              have kf := TB.out.free
              have RG := Lib.hid hr
              have OB := Lib.hid (Own.rd ho)
              have z5 := GN.out.size
              clear ho hr hg)
           | ((with_reducible refine (T48.out _ (gr_drew (gr_alloc GN.out _)) (Row.drew (Row.alloc RG.out _))).mono ?_)
              rintro e w5 ⟨Ab, cb, rfl, ho, hr, hg⟩
              have GN := Lib.hid (KK.grown_trans (gr_drew (gr_alloc GN.out _)) hg)
              have TB : Hid (Row w5 wr.heap.size 26 #[I 0, I 0, .slice none 0 0]) := Lib.hid (Row.gr (Row.drew (Row.new wr 26 #[I 0, I 0, .slice none 0 0])) hg NG.out.1)
              have zt := TB.out.lt
              have kc := TB.out.cell
              have kf := TB.out.free
              have RG := Lib.hid hr
              have OB := Lib.hid (Own.rd ho)
              have z5 := GN.out.size
              clear ho hr hg)))
  all_goals
    show K8 _ _
    first
      | (with_reducible refine REST8.out _ _ _ _ _ _ (gr_alloc GN.out _) (Row.new _ _ _) (Own.rd (OM.out.alloc _)).1 (Own.rd OM.out).2 (Row.alloc RG.out _) (by omega))
      | ((with_reducible refine REST8.out _ _ _ _ _ _ (gr_fill3 GN.out ?_ _ _ _) (Row.fill3 TB.out _ _ _) (Own.rd (Own.fill3' OM.out (fun q hq => ?_) _ _ _)).1 (Own.rd OM.out).2 (Row.far3 RG.out ?_) ?_)
         all_goals first | omega | exact NG.out.1.symm | exact NT.out.symm | exact NT5.out.symm | (have h := NG.out; omega) | (have h1 := OMB.out q hq; have h2 := TB.out.lt; omega) | (have h1 := OMB.out q hq; simp at h1; omega) | (simp; omega))
end Go.Proofs.Ytninmcmajbfccaa.PR

-- Laid by a program of this session's own (wip/print-patch.py over the kit's print), out of the translation; Lean checks it.
namespace Go.Proofs.Ytninmcmajbfccaa.PS
open Go.RowKit Go.Proofs.Ytninmcmajbfccaa.PQ Go.Proofs.Ytninmcmajbfccaa.PR Go.Proofs.YtninmcmajbfccaaW.PrintWords Go.Proofs.YtninmcmajbfccaaW.PrintLast Go.Proofs.YtninmcmajbfccaaW.PrintMore
attribute [local go_sem] max2_int min2_int max_two min_two max_three min_three max_four min_four   -- for this text's walks alone
set_option linter.unusedVariables false
set_option linter.unusedSimpArgs false



def errW : Option Int → Value
  | none => .nilIface
  | some c => .iface 0 (.int .i64 c)
theorem errW_none : errW none = .nilIface := rfl
theorem errW_some (c : Int) : errW (some c) = .iface 0 (.int .i64 c) := rfl

theorem info22 : (Try.prog.info? 22).map (fun i => (i.zero, i.size, i.bytes)) = some (some (.int .i64 0), 1, 8) := by kernel_rfl
-- the values' own types

end Go.Proofs.Ytninmcmajbfccaa.PS

-- Laid by a program of this session's own (wip/print-patch.py over the kit's print), out of the translation; Lean checks it.
namespace Go.Proofs.Ytninmcmajbfccaa.PS
open Go.RowKit Go.Proofs.Ytninmcmajbfccaa.PQ Go.Proofs.Ytninmcmajbfccaa.PR Go.Proofs.YtninmcmajbfccaaW.PrintWords Go.Proofs.YtninmcmajbfccaaW.PrintLast Go.Proofs.YtninmcmajbfccaaW.PrintMore
attribute [local go_sem] max2_int min2_int max_two min_two max_three min_three max_four min_four   -- for this text's walks alone
set_option linter.unusedVariables false
set_option linter.unusedSimpArgs false

-- NOT PRINTED: function 92 (api_Q_92)

-- NOT PRINTED: function 76 (api_Q_76)

-- function 39: in PQ (KJ)

-- function 77: mat_of: in PQ

-- function 78: api_Q_78: in PQ

-- function 40: mat_Same: in PQ

-- NOT PRINTED: function 59 (mat_made)

-- function 41: in PQ (KJ)

-- function 18: kalman_Right: in PR

-- function 30: in PQ (KJ)

-- function 31: in PQ (KJ)

-- function 12: kalman_New: in PR

-- function 32: kalman_may: in PQ

-- function 45: kalman_work_mat: in PR

-- function 46: in PQ (KJ)

-- function 48: kalman_work_between: in PR

-- function 86: qfix_Clamp: in PQ

-- function 63: qfix_both: in PQ

-- function 61: qfix_Sub: in PQ

-- function 62: qfix_Add: in PQ

-- NOT PRINTED: function 33 (kalman_work_innov)

-- function 34: kalman_work_one: in PR

-- function 64: bits_Mul64: in PQ

-- function 65: qfix_size: in PQ

-- function 66: qfix_signed: in PQ

-- function 35: qfix_Mul: in PQ

-- NOT PRINTED: function 72 (mat_each)

-- function 38: in PQ (KJ)

-- function 15: kalman_Good: in PR

-- function 47: in PQ (KJ)

-- function 95: bits_Len64: in PQ

-- function 93: bits_LeadingZeros64: in PQ

-- function 88: bits_Div64: in PQ

-- function 67: qfix_Div: in PQ

-- function 96: bits_Mul32: in PQ

-- function 94: bits_Mul: in PQ

-- NOT PRINTED: function 90 (api_Q_90)

-- function 70: in PQ (KJ)

-- function 71: in PQ (KJ)

-- NOT PRINTED: function 36 (kalman_work_taken)

-- NOT PRINTED: function 13 (kalman_Update)

-- NOT PRINTED: function 11 (alidadelaw05_shown)

-- function 16: alidaderef03_None: in PQ

-- function 37: alidaderef01_In: in PQ

-- function 14: alidaderef03_Right: in PQ

-- function 17: alidaderef05_Right: in PQ

-- function 19: alidaderef03_Same: in PQ

-- function 21: alidaderef05_Same: in PQ

-- NOT PRINTED: function 25 (kalman_Predict)

-- function 42: alidaderef03_Diag: in PQ

/-! ### alidaderef03_Eye: function 26 -/
def alidaderef03_Eye.l0 : Nat → Int → List Int → Int → Option (Int × Int × List Int × Int)
  | 0, _, _, _ => none
  | k + 1, x0, x4, x5 => if x5 < x0 then (if x5 < 9 then (if x4.length < 17592186044416 then (alidaderef03_Eye.l0 k x0 (x4 ++ [16777216]) (wrap64 (x5 + 1))) else (none)) else ((alidaderef03_Diag.f k x4).bind fun bt138 => (some (bt138.1, bt138.2.1, bt138.2.2.1, bt138.2.2.2)))) else ((alidaderef03_Diag.f k x4).bind fun bt144 => (some (bt144.1, bt144.2.1, bt144.2.2.1, bt144.2.2.2)))
def alidaderef03_Eye.f (k : Nat) (a0 : Int) : Option (Int × Int × List Int × Int) := alidaderef03_Eye.l0 k a0 ([] : List Int) 0
set_option maxHeartbeats 8000000 in
set_option maxRecDepth 100000 in
theorem alidaderef03_Eye.calls (k : Nat) (a0 : Int) (r1 : Int) (r2 : Int) (r3 : List Int) (r4 : Int) (w : World) (h : alidaderef03_Eye.f k a0 = some (r1, r2, r3, r4)) :
    Calls Try.prog 26 #[.int .i64 a0] w fun e w' => ∃ v2_ : Value, e = .returned (.tuple #[.agg #[.int .i64 r1, .int .i64 r2, v2_], .int .i64 r4]) ∧ Kd.R (Kd.int .i64) 22 w' w.heap.size (fun _ => True) v2_ r3 ∧ Below w.heap.size w w' := by
  have hu26 := Try.underlying26
  have HB := Aside0.mk (Below.refl w.heap.size w)
  have H : (alidaderef03_Eye.l0 k a0 ([] : List Int) 0) = some (r1, r2, r3, r4) := h
  clear h
  have H' := Aside0.mk H
  clear H
  go_enter Try.func26, Try.ntmps26
  go_wp2_with (first | ((with_reducible refine gate_dst (N := 2) rfl ?_); refine box_event ?hg (N := 2) ?hd (cs := #[.int .i64 0, .int .i64 0, .slice none 0 0]) (t := 26) ?hr ?_; (case hd => rfl); (case hg => rfl); (case hr => first | (go_simp; done) | (go_simp; rfl)); intro gb134 hg w2 hbox hb; have n0_ := Aside0.mk (below_step (by repeat (first | (with_reducible first | exact HB.out | apply below_alloc | apply pw_below_drewN | apply below_drew1) | exact HB.out)) hb); have n1_ := Aside0.mk (hbox); have n2_ := Aside0.mk ((by rw [hg]; exact (below_size (by repeat (first | (with_reducible first | exact HB.out | apply below_alloc | apply pw_below_drewN | apply below_drew1) | exact HB.out))) : w.heap.size ≤ gb134)); have n3_ := Aside0.mk ((by rw [hg]; exact (below_size (by repeat (first | (with_reducible first | exact HB.out | apply below_alloc | apply pw_below_drewN | apply below_drew1) | exact HB.out))) : w.heap.size ≤ gb134)); clear HB; have HB := n0_; have BK134 := n1_; have GW134 := n2_; have GE134 := n3_; clear n0_ n1_ n2_ n3_; clear hb hbox hg))
  go_loopg [4, 5] k (fun kq v4 v5 w' => ∃ (x4_1 : List Int) (x5_1 : Int), v5 = .int .i64 x5_1 ∧ Aside0 (alidaderef03_Eye.l0 kq a0 x4_1 x5_1 = some (r1, r2, r3, r4)) ∧ Aside0 (kq ≤ k) ∧ Aside0 (Kd.R (Kd.int .i64) 22 w' w.heap.size (fun _ => True) v4 x4_1) ∧ Aside0 (w'.heap[gb134]? = some (.cells #[.int .i64 0, .int .i64 0, (.slice none 0 0)] 26 (0, 0))) ∧ Aside0 (Below w.heap.size w w'))
  case atStart => exact ⟨(([] : List Int)), (0), (by first | rfl | (simp; done) | (simp [*]; done)), H', ⟨Nat.le_refl _⟩, ⟨by first | exact Kd.R_nil _ _ _ _ _ | exact Kd.N_nil _ _ _ _ _ | exact Kd.V_nil _ _ _ _ _ | exact Kd.Q_nil _ _ _ _ _ | exact Kd.S_nil _ _ _ _ _⟩, ⟨by (with_reducible repeat (first | refine blk_drewN ?_ _ | refine blk_drew ?_ | refine blk_alloc ?_ _)); exact BK134.out⟩, ⟨by repeat (first | (with_reducible first | exact HB.out | apply below_alloc | apply pw_below_drewN | apply below_drew1 | refine below_set ?_ GE134.out) | exact HB.out)⟩⟩
  case round =>
    clear H'
    try clear c2
    try clear p2
    obtain ⟨x4_1, x5_1, rfl, HA, HK1, HO_4, BK134, HB⟩ := hrel
    cases gk with
    | zero => exact absurd HA.out (by simp [alidaderef03_Eye.l0])
    | succ k1 =>
      have H := HA.out
      clear HA
      simp only [alidaderef03_Eye.l0] at H
      by_cases c3 : x5_1 < a0
      · rw [if_pos c3] at H
        have c3b0 : decide (x5_1 < a0) = true := decide_eq_true c3
        clear c3
        by_cases c4 : x5_1 < 9
        · rw [if_pos c4] at H
          have c4b0 : decide (x5_1 < 9) = true := decide_eq_true c4
          clear c4
          by_cases c5 : x4_1.length < 17592186044416
          · rw [if_pos c5] at H
            have LMc5 := Aside0.mk c5
            clear c5
            obtain ⟨y135, hy135⟩ : ∃ y_ : List Int, y_ = (x4_1 ++ [16777216]) := ⟨_, rfl⟩
            replace H : (alidaderef03_Eye.l0 k1 a0 y135 (wrap64 (x5_1 + 1))) = some (r1, r2, r3, r4) := by first | (rw [hy135]; with_reducible exact H) | (have H2_ := (Option.bind_some _ _).symm.trans H; rw [hy135]; with_reducible exact H2_) | (have H2_ := (Option.bind_some _ _).symm.trans H; with_reducible exact H2_) | with_reducible exact H | (rw [hy135]; exact H) | exact H
            have Ny135 := Aside0.mk hy135
            clear hy135
            have H' := Aside0.mk H
            clear H
            go_wp2_with (first | ((with_reducible refine gate_builtin (b := .append) (xs := #[.tmp 15, .tmp 16]) rfl ?_); at_builtin; refine Kd.R_append (Kd.int .i64) (w0 := w) w.heap.size rfl (.tmp 15) (.tmp 16) 24 22 (.int .i64 0) 8 rfl Try.underlying24 info22 rfl (by decide) (by omega) u4 x4_1 16777216 [.int .i64 16777216] (fun _ => True) (fun _ => False) rfl rfl ?aP (fun _ hk => hk.elim) ?aF ?aO ?aB ?aS ?aL ?_; (case aP => exact rfl); (case aB => exact (by repeat (first | (with_reducible first | exact HB.out | apply below_alloc | apply pw_below_drewN | apply below_drew1 | refine below_set ?_ GE134.out) | exact HB.out))); (case aF => exact (fun _ _ => trivial)); (case aO => exact (by (with_reducible repeat (first | apply Kd.R_alloc | apply Kd.R_drewN | apply Kd.R_drew)); exact HO_4.out)); (case aS => exact (below_size (by repeat (first | (with_reducible first | exact HB.out | apply below_alloc | apply pw_below_drewN | apply below_drew1 | refine below_set ?_ GE134.out) | exact HB.out)))); (case aL => have := LMc5.out; omega); intro v136 w6 ho hb hg hat; rw [← Ny135.out] at ho; have n0_ := Aside0.mk (blk_grown (g := gb134) (o := .cells #[.int .i64 0, .int .i64 0, .slice none 0 0] 26 (0, 0)) (by (with_reducible repeat (first | refine blk_drewN ?_ _ | refine blk_drew ?_ | refine blk_alloc ?_ _)); exact BK134.out) hg (Kd.R_ne HO_4.out BK134.out (by decide))); have n1_ := Aside0.mk (hb); have n2_ := Aside0.mk (ho); clear BK134; clear HB; clear HO_4; have BK134 := n0_; have HB := n1_; have HO137 := n2_; clear n0_ n1_ n2_; clear ho hb hg hat))
            go_roundg k1
            case measure => have := HK1.out; omega
            case rel => exact ⟨(y135), (wrap64 (x5_1 + 1)), (by first | rfl | (simp; done) | (simp [*]; done)), H', ⟨by have := HK1.out; omega⟩, ⟨by (with_reducible repeat (first | apply Kd.R_alloc | apply Kd.R_drewN | apply Kd.R_drew)); exact HO137.out⟩, ⟨by (with_reducible repeat (first | refine blk_drewN ?_ _ | refine blk_drew ?_ | refine blk_alloc ?_ _)); exact BK134.out⟩, ⟨by repeat (first | (with_reducible first | exact HB.out | apply below_alloc | apply pw_below_drewN | apply below_drew1 | refine below_set ?_ GE134.out) | exact HB.out)⟩⟩
          · rw [if_neg c5] at H
            exact absurd H (by simp)
        · rw [if_neg c4] at H
          have c4b0 : decide (x5_1 < 9) = false := decide_eq_false c4
          clear c4
          replace H := Option.bind_eq_some_iff.mp H
          obtain ⟨⟨t138, t139, t140, t143⟩, A70, H⟩ := H
          replace H : (some (t138, t139, t140, t143)) = some (r1, r2, r3, r4) := H
          have A7 := Aside0.mk A70
          clear A70
          simp only [Option.some.injEq, Prod.mk.injEq] at H
          obtain ⟨rfl, rfl, rfl, rfl⟩ := H
          obtain ⟨Ao8, co8, eo8⟩ := Kd.R_slice HO_4.out
          subst eo8
          go_wp2_with (first | ((with_reducible refine gate_callee (f := 42) rfl ?_); refine goesL_ (some 19) rfl rfl Try.func42 (by kernel_rfl) rfl #[.slice Ao8 x4_1.length co8] rfl (by (try simp only [List.map_toArray, List.map_cons, List.map_nil]); first | done | rfl | (simp only [List.length_drop, List.length_take]; rfl)) ?_; (with_reducible refine (alidaderef03_Diag.calls k1 _ _ x4_1 t138 t139 t140 t143 _ ?side1 ?side2 A7.out).mono ?_); (case side1 => repeat (first | exact (Kd.R_reads' HO_4.out).2.2 | (with_reducible refine Kd.C_alloc ?_ _) | (with_reducible refine Kd.C_drewN ?_ _) | (with_reducible refine Kd.C_drew ?_))); (case side2 => exact (Kd.R_reads' HO_4.out).2.1); rintro e w9 ⟨v141, rfl, ho0, hb⟩; refine ⟨_, rfl, ?_⟩; have n0_ := Aside0.mk (Kd.R_elder' (by (with_reducible repeat (first | apply Kd.R_alloc | apply Kd.R_drewN | apply Kd.R_drew)); exact HO_4.out) (Kd.R_base ho0) hb); have n1_ := Aside0.mk (Kd.R_lower (Kd.R_new' ho0 (Kd.R_lt (by (with_reducible repeat (first | apply Kd.R_alloc | apply Kd.R_drewN | apply Kd.R_drew)); exact HO_4.out))) (below_size (by repeat (first | (with_reducible first | exact HB.out | apply below_alloc | apply pw_below_drewN | apply below_drew1 | refine below_set ?_ GE134.out) | exact HB.out)))); have n2_ := Aside0.mk (blk_below (g := gb134) (o := .cells #[.int .i64 0, .int .i64 0, .slice none 0 0] 26 (0, 0)) (by (with_reducible repeat (first | refine blk_drewN ?_ _ | refine blk_drew ?_ | refine blk_alloc ?_ _)); exact BK134.out) hb); have n3_ := Aside0.mk (below_step (by repeat (first | (with_reducible first | exact HB.out | apply below_alloc | apply pw_below_drewN | apply below_drew1 | refine below_set ?_ GE134.out) | exact HB.out)) hb); clear HO_4; clear BK134; clear HB; have HO_4 := n0_; have HO142 := n1_; have BK134 := n2_; have HB := n3_; clear n0_ n1_ n2_ n3_; (try clear hb); (try clear hb2); (try clear hk); (try clear hi); (try clear ho0); have hcz10_0 : w9.cell? ⟨gb134, 0, none⟩ = some (.int .i64 0) := (blk_cell BK134.out 0).trans rfl; have hcz10_1 : w9.cell? ⟨gb134, 1, none⟩ = some (.int .i64 0) := (blk_cell BK134.out 1).trans rfl; have hcz10_2 : w9.cell? ⟨gb134, 2, none⟩ = some (.slice none 0 0) := (blk_cell BK134.out 2).trans rfl; have hfz10_0 := blk_frozen BK134.out 0; have hfz10_1 := blk_frozen BK134.out 1; have hfz10_2 := blk_frozen BK134.out 2; obtain ⟨Ao11, co11, eo11⟩ := Kd.R_slice HO142.out; subst eo11))
          refine bodyPost_ret (results_ct rfl _ _ gb134 26 #[.int .i64 t138, .int .i64 t139, .slice Ao11 t140.length co11] (0, 0) _ rfl (by (with_reducible repeat (first | refine blk_drewN ?_ _ | refine blk_drew ?_ | refine blk_alloc ?_ _)); refine blk_put (cs := #[.int .i64 t138, .int .i64 t139, .slice none 0 0]) ?_ 2 _ rfl; (with_reducible repeat (first | refine blk_drewN ?_ _ | refine blk_drew ?_ | refine blk_alloc ?_ _)); refine blk_put (cs := #[.int .i64 t138, .int .i64 0, .slice none 0 0]) ?_ 1 _ rfl; (with_reducible repeat (first | refine blk_drewN ?_ _ | refine blk_drew ?_ | refine blk_alloc ?_ _)); refine blk_put (cs := #[.int .i64 0, .int .i64 0, .slice none 0 0]) ?_ 0 _ rfl; (with_reducible repeat (first | refine blk_drewN ?_ _ | refine blk_drew ?_ | refine blk_alloc ?_ _)); exact BK134.out) Try.underlying26 rfl (by kernel_rfl)) rfl ?_
          exact ⟨_, by first | rfl | (simp [errW_none, errW_some] <;> rfl) | (simp [*, errW_none, errW_some] <;> rfl), by (with_reducible repeat (first | apply Kd.R_alloc | apply Kd.R_drewN | apply Kd.R_drew)); exact Kd.R_mono (Kd.R_far (p := ⟨gb134, 2, none⟩) (Kd.R_far (p := ⟨gb134, 1, none⟩) (Kd.R_far (p := ⟨gb134, 0, none⟩) (Kd.R_types HO142.out BK134.out (by decide)) (fun _ hk => hk.2) (.int .i64 t138)) (fun _ hk => hk.2) (.int .i64 t139)) (fun _ hk => hk.2) (.slice Ao11 t140.length co11)) (fun _ hk => trivial), by repeat (first | (with_reducible first | exact HB.out | apply below_alloc | apply pw_below_drewN | apply below_drew1 | refine below_set ?_ GE134.out) | exact HB.out)⟩
      · rw [if_neg c3] at H
        have c3b0 : decide (x5_1 < a0) = false := decide_eq_false c3
        clear c3
        replace H := Option.bind_eq_some_iff.mp H
        obtain ⟨⟨t144, t145, t146, t149⟩, A120, H⟩ := H
        replace H : (some (t144, t145, t146, t149)) = some (r1, r2, r3, r4) := H
        have A12 := Aside0.mk A120
        clear A120
        simp only [Option.some.injEq, Prod.mk.injEq] at H
        obtain ⟨rfl, rfl, rfl, rfl⟩ := H
        obtain ⟨Ao13, co13, eo13⟩ := Kd.R_slice HO_4.out
        subst eo13
        go_wp2_with (first | ((with_reducible refine gate_callee (f := 42) rfl ?_); refine goesL_ (some 19) rfl rfl Try.func42 (by kernel_rfl) rfl #[.slice Ao13 x4_1.length co13] rfl (by (try simp only [List.map_toArray, List.map_cons, List.map_nil]); first | done | rfl | (simp only [List.length_drop, List.length_take]; rfl)) ?_; (with_reducible refine (alidaderef03_Diag.calls k1 _ _ x4_1 t144 t145 t146 t149 _ ?side1 ?side2 A12.out).mono ?_); (case side1 => repeat (first | exact (Kd.R_reads' HO_4.out).2.2 | (with_reducible refine Kd.C_alloc ?_ _) | (with_reducible refine Kd.C_drewN ?_ _) | (with_reducible refine Kd.C_drew ?_))); (case side2 => exact (Kd.R_reads' HO_4.out).2.1); rintro e w14 ⟨v147, rfl, ho0, hb⟩; refine ⟨_, rfl, ?_⟩; have n0_ := Aside0.mk (Kd.R_elder' (by (with_reducible repeat (first | apply Kd.R_alloc | apply Kd.R_drewN | apply Kd.R_drew)); exact HO_4.out) (Kd.R_base ho0) hb); have n1_ := Aside0.mk (Kd.R_lower (Kd.R_new' ho0 (Kd.R_lt (by (with_reducible repeat (first | apply Kd.R_alloc | apply Kd.R_drewN | apply Kd.R_drew)); exact HO_4.out))) (below_size (by repeat (first | (with_reducible first | exact HB.out | apply below_alloc | apply pw_below_drewN | apply below_drew1 | refine below_set ?_ GE134.out) | exact HB.out)))); have n2_ := Aside0.mk (blk_below (g := gb134) (o := .cells #[.int .i64 0, .int .i64 0, .slice none 0 0] 26 (0, 0)) (by (with_reducible repeat (first | refine blk_drewN ?_ _ | refine blk_drew ?_ | refine blk_alloc ?_ _)); exact BK134.out) hb); have n3_ := Aside0.mk (below_step (by repeat (first | (with_reducible first | exact HB.out | apply below_alloc | apply pw_below_drewN | apply below_drew1 | refine below_set ?_ GE134.out) | exact HB.out)) hb); clear HO_4; clear BK134; clear HB; have HO_4 := n0_; have HO148 := n1_; have BK134 := n2_; have HB := n3_; clear n0_ n1_ n2_ n3_; (try clear hb); (try clear hb2); (try clear hk); (try clear hi); (try clear ho0); have hcz15_0 : w14.cell? ⟨gb134, 0, none⟩ = some (.int .i64 0) := (blk_cell BK134.out 0).trans rfl; have hcz15_1 : w14.cell? ⟨gb134, 1, none⟩ = some (.int .i64 0) := (blk_cell BK134.out 1).trans rfl; have hcz15_2 : w14.cell? ⟨gb134, 2, none⟩ = some (.slice none 0 0) := (blk_cell BK134.out 2).trans rfl; have hfz15_0 := blk_frozen BK134.out 0; have hfz15_1 := blk_frozen BK134.out 1; have hfz15_2 := blk_frozen BK134.out 2; obtain ⟨Ao16, co16, eo16⟩ := Kd.R_slice HO148.out; subst eo16))
        refine bodyPost_ret (results_ct rfl _ _ gb134 26 #[.int .i64 t144, .int .i64 t145, .slice Ao16 t146.length co16] (0, 0) _ rfl (by (with_reducible repeat (first | refine blk_drewN ?_ _ | refine blk_drew ?_ | refine blk_alloc ?_ _)); refine blk_put (cs := #[.int .i64 t144, .int .i64 t145, .slice none 0 0]) ?_ 2 _ rfl; (with_reducible repeat (first | refine blk_drewN ?_ _ | refine blk_drew ?_ | refine blk_alloc ?_ _)); refine blk_put (cs := #[.int .i64 t144, .int .i64 0, .slice none 0 0]) ?_ 1 _ rfl; (with_reducible repeat (first | refine blk_drewN ?_ _ | refine blk_drew ?_ | refine blk_alloc ?_ _)); refine blk_put (cs := #[.int .i64 0, .int .i64 0, .slice none 0 0]) ?_ 0 _ rfl; (with_reducible repeat (first | refine blk_drewN ?_ _ | refine blk_drew ?_ | refine blk_alloc ?_ _)); exact BK134.out) Try.underlying26 rfl (by kernel_rfl)) rfl ?_
        exact ⟨_, by first | rfl | (simp [errW_none, errW_some] <;> rfl) | (simp [*, errW_none, errW_some] <;> rfl), by (with_reducible repeat (first | apply Kd.R_alloc | apply Kd.R_drewN | apply Kd.R_drew)); exact Kd.R_mono (Kd.R_far (p := ⟨gb134, 2, none⟩) (Kd.R_far (p := ⟨gb134, 1, none⟩) (Kd.R_far (p := ⟨gb134, 0, none⟩) (Kd.R_types HO148.out BK134.out (by decide)) (fun _ hk => hk.2) (.int .i64 t144)) (fun _ hk => hk.2) (.int .i64 t145)) (fun _ hk => hk.2) (.slice Ao16 t146.length co16)) (fun _ hk => trivial), by repeat (first | (with_reducible first | exact HB.out | apply below_alloc | apply pw_below_drewN | apply below_drew1 | refine below_set ?_ GE134.out) | exact HB.out)⟩

-- NOT PRINTED: function 9 (alidadelaw05_KalmanEyes)

end Go.Proofs.Ytninmcmajbfccaa.PS

/- Layer 5: told on by Eye, plainly. -/
namespace Go.Proofs.Ytninmcmajbfccaa.PR
open Go.RowKit Go.Proofs.Ytninmcmajbfccaa.PQ Go.Proofs.YtninmcmajbfccaaW.PrintWords Go.Proofs.YtninmcmajbfccaaW.PrintLast Go.Proofs.YtninmcmajbfccaaW.PrintMore Go.Proofs.Ytninmcmajbfccaa.KK
set_option linter.unusedVariables false
set_option linter.unusedSimpArgs false
theorem mulZ_one {q : Int} (h0 : -70368744177664 ≤ q) (h1 : q ≤ 70368744177663) : mulZ 16777216 q = (q, false) := by
  have e1 : cl 16777216 = 16777216 := by decide
  have e2 : od 16777216 = false := by decide
  have e3 : sz (16777216 : Int) = 16777216 := by decide
  unfold mulZ
  rw [cl_in h0 h1, od_in h0 h1, e1, e2, e3]
  have hs0 := sz_0 q
  have hs1 : sz q ≤ 70368744177664 := by unfold sz; split <;> omega
  have hx : lw (16777216 * sz q) = sz q := by
    unfold lw
    dsimp only
    rw [if_neg (by omega), if_neg (by omega)]
    omega
  have hh : 16777216 * sz q / 309485009821345068724781056 = 0 := by omega
  rw [hx, hh]
  have hn : decide ((16777216 : Int) < 0) = false := by decide
  rw [hn]
  unfold flag sg
  by_cases hq : q < 0
  · have es : sz q = -q := by unfold sz; rw [if_pos hq]
    rw [es, decide_eq_true hq]
    have e : -q ≤ 70368744177664 := by omega
    simp
    rcases Int.lt_or_le 70368744177663 (-q) with h | h
    · have : q = -70368744177664 := by omega
      subst this
      decide
    · rw [if_neg (by omega)]
      simp [cl_in h0 h1, od_in h0 h1]
  · have es : sz q = q := by unfold sz; rw [if_neg hq]
    rw [es, decide_eq_false hq]
    simp
    rw [if_neg (by omega)]
    simp [cl_in h0 h1, od_in h0 h1]
theorem mulZ_comm (a b : Int) : mulZ a b = mulZ b a := by
  unfold mulZ
  rw [Bool.or_comm (od a), Int.mul_comm (sz (cl a))]
  congr 2
  cases decide (cl a < 0) <;> cases decide (cl b < 0) <;> rfl
theorem mulZ_nil {q : Int} (h0 : -70368744177664 ≤ q) (h1 : q ≤ 70368744177663) : mulZ 0 q = (0, false) := by
  have e1 : cl 0 = 0 := by decide
  have e2 : od 0 = false := by decide
  have e3 : sz (0 : Int) = 0 := by decide
  unfold mulZ
  rw [cl_in h0 h1, od_in h0 h1, e1, e2, e3, Int.zero_mul]
  cases (decide ((0 : Int) < 0) != decide (q < 0)) <;> decide
theorem addZ_in {a b : Int} (a0 : -70368744177664 ≤ a) (a1 : a ≤ 70368744177663) (b0 : -70368744177664 ≤ b) (b1 : b ≤ 70368744177663) (s0 : -70368744177664 ≤ a + b) (s1 : a + b ≤ 70368744177663) : addZ a b = (a + b, false) := by
  unfold addZ
  rw [cl_in a0 a1, cl_in b0 b1, cl_in s0 s1, od_in a0 a1, od_in b0 b1, od_in s0 s1]
  rfl
/-- 1 on the diagonal -/
def eyeF (n : Nat) : List Int := fl (n * n) (fun m => if m / n = m % n then 16777216 else 0)
theorem eyeF_at {n i j : Nat} (hi : i < n) (hj : j < n) : (eyeF n).getD (i * n + j) 0 = if i = j then 16777216 else 0 := by
  unfold eyeF
  rw [fl_getD (idx_lt hi hj), dv hj, md hj]
theorem eye_ev (n : Nat) (h1 : 1 ≤ n) (h8 : n ≤ 8) : PS.alidaderef03_Eye.f 120 n = some ((n : Int), (n : Int), eyeF n, 0) := by
  rcases (show n = 1 ∨ n = 2 ∨ n = 3 ∨ n = 4 ∨ n = 5 ∨ n = 6 ∨ n = 7 ∨ n = 8 by omega) with rfl | rfl | rfl | rfl | rfl | rfl | rfl | rfl <;> decide +kernel
theorem dot_left (n c2 : Nat) (m : List Int) (hr : inR m) (i k : Nat) (hi : i < n) : ∀ j, j ≤ n → dotZ n c2 (eyeF n) m i k j = (if i < j then m.getD (i * c2 + k) 0 else 0, false)
  | 0, _ => by simp [dotZ]
  | j + 1, hj => by
    unfold dotZ
    rw [dot_left n c2 m hr i k hi j (by omega)]
    dsimp only
    have ha := hr (j * c2 + k)
    have hb := hr (i * c2 + k)
    rw [eyeF_at hi (by omega)]
    by_cases hij : i = j
    · subst hij
      rw [if_pos rfl, mulZ_one ha.1 ha.2, if_neg (by omega), if_pos (by omega)]
      dsimp only
      rw [addZ_in (by omega) (by omega) ha.1 ha.2 (by omega) (by omega)]
      simp
    · rw [if_neg hij, mulZ_nil ha.1 ha.2]
      dsimp only
      by_cases hlt : i < j
      · rw [if_pos hlt, if_pos (by omega), addZ_in hb.1 hb.2 (by omega) (by omega) (by omega) (by omega)]
        simp
      · rw [if_neg hlt, if_neg (by omega), addZ_in (by omega) (by omega) (by omega) (by omega) (by omega) (by omega)]
        simp
theorem dot_right (n : Nat) (m : List Int) (hr : inR m) (i k : Nat) (hk : k < n) : ∀ j, j ≤ n → dotZ n n m (eyeF n) i k j = (if k < j then m.getD (i * n + k) 0 else 0, false)
  | 0, _ => by simp [dotZ]
  | j + 1, hj => by
    unfold dotZ
    rw [dot_right n m hr i k hk j (by omega)]
    dsimp only
    have ha := hr (i * n + j)
    have hb := hr (i * n + k)
    rw [eyeF_at (by omega) hk]
    by_cases hij : j = k
    · subst hij
      rw [if_pos rfl, mulZ_comm, mulZ_one ha.1 ha.2, if_neg (by omega), if_pos (by omega)]
      dsimp only
      rw [addZ_in (by omega) (by omega) ha.1 ha.2 (by omega) (by omega)]
      simp
    · rw [if_neg hij, mulZ_comm, mulZ_nil ha.1 ha.2]
      dsimp only
      by_cases hlt : k < j
      · rw [if_pos hlt, if_pos (by omega), addZ_in hb.1 hb.2 (by omega) (by omega) (by omega) (by omega)]
        simp
      · rw [if_neg hlt, if_neg (by omega), addZ_in (by omega) (by omega) (by omega) (by omega) (by omega) (by omega)]
        simp
theorem dm (j c : Nat) : j / c * c + j % c = j := by rw [Nat.mul_comm]; exact Nat.div_add_mod j c
theorem div_lt {j n c : Nat} (h : j < n * c) : j / c < n := Nat.div_lt_of_lt_mul (by rwa [Nat.mul_comm])
theorem mod_lt {j n c : Nat} (h : j < n * c) : j % c < c := Nat.mod_lt _ (by
  rcases Nat.eq_zero_or_pos c with e | e
  · subst e; simp at h
  · exact e)
theorem any_off (c r : Nat) (o : Nat → Nat → Bool) (h : ∀ i k, i < r → k < c → o i k = false) : anyTo c o r = false := by
  unfold anyTo
  rw [List.any_eq_false]
  intro i hi
  rw [Bool.not_eq_true, List.any_eq_false]
  intro k hk
  rw [Bool.not_eq_true]
  exact h i k (List.mem_range.1 hi) (List.mem_range.1 hk)
theorem mul_left (n c2 : Nat) (m : List Int) (hr : inR m) (hl : m.length = n * c2) : mulL n n c2 (eyeF n) m = m ∧ mulB n n c2 (eyeF n) m = false := by
  constructor
  · unfold mulL
    rw [upto_fl]
    refine (fl_ext hl (fun j hj => ?_)).symm
    rw [dot_left n c2 m hr _ _ (div_lt hj) n (Nat.le_refl _), if_pos (div_lt hj), dm]
  · unfold mulB
    exact any_off _ _ _ (fun i k hi _ => by rw [dot_left n c2 m hr i k hi n (Nat.le_refl _)])
theorem tr_eye (n : Nat) : trL n n (eyeF n) = eyeF n := by
  rw [trL_fl]
  refine fl_congr (fun j hj => ?_)
  unfold eyeF
  rw [fl_getD (ac_lt hj)]
  by_cases e : j / n = j % n
  · rw [if_pos e, if_pos ((ac_d hj).2 e)]
  · rw [if_neg e, if_neg (fun h => e ((ac_d hj).1 h))]
theorem mul_right (n : Nat) (m : List Int) (hr : inR m) (hl : m.length = n * n) : mulL n n n m (eyeF n) = m ∧ mulB n n n m (eyeF n) = false := by
  constructor
  · unfold mulL
    rw [upto_fl]
    refine (fl_ext hl (fun j hj => ?_)).symm
    rw [dot_right n m hr _ _ (mod_lt hj) n (Nat.le_refl _), if_pos (mod_lt hj), dm]
  · unfold mulB
    exact any_off _ _ _ (fun i k _ hk => by rw [dot_right n m hr i k hk n (Nat.le_refl _)])
/-- nothing more -/
def zsq (n : Nat) : List Int := fl (n * n) (fun _ => 0)
theorem zsq_at (n j : Nat) : (zsq n).getD j 0 = 0 := by
  by_cases h : j < n * n
  · exact fl_getD h
  · rw [List.getD_eq_getElem?_getD, List.getElem?_eq_none (by unfold zsq; rw [fl_length]; omega)]; rfl
theorem add_none (n : Nat) (m : List Int) (hr : inR m) (hl : m.length = n * n) : eachL addZ n n m (zsq n) = m ∧ eachB addZ n n m (zsq n) = false := by
  have key : ∀ j, addZ (m.getD j 0) ((zsq n).getD j 0) = (m.getD j 0, false) := fun j => by
    have ha := hr j
    rw [zsq_at, addZ_in ha.1 ha.2 (by omega) (by omega) (by omega) (by omega), Int.add_zero]
  constructor
  · unfold eachL
    rw [upto_fl]
    refine (fl_ext hl (fun j hj => ?_)).symm
    rw [key, dm]
  · unfold eachB
    exact any_off _ _ _ (fun i k _ _ => by rw [key])
theorem told_eye (n : Nat) (x l : List Int) (hx : inR x) (hl : inR l) (lx : x.length = n * 1) (ll : l.length = n * n) (he : evenP n l) : Told n x l (eyeF n) (zsq n) x l l l false false false := by
  have a := mul_left n 1 x hx lx
  have b := mul_left n n l hl ll
  have c := mul_right n l hl ll
  have d := add_none n l hl ll
  refine ⟨a.1, a.2, ?_, ?_, d.1, d.2, ?_⟩
  · unfold betweenL
    rw [b.1, tr_eye, c.1]
  · unfold betweenB
    rw [b.2, b.1, tr_eye, c.2]
    rfl
  · rw [goodL_fl n l ll hl, good_stays n l ll he]
theorem eye_of (n : Nat) (h1 : 1 ≤ n) (h8 : n ≤ 8) (w : World) : Calls Try.prog 26 #[I n] w fun e w' => ∃ A d, e = .returned (.tuple #[.agg #[I n, I n, .slice A (eyeF n).length d], I 0]) ∧ Own w' w.heap.size (.slice A (eyeF n).length d) (eyeF n) ∧ Below w.heap.size w w' := by
  refine (PS.alidaderef03_Eye.calls 120 n _ _ _ _ w (eye_ev n h1 h8)).mono ?_
  rintro e w' ⟨v, rfl, ho, hb⟩
  obtain ⟨A, d, rfl, _, _⟩ := Own.reads ho
  exact ⟨A, d, rfl, ho, hb⟩
theorem none_sq (n : Nat) (h8 : n ≤ 8) (w : World) : Calls Try.prog 16 #[I n, I n] w fun e w' => ∃ A d, e = .returned (.agg #[I n, I n, .slice A (zsq n).length d]) ∧ Own w' w.heap.size (.slice A (zsq n).length d) (zsq n) ∧ Below w.heap.size w w' := by
  have n64 := sq8 h8
  have e : (n : Int) * (n : Int) = ((n * n : Nat) : Int) := by push_cast; rfl
  have hw : wrap64 ((n : Int) * (n : Int)) = ((n * n : Nat) : Int) := by rw [e, w64 (by omega) (by omega)]
  obtain ⟨k, hk⟩ := (none_ev n n (n * n) (by omega) hw).rounds
  refine (alidaderef03_None.calls k n n _ _ _ w hk).mono ?_
  rintro e w' ⟨v, rfl, ho, hb⟩
  obtain ⟨A, d, rfl, _, _⟩ := Own.reads ho
  exact ⟨A, d, rfl, ho, hb⟩
theorem track_same_ev (r c r2 c2 r' c' r2' c2' : Int) (x l x' l' : List Int) (hx : x.length ≤ 1000000) (hl : l.length ≤ 1000000) :
    Ev (fun k => alidaderef05_Same.f k r c x r2 c2 l r' c' x' r2' c2' l') (decide ((r = r' ∧ c = c' ∧ x = x') ∧ (r2 = r2' ∧ c2 = c2' ∧ l = l'))) := by
  unfold alidaderef05_Same.f
  by_cases h1 : r = r' ∧ c = c' ∧ x = x'
  · have e1 := same_ev r c r' c' x x' hx
    rw [decide_eq_true h1] at e1
    refine Ev.bind e1 ?_
    simp only [if_true]
    have e2 := same_ev r2 c2 r2' c2' l l' hl
    refine Ev.bind e2 ?_
    have e : decide ((r = r' ∧ c = c' ∧ x = x') ∧ (r2 = r2' ∧ c2 = c2' ∧ l = l')) = decide (r2 = r2' ∧ c2 = c2' ∧ l = l') := by simp [h1]
    rw [e]
    exact Ev.now _
  · have e1 := same_ev r c r' c' x x' hx
    rw [decide_eq_false h1] at e1
    refine Ev.bind e1 ?_
    rw [decide_eq_false (fun h => h1 h.1)]
    exact Ev.now _
theorem trackSame_calls (r c r2 c2 r' c' r2' c2' : Int) (A1 A2 B1 B2 : Option Addr) (c1 d1 c3 d3 : Nat) (x l x' l' : List Int) (w : World) (h1 : Rd w A1 x) (k1 : x.length ≤ c1) (h2 : Rd w A2 l) (k2 : l.length ≤ d1) (h3 : Rd w B1 x') (k3 : x'.length ≤ c3) (h4 : Rd w B2 l') (k4 : l'.length ≤ d3) (hx : x.length ≤ 1000000) (hl : l.length ≤ 1000000) :
    Calls Try.prog 21 #[.agg #[I r, I c, .slice A1 x.length c1, I r2, I c2, .slice A2 l.length d1], .agg #[I r', I c', .slice B1 x'.length c3, I r2', I c2', .slice B2 l'.length d3]] w fun e w' => e = .returned (.bool (decide ((r = r' ∧ c = c' ∧ x = x') ∧ (r2 = r2' ∧ c2 = c2' ∧ l = l')))) ∧ Below w.heap.size w w' := by
  obtain ⟨k, hk⟩ := (track_same_ev r c r2 c2 r' c' r2' c2' x l x' l' hx hl).rounds
  exact alidaderef05_Same.calls k r c A1 c1 x r2 c2 A2 d1 l r' c' B1 c3 x' r2' c2' B2 d3 l' _ w h1 k1 h2 k2 h3 k3 h4 k4 hk
end Go.Proofs.Ytninmcmajbfccaa.PR

/- Layer 5: KalmanEyes. -/
namespace Go.Proofs.Ytninmcmajbfccaa.PR
open Go.RowKit Go.Proofs.Ytninmcmajbfccaa.PQ Go.Proofs.YtninmcmajbfccaaW.PrintWords Go.Proofs.YtninmcmajbfccaaW.PrintLast Go.Proofs.YtninmcmajbfccaaW.PrintMore Go.Proofs.Ytninmcmajbfccaa.KK
set_option linter.unusedVariables false
set_option linter.unusedSimpArgs false
set_option maxRecDepth 100000 in
set_option maxHeartbeats 8000000 in
theorem eyes_walk (r c : Int) (A : Option Addr) (cp : Nat) (x : List Int) (r' c' : Int) (A' : Option Addr) (cp' : Nat) (l : List Int) (w : World) (hA : Rd w A x) (hc : x.length ≤ cp) (hA' : Rd w A' l) (hc' : l.length ≤ cp') : Calls Try.prog 9 #[.agg #[I r, I c, .slice A x.length cp, I r', I c', .slice A' l.length cp']] w fun e w' => e = .returned (.bool true) ∧ Below w.heap.size w w' := by
  have N : Hid (Scene w [(28, #[I r, I c, .slice A x.length cp, I r', I c', .slice A' l.length cp'])] (w.alloc (.cells #[I r, I c, .slice A x.length cp, I r', I c', .slice A' l.length cp'] 28))) := Lib.hid ((Scene.none w).push (by simp) _ _)
  have HA := Lib.hid hA
  have HC := Lib.hid hc
  have HA' := Lib.hid hA'
  have HC' := Lib.hid hc'
  clear hA hc hA' hc'
  go_enter Try.func9, Try.ntmps9
  go_wp2_with fail
  refine (shown_calls _).mono ?_
  rintro e w1 ⟨rfl, hb⟩
  have N1 := Lib.hid (N.out.below hb)
  have x0 := N1.out.r0.cell
  clear hb N
  go_wp2_with fail
  refine (refTrack_calls r c A cp x r' c' A' cp' l _ (HA.out.below N1.out.be) HC.out (HA'.out.below N1.out.be) HC'.out).mono ?_
  rintro e w2 ⟨rfl, hb⟩
  have N2 := Lib.hid (N1.out.below hb)
  clear hb N1 x0
  have x0 := N2.out.r0.cell
  by_cases h1 : trackP r c x r' c' l
  · rw [decide_eq_true h1]
    obtain ⟨p1, p2, q1, q2, q3, p6⟩ := h1
    obtain ⟨a1, a2, a3, a4, a5, a6⟩ := rightM_parts p1
    obtain ⟨b1, b2, b3, b4, b5, b6⟩ := rightM_parts p2
    obtain ⟨n, hn⟩ : ∃ n : Nat, r = n := ⟨r.toNat, by omega⟩
    rw [hn] at q2 q3
    subst hn q1 q2 q3
    rw [Int.toNat_natCast] at a5 b5 p6
    have n64 := sq8 (show n ≤ 8 by omega)
    have HN : Hid (1 ≤ n ∧ n ≤ 8) := Lib.hid ⟨by omega, by omega⟩
    have HL : Hid (x.length = n * 1 ∧ l.length = n * n ∧ n * n ≤ 64) := Lib.hid ⟨a5, b5, n64⟩
    have HT := Lib.hid (told_eye n x l (inR_of a6) (inR_of b6) a5 b5 p6)
    clear p1 p2 p6 a1 a2 a3 a4 a5 a6 b1 b2 b3 b4 b5 b6 n64
    go_wp2_with fail
    refine (eye_of n HN.out.1 HN.out.2 _).mono ?_
    rintro e w3 ⟨Ae, de, rfl, ho, hb⟩
    have ER := Lib.hid (Own.rd ho)
    have N3 := Lib.hid ((N2.out.below hb).alloc (.cells #[I n, I n, .slice Ae (eyeF n).length de] 26))
    have EB := Lib.hid (Row.new w3 26 #[I n, I n, .slice Ae (eyeF n).length de])
    have RE := Lib.hid (Rd.below ER.out.1 ((Below.refl _ _).alloc (Nat.le_refl _) (.cells #[I n, I n, .slice Ae (eyeF n).length de] 26)))
    clear ho hb x0 N2
    go_wp2_with fail
    rename_i K5 aK5
    generalize w3.alloc (.cells #[I n, I n, .slice Ae (eyeF n).length de] 26) = wr at N3 EB RE ⊢
    generalize w3.heap.size = eb at EB ⊢
    have KK5 : Hid (∀ w', Below wr.heap.size wr w' → (∀ o, w'.cell? ⟨w.heap.size, o, none⟩ = #[I n, I 1, .slice A x.length cp, I n, I n, .slice A' l.length cp'][o]?) ∧ (∀ o, w'.cell? ⟨eb, o, none⟩ = #[I n, I n, .slice Ae (eyeF n).length de][o]?)) := Lib.hid (fun w' h => ⟨(N3.out.r0.below h N3.out.r0.lt).cell, (EB.out.below h EB.out.lt).cell⟩)
    have BN := Lib.hid (Below.refl wr.heap.size wr)
    have T16 := Lib.hid (fun w' => none_sq n HN.out.2 w')
    have T25 : Hid (∀ w' Az dz, Below wr.heap.size wr w' → Rd w' Az (zsq n) → (zsq n).length ≤ dz → Calls Try.prog 25 #[.agg #[I n, I 1, .slice A x.length cp, I n, I n, .slice A' l.length cp'], .agg #[I n, I n, .slice Ae (eyeF n).length de], .agg #[I n, I n, .slice Az (zsq n).length dz]] w' fun e w'' => ∃ Ax dx Ap dp, e = .returned (.tuple #[.agg #[I n, I 1, .slice Ax x.length dx, I n, I n, .slice Ap l.length dp], .bool false, I 0]) ∧ Own w'' w'.heap.size (.slice Ax x.length dx) x ∧ Own w'' w'.heap.size (.slice Ap l.length dp) l ∧ (∀ k, (Value.slice Ax x.length dx).ownBlock = some k → (Value.slice Ap l.length dp).ownBlock ≠ some k) ∧ Below w'.heap.size w' w'') := Lib.hid (fun w' Az dz h hz kz => by
      have hw := bgo N3.out.be h
      exact predict_calls n A A' Ae Az cp cp' de dz x l (eyeF n) (zsq n) x l l l false false false w' HN.out.1 HN.out.2 HL.out.1 HL.out.2.1 fl_length fl_length HT.out (HA.out.below hw) HC.out (HA'.out.below hw) HC'.out (RE.out.below h) ER.out.2 hz kz)
    have REST : Hid (∀ (tb : Nat) (w6 : World) (Az : Option Addr) (dz : Nat) (Ax : Option Addr) (dx : Nat) (Ap : Option Addr) (dp : Nat), Below wr.heap.size wr w6 → Row w6 tb 28 #[I n, I 1, .slice Ax x.length dx, I n, I n, .slice Ap l.length dp] → Rd w6 Ax x → x.length ≤ dx → Rd w6 Ap l → l.length ≤ dp → K5 { tmps := #[Value.agg #[I n, I 1, Value.slice A x.length cp, I n, I n, Value.slice A' l.length cp'], Value.pointer (some ⟨w.heap.size, 0, none⟩), Value.bool false, Value.bool true, Value.pointer (some ⟨eb, 0, none⟩), I 0, Value.pointer (some ⟨tb, 0, none⟩), Value.bool false, I 0, Value.bool true, Value.agg #[I n, I 1, Value.slice A x.length cp, I n, I n, Value.slice A' l.length cp'], Value.bool true, Value.bool false, undef, Value.tuple #[Value.agg #[I n, I n, Value.slice Ae (eyeF n).length de], I 0], Value.pointer (some ⟨w.heap.size, 0, none⟩), Value.pointer (some ⟨w.heap.size, 0, none⟩), I n, Value.tuple #[Value.agg #[I n, I n, Value.slice Ae (eyeF n).length de], I 0], Value.agg #[I n, I n, Value.slice Ae (eyeF n).length de], I 0, Value.tuple #[Value.agg #[I n, I 1, Value.slice Ax x.length dx, I n, I n, Value.slice Ap l.length dp], Value.bool false, I 0], Value.agg #[I n, I 1, Value.slice A x.length cp, I n, I n, Value.slice A' l.length cp'], Value.agg #[I n, I n, Value.slice Ae (eyeF n).length de], Value.pointer (some ⟨w.heap.size, 0, none⟩), Value.pointer (some ⟨w.heap.size, 0, none⟩), I n, Value.pointer (some ⟨w.heap.size, 0, none⟩), Value.pointer (some ⟨w.heap.size, 0, none⟩), I n, Value.agg #[I n, I n, Value.slice Az (zsq n).length dz], Value.tuple #[Value.agg #[I n, I 1, Value.slice Ax x.length dx, I n, I n, Value.slice Ap l.length dp], Value.bool false, I 0], Value.agg #[I n, I 1, Value.slice Ax x.length dx, I n, I n, Value.slice Ap l.length dp], Value.bool false, I 0, undef, undef, undef, undef, undef, undef, undef, undef, undef, undef, undef, undef, undef, undef], defers := [] } w6) := Lib.hid (by
      intro tb w6 Az dz Ax dx Ap dp hB hT hx kx hp kp
      refine aK5 _ _ ?_
      have N6 := Lib.hid (N3.out.below hB)
      have x0 := N6.out.r0.cell
      have xt := hT.cell
      have T21 := Lib.hid (trackSame_calls n 1 n n n 1 n n Ax Ap A A' dx dp cp cp' x l x l w6 hx kx hp kp (HA.out.below N6.out.be) HC.out (HA'.out.below N6.out.be) HC'.out (by have := HL.out; have := HN.out; omega) (by have := HL.out; omega))
      rw [decide_eq_true ⟨⟨rfl, rfl, rfl⟩, ⟨rfl, rfl, rfl⟩⟩] at T21
      clear hB hT hx kx hp kp
      go_wp2_with fail
      refine T21.out.mono ?_
      rintro e w7 ⟨rfl, hb⟩
      have B7 := Lib.hid (bgo N6.out.be hb)
      clear hb x0 xt
      go_wp2
      go_ret
      exact ⟨rfl, B7.out⟩)
    go_region_held3 (fun w' => (∀ o, w'.cell? ⟨w.heap.size, o, none⟩ = #[I n, I 1, .slice A x.length cp, I n, I n, .slice A' l.length cp'][o]?) ∧ (∀ o, w'.cell? ⟨eb, o, none⟩ = #[I n, I n, .slice Ae (eyeF n).length de][o]?))
      (first | with_reducible exact KK5.out _ BN.out | with_reducible exact KK5.out _ (bal BN.out _) | with_reducible exact KK5.out _ (bdr BN.out) | with_reducible exact KK5.out _ (bal (bdr BN.out) _) | with_reducible exact KK5.out _ (bdr (bal BN.out _)) | ((with_reducible refine KK5.out _ (Below.fill6 BN.out ?_ _ _ _ _ _ _)); first | omega | (simp; omega)))
      (first
        | (go_at_call 25
           first
             | ((with_reducible refine (T25.out _ _ _ (BN.out) ZR.out ZC.out).mono ?_)
                rintro e w5 ⟨Ax, dx, Ap, dp, rfl, ox, op, hne, hb⟩
                have OX := Lib.hid ox
                have OP := Lib.hid op
                have ZR := Lib.hid (Rd.below ZR.out hb)
                have BN := Lib.hid (bgo (BN.out) hb)
                have zw5 := BN.out.size
                first
                  | (have TB := Lib.hid (Row.below TB.out hb TB.out.lt)
                     have kc := TB.out.cell
                     have kf := TB.out.free)
                  | skip
                clear hb ox op hne)
             | ((with_reducible refine (T25.out _ _ _ (bal BN.out _) (Rd.below ZR.out ((Below.refl _ _).alloc (Nat.le_refl _) _)) ZC.out).mono ?_)
                rintro e w5 ⟨Ax, dx, Ap, dp, rfl, ox, op, hne, hb⟩
                have OX := Lib.hid ox
                have OP := Lib.hid op
                have ZR := Lib.hid (Rd.below (Rd.below ZR.out ((Below.refl _ _).alloc (Nat.le_refl _) _)) hb)
                have BN := Lib.hid (bgo (bal BN.out _) hb)
                have zw5 := BN.out.size
                have TB : Hid (Row w5 w4.heap.size 28 #[I 0, I 0, .slice none 0 0, I 0, I 0, .slice none 0 0]) := Lib.hid (Row.below (Row.new w4 28 #[I 0, I 0, .slice none 0 0, I 0, I 0, .slice none 0 0]) hb (by simp))
                have zt := TB.out.lt
                have kc := TB.out.cell
                have kf := TB.out.free
                clear hb ox op hne))
        | (go_at_call 16
           first
             | ((with_reducible refine (T16.out _).mono ?_)
                rintro e w4 ⟨Az, dz, rfl, ho, hb⟩
                have ZR := Lib.hid (Own.rd ho).1
                have ZC := Lib.hid (Own.rd ho).2
                have BN := Lib.hid (bgo (bdr BN.out) hb)
                have zw4 := BN.out.size
                clear hb ho)
             | ((with_reducible refine (T16.out _).mono ?_)
                rintro e w4 ⟨Az, dz, rfl, ho, hb⟩
                have ZR := Lib.hid (Own.rd ho).1
                have ZC := Lib.hid (Own.rd ho).2
                have BN := Lib.hid (bgo (bal (bdr BN.out) _) hb)
                have zw4 := BN.out.size
                have TB : Hid (Row w4 wr.heap.size 28 #[I 0, I 0, .slice none 0 0, I 0, I 0, .slice none 0 0]) := Lib.hid (Row.below (Row.new wr.drew 28 #[I 0, I 0, .slice none 0 0, I 0, I 0, .slice none 0 0]) hb (by simp))
                have zt := TB.out.lt
                have kc := TB.out.cell
                have kf := TB.out.free
                clear hb ho)
             | ((with_reducible refine (T16.out _).mono ?_)
                rintro e w4 ⟨Az, dz, rfl, ho, hb⟩
                have ZR := Lib.hid (Own.rd ho).1
                have ZC := Lib.hid (Own.rd ho).2
                have BN := Lib.hid (bgo (bdr (bal BN.out _)) hb)
                have zw4 := BN.out.size
                have TB : Hid (Row w4 wr.heap.size 28 #[I 0, I 0, .slice none 0 0, I 0, I 0, .slice none 0 0]) := Lib.hid (Row.below (Row.drew (Row.new wr 28 #[I 0, I 0, .slice none 0 0, I 0, I 0, .slice none 0 0])) hb (by simp))
                have zt := TB.out.lt
                have kc := TB.out.cell
                have kf := TB.out.free
                clear hb ho)))
    all_goals
      show K5 _ _
      first
        | (with_reducible refine REST.out _ _ _ _ _ _ _ _ (bal BN.out _) (Row.new _ _ _) (Own.rd (OX.out.alloc _)).1 (Own.rd OX.out).2 (Own.rd (OP.out.alloc _)).1 (Own.rd OP.out).2)
        | ((with_reducible refine REST.out _ _ _ _ _ _ _ _ (Below.fill6 BN.out ?_ _ _ _ _ _ _) (Row.fill6 TB.out _ _ _ _ _ _) (Own.rd (Own.fill6 OX.out ?_ _ _ _ _ _ _)).1 (Own.rd OX.out).2 (Own.rd (Own.fill6 OP.out ?_ _ _ _ _ _ _)).1 (Own.rd OP.out).2)
           all_goals first | omega | (simp; done) | (simp; omega))
  · rw [decide_eq_false h1]
    clear h1
    go_wp2_with fail
    go_ret
    exact ⟨rfl, N2.out.be⟩
end Go.Proofs.Ytninmcmajbfccaa.PR
