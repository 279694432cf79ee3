import Derived.Test.YtnijhjbcjeohhaaV6
/- Joined and thinned by a program of this session's own (wip/pack2.py) out of its texts (wip/ of its repo); parts were laid by its own program (wip/print-patch.py over the kit's print) out of the translation; Lean checks all. -/
set_option maxRecDepth 100000
set_option maxHeartbeats 20000000
namespace Go.Proofs.Ytnijhjbcjeohhaa.PR
open Go.RowKit Go.Proofs.Ytnijhjbcjeohhaa.PQ Go.Proofs.af.aO Go.Proofs.af.aU Go.Proofs.af.aV Go.Proofs.Ytnijhjbcjeohhaa.KK
set_option linter.unusedVariables false
set_option linter.unusedSimpArgs false
theorem _root_.Go.Proofs.Ytnijhjbcjeohhaa.KK.Rd.touch {w w' : World} {A : Option Addr} {l : List Int} {g : Nat} (h : Rd w A l) (hg : w.grownBy w' (some g)) (hne : ∀ ad, A = some ad → 0 < l.length → ad.block ≠ g) : Rd w' A l := by
 refine ⟨h.1, h.2.1, fun hp => ?_⟩
 obtain ⟨ad, e, hc⟩ := h.2.2 hp
 refine ⟨ad, e, fun j p hj => ?_⟩
 obtain ⟨c, h1, h2, h3⟩ := hc j p hj
 refine ⟨c, h1, h2, fun i u hi => ?_⟩
 have hx := h3 i u hi
 have hb : (ad.add (j * (Kd.int .i64).sz + i)).block = ad.block := rC _ _
 have hlt := cell_lt hx
 rw [hb] at hlt
 have hk := hg.block ad.block hlt (fun e' => hne ad e hp (by injection e'))
 rw [← hx]
 unfold World.cell?
 rw [hb, hk]
theorem _root_.Go.Proofs.Ytnijhjbcjeohhaa.KK.Own.touch {w w' : World} {base g : Nat} {v : Value} {l : List Int} (h : Own w base v l) (hg : w.grownBy w' (some g)) (hb : g < base) : Own w' base v l :=
 Own.sH (lC h.row fun k hk => hg.block k (h.row.lt k hk).2 (fun e => by have := (h.row.lt k hk).1; injection e with e; omega))
structure Sg (w0 : World) (g : Nat) (L : List (TypeId × Array Value)) (w : World) : Prop where
 rows : KK.Rows w w0.heap.size L
 gr : w0.grownBy w (some g)
section
variable {w w' w0 : World} {g : Nat} {L : List (TypeId × Array Value)}
theorem Sg.of (h : aX w0 L w) : Sg w0 g L w := ⟨h.rows, KK.dA h.be _⟩
theorem Sg.below (h : Sg w0 g L w) (hb : Below w.heap.size w w') : Sg w0 g L w' := ⟨h.rows.below hb, bG h.gr (KK.dA hb _)⟩
theorem Sg.alloc (h : Sg w0 g L w) (o : Obj) : Sg w0 g L (w.alloc o) := h.below ((Below.refl _ _).alloc (Nat.le_refl _) o)
theorem Sg.drew (h : Sg w0 g L w) : Sg w0 g L w.drew := h.below (Below.refl _ _).drew
theorem Sg.touch (h : Sg w0 g L w) (hg : w.grownBy w' (some g)) (hlt : g < w0.heap.size) : Sg w0 g L w' :=
 ⟨h.rows.imp fun k t cs hk _ r => r.grown hg (fun e => by injection e with e; omega), bG h.gr hg⟩
variable {x0 x1 x2 x3 x4 x5 : TypeId × Array Value}
theorem Sg.r0 (h : Sg w0 g (x0 :: L) w) : Row w w0.heap.size x0.1 x0.2 := h.rows.1
theorem Sg.r1 (h : Sg w0 g (x0 :: x1 :: L) w) : Row w (w0.heap.size + 1) x1.1 x1.2 := h.rows.2.1
theorem Sg.r2 (h : Sg w0 g (x0 :: x1 :: x2 :: L) w) : Row w (w0.heap.size + 1 + 1) x2.1 x2.2 := h.rows.2.2.1
theorem Sg.r3 (h : Sg w0 g (x0 :: x1 :: x2 :: x3 :: L) w) : Row w (w0.heap.size + 1 + 1 + 1) x3.1 x3.2 := h.rows.2.2.2.1
end
theorem wK (g : Nat) (s o : Bool) (q : Int) (w : World) (R : Row w g 158 #[.bool s]) :
 Calls Try.prog 119 #[.pointer (some ⟨g, 0, none⟩), I q, .bool o] w fun e w' => e = .returned (I q) ∧ Row w' g 158 #[.bool (s || o)] ∧ w.grownBy w' (some g) := by
 have x := R.cell
 have f := R.free
 have HR := Lib.hid (R.set 0 (.bool (s || o)))
 have HG : Hid (w.grownBy (w.setCell ⟨g, 0, none⟩ (.bool (s || o))) (some g)) := Lib.hid ⟨rfl, rfl, rfl, by simp, fun k hk hne => Below.heap_setCell w _ _ k (fun e => hne (by rw [e]))⟩
 clear R
 cases s
 all_goals
  go_enter Try.func119, Try.ntmps119
  go_wp2
  go_ret
  exact ⟨rfl, by simpa using HR.out, by simpa using HG.out⟩
theorem Nu (w : World) (g j : Nat) (u : Value) : w.grownBy (w.setCell ⟨g, j, none⟩ u) (some g) := ⟨rfl, rfl, rfl, by simp, fun k hk hne => Below.heap_setCell w _ _ k (fun e => hne (by rw [e]))⟩
theorem NY (g : Nat) (s u : Bool) (X : Array Value) (w : World) (R : Row w g 158 #[.bool s]) (W : World) (hW : W = ((w.setCell ⟨g, 0, none⟩ (.bool u)).alloc (.cells X 31)).alloc (.cells X 31)) :
 Row W (w.heap.size + 1) 31 X ∧ Row W g 158 #[.bool u] ∧ w.grownBy W (some g) := by
 subst hW
 refine ⟨?_, ?_, ?_⟩
 · have := Row.new ((w.setCell ⟨g, 0, none⟩ (.bool u)).alloc (.cells X 31)) 31 X
   simpa using this
 · exact ((R.set 0 (.bool u)).alloc _).alloc _
 · exact bG (Nu w g 0 _) (KK.dA (((Below.refl _ _).alloc (Nat.le_refl _) _).alloc (by simp) _) _)
theorem og (g : Nat) (s o : Bool) (a b c : Int) (A : Option Addr) (n cp : Nat) (w : World) (R : Row w g 158 #[.bool s]) :
 Calls Try.prog 100 #[.pointer (some ⟨g, 0, none⟩), .agg #[I a, I b, .slice A n cp], .bool o, I c] w fun e w' => e = .returned (.agg #[I a, I b, .slice A n cp]) ∧ Row w' g 158 #[.bool (s || o)] ∧ w.grownBy w' (some g) := by
 have hg := R.lt
 have E := Lib.hid (fun u W h => NY g s u #[I a, I b, .slice A n cp] w R W h)
 have x := R.cell
 have f := R.free
 clear R
 cases s
 all_goals
  go_enter Try.func100, Try.ntmps100
  go_wp2
  first
   | exact bodyPost_ret (RJ rfl rfl (E.out o _ rfl).1) rfl ⟨rfl, (E.out o _ rfl).2.1, (E.out o _ rfl).2.2⟩
   | exact bodyPost_ret (RJ rfl rfl (E.out true _ rfl).1) rfl ⟨rfl, (E.out true _ rfl).2.1, (E.out true _ rfl).2.2⟩
end Go.Proofs.Ytnijhjbcjeohhaa.PR

namespace Go.Proofs.Ytnijhjbcjeohhaa.PR
open Go.RowKit Go.Proofs.Ytnijhjbcjeohhaa.PQ Go.Proofs.af.aO Go.Proofs.af.aU Go.Proofs.af.aV Go.Proofs.Ytnijhjbcjeohhaa.KK
set_option linter.unusedVariables false
set_option linter.unusedSimpArgs false
theorem GI {w0 w : World} {g : Nat} {s : Bool} (h : aC w0 w g s) : Row w g 158 #[.bool s] := h.1
theorem grown_of {w0 w w' : World} {g : Nat} (hB : Below w0.heap.size w0 w) (hB' : Below w0.heap.size w0 w') (hk : bg w w' g none) : w.grownBy w' (some g) :=
 ⟨hB'.os.trans hB.os.symm, hB'.tape.trans hB.tape.symm, hB'.output.trans hB.output.symm, hk.1, fun k hk' hne => hk.2 k hk' (fun e => hne (by rw [e])) (by simp)⟩
theorem t_ {w0 w w' : World} {g : Nat} (hB : Below w0.heap.size w0 w) (hg : w0.heap.size ≤ g) (h : w.grownBy w' (some g)) : Below w0.heap.size w0 w' :=
 ⟨h.os.trans hB.os, h.tape.trans hB.tape, h.output.trans hB.output, Nat.le_trans hB.size h.size, fun k hk => (h.block k (Nat.lt_of_lt_of_le hk hB.size) (fun e => by injection e with e; omega)).trans (hB.block k hk)⟩
theorem Sv {w w' : World} {g : Nat} (h : w.grownBy w' (some g)) : bg w w' g none := ⟨h.size, fun k hk hne _ => h.block k hk (fun e => hne (by injection e))⟩
theorem yg (w0 w : World) (g : Nat) (s : Bool) (cZ dn : Int) (A1 : Option Addr) (c1 : Nat) (l1 : List Int) (kY kX : Int) (A2 : Option Addr) (c2 : Nat) (l2 : List Int) (r1 r2 : Int) (r3 : List Int) (r4 : Bool)
 (R : Row w g 158 #[.bool s]) (hg : w0.heap.size ≤ g) (hB : Below w0.heap.size w0 w) (h1 : Rd w A1 l1) (hc1 : l1.length ≤ c1) (hf1 : ∀ ad, A1 = some ad → 0 < l1.length → ad.block ≠ g) (h2 : Rd w A2 l2) (hc2 : l2.length ≤ c2) (hf2 : ∀ ad, A2 = some ad → 0 < l2.length → ad.block ≠ g)
 (h : bD.f s cZ dn l1 kY kX l2 = some (r1, r2, r3, r4)) :
 Calls Try.prog 103 #[.pointer (some ⟨g, 0, none⟩), .agg #[I cZ, I dn, .slice A1 l1.length c1], .agg #[I kY, I kX, .slice A2 l2.length c2]] w fun e w' => ∃ A c, e = .returned (.agg #[I r1, I r2, .slice A r3.length c]) ∧ Own w' w.heap.size (.slice A r3.length c) r3 ∧ Row w' g 158 #[.bool r4] ∧ w.grownBy w' (some g) := by
 refine (bD.calls g s cZ dn A1 c1 l1 kY kX A2 c2 l2 r1 r2 r3 r4 w0 w ⟨R, hg⟩ hB h1 hc1 hf1 h2 hc2 hf2 h).mono ?_
 rintro e w' ⟨v, rfl, ho, hI, hb, hk⟩
 obtain ⟨A, c, rfl, _, _⟩ := Own.reads ho
 exact ⟨A, c, rfl, ho, hI.1, grown_of hB hb hk⟩
theorem Own.first {w : World} {base : Nat} {A : Option Addr} {c : Nat} {l : List Int} (h : Own w base (.slice A l.length c) l) (hp : 0 < l.length) : ∃ b off, A = some ⟨b, off, none⟩ ∧ w.cell? ⟨b, off, none⟩ = some (I (l.getD 0 0)) ∧ base ≤ b := by
 obtain ⟨A', c', he, _, hr⟩ := Own.reads h
 injection he with e1 _ _
 subst e1
 obtain ⟨b, off, rfl, _, hc⟩ := hr.cells hp
 refine ⟨b, off, rfl, ?_, ?_⟩
 · have := hc 0 _ (gX hp)
   simpa using this
 · exact (h.row.lt b rfl).1
theorem WE (a b : Int) (A : Option Addr) (n c : Nat) (w : World) : (Instr.field 31 (.agg #[.int .i64 a, .int .i64 b, .slice A n c]) 2).run Try.prog w = .ok (.slice A n c) w := by
 have hu := Try.underlying31
 have hk : Try.prog.cellsOf 29 = 1 := by kernel_rfl
 simp [Instr.field, go_sem, hu, hk, asAgg]
def dJ.f (lZ : Bool) (cZ : Int) (dn : Int) (bV : List Int) (II : Int) (IG : Int) (yZ : List Int) (kY : Int) (kX : Int) (jT : List Int) (a3 : Int) (a4 : Int) : Option (Int × Int × Bool) :=
 (iD.f kY kX jT cZ dn bV).bind fun m => if 0 < m.2.2.1.length then
   ((bD.f (lZ || m.2.2.2.1 || (kQ a3 (m.2.2.1.getD 0 0)).2) kY kX jT II IG yZ).bind fun b => if 0 < b.2.2.1.length then some ((kQ a3 (m.2.2.1.getD 0 0)).1, (iw (b.2.2.1.getD 0 0) a4).1, b.2.2.2 || (iw (b.2.2.1.getD 0 0) a4).2) else none) else none
theorem dJ.calls (g : Nat) (lZ : Bool) (cZ : Int) (dn : Int) (gm : Option Addr) (gp : Nat) (bV : List Int) (II : Int) (IG : Int) (KO : Option Addr) (OI : Nat) (yZ : List Int) (kY : Int) (kX : Int) (pO : Option Addr) (ry : Nat) (jT : List Int) (a3 : Int) (a4 : Int) (r1 : Int) (r2 : Int) (r3 : Bool) (w0 w : World) (hI : aC w0 w g lZ) (hB : Below w0.heap.size w0 w)
 (qh : Kd.C (Kd.int .i64) w gm bV.length bV) (rF : bV.length ≤ gp) (Ia : ∀ ad, gm = some ad → 0 < bV.length → ad.block ≠ g) (UU : Kd.C (Kd.int .i64) w KO yZ.length yZ) (UY : yZ.length ≤ OI) (Qd : ∀ ad, KO = some ad → 0 < yZ.length → ad.block ≠ g) (Hr : Kd.C (Kd.int .i64) w pO jT.length jT) (Ic : jT.length ≤ ry) (H_ : ∀ ad, pO = some ad → 0 < jT.length → ad.block ≠ g)
 (h : dJ.f lZ cZ dn bV II IG yZ kY kX jT a3 a4 = some (r1, r2, r3)) :
 Calls Try.prog 118 #[.pointer (some ⟨g, 0, none⟩), .agg #[.int .i64 cZ, .int .i64 dn, .slice gm bV.length gp, .int .i64 II, .int .i64 IG, .slice KO yZ.length OI], .agg #[.int .i64 kY, .int .i64 kX, .slice pO jT.length ry], .int .i64 a3, .int .i64 a4] w fun e w' => e = .returned (.tuple #[.int .i64 r1, .int .i64 r2]) ∧ aC w0 w' g r3 ∧ Below w0.heap.size w0 w' ∧ bg w w' g none := by
 unfold dJ.f at h
 obtain ⟨⟨m1, m2, lm, fm, em⟩, hm, h⟩ := Option.bind_eq_some_iff.1 h
 dsimp only at h
 split at h
 case isFalse => cases h
 rename_i hp
 obtain ⟨⟨b1, b2, lb, fb⟩, hbt, h⟩ := Option.bind_eq_some_iff.1 h
 dsimp only at h
 split at h
 case isFalse => cases h
 rename_i hp2
 simp only [Option.some.injEq, Prod.mk.injEq] at h
 obtain ⟨rfl, rfl, rfl⟩ := h
 have hgl := (GI hI).lt
 have N : Hid (Sg w g [(33, #[I cZ, I dn, .slice gm bV.length gp, I II, I IG, .slice KO yZ.length OI]), (31, #[I kY, I kX, .slice pO jT.length ry])] ((w.alloc (.cells #[I cZ, I dn, .slice gm bV.length gp, I II, I IG, .slice KO yZ.length OI] 33)).alloc (.cells #[I kY, I kX, .slice pO jT.length ry] 31))) := Lib.hid (Sg.of (((aX.none w).push (by simp) _ _).push (by simp) _ _))
 have R := Lib.hid (((GI hI).alloc (.cells #[I cZ, I dn, .slice gm bV.length gp, I II, I IG, .slice KO yZ.length OI] 33)).alloc (.cells #[I kY, I kX, .slice pO jT.length ry] 31))
 have HG := Lib.hid hI.2
 have HB := Lib.hid hB
 have C1 := Lib.hid rF
 have C5 := Lib.hid UY
 have C2 := Lib.hid Ic
 have T1 := Lib.hid (fun w' (h : w.grownBy w' (some g)) => Rd.touch qh h Ia)
 have T5 := Lib.hid (fun w' (h : w.grownBy w' (some g)) => Rd.touch UU h Qd)
 have T2 := Lib.hid (fun w' (h : w.grownBy w' (some g)) => Rd.touch Hr h H_)
 have F2 := Lib.hid H_
 have F5 := Lib.hid Qd
 have HM := Lib.hid hm
 have HBT := Lib.hid hbt
 have P1 := Lib.hid hp
 have P2 := Lib.hid hp2
 have GL := Lib.hid hgl
 clear hI hB qh rF Ia UU UY Qd Hr Ic H_ hm hbt hp hp2 hgl
 obtain ⟨z, hz⟩ : ∃ z, kQ a3 (lm.getD 0 0) = z := ⟨_, rfl⟩
 obtain ⟨y, hy⟩ : ∃ y, iw (lb.getD 0 0) a4 = y := ⟨_, rfl⟩
 rw [hz] at HBT ⊢
 rw [hy]
 have HZ := Lib.hid hz
 have HY := Lib.hid hy
 clear hz hy
 obtain ⟨z1, z2⟩ := z
 obtain ⟨y1, y2⟩ := y
 dsimp only at HBT ⊢
 have hmf := KK.hmf
 have hfd := WE
 go_enter Try.func118, Try.ntmps118
 go_wp2_with fail
 refine (iD.calls kY kX pO ry jT cZ dn gm gp bV m1 m2 lm fm em _ (T2.out _ N.out.gr) C2.out (T1.out _ N.out.gr) C1.out HM.out).mono ?_
 rintro e w2 ⟨v, rfl, ho, hb⟩
 obtain ⟨Am, cm, rfl, _, _⟩ := Own.reads ho
 have O := Lib.hid ho
 have N2 := Lib.hid (N.out.below hb)
 have R2 := Lib.hid (R.out.below hb R.out.lt)
 clear ho hb
 go_wp2_with fail
 refine (og g lZ fm m1 m2 em Am lm.length cm w2 R2.out).mono ?_
 rintro e w3 ⟨rfl, hr3, hg3⟩
 have O3 := Lib.hid (Own.touch O.out hg3 (by have := GL.out; simp; omega))
 have N3 := Lib.hid (N2.out.touch hg3 GL.out)
 have R3 := Lib.hid hr3
 clear hr3 hg3
 obtain ⟨bm, om, rfl, x, _⟩ := Own.first O3.out P1.out
 have hlm : (0 : Int) < lm.length := by have := P1.out; omega
 go_wp2_with fail
 refine (pW a3 (lm.getD 0 0) w3).mono ?_
 rw [HZ.out]
 rintro e w4 ⟨rfl, hb⟩
 have N4 := Lib.hid (N3.out.below hb)
 have R4 := Lib.hid (R3.out.below hb R3.out.lt)
 clear hb x
 go_wp2_with fail
 refine (wK g (lZ || fm) z2 z1 w4 R4.out).mono ?_
 rintro e w5 ⟨rfl, hr5, hg5⟩
 have N5 := Lib.hid (N4.out.touch hg5 GL.out)
 have R5 := Lib.hid hr5
 clear hr5 hg5
 have x0 := N5.out.r0.cell
 have x1 := N5.out.r1.cell
 go_wp2_with fail
 refine (yg w0 w5 g _ kY kX pO ry jT II IG KO OI yZ b1 b2 lb fb R5.out HG.out (t_ HB.out HG.out N5.out.gr) (T2.out _ N5.out.gr) C2.out F2.out (T5.out _ N5.out.gr) C5.out F5.out HBT.out).mono ?_
 rintro e w6 ⟨Ab, cb, rfl, ho, hr6, hg6⟩
 have N6 := Lib.hid (N5.out.touch hg6 GL.out)
 have R6 := Lib.hid hr6
 obtain ⟨bb, ob, rfl, x, _⟩ := Own.first ho P2.out
 have hlb : (0 : Int) < lb.length := by have := P2.out; omega
 clear hr6 hg6 ho x0 x1 hlm
 go_wp2_with fail
 refine (nS (lb.getD 0 0) a4 w6).mono ?_
 rw [HY.out]
 rintro e w7 ⟨rfl, hb⟩
 have N7 := Lib.hid (N6.out.below hb)
 have R7 := Lib.hid (R6.out.below hb R6.out.lt)
 clear hb x
 go_wp2_with fail
 refine (wK g fb y2 y1 w7 R7.out).mono ?_
 rintro e w8 ⟨rfl, hr8, hg8⟩
 have N8 := Lib.hid (N7.out.touch hg8 GL.out)
 have R8 := Lib.hid hr8
 clear hr8 hg8
 go_wp2
 go_ret2
 exact ⟨rfl, ⟨R8.out, HG.out⟩, t_ HB.out HG.out N8.out.gr, Sv N8.out.gr⟩
end Go.Proofs.Ytnijhjbcjeohhaa.PR

namespace Go.Proofs.Ytnijhjbcjeohhaa.PR
open Go.RowKit Go.Proofs.Ytnijhjbcjeohhaa.PQ Go.Proofs.af.aO Go.Proofs.af.aU Go.Proofs.af.aV Go.Proofs.Ytnijhjbcjeohhaa.KK
set_option linter.unusedVariables false
set_option linter.unusedSimpArgs false
theorem uF (a b : Int) (w : World) : Calls Try.prog 93 #[I a, I b] w fun e w' => e = .returned (.tuple #[I (yF a b).1, .bool (yF a b).2]) ∧ Below w.heap.size w w' := by
 obtain ⟨k, hk⟩ := U9 a b
 exact lu.calls k a b _ _ w (hk k (Nat.le_refl _))
def vP (n : Nat) (L : List Int) : Nat → List Int
 | 0 => L
 | j + 1 => (vP n L j).set (j * n + j) (mx (rd (vP n L j) (((j * n + j : Nat)) : Int)) 0)
def uY (n : Nat) (l : List Int) : List Int := vP n (Dy n l) n
theorem pK (n : Nat) (L : List Int) (j : Nat) : (vP n L j).length = L.length := by
 induction j with
 | zero => rfl
 | succ j ih => simp only [vP, List.length_set, ih]
theorem qZ (n : Nat) (l : List Int) : (Dy n l).length = n * n := upto_length
theorem Om (n : Nat) (L : List Int) (hn : n ≤ 8) (hL : L.length = n * n) : ∀ (d j : Nat), j + d = n → bJ.l0 (d + 1) n j n n (vP n L j) = some ((n : Int), (n : Int), vP n L n) := by
 intro d
 induction d with
 | zero =>
   intro j hj
   obtain rfl : j = n := by omega
   unfold bJ.l0
   rw [if_neg (by omega)]
 | succ d ih =>
   intro j hj
   have hlt := jE (r := n) (c := n) (i := j) (k := j) (by omega) (by omega)
   have hle : n * n ≤ 8 * 8 := Nat.mul_le_mul hn hn
   have e1 : (j : Int) * (n : Int) = ((j * n : Nat) : Int) := by push_cast; rfl
   have e2 : wrap64 ((j : Int) * (n : Int)) = ((j * n : Nat) : Int) := by rw [e1]; exact Gq (by omega) (by omega)
   have e3 : wrap64 (((j * n : Nat) : Int) + (j : Int)) = ((j * n + j : Nat) : Int) := by rw [Gq (by omega) (by omega)]; push_cast; rfl
   have e4 : wrap64 ((j : Int) + 1) = ((j + 1 : Nat) : Int) := by rw [Gq (by omega) (by omega)]; push_cast; rfl
   unfold bJ.l0
   rw [if_pos (by omega), e2, e3, if_pos (by omega), if_pos (by rw [pK, hL]; omega), e4, Int.toNat_natCast]
   exact ih (j + 1) (by omega)
theorem Ol (n : Nat) (l : List Int) (hn : n ≤ 8) (hl : l.length = n * n) : bJ.f (n + 1) n n l = some ((n : Int), (n : Int), uY n l) := by
 have e1 : (l.length : Int) = (n : Int) * (n : Int) := by rw [hl]; push_cast; rfl
 unfold bJ.f n_.f
 rw [if_pos ⟨rfl, by omega, by omega, by omega, by omega, e1⟩]
 simp only [Option.bind_some, Int.toNat_natCast]
 exact Om n (Dy n l) hn (qZ n l) n 0 (by omega)
theorem Bq (n : Nat) (A : Option Addr) (c : Nat) (l : List Int) (w : World) (hn : n ≤ 8) (hl : l.length = n * n) (hA : Rd w A l) (hc : l.length ≤ c) :
 Calls Try.prog 104 #[.agg #[I n, I n, .slice A l.length c]] w fun e w' => ∃ A2 c2, e = .returned (.agg #[I n, I n, .slice A2 (uY n l).length c2]) ∧ Own w' w.heap.size (.slice A2 (uY n l).length c2) (uY n l) ∧ Below w.heap.size w w' := by
 refine (bJ.calls (n + 1) n n A c l _ _ _ w hA hc (Ol n l hn hl)).mono ?_
 rintro e w' ⟨v, rfl, ho, hb⟩
 obtain ⟨A2, c2, rfl, _, _⟩ := Own.reads ho
 exact ⟨A2, c2, rfl, ho, hb⟩
def ig (r n : Nat) (a p : List Int) : List Int := mulL r n r (mulL r n n a p) (yX r n a)
def mV (r n : Nat) (a p : List Int) : Bool := qF r n n a p || qF r n r (mulL r n n a p) (yX r n a)
theorem jD (r c1 c2 : Nat) (l m : List Int) : (mulL r c1 c2 l m).length = r * c2 := upto_length
theorem shape {r c : Nat} {l : List Int} (hr : r ≤ 8) (hc : c ≤ 8) (hl : l.length = r * c) : 0 ≤ (r : Int) ∧ (r : Int) ≤ 8 ∧ 0 ≤ (c : Int) ∧ (c : Int) ≤ 8 ∧ (l.length : Int) = (r : Int) * (c : Int) :=
 ⟨by omega, by omega, by omega, by omega, by rw [hl]; push_cast; rfl⟩
theorem Ar {r c1 c2 : Nat} {l m : List Int} (hr : r ≤ 8) (h1 : c1 ≤ 8) (h2 : c2 ≤ 8) (hl : l.length = r * c1) (hm : m.length = c1 * c2) : iD.f r c1 l c1 c2 m = some ((r : Int), (c2 : Int), mulL r c1 c2 l m, qF r c1 c2 l m, 0) := by
 unfold iD.f
 rw [if_pos rfl, if_pos ⟨shape hr h1 hl, shape h1 h2 hm⟩]
 simp only [Int.toNat_natCast]
theorem Jd {r c : Nat} {l : List Int} (hr : r ≤ 8) (hc : c ≤ 8) (hl : l.length = r * c) : ji.f r c l = some ((c : Int), (r : Int), yX r c l) := by
 unfold ji.f
 rw [if_pos (shape hr hc hl)]
 simp only [Int.toNat_natCast]
theorem D_ (s : Bool) (a b : Int) (l : List Int) (o : Bool) (e : Int) : dw.f s a b l o e = some (a, b, l, s || o) := by
 unfold dw.f
 cases s <;> simp
theorem rD (s : Bool) (r n : Nat) (a p : List Int) (hr : r ≤ 8) (hn : n ≤ 8) (ha : a.length = r * n) (hp : p.length = n * n) :
 bD.f s r n a n n p = some ((r : Int), (r : Int), ig r n a p, s || mV r n a p) := by
 unfold bD.f
 simp only [Ar hr hn hn ha hp, Option.bind_some, D_, Jd hr hn ha, Ar hr hn hr (jD _ _ _ _ _) (vI r n a)]
 simp [ig, mV, Bool.or_assoc]
theorem pJ {w w' : World} {r : Option Nat} (h : w.grownBy w' r) {p : Addr} (hp : w.heap.size ≤ p.block) (u : Value) : w.grownBy (w'.setCell p u) r :=
 ⟨h.os, h.tape, h.output, by simpa using h.size, fun k hk hne => (Below.heap_setCell w' p u k (by omega)).trans (h.block k hk hne)⟩
theorem wZ {w w' : World} {r : Option Nat} (h : w.grownBy w' r) {C : Nat} (hp : w.heap.size ≤ C) (a b c : Value) : w.grownBy (bQ w' C a b c) r :=
 pJ (pJ (pJ h (p := ⟨C, 0, none⟩) hp a) (p := ⟨C, 1, none⟩) hp b) (p := ⟨C, 2, none⟩) hp c
theorem wC (g kb pb n : Nat) (s : Bool) (A : Option Addr) (cp : Nat) (k : List Int) (q : Int) (w : World) (hn : n ≤ 8) (hk : k.length = n * 1) (hA : Rd w A k) (hcp : k.length ≤ cp)
 (Rk : Row w kb 31 #[I n, I 1, .slice A k.length cp]) (Rp : Row w pb 156 #[.pointer (some ⟨g, 0, none⟩)]) (R : Row w g 158 #[.bool s]) :
 Calls Try.prog 124 #[I q, .pointer (some ⟨kb, 0, none⟩), .pointer (some ⟨pb, 0, none⟩)] w fun e w' => ∃ A2 c2, e = .returned (.agg #[I n, I 1, .slice A2 (jW n 1 k q).length c2]) ∧ Own w' w.heap.size (.slice A2 (jW n 1 k q).length c2) (jW n 1 k q) ∧ Row w' g 158 #[.bool (s || scaleB n 1 k q)] ∧ w.grownBy w' (some g) := by
 have hgl := R.lt
 have N : Hid (Sg w g [(31, #[I 0, I 0, .slice none 0 0])] (w.alloc (.cells #[I 0, I 0, .slice none 0 0] 31))) := Lib.hid (Sg.of ((aX.none w).push (by simp) _ _))
 have HS := Lib.hid (NW n 1 A cp k q _ hn (by omega) hk (hA.below ((Below.refl _ _).alloc (Nat.le_refl _) (.cells #[I 0, I 0, .slice none 0 0] 31))) hcp)
 have x0 := (Rk.alloc (.cells #[I 0, I 0, .slice none 0 0] 31)).cell
 have RP := Lib.hid (Rp.alloc (.cells #[I 0, I 0, .slice none 0 0] 31))
 have RG := Lib.hid (R.alloc (.cells #[I 0, I 0, .slice none 0 0] 31))
 have GL := Lib.hid hgl
 obtain ⟨L, hL⟩ : ∃ L, jW n 1 k q = L := ⟨_, rfl⟩
 obtain ⟨b, hb⟩ : ∃ b, scaleB n 1 k q = b := ⟨_, rfl⟩
 rw [hL, hb] at HS ⊢
 clear hn hk hA hcp Rk Rp R hgl hL hb
 go_enter Try.func124, Try.ntmps124
 go_wp2_with fail
 refine HS.out.mono ?_
 rintro e w2 ⟨v, rfl, ho, hb⟩
 obtain ⟨A2, c2, rfl, _, _⟩ := Own.reads ho
 have O := Lib.hid ho
 have N2 := Lib.hid ((N.out.below hb).alloc (.cells #[I n, I 1, .slice A2 L.length c2] 31))
 have RP2 := Lib.hid (RP.out.below hb RP.out.lt)
 have XY := Lib.hid ((RG.out.below hb RG.out.lt).alloc (.cells #[I n, I 1, .slice A2 L.length c2] 31))
 clear ho hb x0
 have x1 := RP2.out.cell
 have x2 := RP2.out.lt
 go_wp2_with fail
 refine (og g s b n 1 0 A2 L.length c2 _ XY.out).mono ?_
 rintro e w3 ⟨rfl, hr3, hg3⟩
 have O3 := Lib.hid (Own.touch (O.out.alloc _) hg3 (by have := GL.out; simp; omega))
 have N3 := Lib.hid (N2.out.touch hg3 GL.out)
 have R3 := Lib.hid hr3
 clear hr3 hg3 x1 x2
 have x1 := N3.out.r0.cell
 have g1 := N3.out.r0.free
 go_wp2
 refine bodyPost_ret (RJ rfl rfl (N3.out.r0.bQ _ _ _)) rfl ⟨_, _, rfl, ?_, R3.out.oL (by have := GL.out; omega), wZ N3.out.gr (Nat.le_refl _) _ _ _⟩
 exact (O3.out.bQ (by simp) _ _ _).lower (by simp)
end Go.Proofs.Ytnijhjbcjeohhaa.PR

namespace Go.Proofs.Ytnijhjbcjeohhaa.KK
open Go.RowKit
set_option linter.unusedVariables false
set_option linter.unusedSimpArgs false
section
variable {P : Program} {md : Region.Mode} {ops : Array Oper} {Q : Exit → Act → World → Prop} {S : World → Prop} {m : Nat}
def Until (P : Program) (md : Region.Mode) (ops : Array Oper) (Q : Exit → Act → World → Prop) (S : World → Prop) (m : Nat) : Nat → Array Bool → Act → World → Prop
 | 0, L, a, w => Region.ready md ops L = [] ∧ Q .normal a w
 | f + 1, L, a, w => (Region.ready md ops L = [] → Q .normal a w) ∧
     ∀ i ∈ Region.ready md ops L, wpOp P ops Q i (fun a' w' => ((L.setIfInBounds i true).getD m true = false → S w') ∧ Until P md ops Q S m f (L.setIfInBounds i true) a' w') a w
theorem Until.any : ∀ (f : Nat) (L : Array Bool) (a : Act) (w : World), Until P md ops Q S m f L a w → wpAny P md ops Q f L a w
 | 0, _, _, _, h => h
 | f + 1, _, _, _, h => ⟨h.1, fun i hi => wpOp_mono (fun a' w' h' => Until.any f _ a' w' h'.2) (h.2 i hi)⟩
def waits (md : Region.Mode) (ops : Array Oper) (m i : Nat) : Bool := match ops[m]? with | some o => o.after.any fun e => Region.binds md e && e.on == i | none => false
theorem I9 {i : Nat} (h : waits md ops m i = true) : ∃ o e, ops[m]? = some o ∧ e ∈ o.after ∧ Region.binds md e = true ∧ e.on = i := by
 unfold waits at h
 cases ho : ops[m]? with
 | none => rw [ho] at h; cases h
 | some o =>
   rw [ho] at h
   simp only [Array.any_eq_true'] at h
   obtain ⟨e, he, hb⟩ := h
   simp only [Bool.and_eq_true, beq_iff_eq] at hb
   exact ⟨o, e, rfl, he, hb.1, hb.2⟩
theorem yz {i j : Nat} {L : Array Bool} (hi : i ∈ Region.ready md ops L) (hj : j ∈ Region.ready md ops L) : ∃ o, ops[j]? = some o ∧ ∀ e ∈ o.after, Region.binds md e = true → e.on ≠ i := by
 obtain ⟨_, o, ho, hall⟩ := mem_ready.1 hj
 refine ⟨o, ho, fun e he hb heq => ?_⟩
 have h1 := hall e he hb
 have h0 := (mem_ready.1 hi).1
 rw [heq] at h1
 by_cases hs : i < L.size
 · rw [Array.getD_eq_getD_getElem?, Array.getElem?_eq_getElem hs] at h0 h1
   simp at h0 h1
   rw [h0] at h1
   cases h1
 · rw [Array.getD_eq_getD_getElem?, Array.getElem?_eq_none (by omega)] at h1
   simp at h1
theorem Until.first {i : Nat} {oi : Oper} {v : Value} (hi : ops[i]? = some oi) (hs : Region.noSelect ops = true) (hQ : ∀ c a w, Q (.panic c) (a.put oi.dst v) w → Q (.panic c) a w) (hm : waits md ops m i = true) :
 ∀ (f : Nat) (L : Array Bool) (a : Act) (w : World),
   (∀ j oj, ops[j]? = some oj → j ≠ i → L.getD j true = false → (∀ e ∈ oj.after, Region.binds md e = true → e.on ≠ i) → oi.apart ops oj = true) →
   i ∈ Region.ready md ops L → L.getD m true = false → YieldsIf P ops S oi v a → S w →
   Until P md ops Q S m f (L.setIfInBounds i true) (a.put oi.dst v) w → Until P md ops Q S m (f + 1) L a w := by
 obtain ⟨om, em, hom, hem, hbm, Yx⟩ := I9 hm
 intro f
 induction f with
 | zero =>
   intro L a w hf hr hu hy hS H
   refine ⟨fun h => (by rw [h] at hr; cases hr), fun j hj => ?_⟩
   by_cases hji : j = i
   · subst hji; exact hy.wpOp hi hS ⟨fun _ => hS, H⟩
   · have h := ready_mono hj hji
     rw [H.1] at h
     cases h
 | succ f ih =>
   intro L a w hf hr hu hy hS H
   refine ⟨fun h => (by rw [h] at hr; cases hr), fun j hj => ?_⟩
   by_cases hji : j = i
   · subst hji; exact hy.wpOp hi hS ⟨fun _ => hS, H⟩
   · obtain ⟨oj, hoj, hno⟩ := yz hr hj
     have hjm : j ≠ m := fun e => by
      subst e
      rw [hom] at hoj
      injection hoj with hoj
      subst hoj
      exact hno em hem hbm Yx
     have him : i ≠ m := fun e => by
      subst e
      obtain ⟨o', ho', hn'⟩ := yz hr hr
      rw [hom] at ho'
      injection ho' with ho'
      subst ho'
      exact hn' em hem hbm Yx
     have hun := (mem_ready.1 hj).1
     have h2 := wpOp_putIf hoj (hf j oj hoj hji hun hno) (fun cs b => Region.noSelect_spec hs i oi cs b hi) (fun cs b => Region.noSelect_spec hs j oj cs b hoj) hQ hy (H.2 j (ready_mono hj hji))
     refine wpOp_mono (fun a' w' h3 => ?_) h2
     obtain ⟨hy', hS', H'⟩ := h3
     have hu' : (L.setIfInBounds j true).getD m true = false := by rw [getD_set_ne true hjm]; exact hu
     have hSw : S w' := hS' (by rw [getD_set_ne true hjm, getD_set_ne true him]; exact hu)
     refine ⟨fun _ => hSw, ih _ a' w' ?_ (ready_mono hr (Ne.symm hji)) hu' hy' hSw ?_⟩
     · intro k ok hk hki hku hkn
       refine hf k ok hk hki ?_ hkn
       by_cases hjk : j = k
       · subst hjk; exact hun
       · rw [getD_set_ne true hjk] at hku; exact hku
     · rw [Array.setIfInBounds_comm _ _ hji]
       exact H'
theorem Until.take {i : Nat} {oi : Oper} {v : Value} {f : Nat} {L : Array Bool} {a : Act} {w : World} (hi : ops[i]? = some oi)
 (hs : Region.noSelect ops = true) (hf : Region.free md ops L i = true) (hr : (Region.ready md ops L).contains i = true) (hm : waits md ops m i = true) (hu : L.getD m true = false)
 (hQ : ∀ c a w, Q (.panic c) (a.put oi.dst v) w → Q (.panic c) a w) (hy : YieldsIf P ops S oi v a) (hS : S w)
 (h : Until P md ops Q S m f (L.setIfInBounds i true) (a.put oi.dst v) w) : Until P md ops Q S m (f + 1) L a w :=
 Until.first hi hs hQ hm f L a w (Region.free_spec hi hf) (by simpa using hr) hu hy hS h
theorem Until.one {i : Nat} {o : Oper} {f : Nat} {L : Array Bool} {a : Act} {w : World} (hr : Region.ready md ops L = [i]) (ho : ops[i]? = some o)
 (h : ∀ K' : Act → World → Prop, Shut (∀ a w, ((L.setIfInBounds i true).getD m true = false → S w) → Until P md ops Q S m f (L.setIfInBounds i true) a w → K' a w) → if Region.wanted o (yielded ops a.tmps) = true then Oper.wp P o a w K' Q else K' (a.put o.dst undef) w) :
 Until P md ops Q S m (f + 1) L a w := by
 refine ⟨fun h0 => (by rw [hr] at h0; cases h0), fun j hj => ?_⟩
 rw [hr] at hj
 obtain rfl := List.mem_singleton.1 hj
 have h1 := h (fun a' w' => ((L.setIfInBounds j true).getD m true = false → S w') ∧ Until P md ops Q S m f (L.setIfInBounds j true) a' w') (fun a w hS hU => ⟨hS, hU⟩)
 unfold wpOp
 simp only [ho]
 split
 · rename_i hw
   rw [if_pos hw] at h1
   exact .inl h1
 · rename_i hw
   rw [if_neg hw] at h1
   exact h1
theorem Until.done {L : Array Bool} {a : Act} {w : World} (hr : Region.ready md ops L = []) (h : Q .normal a w) : ∀ f, Until P md ops Q S m f L a w
 | 0 => ⟨hr, h⟩
 | _ + 1 => ⟨fun _ => h, by rw [hr]; simp⟩
theorem wE {id : Nat} {a : Act} {w : World} (S : World → Prop) (m : Nat) (hm : P.follows .mixedOrders = true) (hS : S w.drew) (h : S w.drew → Until P .any ops (NoPanic Q) S m ops.size (Array.replicate ops.size false) a w.drew) : (Code.region id ops true).wp P Q a w :=
 wp_region_noPanic (wp_region_any hm (Until.any _ _ _ _ (h hS)))
end
end Go.Proofs.Ytnijhjbcjeohhaa.KK

namespace Go.Proofs.Ytnijhjbcjeohhaa.PR
open Go.RowKit Go.Proofs.Ytnijhjbcjeohhaa.PQ Go.Proofs.af.aO Go.Proofs.af.aU Go.Proofs.af.aV Go.Proofs.Ytnijhjbcjeohhaa.KK
set_option linter.unusedVariables false
set_option linter.unusedSimpArgs false
theorem Own.grown {w w' : World} {base : Nat} {v : Value} {l : List Int} {r : Option Nat} (h : Own w base v l) (hg : w.grownBy w' r) (hr : ∀ k, r = some k → k < base) : Own w' base v l :=
 Own.sH (lC h.row fun k hk => hg.block k (h.row.lt k hk).2 (fun e => by have := (h.row.lt k hk).1; have := hr k e.symm; omega))
theorem Sg.bQ {w w' : World} {g : Nat} {L : List (TypeId × Array Value)} (h : Sg w g L w') {C : Nat} (hC : w.heap.size + L.length ≤ C) (a b c : Value) : Sg w g L (bQ w' C a b c) :=
 ⟨h.rows.imp fun k t cs _ hk r => r.oL (by omega), wZ h.gr (by omega) a b c⟩
theorem Own.jY {w : World} {base C : Nat} {v : Value} {l : List Int} (h : Own w base v l) (hne : ∀ q, v.ownBlock = some q → q ≠ C) (a b c : Value) : Own (bQ w C a b c) base v l :=
 Own.sH (lC h.row fun k hk => ((Below.heap_setCell _ _ c k (hne k hk)).trans (Below.heap_setCell _ _ b k (hne k hk))).trans (Below.heap_setCell w ⟨C, 0, none⟩ a k (hne k hk)))
theorem Sg.set {w w' : World} {g : Nat} {L : List (TypeId × Array Value)} (h : Sg w g L w') {p : Addr} (hC : w.heap.size + L.length ≤ p.block) (u : Value) : Sg w g L (w'.setCell p u) :=
 ⟨h.rows.imp fun k t cs _ hk r => r.far (by omega) u, pJ h.gr (by omega) u⟩
theorem Own.form {w : World} {base : Nat} {A : Option Addr} {c : Nat} {l : List Int} (h : Own w base (.slice A l.length c) l) (hp : 0 < l.length) : ∃ b, A = some ⟨b, 0, none⟩ ∧ base ≤ b := by
 rcases h.row.2 with ⟨_, h0⟩ | ⟨b, cap, cur, he, hb, _⟩
 · omega
 · injection he with e1 _ _
   exact ⟨b, e1, hb⟩
theorem _root_.Go.Proofs.Ytnijhjbcjeohhaa.KK.Own.drew {w : World} {base : Nat} {v : Value} {l : List Int} (h : KK.Own w base v l) : KK.Own w.drew base v l := h.below (Below.refl _ _).drew
theorem Own.rd {w : World} {base : Nat} {A : Option Addr} {c : Nat} {l : List Int} (h : Own w base (.slice A l.length c) l) : Rd w A l ∧ l.length ≤ c := by
 obtain ⟨A', c', he, hc, hr⟩ := Own.reads h
 injection he with e1 _ e3
 subst e1 e3
 exact ⟨hr, hc⟩
theorem jU (l : List Int) : (fF l).length = l.length * l.length := upto_length
def qi (sv : Int) (k0 : List Int) (j : Nat) : List Int := (k0.take j).map (fun q => (yF q sv).1) ++ k0.drop j
def BC (sv : Int) (k0 : List Int) (j : Nat) : Bool := (k0.take j).any (fun q => (yF q sv).2)
theorem Ik (sv : Int) (k0 : List Int) (j : Nat) (hj : j < k0.length) : (qi sv k0 j)[j]? = some (k0.getD j 0) := by
 unfold qi
 rw [List.getElem?_append_right (by simp; omega)]
 simp only [List.length_map, List.length_take, List.getElem?_drop]
 rw [show min j k0.length = j by omega, Nat.sub_self, Nat.add_zero]
 exact gX hj
theorem Ov (sv : Int) (k0 : List Int) (j : Nat) (hj : j < k0.length) : (qi sv k0 j).set j (yF (k0.getD j 0) sv).1 = qi sv k0 (j + 1) := by
 unfold qi
 rw [List.set_append_right _ _ (by simp; omega)]
 simp only [List.length_map, List.length_take]
 rw [show min j k0.length = j by omega, Nat.sub_self, List.take_add_one, gX hj, List.map_append, List.append_assoc]
 congr 1
 have hd : k0.drop j = k0.getD j 0 :: k0.drop (j + 1) := by
  rw [List.drop_eq_getElem_cons hj]
  congr 1
  rw [List.getD_eq_getElem?_getD, List.getElem?_eq_getElem hj]; rfl
 rw [hd]
 simp
theorem Ox (sv : Int) (k0 : List Int) (j : Nat) (hj : j < k0.length) : BC sv k0 (j + 1) = (BC sv k0 j || (yF (k0.getD j 0) sv).2) := by
 unfold BC
 rw [List.take_add_one, gX hj, List.any_append]
 simp
abbrev eY (w : World) (C : Nat) (a b c d e f : Value) : World := (((((w.setCell ⟨C, 0, none⟩ a).setCell ⟨C, 1, none⟩ b).setCell ⟨C, 2, none⟩ c).setCell ⟨C, 3, none⟩ d).setCell ⟨C, 4, none⟩ e).setCell ⟨C, 5, none⟩ f
theorem Row.eY {w : World} {B : Nat} {t : TypeId} {a' b' c' d' e' f' : Value} (h : Row w B t #[a', b', c', d', e', f']) (a b c d e f : Value) : Row (eY w B a b c d e f) B t #[a, b, c, d, e, f] := by
 simpa using (((((h.set 0 a).set 1 b).set 2 c).set 3 d).set 4 e).set 5 f
theorem Row.rU {w : World} {B C : Nat} {t : TypeId} {cs : Array Value} (h : Row w B t cs) (hne : B ≠ C) (a b c d e f : Value) : Row (PR.eY w C a b c d e f) B t cs :=
 (((((h.far (p := ⟨C, 0, none⟩) hne a).far (p := ⟨C, 1, none⟩) hne b).far (p := ⟨C, 2, none⟩) hne c).far (p := ⟨C, 3, none⟩) hne d).far (p := ⟨C, 4, none⟩) hne e).far (p := ⟨C, 5, none⟩) hne f
theorem Qj {w w' : World} {r : Option Nat} (h : w.grownBy w' r) {C : Nat} (hp : w.heap.size ≤ C) (a b c d e f : Value) : w.grownBy (PR.eY w' C a b c d e f) r :=
 pJ (pJ (pJ (pJ (pJ (pJ h (p := ⟨C, 0, none⟩) hp a) (p := ⟨C, 1, none⟩) hp b) (p := ⟨C, 2, none⟩) hp c) (p := ⟨C, 3, none⟩) hp d) (p := ⟨C, 4, none⟩) hp e) (p := ⟨C, 5, none⟩) hp f
theorem Own.eY {w : World} {base C : Nat} {v : Value} {l : List Int} (h : Own w base v l) (hp : C < base) (a b c d e f : Value) : Own (PR.eY w C a b c d e f) base v l :=
 (((((h.far (p := ⟨C, 0, none⟩) hp a).far (p := ⟨C, 1, none⟩) hp b).far (p := ⟨C, 2, none⟩) hp c).far (p := ⟨C, 3, none⟩) hp d).far (p := ⟨C, 4, none⟩) hp e).far (p := ⟨C, 5, none⟩) hp f
theorem acJ {w : World} {B : Nat} {a b c d e f : Value} {fn : Func} {k : Nat} {tmps : Array Value} (h : fn.results = #[.cell k 33]) (hk : tmps.getD k undef = .pointer (some ⟨B, 0, none⟩)) (R : Row w B 33 #[a, b, c, d, e, f]) :
 (results fn tmps).run Try.prog w = .ok (.agg #[a, b, c, d, e, f]) w := by
 have c := R.cell
 have hk' : tmps[k]?.getD undef = .pointer (some ⟨B, 0, none⟩) := by simpa using hk
 simp only [results, h]
 simp [go_sem, hk', c]
structure Vg (n : Nat) (lx lp lh : List Int) (s : Bool) (y sv r : Int) (ht k0 k sy x kh ik p1 sr tk kk p2 P : List Int) (b1 b2 b3 b4 b5 b6 b7 b8 b9 b10 : Bool) : Prop where
 eht : yX 1 n lh = ht
 ek0 : mulL n n 1 lp ht = k0
 eb1 : qF n n 1 lp ht = b1
 ek : k0.map (fun q => (yF q sv).1) = k
 eb2 : k0.any (fun q => (yF q sv).2) = b2
 esy : jW n 1 k y = sy
 eb3 : scaleB n 1 k y = b3
 ex : iL iw n 1 lx sy = x
 eb4 : jv iw n 1 lx sy = b4
 ekh : mulL n 1 n k lh = kh
 eb5 : qF n 1 n k lh = b5
 eik : iL kQ n n (mg n) kh = ik
 eb6 : jv kQ n n (mg n) kh = b6
 ep1 : ig n n ik lp = p1
 eb7 : mV n n ik lp = b7
 esr : jW n 1 k r = sr
 eb8 : scaleB n 1 k r = b8
 etk : yX n 1 k = tk
 ekk : mulL n 1 n sr tk = kk
 eb9 : qF n 1 n sr tk = b9
 ep2 : iL iw n n p1 kk = p2
 adX : jv iw n n p1 kk = b10
 eP : uY n p2 = P
theorem Gw (w0 w : World) (g n : Nat) (s : Bool) (y sv r : Int) (A1 A2 A3 : Option Addr) (c1 c2 c3 : Nat) (lx lp lh : List Int) (ht k0 k sy x kh ik p1 sr tk kk p2 P : List Int) (b1 b2 b3 b4 b5 b6 b7 b8 b9 b10 : Bool)
 (h1 : 1 ≤ n) (h8 : n ≤ 8) (hx : lx.length = n * 1) (hp : lp.length = n * n) (hh : lh.length = 1 * n) (T : Vg n lx lp lh s y sv r ht k0 k sy x kh ik p1 sr tk kk p2 P b1 b2 b3 b4 b5 b6 b7 b8 b9 b10)
 (R : Row w g 158 #[.bool s]) (hg : w0.heap.size ≤ g) (hB : Below w0.heap.size w0 w) (rx : Rd w A1 lx) (cx : lx.length ≤ c1) (fx : ∀ ad, A1 = some ad → 0 < lx.length → ad.block ≠ g) (rp : Rd w A2 lp) (cp : lp.length ≤ c2) (fp : ∀ ad, A2 = some ad → 0 < lp.length → ad.block ≠ g) (rh : Rd w A3 lh) (ch : lh.length ≤ c3) (fh : ∀ ad, A3 = some ad → 0 < lh.length → ad.block ≠ g) :
 Calls Try.prog 120 #[.pointer (some ⟨g, 0, none⟩), .agg #[I n, I 1, .slice A1 lx.length c1, I n, I n, .slice A2 lp.length c2], .agg #[I 1, I n, .slice A3 lh.length c3], I y, I sv, I r] w fun e w' => ∃ Ax dx Ap dp, e = .returned (.agg #[I n, I 1, .slice Ax x.length dx, I n, I n, .slice Ap P.length dp]) ∧ Own w' w.heap.size (.slice Ax x.length dx) x ∧ Own w' w.heap.size (.slice Ap P.length dp) P ∧ (∀ k, (Value.slice Ax x.length dx).ownBlock = some k → (Value.slice Ap P.length dp).ownBlock ≠ some k) ∧ Row w' g 158 #[.bool (s || b1 || b2 || b3 || b4 || b5 || b6 || b7 || b8 || b9 || b10)] ∧ w.grownBy w' (some g) := by
 have hgl := R.lt
 have N : Hid (Sg w g [(156, #[.pointer (some ⟨g, 0, none⟩)]), (33, #[I n, I 1, .slice A1 lx.length c1, I n, I n, .slice A2 lp.length c2]), (31, #[I 1, I n, .slice A3 lh.length c3]), (33, #[I 0, I 0, .slice none 0 0, I 0, I 0, .slice none 0 0])] ((((w.alloc (.cells #[.pointer (some ⟨g, 0, none⟩)] 156)).alloc (.cells #[I n, I 1, .slice A1 lx.length c1, I n, I n, .slice A2 lp.length c2] 33)).alloc (.cells #[I 1, I n, .slice A3 lh.length c3] 31)).alloc (.cells #[I 0, I 0, .slice none 0 0, I 0, I 0, .slice none 0 0] 33))) := Lib.hid (Sg.of (((((aX.none w).push (by simp) _ _).push (by simp) _ _).push (by simp) _ _).push (by simp) _ _))
 have RG := Lib.hid ((((R.alloc (.cells #[.pointer (some ⟨g, 0, none⟩)] 156)).alloc (.cells #[I n, I 1, .slice A1 lx.length c1, I n, I n, .slice A2 lp.length c2] 33)).alloc (.cells #[I 1, I n, .slice A3 lh.length c3] 31)).alloc (.cells #[I 0, I 0, .slice none 0 0, I 0, I 0, .slice none 0 0] 33))
 have hlt : ht.length = n * 1 := by rw [← T.eht, vI]
 have HT := Lib.hid (fun w' (h : w.grownBy w' (some g)) => mJ 1 n A3 c3 lh w' (by omega) h8 hh (rh.touch h fh))
 rw [T.eht] at HT
 have HM := Lib.hid (fun At ct w' (h : w.grownBy w' (some g)) (ha : Rd w' At ht) => wM n n 1 A2 At c2 ct lp ht w' h8 h8 (by omega) hp hlt (rp.touch h fp) ha)
 rw [T.ek0, T.eb1] at HM
 have eo : ((1 : Nat) : Int) = 1 := rfl
 simp only [eo] at HT HM
 have KK : Hid (∀ w', Sg w g [(156, #[.pointer (some ⟨g, 0, none⟩)]), (33, #[I n, I 1, .slice A1 lx.length c1, I n, I n, .slice A2 lp.length c2]), (31, #[I 1, I n, .slice A3 lh.length c3]), (33, #[I 0, I 0, .slice none 0 0, I 0, I 0, .slice none 0 0])] w' → (∀ o, w'.cell? ⟨w.heap.size, o, none⟩ = #[.pointer (some ⟨g, 0, none⟩)][o]?) ∧ (∀ o, w'.cell? ⟨w.heap.size + 1, o, none⟩ = #[I n, I 1, .slice A1 lx.length c1, I n, I n, .slice A2 lp.length c2][o]?) ∧ (∀ o, w'.cell? ⟨w.heap.size + 1 + 1, o, none⟩ = #[I 1, I n, .slice A3 lh.length c3][o]?)) := Lib.hid (fun w' h => ⟨h.r0.cell, h.r1.cell, h.r2.cell⟩)
 have GL := Lib.hid hgl
 have HK0 : Hid (k0.length = n * 1) := Lib.hid (by rw [← T.ek0, jD])
 have HH := Lib.hid (And.intro h1 h8)
 have HT2 := Lib.hid T
 have TX := Lib.hid (fun w' (h : w.grownBy w' (some g)) => rx.touch h fx)
 have CX := Lib.hid cx
 have HX := Lib.hid hx
 have TP := Lib.hid (fun w' (h : w.grownBy w' (some g)) => rp.touch h fp)
 have CP := Lib.hid cp
 have FP := Lib.hid fp
 have HP := Lib.hid hp
 have TH := Lib.hid (fun w' (h : w.grownBy w' (some g)) => rh.touch h fh)
 have HHL := Lib.hid hh
 have HG0 := Lib.hid hg
 have HB0 := Lib.hid hB
 clear hgl hlt R hg hB rx cx fx rp cp fp rh ch fh h1 h8 hx hp hh T
 have y0 := N.out.r0.cell
 have y1 := N.out.r1.cell
 have y2 := N.out.r2.cell
 have SZ : Hid (((((w.alloc (.cells #[.pointer (some ⟨g, 0, none⟩)] 156)).alloc (.cells #[I n, I 1, .slice A1 lx.length c1, I n, I n, .slice A2 lp.length c2] 33)).alloc (.cells #[I 1, I n, .slice A3 lh.length c3] 31)).alloc (.cells #[I 0, I 0, .slice none 0 0, I 0, I 0, .slice none 0 0] 33)).heap.size = w.heap.size + 4) := Lib.hid (by simp)
 go_enter Try.func120, Try.ntmps120
 go_wp2_with fail
 rename_i K1 aK1
 obtain ⟨wr, hwr⟩ : ∃ wr, ((((w.alloc (.cells #[.pointer (some ⟨g, 0, none⟩)] 156)).alloc (.cells #[I n, I 1, .slice A1 lx.length c1, I n, I n, .slice A2 lp.length c2] 33)).alloc (.cells #[I 1, I n, .slice A3 lh.length c3] 31)).alloc (.cells #[I 0, I 0, .slice none 0 0, I 0, I 0, .slice none 0 0] 33)) = wr := ⟨_, rfl⟩
 rw [hwr] at N RG y0 y1 y2 SZ
 change Code.wp Try.prog _ _ _ ((((w.alloc (.cells #[.pointer (some ⟨g, 0, none⟩)] 156)).alloc (.cells #[I n, I 1, .slice A1 lx.length c1, I n, I n, .slice A2 lp.length c2] 33)).alloc (.cells #[I 1, I n, .slice A3 lh.length c3] 31)).alloc (.cells #[I 0, I 0, .slice none 0 0, I 0, I 0, .slice none 0 0] 33))
 rw [hwr]
 clear hwr
 have Vk : Hid (∀ (kb : Nat) (w5 : World) (Ak : Option Addr) (ck : Nat) (v22 v23 v24 v25 v26 v27 v28 v29 v30 v31 : Value), Sg w g [(156, #[.pointer (some ⟨g, 0, none⟩)]), (33, #[I n, I 1, .slice A1 lx.length c1, I n, I n, .slice A2 lp.length c2]), (31, #[I 1, I n, .slice A3 lh.length c3]), (33, #[I 0, I 0, .slice none 0 0, I 0, I 0, .slice none 0 0])] w5 → Row w5 kb 31 #[I n, I 1, .slice Ak k0.length ck] → Own w5 (w.heap.size + 4) (.slice Ak k0.length ck) k0 → Row w5 g 158 #[.bool (s || b1)] → w.heap.size + 4 ≤ kb → (∀ q, (Value.slice Ak k0.length ck).ownBlock = some q → q ≠ kb) → K1 { tmps := #[.pointer (some ⟨g, 0, none⟩), .agg #[I n, I 1, .slice A1 lx.length c1, I n, I n, .slice A2 lp.length c2], .agg #[I 1, I n, .slice A3 lh.length c3], I y, I sv, I r, .pointer (some ⟨w.heap.size, 0, none⟩), .pointer (some ⟨w.heap.size + 1, 0, none⟩), .pointer (some ⟨w.heap.size + 1 + 1, 0, none⟩), undef, undef, undef, .pointer (some ⟨w.heap.size + 1 + 1 + 1, 0, none⟩), .pointer (some ⟨kb, 0, none⟩), undef, undef, undef, undef, undef, undef, undef, undef, v22, v23, v24, v25, v26, v27, v28, v29, v30, v31, undef, undef, undef, undef, undef, undef, undef, undef, undef, undef, undef, undef, undef, undef, undef, undef, undef, undef, undef, undef, undef, undef, undef, undef, undef, undef, undef, undef, undef, undef, undef, undef, undef, undef, undef, undef, undef, undef, undef, undef, undef, undef, undef, undef, undef, undef, undef, undef, undef, undef, undef, undef, undef, undef, undef, undef, undef, undef, undef, undef, undef, undef, undef, undef, undef, undef, undef, undef, undef, undef, undef, undef, undef, undef, undef, undef, undef, undef, undef, undef, undef], defers := [] } w5) := Lib.hid (by
  as_aux_lemma =>
  intro kb w5 Ak ck v22 v23 v24 v25 v26 v27 v28 v29 v30 v31 hN hkb hO hR hge hne
  refine aK1 _ _ ?_
  have hpos : 0 < k0.length := by have := HK0.out; have := HH.out.1; omega
  obtain ⟨bk, rfl, hbk⟩ := Own.form hO hpos
  have hkl : k0.length ≤ 8 := by have := HK0.out; have := HH.out.2; omega
  have HNE : Hid (bk ≠ kb) := Lib.hid (hne bk rfl)
  have HBK := Lib.hid hbk
  have HKB := Lib.hid hge
  have HKL := Lib.hid hkl
  have HPS := Lib.hid hpos
  have O0 : Hid (w5.ownsRow (w.heap.size + 4) 22 1 (.slice (some ⟨bk, 0, none⟩) k0.length ck) k0.length ((qi sv k0 0).map I)) := Lib.hid (by have := hO.row; simpa [qi] using this)
  have N5 := Lib.hid hN
  have I7 := Lib.hid hkb
  have R5 : Hid (Row w5 g 158 #[.bool (s || b1 || BC sv k0 0)]) := Lib.hid (by simpa [BC] using hR)
  have x0 := hkb.cell
  clear hN hkb hO hR hge hne hbk hkl hpos y0 y1 y2 N RG
  go_wp2_with fail
  go_loopw [35] (fun jj wr => ∃ j : Nat, j ≤ k0.length ∧ jj = .int .i64 j ∧ Hid (Sg w g [(156, #[.pointer (some ⟨g, 0, none⟩)]), (33, #[I n, I 1, .slice A1 lx.length c1, I n, I n, .slice A2 lp.length c2]), (31, #[I 1, I n, .slice A3 lh.length c3]), (33, #[I 0, I 0, .slice none 0 0, I 0, I 0, .slice none 0 0])] wr) ∧ Hid (Row wr kb 31 #[I n, I 1, .slice (some ⟨bk, 0, none⟩) k0.length ck]) ∧ Hid (wr.ownsRow (w.heap.size + 4) 22 1 (.slice (some ⟨bk, 0, none⟩) k0.length ck) k0.length ((qi sv k0 j).map I)) ∧ Hid (Row wr g 158 #[.bool (s || b1 || BC sv k0 j)])) (fun jj _ => k0.length - (intOf jj).toNat)
  case atStart => exact ⟨0, by omega, rfl, N5, I7, O0, R5⟩
  case round =>
   clear x0 N5 I7 O0 R5
   obtain ⟨j, hj, rfl, N5, I7, O5, R5⟩ := hrel
   have x0 := I7.out.cell
   have x1 := N5.out.r0.cell
   by_cases hjk : j = k0.length
   · subst hjk
     have ek : qi sv k0 k0.length = k := by rw [← HT2.out.ek]; unfold qi; rw [List.take_length, List.drop_length, List.append_nil]
     have ekl : k0.length = k.length := by rw [← HT2.out.ek]; simp
     have eb : BC sv k0 k0.length = b2 := by rw [← HT2.out.eb2]; unfold BC; rw [List.take_length]
     rw [ek] at O5
     rw [eb] at R5
     have OK : Hid (Own wr (w.heap.size + 4) (.slice (some ⟨bk, 0, none⟩) k.length ck) k) := Lib.hid (Own.sH (by rw [← ekl]; exact O5.out))
     have xC : Hid (k.length = n * 1) := Lib.hid (by rw [← ekl]; exact HK0.out)
     have y1 := N5.out.r1.cell
     have y2 := N5.out.r2.cell
     clear ek eb O5 hj
     go_wp2_with fail
     rename_i K8 Zh
     rw [ekl] at I7 x0
     have IL : Hid (∀ (kx : Nat) (w5 : World) (Ax : Option Addr) (dx : Nat) (v14 v15 v22 v23 v24 v25 v26 v27 v28 v29 v30 v31 v32 v33 v34 v35 v36 v37 v38 v39 v40 v41 v42 v43 v44 v45 v46 v47 v48 v49 v50 v51 v52 v53 v54 v55 v56 v57 v58 v59 v60 v61 v62 v63 : Value), Sg w g [(156, #[.pointer (some ⟨g, 0, none⟩)]), (33, #[I n, I 1, .slice A1 lx.length c1, I n, I n, .slice A2 lp.length c2]), (31, #[I 1, I n, .slice A3 lh.length c3]), (33, #[I 0, I 0, .slice none 0 0, I 0, I 0, .slice none 0 0])] w5 → Row w5 kb 31 #[I n, I 1, .slice (some ⟨bk, 0, none⟩) k.length ck] → Own w5 (w.heap.size + 4) (.slice (some ⟨bk, 0, none⟩) k.length ck) k → Row w5 kx 31 #[I n, I 1, .slice Ax x.length dx] → Own w5 (w.heap.size + 4) (.slice Ax x.length dx) x → Row w5 g 158 #[.bool (s || b1 || b2 || b3 || b4)] → w.heap.size + 4 ≤ kx → (∀ q, (Value.slice Ax x.length dx).ownBlock = some q → q ≠ kx) → K8 { tmps := #[.pointer (some ⟨g, 0, none⟩), .agg #[I n, I 1, .slice A1 lx.length c1, I n, I n, .slice A2 lp.length c2], .agg #[I 1, I n, .slice A3 lh.length c3], I y, I sv, I r, .pointer (some ⟨w.heap.size, 0, none⟩), .pointer (some ⟨w.heap.size + 1, 0, none⟩), .pointer (some ⟨w.heap.size + 1 + 1, 0, none⟩), undef, undef, undef, .pointer (some ⟨w.heap.size + 1 + 1 + 1, 0, none⟩), .pointer (some ⟨kb, 0, none⟩), v14, v15, .func (.func 124) #[] #[.pointer (some ⟨kb, 0, none⟩), .pointer (some ⟨w.heap.size, 0, none⟩)], .pointer (some ⟨kx, 0, none⟩), undef, undef, undef, undef, v22, v23, v24, v25, v26, v27, v28, v29, v30, v31, v32, v33, v34, v35, v36, v37, v38, v39, v40, v41, v42, v43, v44, v45, v46, v47, v48, v49, v50, v51, v52, v53, v54, v55, v56, v57, v58, v59, v60, v61, v62, v63, undef, undef, undef, undef, undef, undef, undef, undef, undef, undef, undef, undef, undef, undef, undef, undef, undef, undef, undef, undef, undef, undef, undef, undef, undef, undef, undef, undef, undef, undef, undef, undef, undef, undef, undef, undef, undef, undef, undef, undef, undef, undef, undef, undef, undef, undef, undef, undef, undef], defers := [] } w5) := Lib.hid (by
      as_aux_lemma =>
      intro kx w5 Ax dx v14 v15 v22 v23 v24 v25 v26 v27 v28 v29 v30 v31 v32 v33 v34 v35 v36 v37 v38 v39 v40 v41 v42 v43 v44 v45 v46 v47 v48 v49 v50 v51 v52 v53 v54 v55 v56 v57 v58 v59 v60 v61 v62 v63 hN hkb hK hkx hX hR hge hne
      refine Zh _ _ ?_
      have N9 := Lib.hid hN
      have KB9 := Lib.hid hkb
      have OK9 := Lib.hid hK
      have KX9 := Lib.hid hkx
      have Ui := Lib.hid hX
      have R9 := Lib.hid hR
      have GX := Lib.hid hge
      have y1 := hN.r1.cell
      clear hN hkb hK hkx hX hR hge hne x0 x1 y2 N5 I7 OK R5
      go_wp2_with fail
      refine (Oq n _ HH.out.1 HH.out.2).mono ?_
      rintro e w6 ⟨v, rfl, ho, hb⟩
      obtain ⟨Ae, ce, rfl, _, _⟩ := Own.reads ho
      have Gl := Lib.hid ((N9.out.below hb).alloc (.cells #[I n, I n, .slice Ae (mg n).length ce] 31))
      have y8 := Lib.hid ((KB9.out.below hb KB9.out.lt).alloc (.cells #[I n, I n, .slice Ae (mg n).length ce] 31))
      have Gm := Lib.hid ((KX9.out.below hb KX9.out.lt).alloc (.cells #[I n, I n, .slice Ae (mg n).length ce] 31))
      have Gi := Lib.hid ((OK9.out.below hb).alloc (.cells #[I n, I n, .slice Ae (mg n).length ce] 31))
      have OQ := Lib.hid ((Ui.out.below hb).alloc (.cells #[I n, I n, .slice Ae (mg n).length ce] 31))
      have R10 := Lib.hid ((R9.out.below hb R9.out.lt).alloc (.cells #[I n, I n, .slice Ae (mg n).length ce] 31))
      have Q7 : Hid (Own (w6.alloc (.cells #[I n, I n, .slice Ae (mg n).length ce] 31)) (w.heap.size + 4) (.slice Ae (mg n).length ce) (mg n)) := Lib.hid (Own.lower (ho.alloc _) (by have h1 := N9.out.rows.le N9.out.gr.size; simpa using h1))
      have y7 := Lib.hid (Row.new w6 31 #[I n, I n, .slice Ae (mg n).length ce])
      have GE : Hid (w.heap.size + 4 ≤ w6.heap.size) := Lib.hid (by have h1 := N9.out.rows.le N9.out.gr.size; have h2 := hb.size; simp at h1; omega)
      clear ho hb y1
      go_wp2_with fail
      rename_i K10 Zi
      obtain ⟨wt, hwt⟩ : ∃ wt, w6.alloc (.cells #[I n, I n, .slice Ae (mg n).length ce] 31) = wt := ⟨_, rfl⟩
      rw [hwt] at Gl y8 Gm Gi OQ R10 Q7 y7
      change Code.wp Try.prog _ _ _ (w6.alloc (.cells #[I n, I n, .slice Ae (mg n).length ce] 31))
      rw [hwt]
      clear hwt
      clear N9 KB9 OK9 KX9 Ui R9
      have Q4 : Hid (∀ (kp : Nat) (w5 : World) (Ai : Option Addr) (di : Nat) (v14 v15 v18 v19 v22 v23 v24 v25 v26 v27 v28 v29 v30 v31 v32 v33 v34 v35 v36 v37 v38 v39 v40 v41 v42 v43 v44 v45 v46 v47 v48 v49 v50 v51 v52 v53 v54 v55 v56 v57 v58 v59 v60 v61 v62 v63 v64 v65 v66 v67 v68 v69 v70 v71 v72 v73 v74 v75 v76 v77 v78 v79 v80 v81 v82 v83 v84 v85 : Value), Sg w g [(156, #[.pointer (some ⟨g, 0, none⟩)]), (33, #[I n, I 1, .slice A1 lx.length c1, I n, I n, .slice A2 lp.length c2]), (31, #[I 1, I n, .slice A3 lh.length c3]), (33, #[I 0, I 0, .slice none 0 0, I 0, I 0, .slice none 0 0])] w5 → Row w5 kb 31 #[I n, I 1, .slice (some ⟨bk, 0, none⟩) k.length ck] → Own w5 (w.heap.size + 4) (.slice (some ⟨bk, 0, none⟩) k.length ck) k → Row w5 kx 31 #[I n, I 1, .slice Ax x.length dx] → Own w5 (w.heap.size + 4) (.slice Ax x.length dx) x → Row w5 kp 31 #[I n, I n, .slice Ai ik.length di] → Own w5 (w.heap.size + 4) (.slice Ai ik.length di) ik → Row w5 g 158 #[.bool (s || b1 || b2 || b3 || b4 || b5 || b6)] → w.heap.size + 4 ≤ kp → K10 { tmps := #[.pointer (some ⟨g, 0, none⟩), .agg #[I n, I 1, .slice A1 lx.length c1, I n, I n, .slice A2 lp.length c2], .agg #[I 1, I n, .slice A3 lh.length c3], I y, I sv, I r, .pointer (some ⟨w.heap.size, 0, none⟩), .pointer (some ⟨w.heap.size + 1, 0, none⟩), .pointer (some ⟨w.heap.size + 1 + 1, 0, none⟩), undef, undef, undef, .pointer (some ⟨w.heap.size + 1 + 1 + 1, 0, none⟩), .pointer (some ⟨kb, 0, none⟩), v14, v15, .func (.func 124) #[] #[.pointer (some ⟨kb, 0, none⟩), .pointer (some ⟨w.heap.size, 0, none⟩)], .pointer (some ⟨kx, 0, none⟩), v18, v19, .pointer (some ⟨kp, 0, none⟩), undef, v22, v23, v24, v25, v26, v27, v28, v29, v30, v31, v32, v33, v34, v35, v36, v37, v38, v39, v40, v41, v42, v43, v44, v45, v46, v47, v48, v49, v50, v51, v52, v53, v54, v55, v56, v57, v58, v59, v60, v61, v62, v63, v64, v65, v66, v67, v68, v69, v70, v71, v72, v73, v74, v75, v76, v77, v78, v79, v80, v81, v82, v83, v84, v85, undef, undef, undef, undef, undef, undef, undef, undef, undef, undef, undef, undef, undef, undef, undef, undef, undef, undef, undef, undef, undef, undef, undef, undef, undef, undef, undef], defers := [] } w5) := Lib.hid (by
       as_aux_lemma =>
       intro kp w5 Ai di v14 v15 v18 v19 v22 v23 v24 v25 v26 v27 v28 v29 v30 v31 v32 v33 v34 v35 v36 v37 v38 v39 v40 v41 v42 v43 v44 v45 v46 v47 v48 v49 v50 v51 v52 v53 v54 v55 v56 v57 v58 v59 v60 v61 v62 v63 v64 v65 v66 v67 v68 v69 v70 v71 v72 v73 v74 v75 v76 v77 v78 v79 v80 v81 v82 v83 v84 v85 hN hkb hK hkx hX hkp hI hR hge
       refine Zi _ _ ?_
       have hIf : ∀ ad, Ai = some ad → 0 < ik.length → ad.block ≠ g := fun ad e _ => by
        subst e
        have h1 := (hI.row.lt ad.block rfl).1
        have h2 := GL.out
        omega
       have B48 := Lib.hid (yg w0 w5 g (s || b1 || b2 || b3 || b4 || b5 || b6) n n Ai di ik n n A2 c2 lp n n p1 (s || b1 || b2 || b3 || b4 || b5 || b6 || b7) hR HG0.out (t_ HB0.out HG0.out hN.gr) (Own.rd hI).1 (Own.rd hI).2 hIf (TP.out _ hN.gr) CP.out FP.out (by rw [rD _ n n ik lp HH.out.2 HH.out.2 (by rw [← HT2.out.eik]; exact upto_length) HP.out, HT2.out.ep1, HT2.out.eb7]))
       have X5 := Lib.hid hN
       have Z_ := Lib.hid hkb
       have ZC := Lib.hid hK
       have Xl := Lib.hid hkx
       have Xh := Lib.hid hX
       have x0 := hN.r0.cell
       have x1 := hN.r1.cell
       have x4 := hkp.cell
       clear hN hkb hK hkx hX hkp hI hR hge hIf Gl y8 Gm Gi OQ R10 Q7 y7
       go_wp2_with fail
       refine B48.out.mono ?_
       rintro e w7 ⟨Ap, dp, rfl, ho, hr, hg⟩
       have N20 := Lib.hid ((X5.out.touch hg GL.out).alloc (.cells #[I n, I n, .slice Ap p1.length dp] 31))
       have Q_ := Lib.hid ((Row.grown Z_.out hg (by have h1 := GL.out; have h2 := HKB.out; simp; omega)).alloc (.cells #[I n, I n, .slice Ap p1.length dp] 31))
       have Xk := Lib.hid ((Row.grown Xl.out hg (by have h1 := GL.out; have h2 := GX.out; simp; omega)).alloc (.cells #[I n, I n, .slice Ap p1.length dp] 31))
       have Uj := Lib.hid ((Own.touch ZC.out hg (by have h1 := GL.out; omega)).alloc (.cells #[I n, I n, .slice Ap p1.length dp] 31))
       have Zt := Lib.hid ((Own.touch Xh.out hg (by have h1 := GL.out; omega)).alloc (.cells #[I n, I n, .slice Ap p1.length dp] 31))
       have Zz : Hid (Own (w7.alloc (.cells #[I n, I n, .slice Ap p1.length dp] 31)) (w.heap.size + 4) (.slice Ap p1.length dp) p1) := Lib.hid (Own.lower (ho.alloc _) (by have h1 := X5.out.rows.le X5.out.gr.size; simpa using h1))
       have Ur := Lib.hid (Row.new w7 31 #[I n, I n, .slice Ap p1.length dp])
       have R20 := Lib.hid (Row.alloc hr (.cells #[I n, I n, .slice Ap p1.length dp] 31))
       have GQ : Hid (w.heap.size + 4 ≤ w7.heap.size) := Lib.hid (by have h1 := X5.out.rows.le X5.out.gr.size; have h2 := hg.size; simp at h1; omega)
       have ZV : Hid (kx < w7.heap.size) := Lib.hid (Row.grown Xl.out hg (by have h1 := GL.out; have h2 := GX.out; simp; omega)).lt
       have HXO : Hid (∀ q, (Value.slice Ax x.length dx).ownBlock = some q → q ≠ w7.heap.size) := Lib.hid (fun q hq => by have h1 := ((Own.touch Xh.out hg (by have h1 := GL.out; omega)).row.lt q hq).2; omega)
       clear ho hr hg x0 x1 x4 X5 Z_ ZC Xl Xh
       go_wp2_with fail
       obtain ⟨ws, hws⟩ : ∃ ws, w7.alloc (.cells #[I n, I n, .slice Ap p1.length dp] 31) = ws := ⟨_, rfl⟩
       rw [hws] at N20 Q_ Xk Uj Zt Zz Ur R20
       change Code.wp Try.prog _ _ _ (w7.alloc (.cells #[I n, I n, .slice Ap p1.length dp] 31))
       rw [hws]
       clear hws
       have Rn : Hid (w7.heap.size < ws.heap.size) := Lib.hid Ur.out.lt
       have UB : Hid (kb < ws.heap.size ∧ kx < ws.heap.size ∧ bk < ws.heap.size) := Lib.hid ⟨Q_.out.lt, Xk.out.lt, (Uj.out.row.lt bk rfl).2⟩
       have HXQ : Hid (kx ≠ w7.heap.size) := Lib.hid (by have h1 := ZV.out; omega)
       have KT : Hid (∀ w', Sg w g [(156, #[.pointer (some ⟨g, 0, none⟩)]), (33, #[I n, I 1, .slice A1 lx.length c1, I n, I n, .slice A2 lp.length c2]), (31, #[I 1, I n, .slice A3 lh.length c3]), (33, #[I 0, I 0, .slice none 0 0, I 0, I 0, .slice none 0 0])] w' → Row w' kb 31 #[I n, I 1, .slice (some ⟨bk, 0, none⟩) k.length ck] → Row w' w7.heap.size 31 #[I n, I n, .slice Ap p1.length dp] → ((∀ o, w'.cell? ⟨w.heap.size, o, none⟩ = #[.pointer (some ⟨g, 0, none⟩)][o]?) ∧ (∀ o, w'.cell? ⟨w.heap.size + 1, o, none⟩ = #[I n, I 1, .slice A1 lx.length c1, I n, I n, .slice A2 lp.length c2][o]?) ∧ (∀ o, w'.cell? ⟨w.heap.size + 1 + 1, o, none⟩ = #[I 1, I n, .slice A3 lh.length c3][o]?)) ∧ (∀ o, w'.cell? ⟨kb, o, none⟩ = #[I n, I 1, .slice (some ⟨bk, 0, none⟩) k.length ck][o]?) ∧ (∀ o, w'.cell? ⟨w7.heap.size, o, none⟩ = #[I n, I n, .slice Ap p1.length dp][o]?)) := Lib.hid (fun w' h h1 h2 => ⟨⟨h.r0.cell, h.r1.cell, h.r2.cell⟩, h1.cell, h2.cell⟩)
       have Xa := Lib.hid (fun w' (o : Own w' (w.heap.size + 4) (.slice (some ⟨bk, 0, none⟩) k.length ck) k) rk rp rg => wC g kb w.heap.size n (s || b1 || b2 || b3 || b4 || b5 || b6 || b7) (some ⟨bk, 0, none⟩) ck k r w' HH.out.2 xC.out (Own.rd o).1 (Own.rd o).2 rk rp rg)
       rw [HT2.out.esr, HT2.out.eb8] at Xa
       have XX := Lib.hid (fun w' (o : Own w' (w.heap.size + 4) (.slice (some ⟨bk, 0, none⟩) k.length ck) k) => mJ n 1 (some ⟨bk, 0, none⟩) ck k w' HH.out.2 (by omega) xC.out (Own.rd o).1)
       rw [HT2.out.etk] at XX
       have M46 := Lib.hid (fun Aa ca Ab cb w' (o : Own w' (w.heap.size + 4) (.slice Aa sr.length ca) sr) (o' : Own w' (w.heap.size + 4) (.slice Ab tk.length cb) tk) => wM n 1 n Aa Ab ca cb sr tk w' HH.out.2 (by omega) HH.out.2 (by rw [← HT2.out.esr]; exact upto_length) (by rw [← HT2.out.etk]; exact upto_length) (Own.rd o).1 (Own.rd o').1)
       rw [HT2.out.ekk, HT2.out.eb9] at M46
       have aaw := Lib.hid (fun Ab cb w' (o : Own w' (w.heap.size + 4) (.slice Ap p1.length dp) p1) (o' : Own w' (w.heap.size + 4) (.slice Ab kk.length cb) kk) => Eu n n Ap Ab dp cb p1 kk w' HH.out.2 HH.out.2 (by rw [← HT2.out.ep1]; exact upto_length) (by rw [← HT2.out.ekk]; exact upto_length) (Own.rd o).1 (Own.rd o').1 (Own.rd o).2 (Own.rd o').2)
       rw [HT2.out.ep2, HT2.out.adX] at aaw
       simp only [eo] at Xa XX M46
       refine wE (S := (fun w' => ((∀ o, w'.cell? ⟨w.heap.size, o, none⟩ = #[.pointer (some ⟨g, 0, none⟩)][o]?) ∧ (∀ o, w'.cell? ⟨w.heap.size + 1, o, none⟩ = #[I n, I 1, .slice A1 lx.length c1, I n, I n, .slice A2 lp.length c2][o]?) ∧ (∀ o, w'.cell? ⟨w.heap.size + 1 + 1, o, none⟩ = #[I 1, I n, .slice A3 lh.length c3][o]?)) ∧ (∀ o, w'.cell? ⟨kb, o, none⟩ = #[I n, I 1, .slice (some ⟨bk, 0, none⟩) k.length ck][o]?) ∧ (∀ o, w'.cell? ⟨w7.heap.size, o, none⟩ = #[I n, I n, .slice Ap p1.length dp][o]?))) 18 (by kernel_rfl) (KT.out _ N20.out.drew Q_.out.drew Ur.out.drew) (fun hHeld => ?_)
       refine Until.take (i := 0) (oi := _) (v := ?u1) rfl (by kernel_rfl) (by kernel_rfl) (by kernel_rfl) (by kernel_rfl) (by kernel_rfl) (fun _ _ _ h => h) (Or.inl ⟨by rfl, ?hu1⟩) hHeld ?_
       case hu1 =>
        intro w' hSw
        (try dsimp only at hSw)
        simp only [List.getElem_toArray, List.getElem_cons_succ, List.getElem_cons_zero]
        go_simp
        (try with_reducible rfl)
       change Until _ _ _ _ _ _ _ _ (Act.put _ (some 91) _) _
       simp only [Act.put, List.setIfInBounds_toArray, List.set_cons_zero, List.set_cons_succ]
       refine Until.take (i := 1) (oi := _) (v := ?u2) rfl (by kernel_rfl) (by kernel_rfl) (by kernel_rfl) (by kernel_rfl) (by kernel_rfl) (fun _ _ _ h => h) (Or.inl ⟨by rfl, ?hu2⟩) hHeld ?_
       case hu2 =>
        intro w' hSw
        (try dsimp only at hSw)
        simp only [List.getElem_toArray, List.getElem_cons_succ, List.getElem_cons_zero]
        go_simp
        (try with_reducible rfl)
       change Until _ _ _ _ _ _ _ _ (Act.put _ (some 92) _) _
       simp only [Act.put, List.setIfInBounds_toArray, List.set_cons_zero, List.set_cons_succ]
       refine Until.take (i := 2) (oi := _) (v := ?u3) rfl (by kernel_rfl) (by kernel_rfl) (by kernel_rfl) (by kernel_rfl) (by kernel_rfl) (fun _ _ _ h => h) (Or.inl ⟨by rfl, ?hu3⟩) hHeld ?_
       case hu3 =>
        intro w' hSw
        (try dsimp only at hSw)
        simp only [List.getElem_toArray, List.getElem_cons_succ, List.getElem_cons_zero]
        go_simp
        (try with_reducible rfl)
       change Until _ _ _ _ _ _ _ _ (Act.put _ (some 93) _) _
       simp only [Act.put, List.setIfInBounds_toArray, List.set_cons_zero, List.set_cons_succ]
       refine Until.take (i := 3) (oi := _) (v := ?u4) rfl (by kernel_rfl) (by kernel_rfl) (by kernel_rfl) (by kernel_rfl) (by kernel_rfl) (fun _ _ _ h => h) (Or.inl ⟨by rfl, ?hu4⟩) hHeld ?_
       case hu4 =>
        intro w' hSw
        (try dsimp only at hSw)
        simp only [List.getElem_toArray, List.getElem_cons_succ, List.getElem_cons_zero]
        go_simp
        (try with_reducible rfl)
       change Until _ _ _ _ _ _ _ _ (Act.put _ (some 94) _) _
       simp only [Act.put, List.setIfInBounds_toArray, List.set_cons_zero, List.set_cons_succ]
       refine Until.take (i := 4) (oi := _) (v := ?u5) rfl (by kernel_rfl) (by kernel_rfl) (by kernel_rfl) (by kernel_rfl) (by kernel_rfl) (fun _ _ _ h => h) (Or.inl ⟨by rfl, ?hu5⟩) hHeld ?_
       case hu5 =>
        intro w' hSw
        (try dsimp only at hSw)
        simp only [List.getElem_toArray, List.getElem_cons_succ, List.getElem_cons_zero]
        go_simp
        (try with_reducible rfl)
       change Until _ _ _ _ _ _ _ _ (Act.put _ (some 95) _) _
       simp only [Act.put, List.setIfInBounds_toArray, List.set_cons_zero, List.set_cons_succ]
       refine Until.take (i := 6) (oi := _) (v := ?u6) rfl (by kernel_rfl) (by kernel_rfl) (by kernel_rfl) (by kernel_rfl) (by kernel_rfl) (fun _ _ _ h => h) (Or.inl ⟨by rfl, ?hu6⟩) hHeld ?_
       case hu6 =>
        intro w' hSw
        (try dsimp only at hSw)
        simp only [List.getElem_toArray, List.getElem_cons_succ, List.getElem_cons_zero]
        go_simp
        (try with_reducible rfl)
       change Until _ _ _ _ _ _ _ _ (Act.put _ (some 97) _) _
       simp only [Act.put, List.setIfInBounds_toArray, List.set_cons_zero, List.set_cons_succ]
       refine Until.one (i := 5) (o := _) (by kernel_rfl) rfl (fun K hK => ?_)
       go_simp
       refine (Xa.out _ Uj.out.drew Q_.out.drew N20.out.drew.r0 R20.out.drew).mono ?_
       rintro e UE ⟨As, cs, rfl, ho, hr, hg⟩
       have aej : Hid (Own UE (w.heap.size + 4) (.slice As sr.length cs) sr) := Lib.hid (Own.lower ho (by have h1 := Rn.out; have h2 := GQ.out; first | omega | (simp; omega)))
       have R21 := Lib.hid hr
       have N21 := Lib.hid (N20.out.drew.touch hg GL.out)
       have Xw := Lib.hid (Row.grown Q_.out.drew hg (by have h1 := GL.out; have h2 := HKB.out; have h3 := GX.out; have h4 := GQ.out; simp; omega))
       have ZU := Lib.hid (Row.grown Xk.out.drew hg (by have h1 := GL.out; have h2 := HKB.out; have h3 := GX.out; have h4 := GQ.out; simp; omega))
       have Xo := Lib.hid (Row.grown Ur.out.drew hg (by have h1 := GL.out; have h2 := HKB.out; have h3 := GX.out; have h4 := GQ.out; simp; omega))
       have aes := Lib.hid (Own.touch Uj.out.drew hg (by have h1 := GL.out; omega))
       have aeg := Lib.hid (Own.touch Zt.out.drew hg (by have h1 := GL.out; omega))
       have aep := Lib.hid (Own.touch Zz.out.drew hg (by have h1 := GL.out; omega))
       have U21 : Hid (ws.heap.size ≤ UE.heap.size) := Lib.hid (by have h1 := hg.size; have h2 := Rn.out; first | omega | (simp at h1; omega))
       clear ho hr hg
       go_wp2_with fail
       clear hHeld
       have hHeld := KT.out _ N21.out Xw.out Xo.out
       refine hK.out _ _ (fun _ => hHeld) ?_
       clear hK K
       try simp only [Act.put, List.setIfInBounds_toArray, List.set_cons_zero, List.set_cons_succ]
       refine Until.one (i := 7) (o := _) (by kernel_rfl) rfl (fun K hK => ?_)
       go_simp
       refine (XX.out _ aes.out).mono ?_
       rintro e w22 ⟨v, rfl, ho, hb⟩
       obtain ⟨At2, ct2, rfl, _, _⟩ := Own.reads ho
       have aeh : Hid (Own w22 (w.heap.size + 4) (.slice At2 tk.length ct2) tk) := Lib.hid (Own.lower ho (by have h1 := U21.out; have h2 := GQ.out; first | omega | (have h3 := Rn.out; omega) | (have h3 := Rn.out; simp; omega)))
       have R22 := Lib.hid (Row.below R21.out hb R21.out.lt)
       have N22 := Lib.hid (N21.out.below hb)
       have Xv := Lib.hid (Row.below Xw.out hb Xw.out.lt)
       have ZT := Lib.hid (Row.below ZU.out hb ZU.out.lt)
       have Xn := Lib.hid (Row.below Xo.out hb Xo.out.lt)
       have aef := Lib.hid (aeg.out.below hb)
       have aeo := Lib.hid (aep.out.below hb)
       have aei := Lib.hid (aej.out.below hb)
       have U22 : Hid (ws.heap.size ≤ w22.heap.size) := Lib.hid (by have h1 := hb.size; have h2 := U21.out; first | omega | (simp at h1; omega))
       clear ho hb
       go_wp2_with fail
       clear hHeld
       have hHeld := KT.out _ N22.out Xv.out Xn.out
       refine hK.out _ _ (fun _ => hHeld) ?_
       clear hK K
       try simp only [Act.put, List.setIfInBounds_toArray, List.set_cons_zero, List.set_cons_succ]
       refine Until.one (i := 8) (o := _) (by kernel_rfl) rfl (fun K hK => ?_)
       go_simp
       refine (M46.out _ _ _ _ _ aei.out aeh.out).mono ?_
       rintro e w23 ⟨v, rfl, ho, hb⟩
       obtain ⟨Ak2, ck2, rfl, _, _⟩ := Own.reads ho
       have ad_ : Hid (Own w23 (w.heap.size + 4) (.slice Ak2 kk.length ck2) kk) := Lib.hid (Own.lower ho (by have h1 := U22.out; have h2 := GQ.out; first | omega | (have h3 := Rn.out; omega) | (have h3 := Rn.out; simp; omega)))
       have R23 := Lib.hid (Row.below R22.out hb R22.out.lt)
       have N23 := Lib.hid (N22.out.below hb)
       have Z9 := Lib.hid (Row.below Xv.out hb Xv.out.lt)
       have aeD := Lib.hid (Row.below ZT.out hb ZT.out.lt)
       have Z5 := Lib.hid (Row.below Xn.out hb Xn.out.lt)
       have aee := Lib.hid (aef.out.below hb)
       have aen := Lib.hid (aeo.out.below hb)
       have U23 : Hid (ws.heap.size ≤ w23.heap.size) := Lib.hid (by have h1 := hb.size; have h2 := U22.out; first | omega | (simp at h1; omega))
       clear ho hb
       go_wp2_with fail
       clear hHeld
       have hHeld := KT.out _ N23.out Z9.out Z5.out
       refine hK.out _ _ (fun _ => hHeld) ?_
       clear hK K
       try simp only [Act.put, List.setIfInBounds_toArray, List.set_cons_zero, List.set_cons_succ]
       refine Until.take (i := 9) (oi := _) (v := ?u7) rfl (by kernel_rfl) (by kernel_rfl) (by kernel_rfl) (by kernel_rfl) (by kernel_rfl) (fun _ _ _ h => h) (Or.inl ⟨by rfl, ?hu7⟩) hHeld ?_
       case hu7 =>
        intro w' hSw
        (try dsimp only at hSw)
        simp only [List.getElem_toArray, List.getElem_cons_succ, List.getElem_cons_zero]
        go_simp
        (try with_reducible rfl)
       change Until _ _ _ _ _ _ _ _ (Act.put _ (some 100) _) _
       simp only [Act.put, List.setIfInBounds_toArray, List.set_cons_zero, List.set_cons_succ]
       refine Until.take (i := 10) (oi := _) (v := ?u8) rfl (by kernel_rfl) (by kernel_rfl) (by kernel_rfl) (by kernel_rfl) (by kernel_rfl) (fun _ _ _ h => h) (Or.inl ⟨by rfl, ?hu8⟩) hHeld ?_
       case hu8 =>
        intro w' hSw
        (try dsimp only at hSw)
        simp only [List.getElem_toArray, List.getElem_cons_succ, List.getElem_cons_zero]
        go_simp
        (try with_reducible rfl)
       change Until _ _ _ _ _ _ _ _ (Act.put _ (some 101) _) _
       simp only [Act.put, List.setIfInBounds_toArray, List.set_cons_zero, List.set_cons_succ]
       refine Until.take (i := 11) (oi := _) (v := ?u9) rfl (by kernel_rfl) (by kernel_rfl) (by kernel_rfl) (by kernel_rfl) (by kernel_rfl) (fun _ _ _ h => h) (Or.inl ⟨by rfl, ?hu9⟩) hHeld ?_
       case hu9 =>
        intro w' hSw
        (try dsimp only at hSw)
        simp only [List.getElem_toArray, List.getElem_cons_succ, List.getElem_cons_zero]
        go_simp
        (try with_reducible rfl)
       change Until _ _ _ _ _ _ _ _ (Act.put _ (some 102) _) _
       simp only [Act.put, List.setIfInBounds_toArray, List.set_cons_zero, List.set_cons_succ]
       refine Until.one (i := 12) (o := _) (by kernel_rfl) rfl (fun K hK => ?_)
       go_simp
       refine (og g (s || b1 || b2 || b3 || b4 || b5 || b6 || b7 || b8) b9 n n 0 Ak2 kk.length ck2 _ R23.out).mono ?_
       rintro e w24 ⟨rfl, hr, hg⟩
       have R24 := Lib.hid hr
       have N24 := Lib.hid (N23.out.touch hg GL.out)
       have Xu := Lib.hid (Row.grown Z9.out hg (by have h1 := GL.out; have h2 := HKB.out; have h3 := GX.out; have h4 := GQ.out; simp; omega))
       have ZR := Lib.hid (Row.grown aeD.out hg (by have h1 := GL.out; have h2 := HKB.out; have h3 := GX.out; have h4 := GQ.out; simp; omega))
       have Xm := Lib.hid (Row.grown Z5.out hg (by have h1 := GL.out; have h2 := HKB.out; have h3 := GX.out; have h4 := GQ.out; simp; omega))
       have aed := Lib.hid (Own.touch aee.out hg (by have h1 := GL.out; omega))
       have aem := Lib.hid (Own.touch aen.out hg (by have h1 := GL.out; omega))
       have ad9 := Lib.hid (Own.touch ad_.out hg (by have h1 := GL.out; omega))
       have U24 : Hid (ws.heap.size ≤ w24.heap.size) := Lib.hid (by have h1 := hg.size; have h2 := U23.out; first | omega | (simp at h1; omega))
       clear hr hg
       go_wp2_with fail
       clear hHeld
       have hHeld := KT.out _ N24.out Xu.out Xm.out
       refine hK.out _ _ (fun _ => hHeld) ?_
       clear hK K
       try simp only [Act.put, List.setIfInBounds_toArray, List.set_cons_zero, List.set_cons_succ]
       refine Until.one (i := 13) (o := _) (by kernel_rfl) rfl (fun K hK => ?_)
       go_simp
       refine (aaw.out _ _ _ aem.out ad9.out).mono ?_
       rintro e w25 ⟨v, rfl, ho, hb⟩
       obtain ⟨I8, I4, rfl, _, _⟩ := Own.reads ho
       have ael : Hid (Own w25 (w.heap.size + 4) (.slice I8 p2.length I4) p2) := Lib.hid (Own.lower ho (by have h1 := U24.out; have h2 := GQ.out; first | omega | (have h3 := Rn.out; omega) | (have h3 := Rn.out; simp; omega)))
       have aew := Lib.hid ho.row.lt
       have R25 := Lib.hid (Row.below R24.out hb R24.out.lt)
       have N25 := Lib.hid (N24.out.below hb)
       have Z8 := Lib.hid (Row.below Xu.out hb Xu.out.lt)
       have aeC := Lib.hid (Row.below ZR.out hb ZR.out.lt)
       have Z4 := Lib.hid (Row.below Xm.out hb Xm.out.lt)
       have aec := Lib.hid (aed.out.below hb)
       have U25 : Hid (ws.heap.size ≤ w25.heap.size) := Lib.hid (by have h1 := hb.size; have h2 := U24.out; first | omega | (simp at h1; omega))
       clear ho hb
       go_wp2_with fail
       clear hHeld
       have hHeld := KT.out _ N25.out Z8.out Z4.out
       refine hK.out _ _ (fun _ => hHeld) ?_
       clear hK K
       try simp only [Act.put, List.setIfInBounds_toArray, List.set_cons_zero, List.set_cons_succ]
       refine Until.take (i := 14) (oi := _) (v := ?u10) rfl (by kernel_rfl) (by kernel_rfl) (by kernel_rfl) (by kernel_rfl) (by kernel_rfl) (fun _ _ _ h => h) (Or.inl ⟨by rfl, ?V6⟩) hHeld ?_
       case V6 =>
        intro w' hSw
        (try dsimp only at hSw)
        simp only [List.getElem_toArray, List.getElem_cons_succ, List.getElem_cons_zero]
        go_simp
        (try with_reducible rfl)
       change Until _ _ _ _ _ _ _ _ (Act.put _ (some 105) _) _
       simp only [Act.put, List.setIfInBounds_toArray, List.set_cons_zero, List.set_cons_succ]
       refine Until.take (i := 15) (oi := _) (v := ?u11) rfl (by kernel_rfl) (by kernel_rfl) (by kernel_rfl) (by kernel_rfl) (by kernel_rfl) (fun _ _ _ h => h) (Or.inl ⟨by rfl, ?V5⟩) hHeld ?_
       case V5 =>
        intro w' hSw
        (try dsimp only at hSw)
        simp only [List.getElem_toArray, List.getElem_cons_succ, List.getElem_cons_zero]
        go_simp
        (try with_reducible rfl)
       change Until _ _ _ _ _ _ _ _ (Act.put _ (some 106) _) _
       simp only [Act.put, List.setIfInBounds_toArray, List.set_cons_zero, List.set_cons_succ]
       refine Until.take (i := 16) (oi := _) (v := ?u12) rfl (by kernel_rfl) (by kernel_rfl) (by kernel_rfl) (by kernel_rfl) (by kernel_rfl) (fun _ _ _ h => h) (Or.inl ⟨by rfl, ?VZ⟩) hHeld ?_
       case VZ =>
        intro w' hSw
        (try dsimp only at hSw)
        simp only [List.getElem_toArray, List.getElem_cons_succ, List.getElem_cons_zero]
        go_simp
        (try with_reducible rfl)
       change Until _ _ _ _ _ _ _ _ (Act.put _ (some 107) _) _
       simp only [Act.put, List.setIfInBounds_toArray, List.set_cons_zero, List.set_cons_succ]
       refine Until.one (i := 17) (o := _) (by kernel_rfl) rfl (fun K hK => ?_)
       go_simp
       refine (og g (s || b1 || b2 || b3 || b4 || b5 || b6 || b7 || b8 || b9) b10 n n 0 I8 p2.length I4 _ R25.out).mono ?_
       rintro e XN ⟨rfl, hr, hg⟩
       have R26 := Lib.hid hr
       have N26 := Lib.hid (N25.out.touch hg GL.out)
       have aeG := Lib.hid (Row.grown Z8.out hg (by have h1 := GL.out; have h2 := HKB.out; have h3 := GX.out; have h4 := GQ.out; simp; omega))
       have aeB := Lib.hid (Row.grown aeC.out hg (by have h1 := GL.out; have h2 := HKB.out; have h3 := GX.out; have h4 := GQ.out; simp; omega))
       have Uo := Lib.hid (Row.grown Z4.out hg (by have h1 := GL.out; have h2 := HKB.out; have h3 := GX.out; have h4 := GQ.out; simp; omega))
       have aeb := Lib.hid (Own.touch aec.out hg (by have h1 := GL.out; omega))
       have aek := Lib.hid (Own.touch ael.out hg (by have h1 := GL.out; omega))
       have U26 : Hid (ws.heap.size ≤ XN.heap.size) := Lib.hid (by have h1 := hg.size; have h2 := U25.out; first | omega | (simp at h1; omega))
       have kc := Uo.out.cell
       have kf := Uo.out.free
       clear hr hg
       go_wp2_with fail
       clear hHeld
       have hHeld := KT.out _ N26.out aeG.out Uo.out
       refine hK.out _ _ (fun _ => hHeld) ?_
       clear hK K
       try simp only [Act.put, List.setIfInBounds_toArray, List.set_cons_zero, List.set_cons_succ]
       refine Until.one (i := 18) (o := _) (by kernel_rfl) rfl (fun K hK => ?_)
       go_simp
       refine hK.out _ _ (fun h => Bool.noConfusion (show true = false from h)) ?_
       clear hK K hHeld
       try simp only [Act.put, List.setIfInBounds_toArray, List.set_cons_zero, List.set_cons_succ]
       refine Until.done (by kernel_rfl) ?_ _
       refine NoPanic.normal ?_
       have N27 := Lib.hid (N26.out.bQ (C := w7.heap.size) (by have h1 := GQ.out; simpa using h1) (I n) (I n) (.slice I8 p2.length I4))
       have Ul : Hid (Row (bQ XN w7.heap.size (I n) (I n) (.slice I8 p2.length I4)) kx 31 #[I n, I 1, .slice Ax x.length dx]) := Lib.hid (aeB.out.oL HXQ.out)
       have Un := Lib.hid (Uo.out.bQ (I n) (I n) (.slice I8 p2.length I4))
       have Xg := Lib.hid (Own.jY aeb.out HXO.out (I n) (I n) (.slice I8 p2.length I4))
       have Zy := Lib.hid (Own.jY aek.out (C := w7.heap.size) (fun q hq => by have h1 := (aew.out q hq).1; have h2 := U24.out; have h3 := Rn.out; omega) (I n) (I n) (.slice I8 p2.length I4))
       have R27 := Lib.hid (R26.out.oL (C := w7.heap.size) (by have h1 := GL.out; have h2 := GQ.out; omega) (a := I n) (b := I n) (c := .slice I8 p2.length I4))
       go_wp2_with fail
       change Code.wp Try.prog _ _ _ (bQ XN w7.heap.size (I n) (I n) (.slice I8 p2.length I4))
       have UW : Hid (ws.heap.size ≤ (bQ XN w7.heap.size (I n) (I n) (.slice I8 p2.length I4)).heap.size) := Lib.hid (by have h1 := U26.out; simpa using h1)
       obtain ⟨XM, Yw⟩ : ∃ XM, bQ XN w7.heap.size (I n) (I n) (.slice I8 p2.length I4) = XM := ⟨_, rfl⟩
       rw [Yw] at N27 Ul Un Xg Zy R27 UW ⊢
       clear Yw kc kf
       have KU : Hid (∀ w', Row w' kx 31 #[I n, I 1, .slice Ax x.length dx] → Row w' w7.heap.size 31 #[I n, I n, .slice I8 p2.length I4] → (∀ o, w'.cell? ⟨kx, o, none⟩ = #[I n, I 1, .slice Ax x.length dx][o]?) ∧ (∀ o, w'.cell? ⟨w7.heap.size, o, none⟩ = #[I n, I n, .slice I8 p2.length I4][o]?)) := Lib.hid (fun w' h1 h2 => ⟨h1.cell, h2.cell⟩)
       have G15 := Lib.hid (fun w' (o : Own w' (w.heap.size + 4) (.slice I8 p2.length I4) p2) => Bq n I8 I4 p2 w' HH.out.2 (by rw [← HT2.out.ep2]; exact upto_length) (Own.rd o).1 (Own.rd o).2)
       rw [HT2.out.eP] at G15
       go_region_held3 (fun w' => (∀ o, w'.cell? ⟨kx, o, none⟩ = #[I n, I 1, .slice Ax x.length dx][o]?) ∧ (∀ o, w'.cell? ⟨w7.heap.size, o, none⟩ = #[I n, I n, .slice I8 p2.length I4][o]?))
        (first | with_reducible exact KU.out _ ZQ.out ZZ.out | with_reducible exact KU.out _ Ul.out.drew Un.out.drew | exact KU.out _ (Row.rU ZQ.out (C := w.heap.size + 1 + 1 + 1) (by have h1 := GX.out; omega) _ _ _ _ _ _) (Row.rU ZZ.out (C := w.heap.size + 1 + 1 + 1) (by have h1 := GQ.out; omega) _ _ _ _ _ _))
        (first
          | (go_at_call 104
             refine (G15.out _ Zy.out.drew).mono ?_
             rintro e w28 ⟨Ag, cg, rfl, ho, hb⟩
             have aet := Lib.hid ho
             have N28 := Lib.hid (N27.out.drew.below hb)
             have ZQ := Lib.hid (Row.below Ul.out.drew hb Ul.out.lt)
             have ZZ := Lib.hid (Row.below Un.out.drew hb Un.out.lt)
             have aea := Lib.hid (Xg.out.drew.below hb)
             have R28 := Lib.hid (Row.below R27.out.drew hb R27.out.lt)
             have aev := Lib.hid ho.row.lt
             have OXB : Hid (∀ q, (Value.slice Ax x.length dx).ownBlock = some q → q < XM.heap.size) := Lib.hid (fun q hq => (Xg.out.row.lt q hq).2)
             have x3 := N28.out.r3.cell
             have g3 := N28.out.r3.free
             clear ho hb))
       go_wp2
       have zg := GL.out
       have z7 := GQ.out
       have zu := Rn.out
       have zw := UW.out
       have zd : XM.drew.heap.size = XM.heap.size := rfl
       refine bodyPost_ret (acJ rfl rfl (Row.eY N28.out.r3 _ _ _ _ _ _)) rfl ⟨_, _, _, _, rfl, ?_, ?_, ?_, Row.rU R28.out (by omega) _ _ _ _ _ _, Qj N28.out.gr (by omega) _ _ _ _ _ _⟩
       · exact (Own.eY aea.out (by omega) _ _ _ _ _ _).lower (by omega)
       · exact (Own.eY aet.out (by omega) _ _ _ _ _ _).lower (by omega)
       · intro q hq e
         have h1 := OXB.out q hq
         have h2 := (aev.out q e).1
         omega)
      clear Zi
      have UT : Hid (w.heap.size + 4 ≤ wt.heap.size ∧ kb < wt.heap.size ∧ kx < wt.heap.size ∧ bk < wt.heap.size ∧ w6.heap.size < wt.heap.size) := Lib.hid ⟨by have h1 := Gl.out.rows.le Gl.out.gr.size; simpa using h1, y8.out.lt, Gm.out.lt, (Gi.out.row.lt bk rfl).2, y7.out.lt⟩
      have UX : Hid (∀ q, (Value.slice Ax x.length dx).ownBlock = some q → q < wt.heap.size) := Lib.hid (fun q hq => (OQ.out.row.lt q hq).2)
      have A46 := Lib.hid (fun w' (h : w.grownBy w' (some g)) (o : Own w' (w.heap.size + 4) (.slice (some ⟨bk, 0, none⟩) k.length ck) k) => wM n 1 n (some ⟨bk, 0, none⟩) A3 ck c3 k lh w' HH.out.2 (by omega) HH.out.2 xC.out HHL.out (Own.rd o).1 (TH.out _ h))
      rw [HT2.out.ekh, HT2.out.eb5] at A46
      have A71 := Lib.hid (fun A' c' w' (o : Own w' (w.heap.size + 4) (.slice Ae (mg n).length ce) (mg n)) (o' : Own w' (w.heap.size + 4) (.slice A' kh.length c') kh) hc' => Sr n n Ae A' ce c' (mg n) kh w' HH.out.2 HH.out.2 (by unfold mg; rw [jU]; simp) (by rw [← HT2.out.ekh]; exact jD _ _ _ _ _) (Own.rd o).1 (Own.rd o').1 (Own.rd o).2 hc')
      rw [HT2.out.eik, HT2.out.eb6] at A71
      simp only [eo] at A46
      have KS : Hid (∀ w', Sg w g [(156, #[.pointer (some ⟨g, 0, none⟩)]), (33, #[I n, I 1, .slice A1 lx.length c1, I n, I n, .slice A2 lp.length c2]), (31, #[I 1, I n, .slice A3 lh.length c3]), (33, #[I 0, I 0, .slice none 0 0, I 0, I 0, .slice none 0 0])] w' → Row w' kb 31 #[I n, I 1, .slice (some ⟨bk, 0, none⟩) k.length ck] → Row w' w6.heap.size 31 #[I n, I n, .slice Ae (mg n).length ce] → ((∀ o, w'.cell? ⟨w.heap.size, o, none⟩ = #[.pointer (some ⟨g, 0, none⟩)][o]?) ∧ (∀ o, w'.cell? ⟨w.heap.size + 1, o, none⟩ = #[I n, I 1, .slice A1 lx.length c1, I n, I n, .slice A2 lp.length c2][o]?) ∧ (∀ o, w'.cell? ⟨w.heap.size + 1 + 1, o, none⟩ = #[I 1, I n, .slice A3 lh.length c3][o]?)) ∧ (∀ o, w'.cell? ⟨kb, o, none⟩ = #[I n, I 1, .slice (some ⟨bk, 0, none⟩) k.length ck][o]?) ∧ (∀ o, w'.cell? ⟨w6.heap.size, o, none⟩ = #[I n, I n, .slice Ae (mg n).length ce][o]?)) := Lib.hid (fun w' h h1 h2 => ⟨⟨h.r0.cell, h.r1.cell, h.r2.cell⟩, h1.cell, h2.cell⟩)
      go_region_held3 (fun w' => ((∀ o, w'.cell? ⟨w.heap.size, o, none⟩ = #[.pointer (some ⟨g, 0, none⟩)][o]?) ∧ (∀ o, w'.cell? ⟨w.heap.size + 1, o, none⟩ = #[I n, I 1, .slice A1 lx.length c1, I n, I n, .slice A2 lp.length c2][o]?) ∧ (∀ o, w'.cell? ⟨w.heap.size + 1 + 1, o, none⟩ = #[I 1, I n, .slice A3 lh.length c3][o]?)) ∧ (∀ o, w'.cell? ⟨kb, o, none⟩ = #[I n, I 1, .slice (some ⟨bk, 0, none⟩) k.length ck][o]?) ∧ (∀ o, w'.cell? ⟨w6.heap.size, o, none⟩ = #[I n, I n, .slice Ae (mg n).length ce][o]?))
       (first | with_reducible exact KS.out _ ZP.out Rf.out Xt.out | with_reducible exact KS.out _ (ZP.out.alloc _) (Rf.out.alloc _) (Xt.out.alloc _) | with_reducible exact KS.out _ N13.out Uu.out Us.out | with_reducible exact KS.out _ (N13.out.alloc _) (Uu.out.alloc _) (Us.out.alloc _) | with_reducible exact KS.out _ N12.out O_.out O9.out | with_reducible exact KS.out _ (N12.out.alloc _) (O_.out.alloc _) (O9.out.alloc _) | with_reducible exact KS.out _ N11.out Uw.out Ut.out | with_reducible exact KS.out _ (N11.out.alloc _) (Uw.out.alloc _) (Ut.out.alloc _) | with_reducible exact KS.out _ (Gl.out.drew) (y8.out.drew) (y7.out.drew) | with_reducible exact KS.out _ (Gl.out.drew.alloc _) (y8.out.drew.alloc _) (y7.out.drew.alloc _) | with_reducible exact KS.out _ ((Gl.out.alloc _).drew) ((y8.out.alloc _).drew) ((y7.out.alloc _).drew) | exact KS.out _ (ZP.out.bQ (by have h1 := UT.out; have h2 := Ug.out; have h3 := Vf.out; have h4 := W_.out; have h5 := U14.out; have h6 := GE.out; simp; omega) _ _ _) (Rf.out.oL (by have h1 := UT.out; have h2 := Ug.out; have h3 := Vf.out; have h4 := W_.out; have h5 := U14.out; omega)) (Xt.out.oL (by have h1 := UT.out; have h2 := Ug.out; have h3 := Vf.out; have h4 := W_.out; have h5 := U14.out; omega)))
       (first
         | (go_at_call 100
            first
             | (with_reducible refine (og g (s || b1 || b2 || b3 || b4 || b5) b6 n n 0 Ai ik.length di _ R13.out).mono ?_)
             | (with_reducible refine (og g (s || b1 || b2 || b3 || b4 || b5) b6 n n 0 Ai ik.length di _ (R13.out.alloc _)).mono ?_)
            rintro e X_ ⟨rfl, hr, hg⟩
            have R14 := Lib.hid hr
            have ZP := Lib.hid (by first | exact N13.out.touch hg GL.out | exact (N13.out.alloc _).touch hg GL.out)
            have Rf := Lib.hid (by first | exact Row.grown (Uu.out) hg (by have h1 := GL.out; have h2 := HKB.out; have h3 := GX.out; have h4 := GE.out; simp; omega) | exact Row.grown ((Uu.out.alloc _)) hg (by have h1 := GL.out; have h2 := HKB.out; have h3 := GX.out; have h4 := GE.out; simp; omega))
            have ZW := Lib.hid (by first | exact Row.grown (ZX.out) hg (by have h1 := GL.out; have h2 := HKB.out; have h3 := GX.out; have h4 := GE.out; simp; omega) | exact Row.grown ((ZX.out.alloc _)) hg (by have h1 := GL.out; have h2 := HKB.out; have h3 := GX.out; have h4 := GE.out; simp; omega))
            have Xt := Lib.hid (by first | exact Row.grown (Us.out) hg (by have h1 := GL.out; have h2 := HKB.out; have h3 := GX.out; have h4 := GE.out; simp; omega) | exact Row.grown ((Us.out.alloc _)) hg (by have h1 := GL.out; have h2 := HKB.out; have h3 := GX.out; have h4 := GE.out; simp; omega))
            have ZE := Lib.hid (by first | exact Own.touch (ZF.out) hg (by have h1 := GL.out; omega) | exact Own.touch ((ZF.out.alloc _)) hg (by have h1 := GL.out; omega))
            have Zu := Lib.hid (by first | exact Own.touch (Zv.out) hg (by have h1 := GL.out; omega) | exact Own.touch ((Zv.out.alloc _)) hg (by have h1 := GL.out; omega))
            have ZI := Lib.hid (by first | exact Own.touch (ZJ.out) hg (by have h1 := GL.out; omega) | exact Own.touch ((ZJ.out.alloc _)) hg (by have h1 := GL.out; omega))
            have U14 : Hid (wt.heap.size ≤ X_.heap.size ∧ Pj.heap.size ≤ X_.heap.size) := Lib.hid (by have h1 := hg.size; have h2 := W_.out; first | omega | (simp at h1; omega))
            first
             | (have OY := Lib.hid (Row.grown Z7.out hg (by have h1 := GL.out; have h4 := GE.out; have h5 := UT.out; have h6 := W_.out; have h7 := Vf.out; have h8 := Ug.out; simp; omega))
                have kc := OY.out.cell
                have kf := OY.out.free)
             | (have OY : Hid (Row X_ Pj.heap.size 31 #[I 0, I 0, .slice none 0 0]) := Lib.hid (Row.grown (Row.new Pj 31 #[I 0, I 0, .slice none 0 0]) hg (by have h1 := GL.out; have h4 := GE.out; have h5 := UT.out; have h6 := W_.out; have h7 := Vf.out; have h8 := Ug.out; simp; omega))
                have kc := OY.out.cell
                have kf := OY.out.free)
             | skip
            clear hr hg)
         | (go_at_call 127
            first
             | (with_reducible refine (A71.out _ _ _ ZM.out ZK.out aap.out).mono ?_)
             | (with_reducible refine (A71.out _ _ _ (ZM.out.alloc _) (ZK.out.alloc _) aap.out).mono ?_)
            rintro e Pj ⟨v, rfl, ho, hb⟩
            obtain ⟨Ai, di, rfl, _, _⟩ := Own.reads ho
            have ZJ : Hid (Own Pj (w.heap.size + 4) (.slice Ai ik.length di) ik) := Lib.hid (Own.lower ho (by have h1 := UT.out; have h4 := GE.out; have h5 := Vf.out; first | omega | (simp; omega)))
            have aex := Lib.hid ho.row.lt
            have N13 := Lib.hid (by first | exact N12.out.below hb | exact (N12.out.alloc _).below hb)
            have Uu := Lib.hid (by first | exact Row.below (O_.out) hb (O_.out).lt | exact Row.below ((O_.out.alloc _)) hb ((O_.out.alloc _)).lt)
            have ZX := Lib.hid (by first | exact Row.below (Um.out) hb (Um.out).lt | exact Row.below ((Um.out.alloc _)) hb ((Um.out.alloc _)).lt)
            have Us := Lib.hid (by first | exact Row.below (O9.out) hb (O9.out).lt | exact Row.below ((O9.out.alloc _)) hb ((O9.out.alloc _)).lt)
            have ZF := Lib.hid (by first | exact ZG.out.below hb | exact (ZG.out.alloc _).below hb)
            have Zv := Lib.hid (by first | exact Zw.out.below hb | exact (Zw.out.alloc _).below hb)
            have R13 := Lib.hid (by first | exact Row.below (R12.out) hb (R12.out).lt | exact Row.below ((R12.out.alloc _)) hb ((R12.out.alloc _)).lt)
            have W_ : Hid (wt.heap.size ≤ Pj.heap.size ∧ w12.heap.size ≤ Pj.heap.size) := Lib.hid (by have h1 := hb.size; have h2 := Vf.out; first | omega | (simp at h1; omega))
            first
             | (have Z7 := Lib.hid (Row.below Q9.out hb Q9.out.lt))
             | (have Z7 : Hid (Row Pj w12.heap.size 31 #[I 0, I 0, .slice none 0 0]) := Lib.hid (Row.below (Row.new w12 31 #[I 0, I 0, .slice none 0 0]) hb (by simp)))
             | skip
            clear hb ho)
         | (go_at_call 100
            first
             | (with_reducible refine (og g (s || b1 || b2 || b3 || b4) b5 n n 0 Ah kh.length dh _ R11.out).mono ?_)
             | (with_reducible refine (og g (s || b1 || b2 || b3 || b4) b5 n n 0 Ah kh.length dh _ (R11.out.alloc _)).mono ?_)
            rintro e w12 ⟨rfl, hr, hg⟩
            have R12 := Lib.hid hr
            have N12 := Lib.hid (by first | exact N11.out.touch hg GL.out | exact (N11.out.alloc _).touch hg GL.out)
            have O_ := Lib.hid (by first | exact Row.grown (Uw.out) hg (by have h1 := GL.out; have h2 := HKB.out; have h3 := GX.out; have h4 := GE.out; simp; omega) | exact Row.grown ((Uw.out.alloc _)) hg (by have h1 := GL.out; have h2 := HKB.out; have h3 := GX.out; have h4 := GE.out; simp; omega))
            have Um := Lib.hid (by first | exact Row.grown (ZY.out) hg (by have h1 := GL.out; have h2 := HKB.out; have h3 := GX.out; have h4 := GE.out; simp; omega) | exact Row.grown ((ZY.out.alloc _)) hg (by have h1 := GL.out; have h2 := HKB.out; have h3 := GX.out; have h4 := GE.out; simp; omega))
            have O9 := Lib.hid (by first | exact Row.grown (Ut.out) hg (by have h1 := GL.out; have h2 := HKB.out; have h3 := GX.out; have h4 := GE.out; simp; omega) | exact Row.grown ((Ut.out.alloc _)) hg (by have h1 := GL.out; have h2 := HKB.out; have h3 := GX.out; have h4 := GE.out; simp; omega))
            have ZG := Lib.hid (by first | exact Own.touch (ZH.out) hg (by have h1 := GL.out; omega) | exact Own.touch ((ZH.out.alloc _)) hg (by have h1 := GL.out; omega))
            have Zw := Lib.hid (by first | exact Own.touch (Zx.out) hg (by have h1 := GL.out; omega) | exact Own.touch ((Zx.out.alloc _)) hg (by have h1 := GL.out; omega))
            have ZM := Lib.hid (by first | exact Own.touch (ZN.out) hg (by have h1 := GL.out; omega) | exact Own.touch ((ZN.out.alloc _)) hg (by have h1 := GL.out; omega))
            have ZK := Lib.hid (by first | exact Own.touch (ZL.out) hg (by have h1 := GL.out; omega) | exact Own.touch ((ZL.out.alloc _)) hg (by have h1 := GL.out; omega))
            have Vf : Hid (wt.heap.size ≤ w12.heap.size ∧ Pe.heap.size ≤ w12.heap.size) := Lib.hid (by have h1 := hg.size; have h2 := Ug.out; first | omega | (simp at h1; omega))
            first
             | (have Q9 := Lib.hid (Row.grown Xp.out hg (by have h1 := GL.out; have h4 := GE.out; have h5 := UT.out; have h6 := Ug.out; simp; omega)))
             | (have Q9 : Hid (Row w12 Pe.heap.size 31 #[I 0, I 0, .slice none 0 0]) := Lib.hid (Row.grown (Row.new Pe 31 #[I 0, I 0, .slice none 0 0]) hg (by have h1 := GL.out; have h4 := GE.out; have h5 := UT.out; have h6 := Ug.out; simp; omega)))
             | skip
            clear hr hg)
         | (go_at_call 101
            first
             | (with_reducible refine (A46.out _ Gl.out.drew.gr Gi.out.drew).mono ?_)
             | (with_reducible refine (A46.out _ (Gl.out.drew.alloc _).gr (Gi.out.drew.alloc _)).mono ?_)
             | (with_reducible refine (A46.out _ (Gl.out.alloc _).drew.gr (Gi.out.alloc _).drew).mono ?_)
            rintro e Pe ⟨v, rfl, ho, hb⟩
            obtain ⟨Ah, dh, rfl, hch, rah⟩ := Own.reads ho
            have aap := Lib.hid hch
            have ZL : Hid (Own Pe (w.heap.size + 4) (.slice Ah kh.length dh) kh) := Lib.hid (Own.lower ho (by have h1 := UT.out; have h4 := GE.out; first | omega | (simp; omega)))
            have N11 := Lib.hid (by first | exact Gl.out.drew.below hb | exact (Gl.out.drew.alloc _).below hb | exact (Gl.out.alloc _).drew.below hb)
            have Uw := Lib.hid (by first | exact Row.below (y8.out.drew) hb (y8.out.drew).lt | exact Row.below ((y8.out.drew.alloc _)) hb ((y8.out.drew.alloc _)).lt | exact Row.below ((y8.out.alloc _).drew) hb ((y8.out.alloc _).drew).lt)
            have ZY := Lib.hid (by first | exact Row.below (Gm.out.drew) hb (Gm.out.drew).lt | exact Row.below ((Gm.out.drew.alloc _)) hb ((Gm.out.drew.alloc _)).lt | exact Row.below ((Gm.out.alloc _).drew) hb ((Gm.out.alloc _).drew).lt)
            have Ut := Lib.hid (by first | exact Row.below (y7.out.drew) hb (y7.out.drew).lt | exact Row.below ((y7.out.drew.alloc _)) hb ((y7.out.drew.alloc _)).lt | exact Row.below ((y7.out.alloc _).drew) hb ((y7.out.alloc _).drew).lt)
            have ZH := Lib.hid (by first | exact Gi.out.drew.below hb | exact (Gi.out.drew.alloc _).below hb | exact (Gi.out.alloc _).drew.below hb)
            have Zx := Lib.hid (by first | exact OQ.out.drew.below hb | exact (OQ.out.drew.alloc _).below hb | exact (OQ.out.alloc _).drew.below hb)
            have ZN := Lib.hid (by first | exact Q7.out.drew.below hb | exact (Q7.out.drew.alloc _).below hb | exact (Q7.out.alloc _).drew.below hb)
            have R11 := Lib.hid (by first | exact Row.below (R10.out.drew) hb (R10.out.drew).lt | exact Row.below ((R10.out.drew.alloc _)) hb ((R10.out.drew.alloc _)).lt | exact Row.below ((R10.out.alloc _).drew) hb ((R10.out.alloc _).drew).lt)
            have Ug : Hid (wt.heap.size ≤ Pe.heap.size ∧ wt.heap.size ≤ Pe.heap.size) := Lib.hid (by have h1 := hb.size; first | omega | (simp at h1; omega))
            first
             | (have Xp : Hid (Row Pe wt.heap.size 31 #[I 0, I 0, .slice none 0 0]) := Lib.hid (Row.below (Row.new wt.drew 31 #[I 0, I 0, .slice none 0 0]) hb (by simp)))
             | (have Xp : Hid (Row Pe wt.heap.size 31 #[I 0, I 0, .slice none 0 0]) := Lib.hid (Row.below (Row.new wt 31 #[I 0, I 0, .slice none 0 0]).drew hb (by simp)))
             | skip
            clear hb ho hch rah))
      all_goals
       show K10 _ _
       have z0 := UT.out
       have z1 := Ug.out
       have z2 := Vf.out
       have z3 := W_.out
       have z4 := U14.out
       have zg := GL.out
       have ze := GE.out
       first
        | (refine Q4.out _ _ _ _ _ _ _ _ _ _ _ _ _ _ _ _ _ _ _ _ _ _ _ _ _ _ _ _ _ _ _ _ _ _ _ _ _ _ _ _ _ _ _ _ _ _ _ _ _ _ _ _ _ _ _ _ _ _ _ _ _ _ _ _ _ _ _ _ _ _ _ _ (ZP.out.alloc _) (Rf.out.alloc _) (ZE.out.alloc _) (ZW.out.alloc _) (Zu.out.alloc _) (Row.new _ _ _) (ZI.out.alloc _) (R14.out.alloc _) (by omega))
        | (refine Q4.out _ _ _ _ _ _ _ _ _ _ _ _ _ _ _ _ _ _ _ _ _ _ _ _ _ _ _ _ _ _ _ _ _ _ _ _ _ _ _ _ _ _ _ _ _ _ _ _ _ _ _ _ _ _ _ _ _ _ _ _ _ _ _ _ _ _ _ _ _ _ _ _ (ZP.out.bQ (by simp; omega) _ _ _) (Rf.out.oL (by omega)) (Own.jY ZE.out (fun q hq => ?_) _ _ _) (ZW.out.oL (by omega)) (Own.jY Zu.out (fun q hq => ?_) _ _ _) (OY.out.bQ _ _ _) (Own.jY ZI.out (fun q hq => ?_) _ _ _) (R14.out.oL (by omega)) (by omega)
           · injection hq with hq
             dsimp only at hq
             omega
           · have h1 := UX.out q hq
             omega
           · have h1 := aex.out q hq
             first | omega | (simp at h1; omega) | (have h2 := Xp.out.lt; omega) | (have h2 := Q9.out.lt; omega) | (simp at h1; have h2 := Q9.out.lt; omega)))
     clear Zh
     have U0 : Hid (w.heap.size + 4 ≤ wr.heap.size ∧ kb < wr.heap.size ∧ bk < wr.heap.size) := Lib.hid ⟨by have h1 := N5.out.rows.le N5.out.gr.size; simpa using h1, I7.out.lt, (OK.out.row.lt bk rfl).2⟩
     have S68 := Lib.hid (fun w' (o : Own w' (w.heap.size + 4) (.slice (some ⟨bk, 0, none⟩) k.length ck) k) rk rp rg => wC g kb w.heap.size n (s || b1 || b2) (some ⟨bk, 0, none⟩) ck k y w' HH.out.2 xC.out (Own.rd o).1 (Own.rd o).2 rk rp rg)
     rw [HT2.out.esy, HT2.out.eb3] at S68
     have A47 := Lib.hid (fun A' c' w' (h : w.grownBy w' (some g)) (ha : Rd w' A' sy) hc => Eu n 1 A1 A' c1 c' lx sy w' HH.out.2 (by omega) HX.out (by rw [← HT2.out.esy]; exact upto_length) (TX.out _ h) ha CX.out hc)
     rw [HT2.out.ex, HT2.out.eb4] at A47
     simp only [eo] at A47
     go_region_held3 (fun w' => (∀ o, w'.cell? ⟨w.heap.size, o, none⟩ = #[.pointer (some ⟨g, 0, none⟩)][o]?) ∧ (∀ o, w'.cell? ⟨w.heap.size + 1, o, none⟩ = #[I n, I 1, .slice A1 lx.length c1, I n, I n, .slice A2 lp.length c2][o]?) ∧ (∀ o, w'.cell? ⟨w.heap.size + 1 + 1, o, none⟩ = #[I 1, I n, .slice A3 lh.length c3][o]?))
      (first | with_reducible exact KK.out _ M4.out | with_reducible exact KK.out _ (M4.out.alloc _) | with_reducible exact KK.out _ M3.out | with_reducible exact KK.out _ (M3.out.alloc _) | with_reducible exact KK.out _ M2.out | with_reducible exact KK.out _ (M2.out.alloc _) | with_reducible exact KK.out _ N5.out.drew | with_reducible exact KK.out _ (N5.out.drew.alloc _) | with_reducible exact KK.out _ (N5.out.alloc _).drew | exact KK.out _ (M4.out.bQ (by have := U0.out; have := U2.out; have := U3.out; have := U4.out; simp; omega) _ _ _))
      (first
        | (go_at_call 100
           first
            | (with_reducible refine (og g (s || b1 || b2 || b3) b4 n 1 0 Ax x.length dx _ R3.out).mono ?_)
            | (with_reducible refine (og g (s || b1 || b2 || b3) b4 n 1 0 Ax x.length dx _ (R3.out.alloc _)).mono ?_)
           rintro e w4 ⟨rfl, hr4, hg4⟩
           have R4 := Lib.hid hr4
           have M4 := Lib.hid (by first | exact M3.out.touch hg4 GL.out | exact (M3.out.alloc _).touch hg4 GL.out)
           have KM4 := Lib.hid (by first | exact Row.grown (KM3.out) hg4 (by have h1 := GL.out; have h2 := HKB.out; simp; omega) | exact Row.grown ((KM3.out.alloc _)) hg4 (by have h1 := GL.out; have h2 := HKB.out; simp; omega))
           have OK4 := Lib.hid (by first | exact Own.touch (OK3.out) hg4 (by have h1 := GL.out; omega) | exact Own.touch ((OK3.out.alloc _)) hg4 (by have h1 := GL.out; omega))
           have XZ := Lib.hid (by first | exact Own.touch (OX3.out) hg4 (by have h1 := GL.out; omega) | exact Own.touch ((OX3.out.alloc _)) hg4 (by have h1 := GL.out; omega))
           have U4 : Hid (w3.heap.size ≤ w4.heap.size) := Lib.hid (by have h1 := hg4.size; first | omega | (simp at h1; omega))
           first
            | (have XW := Lib.hid (Row.grown XB3.out hg4 (by have h1 := GL.out; have h2 := U0.out; have h3 := U2.out; simp; omega))
               have kc := XW.out.cell
               have kf := XW.out.free)
            | (have XW : Hid (Row w4 w3.heap.size 31 #[I 0, I 0, .slice none 0 0]) := Lib.hid (Row.grown (Row.new w3 31 #[I 0, I 0, .slice none 0 0]) hg4 (by have h1 := GL.out; have h2 := U0.out; have h3 := U2.out; have h4 := U3.out; simp; omega))
               have kc := XW.out.cell
               have kf := XW.out.free)
            | skip
           clear hr4 hg4)
        | (go_at_call 102
           first
            | (with_reducible refine (A47.out _ _ _ M2.out.gr RA.out CS.out).mono ?_)
            | (with_reducible refine (A47.out _ _ _ (M2.out.alloc _).gr (RA.out.below ((Below.refl _ _).alloc (Nat.le_refl _) _)) CS.out).mono ?_)
           rintro e w3 ⟨v, rfl, ho, hb⟩
           obtain ⟨Ax, dx, rfl, _, _⟩ := Own.reads ho
           have OX3 : Hid (Own w3 (w.heap.size + 4) (.slice Ax x.length dx) x) := Lib.hid (Own.lower ho (by have h1 := U2.out; have h2 := U0.out; first | omega | (simp; omega)))
           have OB3 := Lib.hid ho.row.lt
           have M3 := Lib.hid (by first | exact M2.out.below hb | exact (M2.out.alloc _).below hb)
           have KM3 := Lib.hid (by first | exact Row.below (KM2.out) hb (KM2.out).lt | exact Row.below ((KM2.out.alloc _)) hb ((KM2.out.alloc _)).lt)
           have OK3 := Lib.hid (by first | exact OK2.out.below hb | exact (OK2.out.alloc _).below hb)
           have R3 := Lib.hid (by first | exact Row.below (R2.out) hb (R2.out).lt | exact Row.below ((R2.out.alloc _)) hb ((R2.out.alloc _)).lt)
           have U3 : Hid (w2.heap.size ≤ w3.heap.size) := Lib.hid (by have h1 := hb.size; first | omega | (simp at h1; omega))
           first
            | (have XB3 := Lib.hid (Row.below XB2.out hb XB2.out.lt))
            | (have XB3 : Hid (Row w3 w2.heap.size 31 #[I 0, I 0, .slice none 0 0]) := Lib.hid (Row.below (Row.new w2 31 #[I 0, I 0, .slice none 0 0]) hb (by simp)))
            | skip
           clear hb ho)
        | (go_at_call 124
           first
            | (with_reducible refine (S68.out _ OK.out.drew I7.out.drew N5.out.drew.r0 R5.out.drew).mono ?_)
            | (with_reducible refine (S68.out _ (OK.out.drew.alloc _) (I7.out.drew.alloc _) (N5.out.drew.alloc _).r0 (R5.out.drew.alloc _)).mono ?_)
            | (with_reducible refine (S68.out _ (OK.out.alloc _).drew (I7.out.alloc _).drew (N5.out.alloc _).drew.r0 (R5.out.alloc _).drew).mono ?_)
           rintro e w2 ⟨As, cs, rfl, ho, hr, hg2⟩
           have RA := Lib.hid (Own.rd ho).1
           have CS := Lib.hid (Own.rd ho).2
           have R2 := Lib.hid hr
           have M2 := Lib.hid (by first | exact N5.out.drew.touch hg2 GL.out | exact (N5.out.drew.alloc _).touch hg2 GL.out | exact (N5.out.alloc _).drew.touch hg2 GL.out)
           have KM2 := Lib.hid (by first | exact Row.grown (I7.out.drew) hg2 (by have h1 := GL.out; have h2 := HKB.out; simp; omega) | exact Row.grown ((I7.out.drew.alloc _)) hg2 (by have h1 := GL.out; have h2 := HKB.out; simp; omega) | exact Row.grown ((I7.out.alloc _).drew) hg2 (by have h1 := GL.out; have h2 := HKB.out; simp; omega))
           have OK2 := Lib.hid (by first | exact Own.touch (OK.out.drew) hg2 (by have h1 := GL.out; omega) | exact Own.touch ((OK.out.drew.alloc _)) hg2 (by have h1 := GL.out; omega) | exact Own.touch ((OK.out.alloc _).drew) hg2 (by have h1 := GL.out; omega))
           have U2 : Hid (wr.heap.size ≤ w2.heap.size) := Lib.hid (by have h1 := hg2.size; first | omega | (simp at h1; omega))
           first
            | (have XB2 : Hid (Row w2 wr.heap.size 31 #[I 0, I 0, .slice none 0 0]) := Lib.hid (Row.grown (Row.new wr.drew 31 #[I 0, I 0, .slice none 0 0]) hg2 (by have h1 := GL.out; have h2 := U0.out; simp; omega)))
            | (have XB2 : Hid (Row w2 wr.heap.size 31 #[I 0, I 0, .slice none 0 0]) := Lib.hid (Row.grown (Row.new wr 31 #[I 0, I 0, .slice none 0 0]).drew hg2 (by have h1 := GL.out; have h2 := U0.out; simp; omega)))
            | skip
           clear hr hg2 ho))
     all_goals
      show K8 _ _
      have z0 := U0.out
      have z2 := U2.out
      have z3 := U3.out
      have z4 := U4.out
      have zg := GL.out
      first
       | (refine IL.out _ _ _ _ _ _ _ _ _ _ _ _ _ _ _ _ _ _ _ _ _ _ _ _ _ _ _ _ _ _ _ _ _ _ _ _ _ _ _ _ _ _ _ _ _ _ _ _ (M4.out.alloc _) (KM4.out.alloc _) (OK4.out.alloc _) (Row.new _ _ _) (XZ.out.alloc _) (R4.out.alloc _) (by omega) (fun q hq => ?_)
          have h1 := (XZ.out.row.lt q hq).2
          omega)
       | (refine IL.out _ _ _ _ _ _ _ _ _ _ _ _ _ _ _ _ _ _ _ _ _ _ _ _ _ _ _ _ _ _ _ _ _ _ _ _ _ _ _ _ _ _ _ _ _ _ _ _ (M4.out.bQ (by simp; omega) _ _ _) (KM4.out.oL (by omega)) (Own.jY OK4.out (fun q hq => ?_) _ _ _) (XW.out.bQ _ _ _) (Own.jY XZ.out (fun q hq => ?_) _ _ _) (R4.out.oL (by omega)) (by omega) (fun q hq => ?_)
          · injection hq with hq
            dsimp only at hq
            omega
          all_goals
           have h1 := OB3.out q hq
           first | omega | (simp at h1; omega) | (have h2 := XB2.out.lt; omega))
   have hlt : (j : Int) < k0.length := by omega
   have hj0 : (0 : Int) ≤ j := by omega
   have hjlt : j < k0.length := by omega
   have HJ := Lib.hid hjlt
   have STEP : Hid (j + 1 ≤ k0.length ∧ k0.length - (j + 1) < k0.length - j) := Lib.hid (by omega)
   have hw64 : IntKind.i64.wrap ((j : Int) + 1) = (j : Int) + 1 := by have := HKL.out; simp [IntKind.wrap, IntKind.bits, IntKind.signed]; omega
   have hq := O5.out.cellAt j (by omega)
   rw [List.getElem?_map, Ik sv k0 j (by omega)] at hq
   have hset : Hid ((qi sv k0 j).set j (yF (k0.getD j 0) sv).1 = qi sv k0 (j + 1)) := Lib.hid (Ov sv k0 j (by omega))
   have hsb : Hid (BC sv k0 (j + 1) = (BC sv k0 j || (yF (k0.getD j 0) sv).2)) := Lib.hid (Ox sv k0 j (by omega))
   have DV := Lib.hid (fun w => uF (k0.getD j 0) sv w)
   obtain ⟨q, eq⟩ : ∃ q, k0.getD j 0 = q := ⟨_, rfl⟩
   rw [eq] at hq hset hsb DV
   obtain ⟨d, ed⟩ : ∃ d, yF q sv = d := ⟨_, rfl⟩
   rw [ed] at hset hsb DV
   obtain ⟨d1, d2⟩ := d
   dsimp only at hset hsb DV
   have cq : wr.cell? ⟨bk, j, none⟩ = some (I q) := hq
   have CE : Hid (((qi sv k0 j).map I)[j]? = some (I q)) := Lib.hid (by rw [List.getElem?_map, Ik sv k0 j hjlt, eq]; rfl)
   clear hq eq ed hj hjk hjlt
   have K5 : Hid (∀ w', Sg w g [(156, #[.pointer (some ⟨g, 0, none⟩)]), (33, #[I n, I 1, .slice A1 lx.length c1, I n, I n, .slice A2 lp.length c2]), (31, #[I 1, I n, .slice A3 lh.length c3]), (33, #[I 0, I 0, .slice none 0 0, I 0, I 0, .slice none 0 0])] w' → Row w' kb 31 #[I n, I 1, .slice (some ⟨bk, 0, none⟩) k0.length ck] → (∀ o, w'.cell? ⟨kb, o, none⟩ = #[I n, I 1, .slice (some ⟨bk, 0, none⟩) k0.length ck][o]?) ∧ (∀ o, w'.cell? ⟨w.heap.size, o, none⟩ = #[.pointer (some ⟨g, 0, none⟩)][o]?)) := Lib.hid (fun w' h h' => ⟨h'.cell, h.r0.cell⟩)
   go_wp2_with fail
   go_region_held3 (fun w' => (∀ o, w'.cell? ⟨kb, o, none⟩ = #[I n, I 1, .slice (some ⟨bk, 0, none⟩) k0.length ck][o]?) ∧ (∀ o, w'.cell? ⟨w.heap.size, o, none⟩ = #[.pointer (some ⟨g, 0, none⟩)][o]?))
    (first | with_reducible exact K5.out _ N7.out KB7.out | with_reducible exact K5.out _ N6.out KB6.out | with_reducible exact K5.out _ N5.out.drew I7.out.drew | exact K5.out _ (N7.out.set (p := ⟨bk, j, none⟩) HBK.out _) (KB7.out.far (p := ⟨bk, j, none⟩) HNE.out.symm _))
    (first
      | (go_at_call 119
         refine (wK g (s || b1 || BC sv k0 j) d2 d1 _ R6.out).mono ?_
         rintro e w7 ⟨rfl, hr7, hg7⟩
         have R7 := Lib.hid hr7
         have N7 := Lib.hid (N6.out.touch hg7 GL.out)
         have KB7 := Lib.hid (KB6.out.grown hg7 (by have := GL.out; have := HKB.out; simp; omega))
         have O7 := Lib.hid (lC O6.out (fun q hq => hg7.block q (O6.out.lt q hq).2 (fun e => by have h1 := (O6.out.lt q hq).1; have h2 := GL.out; injection e with e; omega)))
         have c7 : w7.cell? ⟨bk, j, none⟩ = some (I q) := by
          have h := O7.out.cellAt j (by have := HJ.out; omega)
          rw [h]
          exact CE.out
         have f7 := O7.out.frozenAt j
         clear hr7 hg7)
      | (go_at_call 93
         refine (DV.out _).mono ?_
         rintro e w6 ⟨rfl, hb⟩
         have N6 := Lib.hid (N5.out.drew.below hb)
         have KB6 := Lib.hid (I7.out.drew.below hb I7.out.lt)
         have O6 := Lib.hid (lC O5.out.drew (fun q hq => hb.block q (O5.out.lt q hq).2))
         have R6 := Lib.hid (R5.out.drew.below hb R5.out.lt)
         clear hb))
   have O8 := Lib.hid (O7.out.stored j (I d1)).1
   go_wp2
   go_roundw
   case rel => exact ⟨j + 1, STEP.out.1, by go_num, N7.out.set (p := ⟨bk, j, none⟩) HBK.out _, KB7.out.far (p := ⟨bk, j, none⟩) HNE.out.symm _, by have := O8.out; rw [← hset.out, List.map_set]; exact this, by rw [hsb.out, ← Bool.or_assoc]; exact R7.out.far (p := ⟨bk, j, none⟩) (by have := GL.out; have := HBK.out; dsimp only; omega) _⟩
   case measure =>
    have h := STEP.out.2
    show k0.length - ((j : Int) + 1).toNat < k0.length - ((j : Int)).toNat
    rw [show ((j : Int) + 1).toNat = j + 1 by omega, show ((j : Int)).toNat = j by omega]
    exact h)
 clear aK1
 go_region_held3 (fun w' => (∀ o, w'.cell? ⟨w.heap.size, o, none⟩ = #[.pointer (some ⟨g, 0, none⟩)][o]?) ∧ (∀ o, w'.cell? ⟨w.heap.size + 1, o, none⟩ = #[I n, I 1, .slice A1 lx.length c1, I n, I n, .slice A2 lp.length c2][o]?) ∧ (∀ o, w'.cell? ⟨w.heap.size + 1 + 1, o, none⟩ = #[I 1, I n, .slice A3 lh.length c3][o]?))
  (first | with_reducible exact KK.out _ N4.out | with_reducible exact KK.out _ (N4.out.alloc _) | with_reducible exact KK.out _ N3.out | with_reducible exact KK.out _ (N3.out.alloc _) | with_reducible exact KK.out _ N2.out | with_reducible exact KK.out _ (N2.out.alloc _) | with_reducible exact KK.out _ N.out.drew | with_reducible exact KK.out _ (N.out.drew.alloc _) | with_reducible exact KK.out _ (N.out.alloc _).drew | with_reducible exact KK.out _ N.out | with_reducible exact KK.out _ (N.out.alloc _) | exact KK.out _ (N4.out.bQ (by have := S4.out; have := SZ.out; have := S2.out; have := S3.out; simp; omega) _ _ _))
  (first
   | (go_at_call 100
      first
       | (with_reducible refine (og g s b1 n 1 0 Ak k0.length ck _ RG3.out).mono ?_)
       | (with_reducible refine (og g s b1 n 1 0 Ak k0.length ck _ (RG3.out.alloc _)).mono ?_)
      rintro e w4 ⟨rfl, hr4, hg4⟩
      have R4 := Lib.hid hr4
      have O4 := Lib.hid (by first | exact Own.touch O3.out hg4 (by have := GL.out; omega) | exact Own.touch (O3.out.alloc _) hg4 (by have := GL.out; omega))
      have N4 := Lib.hid (by first | exact N3.out.touch hg4 GL.out | exact (N3.out.alloc _).touch hg4 GL.out)
      have S4 : Hid (w.heap.size + 4 ≤ w4.heap.size ∧ w3.heap.size ≤ w4.heap.size) := Lib.hid (by have h1 := hg4.size; have h2 := S3.out; first | omega | (simp at h1; omega))
      first
       | (have X6 := Lib.hid (Row.grown KB3.out hg4 (by have := GL.out; have := S2.out; have := SZ.out; simp; omega))
          have kc := X6.out.cell
          have kf := X6.out.free)
       | (have X6 : Hid (Row w4 w3.heap.size 31 #[I 0, I 0, .slice none 0 0]) := Lib.hid (Row.grown (Row.new w3 31 #[I 0, I 0, .slice none 0 0]) hg4 (by have := GL.out; have := S3.out; simp; omega))
          have kc := X6.out.cell
          have kf := X6.out.free)
       | skip
      clear hr4 hg4)
   | (go_at_call 101
      first
       | (with_reducible refine (HM.out At ct _ N2.out.gr RA.out).mono ?_)
       | (with_reducible refine (HM.out At ct _ (N2.out.alloc _).gr (RA.out.below ((Below.refl _ _).alloc (Nat.le_refl _) _))).mono ?_)
      rintro e w3 ⟨v, rfl, ho, hb⟩
      obtain ⟨Ak, ck, rfl, _, _⟩ := Own.reads ho
      have O3 : Hid (Own w3 (w.heap.size + 4) (.slice Ak k0.length ck) k0) := Lib.hid (Own.lower ho (by have := S2.out; first | omega | (simp; omega)))
      have N3 := Lib.hid (by first | exact N2.out.below hb | exact (N2.out.alloc _).below hb)
      have RG3 := Lib.hid (by first | exact Row.below (XY.out) hb (XY.out).lt | exact Row.below ((XY.out.alloc _)) hb ((XY.out.alloc _)).lt)
      have S3 : Hid (w.heap.size + 4 ≤ w3.heap.size) := Lib.hid (by have h1 := hb.size; have h2 := S2.out; first | omega | (simp at h1; omega))
      first
       | (have KB3 := Lib.hid (Row.below KB2.out hb KB2.out.lt))
       | (have KB3 : Hid (Row w3 w2.heap.size 31 #[I 0, I 0, .slice none 0 0]) := Lib.hid (Row.below (Row.new w2 31 #[I 0, I 0, .slice none 0 0]) hb (by simp)))
       | skip
      have OB3 := Lib.hid ho.row.lt
      clear hb ho)
   | (go_at_call 77
      first
       | (with_reducible refine (HT.out _ N.out.drew.gr).mono ?_)
       | (with_reducible refine (HT.out _ (N.out.drew.alloc _).gr).mono ?_)
       | (with_reducible refine (HT.out _ (N.out.alloc _).drew.gr).mono ?_)
      rintro e w2 ⟨v, rfl, ho, hb⟩
      obtain ⟨At, ct, rfl, _, ra⟩ := Own.reads ho
      have RA := Lib.hid ra
      have N2 := Lib.hid (by first | exact N.out.drew.below hb | exact (N.out.drew.alloc _).below hb | exact (N.out.alloc _).drew.below hb)
      have XY := Lib.hid (by first | exact Row.below (RG.out.drew) hb (RG.out.drew).lt | exact Row.below ((RG.out.drew.alloc _)) hb ((RG.out.drew.alloc _)).lt | exact Row.below ((RG.out.alloc _).drew) hb ((RG.out.alloc _).drew).lt)
      have S2 : Hid (w.heap.size + 4 ≤ w2.heap.size) := Lib.hid (by have h1 := hb.size; have h2 := SZ.out; first | omega | (simp at h1; omega))
      first
       | (have KB2 : Hid (Row w2 wr.heap.size 31 #[I 0, I 0, .slice none 0 0]) := Lib.hid (Row.below (Row.new wr.drew 31 #[I 0, I 0, .slice none 0 0]) hb (by simp)))
       | (have KB2 : Hid (Row w2 wr.heap.size 31 #[I 0, I 0, .slice none 0 0]) := Lib.hid (Row.below (Row.new wr 31 #[I 0, I 0, .slice none 0 0]).drew hb (by simp)))
       | skip
      clear hb ra ho))
 all_goals
  show K1 _ _
  have z0 := SZ.out
  have z2 := S2.out
  have z3 := S3.out
  have z4 := S4.out
  have zg := GL.out
  first
   | (refine Vk.out _ _ _ _ _ _ _ _ _ _ _ _ _ _ (N4.out.alloc _) (Row.new _ _ _) (O4.out.alloc _) (R4.out.alloc _) (by omega) (fun q hq => ?_)
      have h1 := (O4.out.row.lt q hq).2
      omega)
   | (refine Vk.out _ _ _ _ _ _ _ _ _ _ _ _ _ _ (N4.out.bQ (by simp; omega) _ _ _) (X6.out.bQ _ _ _) (Own.jY O4.out (fun q hq => ?_) _ _ _) (R4.out.oL (by omega)) (by omega) (fun q hq => ?_)
      all_goals
       have h1 := OB3.out q hq
       first | omega | (simp at h1; omega) | (have h2 := KB2.out.lt; omega))
end Go.Proofs.Ytnijhjbcjeohhaa.PR

namespace Go.Proofs.Ytnijhjbcjeohhaa.PR
open Go.RowKit Go.Proofs.Ytnijhjbcjeohhaa.PQ Go.Proofs.af.aO Go.Proofs.af.aU Go.Proofs.af.aV Go.Proofs.Ytnijhjbcjeohhaa.KK
set_option linter.unusedVariables false
set_option linter.unusedSimpArgs false
def tK0 (n : Nat) (lp lh : List Int) : List Int := mulL n n 1 lp (yX 1 n lh)
def tK (n : Nat) (lp lh : List Int) (sv : Int) : List Int := (tK0 n lp lh).map (fun q => (yF q sv).1)
def tX (n : Nat) (lx lp lh : List Int) (y sv : Int) : List Int := iL iw n 1 lx (jW n 1 (tK n lp lh sv) y)
def tI (n : Nat) (lp lh : List Int) (sv : Int) : List Int := iL kQ n n (mg n) (mulL n 1 n (tK n lp lh sv) lh)
def Yc (n : Nat) (lp lh : List Int) (sv r : Int) : List Int := mulL n 1 n (jW n 1 (tK n lp lh sv) r) (yX n 1 (tK n lp lh sv))
def tP (n : Nat) (lp lh : List Int) (sv r : Int) : List Int := uY n (iL iw n n (ig n n (tI n lp lh sv) lp) (Yc n lp lh sv r))
def tB (n : Nat) (lx lp lh : List Int) (y sv r : Int) (s : Bool) : Bool :=
 s || qF n n 1 lp (yX 1 n lh) || (tK0 n lp lh).any (fun q => (yF q sv).2) || scaleB n 1 (tK n lp lh sv) y || jv iw n 1 lx (jW n 1 (tK n lp lh sv) y) || qF n 1 n (tK n lp lh sv) lh || jv kQ n n (mg n) (mulL n 1 n (tK n lp lh sv) lh) || mV n n (tI n lp lh sv) lp || scaleB n 1 (tK n lp lh sv) r || qF n 1 n (jW n 1 (tK n lp lh sv) r) (yX n 1 (tK n lp lh sv)) || jv iw n n (ig n n (tI n lp lh sv) lp) (Yc n lp lh sv r)
theorem Po (n : Nat) (lx lp lh : List Int) (s : Bool) (y sv r : Int) : Vg n lx lp lh s y sv r (yX 1 n lh) (tK0 n lp lh) (tK n lp lh sv) (jW n 1 (tK n lp lh sv) y) (tX n lx lp lh y sv) (mulL n 1 n (tK n lp lh sv) lh) (tI n lp lh sv) (ig n n (tI n lp lh sv) lp) (jW n 1 (tK n lp lh sv) r) (yX n 1 (tK n lp lh sv)) (Yc n lp lh sv r) (iL iw n n (ig n n (tI n lp lh sv) lp) (Yc n lp lh sv r)) (tP n lp lh sv r)
 (qF n n 1 lp (yX 1 n lh)) ((tK0 n lp lh).any (fun q => (yF q sv).2)) (scaleB n 1 (tK n lp lh sv) y) (jv iw n 1 lx (jW n 1 (tK n lp lh sv) y)) (qF n 1 n (tK n lp lh sv) lh) (jv kQ n n (mg n) (mulL n 1 n (tK n lp lh sv) lh)) (mV n n (tI n lp lh sv) lp) (scaleB n 1 (tK n lp lh sv) r) (qF n 1 n (jW n 1 (tK n lp lh sv) r) (yX n 1 (tK n lp lh sv))) (jv iw n n (ig n n (tI n lp lh sv) lp) (Yc n lp lh sv r)) :=
 ⟨rfl, rfl, rfl, rfl, rfl, rfl, rfl, rfl, rfl, rfl, rfl, rfl, rfl, rfl, rfl, rfl, rfl, rfl, rfl, rfl, rfl, rfl, rfl⟩
end Go.Proofs.Ytnijhjbcjeohhaa.PR

namespace Go.Proofs.Ytnijhjbcjeohhaa.PR
open Go.RowKit Go.Proofs.Ytnijhjbcjeohhaa.PQ Go.Proofs.af.aO Go.Proofs.af.aU Go.Proofs.af.aV Go.Proofs.Ytnijhjbcjeohhaa.KK
set_option linter.unusedVariables false
set_option linter.unusedSimpArgs false
theorem Rd.blk {w : World} {A : Option Addr} {l : List Int} (h : Rd w A l) : ∀ ad, A = some ad → 0 < l.length → ad.block < w.heap.size := fun ad e hp => by
 obtain ⟨b, off, e2, hb, _⟩ := Rd.cells h hp
 rw [e] at e2
 injection e2 with e2
 subst e2
 exact hb
theorem Ef {w : World} {B : Nat} {a b c d e f : Value} {fn : Func} {k i j m : Nat} {tmps : Array Value} (h : fn.results = #[.cell k 33, .tmp i, .tmp j, .tmp m]) (hk : tmps.getD k undef = .pointer (some ⟨B, 0, none⟩)) (R : Row w B 33 #[a, b, c, d, e, f]) :
 (results fn tmps).run Try.prog w = .ok (.tuple #[.agg #[a, b, c, d, e, f], tmps.getD i undef, tmps.getD j undef, tmps.getD m undef]) w := by
 have c := R.cell
 have hk' : tmps[k]?.getD undef = .pointer (some ⟨B, 0, none⟩) := by simpa using hk
 simp only [results, h]
 simp [go_sem, hk', c]
theorem M_ (n : Nat) (A1 A2 A3 : Option Addr) (c1 c2 c3 : Nat) (lx lp lh : List Int) (z r gate y s q1 q2 : Int) (o f1 f2 : Bool) (w : World) (h1 : 1 ≤ n) (h8 : n ≤ 8) (hx : lx.length = n * 1) (hp : lp.length = n * n) (hh : lh.length = 1 * n)
 (rx : Rd w A1 lx) (cx : lx.length ≤ c1) (rp : Rd w A2 lp) (cp : lp.length ≤ c2) (rh : Rd w A3 lh) (ch : lh.length ≤ c3)
 (hm : PQ.dQ.f 1000 n 1 lx n n lp 1 n lh r = some 0) (hi : dJ.f false n 1 lx n n lp 1 n lh z r = some (y, s, o)) (h2 : iQ y y = (q1, f1)) (h3 : iQ gate s = (q2, f2)) (h4 : ¬ q1 > q2) (h5 : ¬ s ≤ 0) :
 Calls Try.prog 105 #[.agg #[I n, I 1, .slice A1 lx.length c1, I n, I n, .slice A2 lp.length c2], .agg #[I 1, I n, .slice A3 lh.length c3], I z, I r, I gate] w fun e w' => ∃ Ax dx Ap dp, e = .returned (.tuple #[.agg #[I n, I 1, .slice Ax (tX n lx lp lh y s).length dx, I n, I n, .slice Ap (tP n lp lh s r).length dp], .bool true, .bool (tB n lx lp lh y s r (o || f1 || f2)), I 0]) ∧ Own w' w.heap.size (.slice Ax (tX n lx lp lh y s).length dx) (tX n lx lp lh y s) ∧ Own w' w.heap.size (.slice Ap (tP n lp lh s r).length dp) (tP n lp lh s r) ∧ (∀ k, (Value.slice Ax (tX n lx lp lh y s).length dx).ownBlock = some k → (Value.slice Ap (tP n lp lh s r).length dp).ownBlock ≠ some k) ∧ Below w.heap.size w w' := by
 have N : Hid (aX w [(33, #[I n, I 1, .slice A1 lx.length c1, I n, I n, .slice A2 lp.length c2]), (31, #[I 1, I n, .slice A3 lh.length c3]), (33, #[I 0, I 0, .slice none 0 0, I 0, I 0, .slice none 0 0])] (((w.alloc (.cells #[I n, I 1, .slice A1 lx.length c1, I n, I n, .slice A2 lp.length c2] 33)).alloc (.cells #[I 1, I n, .slice A3 lh.length c3] 31)).alloc (.cells #[I 0, I 0, .slice none 0 0, I 0, I 0, .slice none 0 0] 33))) := Lib.hid ((((aX.none w).push (by simp) _ _).push (by simp) _ _).push (by simp) _ _)
 have RX := Lib.hid rx
 have RP := Lib.hid rp
 have RH := Lib.hid rh
 have CX := Lib.hid cx
 have CP := Lib.hid cp
 have CH := Lib.hid ch
 have HM := Lib.hid hm
 have HI := Lib.hid hi
 have H2 := Lib.hid h2
 have H3 := Lib.hid h3
 have HT := Lib.hid (And.intro (And.intro h1 h8) (And.intro hx (And.intro hp hh)))
 have e4 : decide (q1 > q2) = false := decide_eq_false h4
 have e5 : decide (s ≤ 0) = false := decide_eq_false h5
 clear rx rp rh cx cp ch hm hi h1 h8 hx hp hh h2 h3 h4 h5
 go_enter Try.func105, Try.ntmps105
 go_wp2_with fail
 refine (PQ.dQ.calls 1000 n 1 A1 c1 lx n n A2 c2 lp 1 n A3 c3 lh r 0 _ (RX.out.below N.out.be) CX.out (RP.out.below N.out.be) CP.out (RH.out.below N.out.be) CH.out HM.out).mono ?_
 rintro e w1 ⟨rfl, hb⟩
 have N1 := Lib.hid (N.out.below hb)
 have y0 := N1.out.r0.cell
 have y1 := N1.out.r1.cell
 have t0 := N1.out.r0.lt
 have t1 := N1.out.r1.lt
 clear hb N
 have G1 := Lib.hid (Row.new w1 158 #[.bool false])
 have N2 := Lib.hid (N1.out.alloc (.cells #[.bool false] 158))
 have GE : Hid (w.heap.size + 3 ≤ w1.heap.size) := Lib.hid (by have h := N1.out.rows.le N1.out.be.size; simpa using h)
 have FX : Hid (∀ ad, A1 = some ad → 0 < lx.length → ad.block ≠ w1.heap.size) := Lib.hid (fun ad e hp => by have h1 := Rd.blk RX.out ad e hp; have h2 := GE.out; omega)
 have FP : Hid (∀ ad, A2 = some ad → 0 < lp.length → ad.block ≠ w1.heap.size) := Lib.hid (fun ad e hp => by have h1 := Rd.blk RP.out ad e hp; have h2 := GE.out; omega)
 have FH : Hid (∀ ad, A3 = some ad → 0 < lh.length → ad.block ≠ w1.heap.size) := Lib.hid (fun ad e hp => by have h1 := Rd.blk RH.out ad e hp; have h2 := GE.out; omega)
 go_wp2_with fail
 refine (dJ.calls w1.heap.size false n 1 A1 c1 lx n n A2 c2 lp 1 n A3 c3 lh z r y s o w _ ⟨G1.out, by have h := GE.out; omega⟩ N2.out.be (RX.out.below N2.out.be) CX.out FX.out (RP.out.below N2.out.be) CP.out FP.out (RH.out.below N2.out.be) CH.out FH.out HI.out).mono ?_
 rintro e w2 ⟨rfl, hs, hb, hk⟩
 have R2 : Hid (Row w2 w1.heap.size 158 #[.bool o]) := Lib.hid hs.1
 have N3 := Lib.hid (N2.out.app (grown_of N2.out.be hb hk) (fun g e => by injection e with e; have h := GE.out; simp; omega))
 clear hs hb hk y0 y1 t0 t1
 go_wp2_with fail
 refine (fH y y w2).mono ?_
 rw [H2.out]
 rintro e w3 ⟨rfl, hb⟩
 have R3 := Lib.hid (Row.below R2.out hb R2.out.lt)
 have N4 := Lib.hid (N3.out.below hb)
 clear hb
 go_wp2_with fail
 refine (wK w1.heap.size o f1 q1 w3 R3.out).mono ?_
 rintro e w4 ⟨rfl, hr, hg⟩
 have R4 := Lib.hid hr
 have N5 := Lib.hid (N4.out.app hg (fun g e => by injection e with e; have h := GE.out; simp; omega))
 clear hr hg
 go_wp2_with fail
 refine (fH gate s w4).mono ?_
 rw [H3.out]
 rintro e w5 ⟨rfl, hb⟩
 have R5 := Lib.hid (Row.below R4.out hb R4.out.lt)
 have N6 := Lib.hid (N5.out.below hb)
 clear hb
 go_wp2_with fail
 refine (wK w1.heap.size (o || f1) f2 q2 w5 R5.out).mono ?_
 rintro e w6 ⟨rfl, hr, hg⟩
 have R6 := Lib.hid hr
 have N7 := Lib.hid (N6.out.app hg (fun g e => by injection e with e; have h := GE.out; simp; omega))
 clear hr hg
 have y0 := N7.out.r0.cell
 have y1 := N7.out.r1.cell
 go_wp2_with fail
 refine (Gw w w6 w1.heap.size n (o || f1 || f2) y s r A1 A2 A3 c1 c2 c3 lx lp lh _ _ _ _ _ _ _ _ _ _ _ _ _ _ _ _ _ _ _ _ _ _ _ HT.out.1.1 HT.out.1.2 HT.out.2.1 HT.out.2.2.1 HT.out.2.2.2 (Po n lx lp lh (o || f1 || f2) y s r) R6.out (by have h := GE.out; omega) N7.out.be (RX.out.below N7.out.be) CX.out FX.out (RP.out.below N7.out.be) CP.out FP.out (RH.out.below N7.out.be) CH.out FH.out).mono ?_
 rintro e w7 ⟨Ax, dx, Ap, dp, rfl, ox, op, hne, hr, hg⟩
 have N8 := Lib.hid (N7.out.app hg (fun g e => by injection e with e; have h := GE.out; simp; omega))
 have R8 := Lib.hid hr
 have OX := Lib.hid ox
 have OP := Lib.hid op
 have NE := Lib.hid hne
 have BE : Hid (w.heap.size + 3 ≤ w6.heap.size) := Lib.hid (by have h := N7.out.rows.le N7.out.be.size; simpa using h)
 obtain ⟨X, hX⟩ : ∃ X, tX n lx lp lh y s = X := ⟨_, rfl⟩
 obtain ⟨P, hP⟩ : ∃ P, tP n lp lh s r = P := ⟨_, rfl⟩
 obtain ⟨fl, hfl⟩ : ∃ fl, tB n lx lp lh y s r (o || f1 || f2) = fl := ⟨_, rfl⟩
 have R8' : Hid (Row w7 w1.heap.size 158 #[.bool fl]) := Lib.hid (by rw [← hfl]; exact R8.out)
 have HX := Lib.hid hX
 have HP := Lib.hid hP
 have Xz := Lib.hid hfl
 rw [hX] at OX NE ⊢
 rw [hP] at OP NE ⊢
 clear hX hP hfl R8 ox op hne hr hg y0 y1 N1 N2 N3 N4 N5 N6 N7 R2 R3 R4 R5 R6
 have N9 := Lib.hid (N8.out.alloc (.cells #[I n, I 1, .slice Ax X.length dx, I n, I n, .slice Ap P.length dp] 33))
 have R9 := Lib.hid (Row.alloc R8'.out (.cells #[I n, I 1, .slice Ax X.length dx, I n, I n, .slice Ap P.length dp] 33))
 have T9 := Lib.hid (Row.new w7 33 #[I n, I 1, .slice Ax X.length dx, I n, I n, .slice Ap P.length dp])
 have Ui := Lib.hid (OX.out.alloc (.cells #[I n, I 1, .slice Ax X.length dx, I n, I n, .slice Ap P.length dp] 33))
 have OP9 := Lib.hid (OP.out.alloc (.cells #[I n, I 1, .slice Ax X.length dx, I n, I n, .slice Ap P.length dp] 33))
 have BF : Hid (w.heap.size + 3 ≤ w7.heap.size ∧ w.heap.size + 3 ≤ w1.heap.size) := Lib.hid ⟨by have h := N8.out.rows.le N8.out.be.size; simpa using h, GE.out⟩
 go_wp2_with fail
 obtain ⟨w8, hw8⟩ : ∃ w8, w7.alloc (.cells #[I n, I 1, .slice Ax X.length dx, I n, I n, .slice Ap P.length dp] 33) = w8 := ⟨_, rfl⟩
 rw [hw8] at N9 R9 T9 Ui OP9
 change Code.wp Try.prog _ _ _ (w7.alloc (.cells #[I n, I 1, .slice Ax X.length dx, I n, I n, .slice Ap P.length dp] 33))
 rw [hw8]
 clear hw8
 have x2 := N9.out.r2.cell
 have g2 := N9.out.r2.free
 have KS : Hid (∀ w', Row w' w7.heap.size 33 #[I n, I 1, .slice Ax X.length dx, I n, I n, .slice Ap P.length dp] → Row w' w1.heap.size 158 #[.bool fl] → (∀ o, w'.cell? ⟨w7.heap.size, o, none⟩ = #[I n, I 1, .slice Ax X.length dx, I n, I n, .slice Ap P.length dp][o]?) ∧ (∀ o, w'.cell? ⟨w1.heap.size, o, none⟩ = #[.bool fl][o]?)) := Lib.hid (fun w' a b => ⟨a.cell, b.cell⟩)
 go_region_held3 (fun w' => (∀ o, w'.cell? ⟨w7.heap.size, o, none⟩ = #[I n, I 1, .slice Ax X.length dx, I n, I n, .slice Ap P.length dp][o]?) ∧ (∀ o, w'.cell? ⟨w1.heap.size, o, none⟩ = #[.bool fl][o]?))
  (first | with_reducible exact KS.out _ T9.out.drew R9.out.drew | with_reducible exact KS.out _ (Row.drew (Row.rU T9.out (C := w.heap.size + 1 + 1) (by have h := BF.out; omega) _ _ _ _ _ _)) (Row.drew (Row.rU R9.out (C := w.heap.size + 1 + 1) (by have h := BF.out; omega) _ _ _ _ _ _)))
  (fail)
 go_wp2
 have zb := BF.out
 have zc := BE.out
 refine bodyPost_ret (Ef rfl rfl (Row.drew (Row.eY N9.out.r2 _ _ _ _ _ _))) rfl ?_
 rw [HX.out, HP.out, Xz.out]
 refine ⟨_, _, _, _, rfl, ?_, ?_, NE.out, ?_⟩
 · exact ((Own.eY Ui.out (by omega) _ _ _ _ _ _).drew).lower (by omega)
 · exact ((Own.eY OP9.out (by omega) _ _ _ _ _ _).drew).lower (by omega)
 · have hbb := N9.out.be
   exact ((((((hbb.setCell (p := ⟨w.heap.size + 1 + 1, 0, none⟩) (by dsimp only; omega) _).setCell (p := ⟨w.heap.size + 1 + 1, 1, none⟩) (by dsimp only; omega) _).setCell (p := ⟨w.heap.size + 1 + 1, 2, none⟩) (by dsimp only; omega) _).setCell (p := ⟨w.heap.size + 1 + 1, 3, none⟩) (by dsimp only; omega) _).setCell (p := ⟨w.heap.size + 1 + 1, 4, none⟩) (by dsimp only; omega) _).setCell (p := ⟨w.heap.size + 1 + 1, 5, none⟩) (by dsimp only; omega) _).drew
end Go.Proofs.Ytnijhjbcjeohhaa.PR

namespace Go.Proofs.Ytnijhjbcjeohhaa.PR
open Go.RowKit Go.Proofs.Ytnijhjbcjeohhaa.PQ Go.Proofs.af.aO Go.Proofs.af.aU Go.Proofs.af.aV Go.Proofs.Ytnijhjbcjeohhaa.KK
set_option linter.unusedVariables false
set_option linter.unusedSimpArgs false
theorem Below.eY {B C : Nat} {w0 w : World} (h : Below B w0 w) (hC : B ≤ C) (a b c d e f : Value) : Below B w0 (eY w C a b c d e f) :=
 (((((h.setCell (p := ⟨C, 0, none⟩) hC a).setCell (p := ⟨C, 1, none⟩) hC b).setCell (p := ⟨C, 2, none⟩) hC c).setCell (p := ⟨C, 3, none⟩) hC d).setCell (p := ⟨C, 4, none⟩) hC e).setCell (p := ⟨C, 5, none⟩) hC f
theorem bal {w0 w : World} (h : Below w0.heap.size w0 w) (o : Obj) : Below w0.heap.size w0 (w.alloc o) := h.alloc h.size o
theorem Kr {w0 w : World} (h : Below w0.heap.size w0 w) : Below w0.heap.size w0 w.drew := h.drew
theorem L8 {w0 w w' : World} (h : Below w0.heap.size w0 w) (hb : Below w.heap.size w w') : Below w0.heap.size w0 w' := h.trans (hb.mono h.size)
theorem TM (w : World) (r : Option Nat) : w.grownBy w r := KK.dA (Below.refl _ _) r
theorem jG {w w' : World} {r : Option Nat} (h : w.grownBy w' r) (o : Obj) : w.grownBy (w'.alloc o) r := KK.bG h (KK.dA ((Below.refl _ _).alloc (Nat.le_refl _) o) r)
theorem nI {w w' : World} {r : Option Nat} (h : w.grownBy w' r) : w.grownBy w'.drew r := KK.bG h (KK.dA (Below.refl _ _).drew r)
theorem Ig {w w' w'' : World} {r : Option Nat} (h : w.grownBy w' r) (hb : Below w'.heap.size w' w'') : w.grownBy w'' r := KK.bG h (KK.dA hb r)
theorem Row.gr {w w' : World} {B g : Nat} {t : TypeId} {cs : Array Value} (h : Row w B t cs) (hg : w.grownBy w' (some g)) (hne : B ≠ g) : Row w' B t cs := h.grown hg (fun e => hne (by injection e))
theorem VD {w : World} {B : Nat} {a b c d e f : Value} {fn : Func} {k i j : Nat} {tmps : Array Value} (h : fn.results = #[.cell k 33, .tmp i, .tmp j]) (hk : tmps.getD k undef = .pointer (some ⟨B, 0, none⟩)) (R : Row w B 33 #[a, b, c, d, e, f]) :
 (results fn tmps).run Try.prog w = .ok (.tuple #[.agg #[a, b, c, d, e, f], tmps.getD i undef, tmps.getD j undef]) w := by
 have c := R.cell
 have hk' : tmps[k]?.getD undef = .pointer (some ⟨B, 0, none⟩) := by simpa using hk
 simp only [results, h]
 simp [go_sem, hk', c]
def TQ (r c n : Int) : Bool := decide (r = n ∧ c = n)
theorem Bz (r c n : Int) (A : Option Addr) (m cp nb : Nat) (w : World) (R : Row w nb 3 #[I n]) :
 Calls Try.prog 99 #[.agg #[I r, I c, .slice A m cp], .pointer (some ⟨nb, 0, none⟩)] w fun e w' => e = .returned (.bool (TQ r c n)) ∧ Below w.heap.size w w' := by
 have hlt := R.lt
 have x := (R.alloc (.cells #[I r, I c, .slice A m cp] 31)).cell
 have HB : Hid (Below w.heap.size w (w.alloc (.cells #[I r, I c, .slice A m cp] 31))) := Lib.hid ((Below.refl _ _).alloc (Nat.le_refl _) _)
 have x2 := (Row.new w 31 #[I r, I c, .slice A m cp]).cell
 unfold TQ
 clear R
 by_cases h1 : r = n
 · by_cases h2 : c = n
   · subst h1
     subst h2
     go_enter Try.func99, Try.ntmps99
     go_wp2
     go_ret
     exact ⟨by simp, HB.out⟩
   · subst h1
     have e2 : (c == r) = false := by simpa using h2
     have HD : Hid (decide (r = r ∧ c = r) = false) := Lib.hid (by simp [h2])
     clear h2
     go_enter Try.func99, Try.ntmps99
     go_wp2
     go_ret
     exact ⟨by have h := HD.out; simp at h; simp [h], HB.out⟩
 · have e1 : (r == n) = false := by simpa using h1
   have HD : Hid (decide (r = n ∧ c = n) = false) := Lib.hid (by simp [h1])
   clear h1
   go_enter Try.func99, Try.ntmps99
   go_wp2
   go_ret
   exact ⟨by first | rfl | (rw [HD.out]; rfl), HB.out⟩
end Go.Proofs.Ytnijhjbcjeohhaa.PR

