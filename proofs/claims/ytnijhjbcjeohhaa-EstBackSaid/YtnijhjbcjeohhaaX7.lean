import Derived.Test.YtnijhjbcjeohhaaX6
import Derived.Test.YtnijhjbcjeohhaaX4
/- Joined and thinned by a program of this session's own (wip/pack2.py) out of its texts (wip/ of its repo); parts were laid by its own program (wip/print-patch.py over the kit's print) out of the translation; Lean checks all. -/
set_option maxRecDepth 100000
set_option maxHeartbeats 20000000
namespace Go.Proofs.Ytnijhjbcjeohhaa.PR
open Go.RowKit Go.Proofs.Ytnijhjbcjeohhaa.PQ Go.Proofs.af.aF Go.Proofs.af.aP Go.Proofs.af.aQ Go.Proofs.Ytnijhjbcjeohhaa.KK
set_option linter.unusedVariables false
set_option linter.unusedSimpArgs false
theorem Own.grown {w w' : World} {base : Nat} {v : Value} {l : List Int} {r : Option Nat} (h : Own w base v l) (hg : w.grownBy w' r) (hr : ∀ k, r = some k → k < base) : Own w' base v l :=
 Own.oJ (jO h.row fun k hk => hg.block k (h.row.lt k hk).2 (fun e => by have := (h.row.lt k hk).1; have := hr k e.symm; omega))
theorem Sg.bz {w w' : World} {g : Nat} {L : List (TypeId × Array Value)} (h : Sg w g L w') {C : Nat} (hC : w.heap.size + L.length ≤ C) (a b c : Value) : Sg w g L (bz w' C a b c) :=
 ⟨h.rows.imp fun k t cs _ hk r => r.mF (by omega), qY h.gr (by omega) a b c⟩
theorem Own.jm {w : World} {base C : Nat} {v : Value} {l : List Int} (h : Own w base v l) (hne : ∀ q, v.ownBlock = some q → q ≠ C) (a b c : Value) : Own (bz w C a b c) base v l :=
 Own.oJ (jO h.row fun k hk => ((Below.heap_setCell _ _ c k (hne k hk)).trans (Below.heap_setCell _ _ b k (hne k hk))).trans (Below.heap_setCell w ⟨C, 0, none⟩ a k (hne k hk)))
theorem Sg.set {w w' : World} {g : Nat} {L : List (TypeId × Array Value)} (h : Sg w g L w') {p : Addr} (hC : w.heap.size + L.length ≤ p.block) (u : Value) : Sg w g L (w'.setCell p u) :=
 ⟨h.rows.imp fun k t cs _ hk r => r.far (by omega) u, m_ h.gr (by omega) u⟩
theorem Own.form {w : World} {base : Nat} {A : Option Addr} {c : Nat} {l : List Int} (h : Own w base (.slice A l.length c) l) (hp : 0 < l.length) : ∃ b, A = some ⟨b, 0, none⟩ ∧ base ≤ b := by
 rcases h.row.2 with ⟨_, h0⟩ | ⟨b, cap, cur, he, hb, _⟩
 · omega
 · injection he with e1 _ _
   exact ⟨b, e1, hb⟩
theorem _root_.Go.Proofs.Ytnijhjbcjeohhaa.KK.Own.drew {w : World} {base : Nat} {v : Value} {l : List Int} (h : KK.Own w base v l) : KK.Own w.drew base v l := h.below (Below.refl _ _).drew
theorem Own.rd {w : World} {base : Nat} {A : Option Addr} {c : Nat} {l : List Int} (h : Own w base (.slice A l.length c) l) : Rd w A l ∧ l.length ≤ c := by
 obtain ⟨A', c', he, hc, hr⟩ := Own.reads h
 injection he with e1 _ e3
 subst e1 e3
 exact ⟨hr, hc⟩
theorem ji (l : List Int) : (dW l).length = l.length * l.length := upto_length
def nD (sv : Int) (k0 : List Int) (j : Nat) : List Int := (k0.take j).map (fun q => (xy q sv).1) ++ k0.drop j
def vZ (sv : Int) (k0 : List Int) (j : Nat) : Bool := (k0.take j).any (fun q => (xy q sv).2)
theorem zV (sv : Int) (k0 : List Int) (j : Nat) (hj : j < k0.length) : (nD sv k0 j)[j]? = some (k0.getD j 0) := by
 unfold nD
 rw [List.getElem?_append_right (by simp; omega)]
 simp only [List.length_map, List.length_take, List.getElem?_drop]
 rw [show min j k0.length = j by omega, Nat.sub_self, Nat.add_zero]
 exact dZ hj
theorem Fz (sv : Int) (k0 : List Int) (j : Nat) (hj : j < k0.length) : (nD sv k0 j).set j (xy (k0.getD j 0) sv).1 = nD sv k0 (j + 1) := by
 unfold nD
 rw [List.set_append_right _ _ (by simp; omega)]
 simp only [List.length_map, List.length_take]
 rw [show min j k0.length = j by omega, Nat.sub_self, List.take_add_one, dZ hj, List.map_append, List.append_assoc]
 congr 1
 have hd : k0.drop j = k0.getD j 0 :: k0.drop (j + 1) := by
  rw [List.drop_eq_getElem_cons hj]
  congr 1
  rw [List.getD_eq_getElem?_getD, List.getElem?_eq_getElem hj]; rfl
 rw [hd]
 simp
theorem FB (sv : Int) (k0 : List Int) (j : Nat) (hj : j < k0.length) : vZ sv k0 (j + 1) = (vZ sv k0 j || (xy (k0.getD j 0) sv).2) := by
 unfold vZ
 rw [List.take_add_one, dZ hj, List.any_append]
 simp
abbrev dO (w : World) (C : Nat) (a b c d e f : Value) : World := (((((w.setCell ⟨C, 0, none⟩ a).setCell ⟨C, 1, none⟩ b).setCell ⟨C, 2, none⟩ c).setCell ⟨C, 3, none⟩ d).setCell ⟨C, 4, none⟩ e).setCell ⟨C, 5, none⟩ f
theorem Row.dO {w : World} {B : Nat} {t : TypeId} {a' b' c' d' e' f' : Value} (h : Row w B t #[a', b', c', d', e', f']) (a b c d e f : Value) : Row (dO w B a b c d e f) B t #[a, b, c, d, e, f] := by
 simpa using (((((h.set 0 a).set 1 b).set 2 c).set 3 d).set 4 e).set 5 f
theorem Row.ou {w : World} {B C : Nat} {t : TypeId} {cs : Array Value} (h : Row w B t cs) (hne : B ≠ C) (a b c d e f : Value) : Row (PR.dO w C a b c d e f) B t cs :=
 (((((h.far (p := ⟨C, 0, none⟩) hne a).far (p := ⟨C, 1, none⟩) hne b).far (p := ⟨C, 2, none⟩) hne c).far (p := ⟨C, 3, none⟩) hne d).far (p := ⟨C, 4, none⟩) hne e).far (p := ⟨C, 5, none⟩) hne f
theorem Hy {w w' : World} {r : Option Nat} (h : w.grownBy w' r) {C : Nat} (hp : w.heap.size ≤ C) (a b c d e f : Value) : w.grownBy (PR.dO w' C a b c d e f) r :=
 m_ (m_ (m_ (m_ (m_ (m_ h (p := ⟨C, 0, none⟩) hp a) (p := ⟨C, 1, none⟩) hp b) (p := ⟨C, 2, none⟩) hp c) (p := ⟨C, 3, none⟩) hp d) (p := ⟨C, 4, none⟩) hp e) (p := ⟨C, 5, none⟩) hp f
theorem Own.dO {w : World} {base C : Nat} {v : Value} {l : List Int} (h : Own w base v l) (hp : C < base) (a b c d e f : Value) : Own (PR.dO w C a b c d e f) base v l :=
 (((((h.far (p := ⟨C, 0, none⟩) hp a).far (p := ⟨C, 1, none⟩) hp b).far (p := ⟨C, 2, none⟩) hp c).far (p := ⟨C, 3, none⟩) hp d).far (p := ⟨C, 4, none⟩) hp e).far (p := ⟨C, 5, none⟩) hp f
theorem Wu {w : World} {B : Nat} {a b c d e f : Value} {fn : Func} {k : Nat} {tmps : Array Value} (h : fn.results = #[.cell k 33]) (hk : tmps.getD k undef = .pointer (some ⟨B, 0, none⟩)) (R : Row w B 33 #[a, b, c, d, e, f]) :
 (results fn tmps).run Try.prog w = .ok (.agg #[a, b, c, d, e, f]) w := by
 have c := R.cell
 have hk' : tmps[k]?.getD undef = .pointer (some ⟨B, 0, none⟩) := by simpa using hk
 simp only [results, h]
 simp [go_sem, hk', c]
structure LJ (n : Nat) (lx lp lh : List Int) (s : Bool) (y sv r : Int) (ht k0 k sy x kh ik p1 sr tk kk p2 P : List Int) (b1 b2 b3 b4 b5 b6 b7 b8 b9 b10 : Bool) : Prop where
 eht : qJ 1 n lh = ht
 ek0 : mulL n n 1 lp ht = k0
 X_ : nR n n 1 lp ht = b1
 ek : k0.map (fun q => (xy q sv).1) = k
 XZ : k0.any (fun q => (xy q sv).2) = b2
 Z7 : jk n 1 k y = sy
 XX : scaleB n 1 k y = b3
 ex : gW gu n 1 lx sy = x
 eb4 : iK gu n 1 lx sy = b4
 ekh : mulL n 1 n k lh = kh
 eb5 : nR n 1 n k lh = b5
 eik : gW jE n n (kG n) kh = ik
 eb6 : iK jE n n (kG n) kh = b6
 Z_ : gm n n ik lp = p1
 eb7 : kR n n ik lp = b7
 Z8 : jk n 1 k r = sr
 eb8 : scaleB n 1 k r = b8
 Z5 : qJ n 1 k = tk
 ekk : mulL n 1 n sr tk = kk
 eb9 : nR n 1 n sr tk = b9
 Z9 : gW gu n n p1 kk = p2
 X3 : iK gu n n p1 kk = b10
 eP : qZ n p2 = P
theorem yV (w0 w : World) (g n : Nat) (s : Bool) (y sv r : Int) (A1 A2 A3 : Option Addr) (c1 c2 c3 : Nat) (lx lp lh : List Int) (ht k0 k sy x kh ik p1 sr tk kk p2 P : List Int) (b1 b2 b3 b4 b5 b6 b7 b8 b9 b10 : Bool)
 (h1 : 1 ≤ n) (h8 : n ≤ 8) (hx : lx.length = n * 1) (hp : lp.length = n * n) (hh : lh.length = 1 * n) (T : LJ n lx lp lh s y sv r ht k0 k sy x kh ik p1 sr tk kk p2 P b1 b2 b3 b4 b5 b6 b7 b8 b9 b10)
 (R : Row w g 158 #[.bool s]) (hg : w0.heap.size ≤ g) (hB : Below w0.heap.size w0 w) (rx : Rd w A1 lx) (cx : lx.length ≤ c1) (fx : ∀ ad, A1 = some ad → 0 < lx.length → ad.block ≠ g) (rp : Rd w A2 lp) (cp : lp.length ≤ c2) (fp : ∀ ad, A2 = some ad → 0 < lp.length → ad.block ≠ g) (rh : Rd w A3 lh) (ch : lh.length ≤ c3) (fh : ∀ ad, A3 = some ad → 0 < lh.length → ad.block ≠ g) :
 Calls Try.prog 120 #[.pointer (some ⟨g, 0, none⟩), .agg #[I n, I 1, .slice A1 lx.length c1, I n, I n, .slice A2 lp.length c2], .agg #[I 1, I n, .slice A3 lh.length c3], I y, I sv, I r] w fun e w' => ∃ Ax dx Ap dp, e = .returned (.agg #[I n, I 1, .slice Ax x.length dx, I n, I n, .slice Ap P.length dp]) ∧ Own w' w.heap.size (.slice Ax x.length dx) x ∧ Own w' w.heap.size (.slice Ap P.length dp) P ∧ (∀ k, (Value.slice Ax x.length dx).ownBlock = some k → (Value.slice Ap P.length dp).ownBlock ≠ some k) ∧ Row w' g 158 #[.bool (s || b1 || b2 || b3 || b4 || b5 || b6 || b7 || b8 || b9 || b10)] ∧ w.grownBy w' (some g) := by
 have hgl := R.lt
 have N : Hid (Sg w g [(156, #[.pointer (some ⟨g, 0, none⟩)]), (33, #[I n, I 1, .slice A1 lx.length c1, I n, I n, .slice A2 lp.length c2]), (31, #[I 1, I n, .slice A3 lh.length c3]), (33, #[I 0, I 0, .slice none 0 0, I 0, I 0, .slice none 0 0])] ((((w.alloc (.cells #[.pointer (some ⟨g, 0, none⟩)] 156)).alloc (.cells #[I n, I 1, .slice A1 lx.length c1, I n, I n, .slice A2 lp.length c2] 33)).alloc (.cells #[I 1, I n, .slice A3 lh.length c3] 31)).alloc (.cells #[I 0, I 0, .slice none 0 0, I 0, I 0, .slice none 0 0] 33))) := Lib.hid (Sg.of (((((aV.none w).push (by simp) _ _).push (by simp) _ _).push (by simp) _ _).push (by simp) _ _))
 have RG := Lib.hid ((((R.alloc (.cells #[.pointer (some ⟨g, 0, none⟩)] 156)).alloc (.cells #[I n, I 1, .slice A1 lx.length c1, I n, I n, .slice A2 lp.length c2] 33)).alloc (.cells #[I 1, I n, .slice A3 lh.length c3] 31)).alloc (.cells #[I 0, I 0, .slice none 0 0, I 0, I 0, .slice none 0 0] 33))
 have hlt : ht.length = n * 1 := by rw [← T.eht, lK]
 have HT := Lib.hid (fun w' (h : w.grownBy w' (some g)) => jF 1 n A3 c3 lh w' (by omega) h8 hh (rh.touch h fh))
 rw [T.eht] at HT
 have HM := Lib.hid (fun At ct w' (h : w.grownBy w' (some g)) (ha : Rd w' At ht) => qV n n 1 A2 At c2 ct lp ht w' h8 h8 (by omega) hp hlt (rp.touch h fp) ha)
 rw [T.ek0, T.X_] at HM
 have eo : ((1 : Nat) : Int) = 1 := rfl
 simp only [eo] at HT HM
 have KK : Hid (∀ w', Sg w g [(156, #[.pointer (some ⟨g, 0, none⟩)]), (33, #[I n, I 1, .slice A1 lx.length c1, I n, I n, .slice A2 lp.length c2]), (31, #[I 1, I n, .slice A3 lh.length c3]), (33, #[I 0, I 0, .slice none 0 0, I 0, I 0, .slice none 0 0])] w' → (∀ o, w'.cell? ⟨w.heap.size, o, none⟩ = #[.pointer (some ⟨g, 0, none⟩)][o]?) ∧ (∀ o, w'.cell? ⟨w.heap.size + 1, o, none⟩ = #[I n, I 1, .slice A1 lx.length c1, I n, I n, .slice A2 lp.length c2][o]?) ∧ (∀ o, w'.cell? ⟨w.heap.size + 1 + 1, o, none⟩ = #[I 1, I n, .slice A3 lh.length c3][o]?)) := Lib.hid (fun w' h => ⟨h.r0.cell, h.r1.cell, h.r2.cell⟩)
 have GL := Lib.hid hgl
 have Y_ : Hid (k0.length = n * 1) := Lib.hid (by rw [← T.ek0, iQ])
 have HH := Lib.hid (And.intro h1 h8)
 have HT2 := Lib.hid T
 have TX := Lib.hid (fun w' (h : w.grownBy w' (some g)) => rx.touch h fx)
 have CX := Lib.hid cx
 have HX := Lib.hid hx
 have TP := Lib.hid (fun w' (h : w.grownBy w' (some g)) => rp.touch h fp)
 have CP := Lib.hid cp
 have FP := Lib.hid fp
 have HP := Lib.hid hp
 have TH := Lib.hid (fun w' (h : w.grownBy w' (some g)) => rh.touch h fh)
 have HHL := Lib.hid hh
 have HG0 := Lib.hid hg
 have HB0 := Lib.hid hB
 clear hgl hlt R hg hB rx cx fx rp cp fp rh ch fh h1 h8 hx hp hh T
 have y0 := N.out.r0.cell
 have y1 := N.out.r1.cell
 have y2 := N.out.r2.cell
 have SZ : Hid (((((w.alloc (.cells #[.pointer (some ⟨g, 0, none⟩)] 156)).alloc (.cells #[I n, I 1, .slice A1 lx.length c1, I n, I n, .slice A2 lp.length c2] 33)).alloc (.cells #[I 1, I n, .slice A3 lh.length c3] 31)).alloc (.cells #[I 0, I 0, .slice none 0 0, I 0, I 0, .slice none 0 0] 33)).heap.size = w.heap.size + 4) := Lib.hid (by simp)
 go_enter Try.func120, Try.ntmps120
 go_wp2_with fail
 rename_i K1 aK1
 obtain ⟨wr, hwr⟩ : ∃ wr, ((((w.alloc (.cells #[.pointer (some ⟨g, 0, none⟩)] 156)).alloc (.cells #[I n, I 1, .slice A1 lx.length c1, I n, I n, .slice A2 lp.length c2] 33)).alloc (.cells #[I 1, I n, .slice A3 lh.length c3] 31)).alloc (.cells #[I 0, I 0, .slice none 0 0, I 0, I 0, .slice none 0 0] 33)) = wr := ⟨_, rfl⟩
 rw [hwr] at N RG y0 y1 y2 SZ
 change Code.wp Try.prog _ _ _ ((((w.alloc (.cells #[.pointer (some ⟨g, 0, none⟩)] 156)).alloc (.cells #[I n, I 1, .slice A1 lx.length c1, I n, I n, .slice A2 lp.length c2] 33)).alloc (.cells #[I 1, I n, .slice A3 lh.length c3] 31)).alloc (.cells #[I 0, I 0, .slice none 0 0, I 0, I 0, .slice none 0 0] 33))
 rw [hwr]
 clear hwr
 have LQ : Hid (∀ (kb : Nat) (w5 : World) (Ak : Option Addr) (ck : Nat) (v22 v23 v24 v25 v26 v27 v28 v29 v30 v31 : Value), Sg w g [(156, #[.pointer (some ⟨g, 0, none⟩)]), (33, #[I n, I 1, .slice A1 lx.length c1, I n, I n, .slice A2 lp.length c2]), (31, #[I 1, I n, .slice A3 lh.length c3]), (33, #[I 0, I 0, .slice none 0 0, I 0, I 0, .slice none 0 0])] w5 → Row w5 kb 31 #[I n, I 1, .slice Ak k0.length ck] → Own w5 (w.heap.size + 4) (.slice Ak k0.length ck) k0 → Row w5 g 158 #[.bool (s || b1)] → w.heap.size + 4 ≤ kb → (∀ q, (Value.slice Ak k0.length ck).ownBlock = some q → q ≠ kb) → K1 { tmps := #[.pointer (some ⟨g, 0, none⟩), .agg #[I n, I 1, .slice A1 lx.length c1, I n, I n, .slice A2 lp.length c2], .agg #[I 1, I n, .slice A3 lh.length c3], I y, I sv, I r, .pointer (some ⟨w.heap.size, 0, none⟩), .pointer (some ⟨w.heap.size + 1, 0, none⟩), .pointer (some ⟨w.heap.size + 1 + 1, 0, none⟩), undef, undef, undef, .pointer (some ⟨w.heap.size + 1 + 1 + 1, 0, none⟩), .pointer (some ⟨kb, 0, none⟩), undef, undef, undef, undef, undef, undef, undef, undef, v22, v23, v24, v25, v26, v27, v28, v29, v30, v31, undef, undef, undef, undef, undef, undef, undef, undef, undef, undef, undef, undef, undef, undef, undef, undef, undef, undef, undef, undef, undef, undef, undef, undef, undef, undef, undef, undef, undef, undef, undef, undef, undef, undef, undef, undef, undef, undef, undef, undef, undef, undef, undef, undef, undef, undef, undef, undef, undef, undef, undef, undef, undef, undef, undef, undef, undef, undef, undef, undef, undef, undef, undef, undef, undef, undef, undef, undef, undef, undef, undef, undef, undef, undef, undef, undef, undef, undef, undef, undef, undef], defers := [] } w5) := Lib.hid (by
  as_aux_lemma =>
  intro kb w5 Ak ck v22 v23 v24 v25 v26 v27 v28 v29 v30 v31 hN hkb hO hR hge hne
  refine aK1 _ _ ?_
  have hpos : 0 < k0.length := by have := Y_.out; have := HH.out.1; omega
  obtain ⟨bk, rfl, hbk⟩ := Own.form hO hpos
  have hkl : k0.length ≤ 8 := by have := Y_.out; have := HH.out.2; omega
  have HNE : Hid (bk ≠ kb) := Lib.hid (hne bk rfl)
  have Ze := Lib.hid hbk
  have HKB := Lib.hid hge
  have HKL := Lib.hid hkl
  have HPS := Lib.hid hpos
  have O0 : Hid (w5.ownsRow (w.heap.size + 4) 22 1 (.slice (some ⟨bk, 0, none⟩) k0.length ck) k0.length ((nD sv k0 0).map I)) := Lib.hid (by have := hO.row; simpa [nD] using this)
  have N5 := Lib.hid hN
  have Bg := Lib.hid hkb
  have R5 : Hid (Row w5 g 158 #[.bool (s || b1 || vZ sv k0 0)]) := Lib.hid (by simpa [vZ] using hR)
  have x0 := hkb.cell
  clear hN hkb hO hR hge hne hbk hkl hpos y0 y1 y2 N RG
  go_wp2_with fail
  go_loopw [35] (fun jj wr => ∃ j : Nat, j ≤ k0.length ∧ jj = .int .i64 j ∧ Hid (Sg w g [(156, #[.pointer (some ⟨g, 0, none⟩)]), (33, #[I n, I 1, .slice A1 lx.length c1, I n, I n, .slice A2 lp.length c2]), (31, #[I 1, I n, .slice A3 lh.length c3]), (33, #[I 0, I 0, .slice none 0 0, I 0, I 0, .slice none 0 0])] wr) ∧ Hid (Row wr kb 31 #[I n, I 1, .slice (some ⟨bk, 0, none⟩) k0.length ck]) ∧ Hid (wr.ownsRow (w.heap.size + 4) 22 1 (.slice (some ⟨bk, 0, none⟩) k0.length ck) k0.length ((nD sv k0 j).map I)) ∧ Hid (Row wr g 158 #[.bool (s || b1 || vZ sv k0 j)])) (fun jj _ => k0.length - (intOf jj).toNat)
  case atStart => exact ⟨0, by omega, rfl, N5, Bg, O0, R5⟩
  case round =>
   clear x0 N5 Bg O0 R5
   obtain ⟨j, hj, rfl, N5, Bg, O5, R5⟩ := hrel
   have x0 := Bg.out.cell
   have x1 := N5.out.r0.cell
   by_cases hjk : j = k0.length
   · subst hjk
     have ek : nD sv k0 k0.length = k := by rw [← HT2.out.ek]; unfold nD; rw [List.take_length, List.drop_length, List.append_nil]
     have XW : k0.length = k.length := by rw [← HT2.out.ek]; simp
     have eb : vZ sv k0 k0.length = b2 := by rw [← HT2.out.XZ]; unfold vZ; rw [List.take_length]
     rw [ek] at O5
     rw [eb] at R5
     have OK : Hid (Own wr (w.heap.size + 4) (.slice (some ⟨bk, 0, none⟩) k.length ck) k) := Lib.hid (Own.oJ (by rw [← XW]; exact O5.out))
     have AV : Hid (k.length = n * 1) := Lib.hid (by rw [← XW]; exact Y_.out)
     have y1 := N5.out.r1.cell
     have y2 := N5.out.r2.cell
     clear ek eb O5 hj
     go_wp2_with fail
     rename_i K8 Ri
     rw [XW] at Bg x0
     have AO : Hid (∀ (kx : Nat) (w5 : World) (Ax : Option Addr) (dx : Nat) (v14 v15 v22 v23 v24 v25 v26 v27 v28 v29 v30 v31 v32 v33 v34 v35 v36 v37 v38 v39 v40 v41 v42 v43 v44 v45 v46 v47 v48 v49 v50 v51 v52 v53 v54 v55 v56 v57 v58 v59 v60 v61 v62 v63 : Value), Sg w g [(156, #[.pointer (some ⟨g, 0, none⟩)]), (33, #[I n, I 1, .slice A1 lx.length c1, I n, I n, .slice A2 lp.length c2]), (31, #[I 1, I n, .slice A3 lh.length c3]), (33, #[I 0, I 0, .slice none 0 0, I 0, I 0, .slice none 0 0])] w5 → Row w5 kb 31 #[I n, I 1, .slice (some ⟨bk, 0, none⟩) k.length ck] → Own w5 (w.heap.size + 4) (.slice (some ⟨bk, 0, none⟩) k.length ck) k → Row w5 kx 31 #[I n, I 1, .slice Ax x.length dx] → Own w5 (w.heap.size + 4) (.slice Ax x.length dx) x → Row w5 g 158 #[.bool (s || b1 || b2 || b3 || b4)] → w.heap.size + 4 ≤ kx → (∀ q, (Value.slice Ax x.length dx).ownBlock = some q → q ≠ kx) → K8 { tmps := #[.pointer (some ⟨g, 0, none⟩), .agg #[I n, I 1, .slice A1 lx.length c1, I n, I n, .slice A2 lp.length c2], .agg #[I 1, I n, .slice A3 lh.length c3], I y, I sv, I r, .pointer (some ⟨w.heap.size, 0, none⟩), .pointer (some ⟨w.heap.size + 1, 0, none⟩), .pointer (some ⟨w.heap.size + 1 + 1, 0, none⟩), undef, undef, undef, .pointer (some ⟨w.heap.size + 1 + 1 + 1, 0, none⟩), .pointer (some ⟨kb, 0, none⟩), v14, v15, .func (.func 124) #[] #[.pointer (some ⟨kb, 0, none⟩), .pointer (some ⟨w.heap.size, 0, none⟩)], .pointer (some ⟨kx, 0, none⟩), undef, undef, undef, undef, v22, v23, v24, v25, v26, v27, v28, v29, v30, v31, v32, v33, v34, v35, v36, v37, v38, v39, v40, v41, v42, v43, v44, v45, v46, v47, v48, v49, v50, v51, v52, v53, v54, v55, v56, v57, v58, v59, v60, v61, v62, v63, undef, undef, undef, undef, undef, undef, undef, undef, undef, undef, undef, undef, undef, undef, undef, undef, undef, undef, undef, undef, undef, undef, undef, undef, undef, undef, undef, undef, undef, undef, undef, undef, undef, undef, undef, undef, undef, undef, undef, undef, undef, undef, undef, undef, undef, undef, undef, undef, undef], defers := [] } w5) := Lib.hid (by
      as_aux_lemma =>
      intro kx w5 Ax dx v14 v15 v22 v23 v24 v25 v26 v27 v28 v29 v30 v31 v32 v33 v34 v35 v36 v37 v38 v39 v40 v41 v42 v43 v44 v45 v46 v47 v48 v49 v50 v51 v52 v53 v54 v55 v56 v57 v58 v59 v60 v61 v62 v63 hN hkb hK hkx hX hR hge hne
      refine Ri _ _ ?_
      have N9 := Lib.hid hN
      have YW := Lib.hid hkb
      have OK9 := Lib.hid hK
      have YS := Lib.hid hkx
      have Ku := Lib.hid hX
      have R9 := Lib.hid hR
      have GX := Lib.hid hge
      have y1 := hN.r1.cell
      clear hN hkb hK hkx hX hR hge hne x0 x1 y2 N5 Bg OK R5
      go_wp2_with fail
      refine (Fg n _ HH.out.1 HH.out.2).mono ?_
      rintro e w6 ⟨v, rfl, ho, hb⟩
      obtain ⟨Ae, ce, rfl, _, _⟩ := Own.reads ho
      have yP := Lib.hid ((N9.out.below hb).alloc (.cells #[I n, I n, .slice Ae (kG n).length ce] 31))
      have uI := Lib.hid ((YW.out.below hb YW.out.lt).alloc (.cells #[I n, I n, .slice Ae (kG n).length ce] 31))
      have yQ := Lib.hid ((YS.out.below hb YS.out.lt).alloc (.cells #[I n, I n, .slice Ae (kG n).length ce] 31))
      have yN := Lib.hid ((OK9.out.below hb).alloc (.cells #[I n, I n, .slice Ae (kG n).length ce] 31))
      have FW := Lib.hid ((Ku.out.below hb).alloc (.cells #[I n, I n, .slice Ae (kG n).length ce] 31))
      have R10 := Lib.hid ((R9.out.below hb R9.out.lt).alloc (.cells #[I n, I n, .slice Ae (kG n).length ce] 31))
      have IL : Hid (Own (w6.alloc (.cells #[I n, I n, .slice Ae (kG n).length ce] 31)) (w.heap.size + 4) (.slice Ae (kG n).length ce) (kG n)) := Lib.hid (Own.lower (ho.alloc _) (by have h1 := N9.out.rows.le N9.out.gr.size; simpa using h1))
      have uH := Lib.hid (Row.new w6 31 #[I n, I n, .slice Ae (kG n).length ce])
      have GE : Hid (w.heap.size + 4 ≤ w6.heap.size) := Lib.hid (by have h1 := N9.out.rows.le N9.out.gr.size; have h2 := hb.size; simp at h1; omega)
      clear ho hb y1
      go_wp2_with fail
      rename_i K10 Rj
      obtain ⟨wt, hwt⟩ : ∃ wt, w6.alloc (.cells #[I n, I n, .slice Ae (kG n).length ce] 31) = wt := ⟨_, rfl⟩
      rw [hwt] at yP uI yQ yN FW R10 IL uH
      change Code.wp Try.prog _ _ _ (w6.alloc (.cells #[I n, I n, .slice Ae (kG n).length ce] 31))
      rw [hwt]
      clear hwt
      clear N9 YW OK9 YS Ku R9
      have IK : Hid (∀ (kp : Nat) (w5 : World) (Ai : Option Addr) (di : Nat) (v14 v15 v18 v19 v22 v23 v24 v25 v26 v27 v28 v29 v30 v31 v32 v33 v34 v35 v36 v37 v38 v39 v40 v41 v42 v43 v44 v45 v46 v47 v48 v49 v50 v51 v52 v53 v54 v55 v56 v57 v58 v59 v60 v61 v62 v63 v64 v65 v66 v67 v68 v69 v70 v71 v72 v73 v74 v75 v76 v77 v78 v79 v80 v81 v82 v83 v84 v85 : Value), Sg w g [(156, #[.pointer (some ⟨g, 0, none⟩)]), (33, #[I n, I 1, .slice A1 lx.length c1, I n, I n, .slice A2 lp.length c2]), (31, #[I 1, I n, .slice A3 lh.length c3]), (33, #[I 0, I 0, .slice none 0 0, I 0, I 0, .slice none 0 0])] w5 → Row w5 kb 31 #[I n, I 1, .slice (some ⟨bk, 0, none⟩) k.length ck] → Own w5 (w.heap.size + 4) (.slice (some ⟨bk, 0, none⟩) k.length ck) k → Row w5 kx 31 #[I n, I 1, .slice Ax x.length dx] → Own w5 (w.heap.size + 4) (.slice Ax x.length dx) x → Row w5 kp 31 #[I n, I n, .slice Ai ik.length di] → Own w5 (w.heap.size + 4) (.slice Ai ik.length di) ik → Row w5 g 158 #[.bool (s || b1 || b2 || b3 || b4 || b5 || b6)] → w.heap.size + 4 ≤ kp → K10 { tmps := #[.pointer (some ⟨g, 0, none⟩), .agg #[I n, I 1, .slice A1 lx.length c1, I n, I n, .slice A2 lp.length c2], .agg #[I 1, I n, .slice A3 lh.length c3], I y, I sv, I r, .pointer (some ⟨w.heap.size, 0, none⟩), .pointer (some ⟨w.heap.size + 1, 0, none⟩), .pointer (some ⟨w.heap.size + 1 + 1, 0, none⟩), undef, undef, undef, .pointer (some ⟨w.heap.size + 1 + 1 + 1, 0, none⟩), .pointer (some ⟨kb, 0, none⟩), v14, v15, .func (.func 124) #[] #[.pointer (some ⟨kb, 0, none⟩), .pointer (some ⟨w.heap.size, 0, none⟩)], .pointer (some ⟨kx, 0, none⟩), v18, v19, .pointer (some ⟨kp, 0, none⟩), undef, v22, v23, v24, v25, v26, v27, v28, v29, v30, v31, v32, v33, v34, v35, v36, v37, v38, v39, v40, v41, v42, v43, v44, v45, v46, v47, v48, v49, v50, v51, v52, v53, v54, v55, v56, v57, v58, v59, v60, v61, v62, v63, v64, v65, v66, v67, v68, v69, v70, v71, v72, v73, v74, v75, v76, v77, v78, v79, v80, v81, v82, v83, v84, v85, undef, undef, undef, undef, undef, undef, undef, undef, undef, undef, undef, undef, undef, undef, undef, undef, undef, undef, undef, undef, undef, undef, undef, undef, undef, undef, undef], defers := [] } w5) := Lib.hid (by
       as_aux_lemma =>
       intro kp w5 Ai di v14 v15 v18 v19 v22 v23 v24 v25 v26 v27 v28 v29 v30 v31 v32 v33 v34 v35 v36 v37 v38 v39 v40 v41 v42 v43 v44 v45 v46 v47 v48 v49 v50 v51 v52 v53 v54 v55 v56 v57 v58 v59 v60 v61 v62 v63 v64 v65 v66 v67 v68 v69 v70 v71 v72 v73 v74 v75 v76 v77 v78 v79 v80 v81 v82 v83 v84 v85 hN hkb hK hkx hX hkp hI hR hge
       refine Rj _ _ ?_
       have Z4 : ∀ ad, Ai = some ad → 0 < ik.length → ad.block ≠ g := fun ad e _ => by
        subst e
        have h1 := (hI.row.lt ad.block rfl).1
        have h2 := GL.out
        omega
       have B48 := Lib.hid (sS w0 w5 g (s || b1 || b2 || b3 || b4 || b5 || b6) n n Ai di ik n n A2 c2 lp n n p1 (s || b1 || b2 || b3 || b4 || b5 || b6 || b7) hR HG0.out (oZ HB0.out HG0.out hN.gr) (Own.rd hI).1 (Own.rd hI).2 Z4 (TP.out _ hN.gr) CP.out FP.out (by rw [nX _ n n ik lp HH.out.2 HH.out.2 (by rw [← HT2.out.eik]; exact upto_length) HP.out, HT2.out.Z_, HT2.out.eb7]))
       have PO := Lib.hid hN
       have TJ := Lib.hid hkb
       have Su := Lib.hid hK
       have Ov := Lib.hid hkx
       have Oq := Lib.hid hX
       have x0 := hN.r0.cell
       have x1 := hN.r1.cell
       have x4 := hkp.cell
       clear hN hkb hK hkx hX hkp hI hR hge Z4 yP uI yQ yN FW R10 IL uH
       go_wp2_with fail
       refine B48.out.mono ?_
       rintro e w7 ⟨Ap, dp, rfl, ho, hr, hg⟩
       have VW := Lib.hid ((PO.out.touch hg GL.out).alloc (.cells #[I n, I n, .slice Ap p1.length dp] 31))
       have IQ := Lib.hid ((Row.grown TJ.out hg (by have h1 := GL.out; have h2 := HKB.out; simp; omega)).alloc (.cells #[I n, I n, .slice Ap p1.length dp] 31))
       have Ou := Lib.hid ((Row.grown Ov.out hg (by have h1 := GL.out; have h2 := GX.out; simp; omega)).alloc (.cells #[I n, I n, .slice Ap p1.length dp] 31))
       have Kv := Lib.hid ((Own.touch Su.out hg (by have h1 := GL.out; omega)).alloc (.cells #[I n, I n, .slice Ap p1.length dp] 31))
       have RN := Lib.hid ((Own.touch Oq.out hg (by have h1 := GL.out; omega)).alloc (.cells #[I n, I n, .slice Ap p1.length dp] 31))
       have Sl : Hid (Own (w7.alloc (.cells #[I n, I n, .slice Ap p1.length dp] 31)) (w.heap.size + 4) (.slice Ap p1.length dp) p1) := Lib.hid (Own.lower (ho.alloc _) (by have h1 := PO.out.rows.le PO.out.gr.size; simpa using h1))
       have KE := Lib.hid (Row.new w7 31 #[I n, I n, .slice Ap p1.length dp])
       have R20 := Lib.hid (Row.alloc hr (.cells #[I n, I n, .slice Ap p1.length dp] 31))
       have GQ : Hid (w.heap.size + 4 ≤ w7.heap.size) := Lib.hid (by have h1 := PO.out.rows.le PO.out.gr.size; have h2 := hg.size; simp at h1; omega)
       have Tm : Hid (kx < w7.heap.size) := Lib.hid (Row.grown Ov.out hg (by have h1 := GL.out; have h2 := GX.out; simp; omega)).lt
       have HXO : Hid (∀ q, (Value.slice Ax x.length dx).ownBlock = some q → q ≠ w7.heap.size) := Lib.hid (fun q hq => by have h1 := ((Own.touch Oq.out hg (by have h1 := GL.out; omega)).row.lt q hq).2; omega)
       clear ho hr hg x0 x1 x4 PO TJ Su Ov Oq
       go_wp2_with fail
       obtain ⟨ws, hws⟩ : ∃ ws, w7.alloc (.cells #[I n, I n, .slice Ap p1.length dp] 31) = ws := ⟨_, rfl⟩
       rw [hws] at VW IQ Ou Kv RN Sl KE R20
       change Code.wp Try.prog _ _ _ (w7.alloc (.cells #[I n, I n, .slice Ap p1.length dp] 31))
       rw [hws]
       clear hws
       have I8 : Hid (w7.heap.size < ws.heap.size) := Lib.hid KE.out.lt
       have UB : Hid (kb < ws.heap.size ∧ kx < ws.heap.size ∧ bk < ws.heap.size) := Lib.hid ⟨IQ.out.lt, Ou.out.lt, (Kv.out.row.lt bk rfl).2⟩
       have HXQ : Hid (kx ≠ w7.heap.size) := Lib.hid (by have h1 := Tm.out; omega)
       have KT : Hid (∀ w', Sg w g [(156, #[.pointer (some ⟨g, 0, none⟩)]), (33, #[I n, I 1, .slice A1 lx.length c1, I n, I n, .slice A2 lp.length c2]), (31, #[I 1, I n, .slice A3 lh.length c3]), (33, #[I 0, I 0, .slice none 0 0, I 0, I 0, .slice none 0 0])] w' → Row w' kb 31 #[I n, I 1, .slice (some ⟨bk, 0, none⟩) k.length ck] → Row w' w7.heap.size 31 #[I n, I n, .slice Ap p1.length dp] → ((∀ o, w'.cell? ⟨w.heap.size, o, none⟩ = #[.pointer (some ⟨g, 0, none⟩)][o]?) ∧ (∀ o, w'.cell? ⟨w.heap.size + 1, o, none⟩ = #[I n, I 1, .slice A1 lx.length c1, I n, I n, .slice A2 lp.length c2][o]?) ∧ (∀ o, w'.cell? ⟨w.heap.size + 1 + 1, o, none⟩ = #[I 1, I n, .slice A3 lh.length c3][o]?)) ∧ (∀ o, w'.cell? ⟨kb, o, none⟩ = #[I n, I 1, .slice (some ⟨bk, 0, none⟩) k.length ck][o]?) ∧ (∀ o, w'.cell? ⟨w7.heap.size, o, none⟩ = #[I n, I n, .slice Ap p1.length dp][o]?)) := Lib.hid (fun w' h h1 h2 => ⟨⟨h.r0.cell, h.r1.cell, h.r2.cell⟩, h1.cell, h2.cell⟩)
       have Oh := Lib.hid (fun w' (o : Own w' (w.heap.size + 4) (.slice (some ⟨bk, 0, none⟩) k.length ck) k) rk rp rg => qM g kb w.heap.size n (s || b1 || b2 || b3 || b4 || b5 || b6 || b7) (some ⟨bk, 0, none⟩) ck k r w' HH.out.2 AV.out (Own.rd o).1 (Own.rd o).2 rk rp rg)
       rw [HT2.out.Z8, HT2.out.eb8] at Oh
       have PI := Lib.hid (fun w' (o : Own w' (w.heap.size + 4) (.slice (some ⟨bk, 0, none⟩) k.length ck) k) => jF n 1 (some ⟨bk, 0, none⟩) ck k w' HH.out.2 (by omega) AV.out (Own.rd o).1)
       rw [HT2.out.Z5] at PI
       have YQ := Lib.hid (fun Aa ca Ab cb w' (o : Own w' (w.heap.size + 4) (.slice Aa sr.length ca) sr) (o' : Own w' (w.heap.size + 4) (.slice Ab tk.length cb) tk) => qV n 1 n Aa Ab ca cb sr tk w' HH.out.2 (by omega) HH.out.2 (by rw [← HT2.out.Z8]; exact upto_length) (by rw [← HT2.out.Z5]; exact upto_length) (Own.rd o).1 (Own.rd o').1)
       rw [HT2.out.ekk, HT2.out.eb9] at YQ
       have Un := Lib.hid (fun Ab cb w' (o : Own w' (w.heap.size + 4) (.slice Ap p1.length dp) p1) (o' : Own w' (w.heap.size + 4) (.slice Ab kk.length cb) kk) => yw n n Ap Ab dp cb p1 kk w' HH.out.2 HH.out.2 (by rw [← HT2.out.Z_]; exact upto_length) (by rw [← HT2.out.ekk]; exact upto_length) (Own.rd o).1 (Own.rd o').1 (Own.rd o).2 (Own.rd o').2)
       rw [HT2.out.Z9, HT2.out.X3] at Un
       simp only [eo] at Oh PI YQ
       refine qO (S := (fun w' => ((∀ o, w'.cell? ⟨w.heap.size, o, none⟩ = #[.pointer (some ⟨g, 0, none⟩)][o]?) ∧ (∀ o, w'.cell? ⟨w.heap.size + 1, o, none⟩ = #[I n, I 1, .slice A1 lx.length c1, I n, I n, .slice A2 lp.length c2][o]?) ∧ (∀ o, w'.cell? ⟨w.heap.size + 1 + 1, o, none⟩ = #[I 1, I n, .slice A3 lh.length c3][o]?)) ∧ (∀ o, w'.cell? ⟨kb, o, none⟩ = #[I n, I 1, .slice (some ⟨bk, 0, none⟩) k.length ck][o]?) ∧ (∀ o, w'.cell? ⟨w7.heap.size, o, none⟩ = #[I n, I n, .slice Ap p1.length dp][o]?))) 18 (by kernel_rfl) (KT.out _ VW.out.drew IQ.out.drew KE.out.drew) (fun hHeld => ?_)
       refine Until.take (i := 0) (oi := _) (v := ?u1) rfl (by kernel_rfl) (by kernel_rfl) (by kernel_rfl) (by kernel_rfl) (by kernel_rfl) (fun _ _ _ h => h) (Or.inl ⟨by rfl, ?hu1⟩) hHeld ?_
       case hu1 =>
        intro w' hSw
        (try dsimp only at hSw)
        simp only [List.getElem_toArray, List.getElem_cons_succ, List.getElem_cons_zero]
        go_simp
        (try with_reducible rfl)
       change Until _ _ _ _ _ _ _ _ (Act.put _ (some 91) _) _
       simp only [Act.put, List.setIfInBounds_toArray, List.set_cons_zero, List.set_cons_succ]
       refine Until.take (i := 1) (oi := _) (v := ?u2) rfl (by kernel_rfl) (by kernel_rfl) (by kernel_rfl) (by kernel_rfl) (by kernel_rfl) (fun _ _ _ h => h) (Or.inl ⟨by rfl, ?hu2⟩) hHeld ?_
       case hu2 =>
        intro w' hSw
        (try dsimp only at hSw)
        simp only [List.getElem_toArray, List.getElem_cons_succ, List.getElem_cons_zero]
        go_simp
        (try with_reducible rfl)
       change Until _ _ _ _ _ _ _ _ (Act.put _ (some 92) _) _
       simp only [Act.put, List.setIfInBounds_toArray, List.set_cons_zero, List.set_cons_succ]
       refine Until.take (i := 2) (oi := _) (v := ?u3) rfl (by kernel_rfl) (by kernel_rfl) (by kernel_rfl) (by kernel_rfl) (by kernel_rfl) (fun _ _ _ h => h) (Or.inl ⟨by rfl, ?hu3⟩) hHeld ?_
       case hu3 =>
        intro w' hSw
        (try dsimp only at hSw)
        simp only [List.getElem_toArray, List.getElem_cons_succ, List.getElem_cons_zero]
        go_simp
        (try with_reducible rfl)
       change Until _ _ _ _ _ _ _ _ (Act.put _ (some 93) _) _
       simp only [Act.put, List.setIfInBounds_toArray, List.set_cons_zero, List.set_cons_succ]
       refine Until.take (i := 3) (oi := _) (v := ?u4) rfl (by kernel_rfl) (by kernel_rfl) (by kernel_rfl) (by kernel_rfl) (by kernel_rfl) (fun _ _ _ h => h) (Or.inl ⟨by rfl, ?WR⟩) hHeld ?_
       case WR =>
        intro w' hSw
        (try dsimp only at hSw)
        simp only [List.getElem_toArray, List.getElem_cons_succ, List.getElem_cons_zero]
        go_simp
        (try with_reducible rfl)
       change Until _ _ _ _ _ _ _ _ (Act.put _ (some 94) _) _
       simp only [Act.put, List.setIfInBounds_toArray, List.set_cons_zero, List.set_cons_succ]
       refine Until.take (i := 4) (oi := _) (v := ?u5) rfl (by kernel_rfl) (by kernel_rfl) (by kernel_rfl) (by kernel_rfl) (by kernel_rfl) (fun _ _ _ h => h) (Or.inl ⟨by rfl, ?WQ⟩) hHeld ?_
       case WQ =>
        intro w' hSw
        (try dsimp only at hSw)
        simp only [List.getElem_toArray, List.getElem_cons_succ, List.getElem_cons_zero]
        go_simp
        (try with_reducible rfl)
       change Until _ _ _ _ _ _ _ _ (Act.put _ (some 95) _) _
       simp only [Act.put, List.setIfInBounds_toArray, List.set_cons_zero, List.set_cons_succ]
       refine Until.take (i := 6) (oi := _) (v := ?u6) rfl (by kernel_rfl) (by kernel_rfl) (by kernel_rfl) (by kernel_rfl) (by kernel_rfl) (fun _ _ _ h => h) (Or.inl ⟨by rfl, ?WO⟩) hHeld ?_
       case WO =>
        intro w' hSw
        (try dsimp only at hSw)
        simp only [List.getElem_toArray, List.getElem_cons_succ, List.getElem_cons_zero]
        go_simp
        (try with_reducible rfl)
       change Until _ _ _ _ _ _ _ _ (Act.put _ (some 97) _) _
       simp only [Act.put, List.setIfInBounds_toArray, List.set_cons_zero, List.set_cons_succ]
       refine Until.one (i := 5) (o := _) (by kernel_rfl) rfl (fun K hK => ?_)
       go_simp
       refine (Oh.out _ Kv.out.drew IQ.out.drew VW.out.drew.r0 R20.out.drew).mono ?_
       rintro e KR ⟨As, cs, rfl, ho, hr, hg⟩
       have YA : Hid (Own KR (w.heap.size + 4) (.slice As sr.length cs) sr) := Lib.hid (Own.lower ho (by have h1 := I8.out; have h2 := GQ.out; first | omega | (simp; omega)))
       have R21 := Lib.hid hr
       have N21 := Lib.hid (VW.out.drew.touch hg GL.out)
       have OQ := Lib.hid (Row.grown IQ.out.drew hg (by have h1 := GL.out; have h2 := HKB.out; have h3 := GX.out; have h4 := GQ.out; simp; omega))
       have Tj := Lib.hid (Row.grown Ou.out.drew hg (by have h1 := GL.out; have h2 := HKB.out; have h3 := GX.out; have h4 := GQ.out; simp; omega))
       have Oz := Lib.hid (Row.grown KE.out.drew hg (by have h1 := GL.out; have h2 := HKB.out; have h3 := GX.out; have h4 := GQ.out; simp; omega))
       have YJ := Lib.hid (Own.touch Kv.out.drew hg (by have h1 := GL.out; omega))
       have Yx := Lib.hid (Own.touch RN.out.drew hg (by have h1 := GL.out; omega))
       have YH := Lib.hid (Own.touch Sl.out.drew hg (by have h1 := GL.out; omega))
       have U21 : Hid (ws.heap.size ≤ KR.heap.size) := Lib.hid (by have h1 := hg.size; have h2 := I8.out; first | omega | (simp at h1; omega))
       clear ho hr hg
       go_wp2_with fail
       clear hHeld
       have hHeld := KT.out _ N21.out OQ.out Oz.out
       refine hK.out _ _ (fun _ => hHeld) ?_
       clear hK K
       try simp only [Act.put, List.setIfInBounds_toArray, List.set_cons_zero, List.set_cons_succ]
       refine Until.one (i := 7) (o := _) (by kernel_rfl) rfl (fun K hK => ?_)
       go_simp
       refine (PI.out _ YJ.out).mono ?_
       rintro e Wp ⟨v, rfl, ho, hb⟩
       obtain ⟨At2, ct2, rfl, _, _⟩ := Own.reads ho
       have Yy : Hid (Own Wp (w.heap.size + 4) (.slice At2 tk.length ct2) tk) := Lib.hid (Own.lower ho (by have h1 := U21.out; have h2 := GQ.out; first | omega | (have h3 := I8.out; omega) | (have h3 := I8.out; simp; omega)))
       have R22 := Lib.hid (Row.below R21.out hb R21.out.lt)
       have N22 := Lib.hid (N21.out.below hb)
       have OO := Lib.hid (Row.below OQ.out hb OQ.out.lt)
       have Ti := Lib.hid (Row.below Tj.out hb Tj.out.lt)
       have Oy := Lib.hid (Row.below Oz.out hb Oz.out.lt)
       have Yw := Lib.hid (Yx.out.below hb)
       have YG := Lib.hid (YH.out.below hb)
       have Yz := Lib.hid (YA.out.below hb)
       have U22 : Hid (ws.heap.size ≤ Wp.heap.size) := Lib.hid (by have h1 := hb.size; have h2 := U21.out; first | omega | (simp at h1; omega))
       clear ho hb
       go_wp2_with fail
       clear hHeld
       have hHeld := KT.out _ N22.out OO.out Oy.out
       refine hK.out _ _ (fun _ => hHeld) ?_
       clear hK K
       try simp only [Act.put, List.setIfInBounds_toArray, List.set_cons_zero, List.set_cons_succ]
       refine Until.one (i := 8) (o := _) (by kernel_rfl) rfl (fun K hK => ?_)
       go_simp
       refine (YQ.out _ _ _ _ _ Yz.out Yy.out).mono ?_
       rintro e Wn ⟨v, rfl, ho, hb⟩
       obtain ⟨Ak2, ck2, rfl, _, _⟩ := Own.reads ho
       have Yp : Hid (Own Wn (w.heap.size + 4) (.slice Ak2 kk.length ck2) kk) := Lib.hid (Own.lower ho (by have h1 := U22.out; have h2 := GQ.out; first | omega | (have h3 := I8.out; omega) | (have h3 := I8.out; simp; omega)))
       have R23 := Lib.hid (Row.below R22.out hb R22.out.lt)
       have N23 := Lib.hid (N22.out.below hb)
       have TI := Lib.hid (Row.below OO.out hb OO.out.lt)
       have YV := Lib.hid (Row.below Ti.out hb Ti.out.lt)
       have Tz := Lib.hid (Row.below Oy.out hb Oy.out.lt)
       have Yv := Lib.hid (Yw.out.below hb)
       have YF := Lib.hid (YG.out.below hb)
       have U23 : Hid (ws.heap.size ≤ Wn.heap.size) := Lib.hid (by have h1 := hb.size; have h2 := U22.out; first | omega | (simp at h1; omega))
       clear ho hb
       go_wp2_with fail
       clear hHeld
       have hHeld := KT.out _ N23.out TI.out Tz.out
       refine hK.out _ _ (fun _ => hHeld) ?_
       clear hK K
       try simp only [Act.put, List.setIfInBounds_toArray, List.set_cons_zero, List.set_cons_succ]
       refine Until.take (i := 9) (oi := _) (v := ?u7) rfl (by kernel_rfl) (by kernel_rfl) (by kernel_rfl) (by kernel_rfl) (by kernel_rfl) (fun _ _ _ h => h) (Or.inl ⟨by rfl, ?WN⟩) hHeld ?_
       case WN =>
        intro w' hSw
        (try dsimp only at hSw)
        simp only [List.getElem_toArray, List.getElem_cons_succ, List.getElem_cons_zero]
        go_simp
        (try with_reducible rfl)
       change Until _ _ _ _ _ _ _ _ (Act.put _ (some 100) _) _
       simp only [Act.put, List.setIfInBounds_toArray, List.set_cons_zero, List.set_cons_succ]
       refine Until.take (i := 10) (oi := _) (v := ?u8) rfl (by kernel_rfl) (by kernel_rfl) (by kernel_rfl) (by kernel_rfl) (by kernel_rfl) (fun _ _ _ h => h) (Or.inl ⟨by rfl, ?WM⟩) hHeld ?_
       case WM =>
        intro w' hSw
        (try dsimp only at hSw)
        simp only [List.getElem_toArray, List.getElem_cons_succ, List.getElem_cons_zero]
        go_simp
        (try with_reducible rfl)
       change Until _ _ _ _ _ _ _ _ (Act.put _ (some 101) _) _
       simp only [Act.put, List.setIfInBounds_toArray, List.set_cons_zero, List.set_cons_succ]
       refine Until.take (i := 11) (oi := _) (v := ?u9) rfl (by kernel_rfl) (by kernel_rfl) (by kernel_rfl) (by kernel_rfl) (by kernel_rfl) (fun _ _ _ h => h) (Or.inl ⟨by rfl, ?WL⟩) hHeld ?_
       case WL =>
        intro w' hSw
        (try dsimp only at hSw)
        simp only [List.getElem_toArray, List.getElem_cons_succ, List.getElem_cons_zero]
        go_simp
        (try with_reducible rfl)
       change Until _ _ _ _ _ _ _ _ (Act.put _ (some 102) _) _
       simp only [Act.put, List.setIfInBounds_toArray, List.set_cons_zero, List.set_cons_succ]
       refine Until.one (i := 12) (o := _) (by kernel_rfl) rfl (fun K hK => ?_)
       go_simp
       refine (lT g (s || b1 || b2 || b3 || b4 || b5 || b6 || b7 || b8) b9 n n 0 Ak2 kk.length ck2 _ R23.out).mono ?_
       rintro e Zk ⟨rfl, hr, hg⟩
       have R24 := Lib.hid hr
       have N24 := Lib.hid (N23.out.touch hg GL.out)
       have OL := Lib.hid (Row.grown TI.out hg (by have h1 := GL.out; have h2 := HKB.out; have h3 := GX.out; have h4 := GQ.out; simp; omega))
       have Tf := Lib.hid (Row.grown YV.out hg (by have h1 := GL.out; have h2 := HKB.out; have h3 := GX.out; have h4 := GQ.out; simp; omega))
       have Ox := Lib.hid (Row.grown Tz.out hg (by have h1 := GL.out; have h2 := HKB.out; have h3 := GX.out; have h4 := GQ.out; simp; omega))
       have Yu := Lib.hid (Own.touch Yv.out hg (by have h1 := GL.out; omega))
       have YE := Lib.hid (Own.touch YF.out hg (by have h1 := GL.out; omega))
       have Yo := Lib.hid (Own.touch Yp.out hg (by have h1 := GL.out; omega))
       have Yh : Hid (ws.heap.size ≤ Zk.heap.size) := Lib.hid (by have h1 := hg.size; have h2 := U23.out; first | omega | (simp at h1; omega))
       clear hr hg
       go_wp2_with fail
       clear hHeld
       have hHeld := KT.out _ N24.out OL.out Ox.out
       refine hK.out _ _ (fun _ => hHeld) ?_
       clear hK K
       try simp only [Act.put, List.setIfInBounds_toArray, List.set_cons_zero, List.set_cons_succ]
       refine Until.one (i := 13) (o := _) (by kernel_rfl) rfl (fun K hK => ?_)
       go_simp
       refine (Un.out _ _ _ YE.out Yo.out).mono ?_
       rintro e Wl ⟨v, rfl, ho, hb⟩
       obtain ⟨Bh, Bd, rfl, _, _⟩ := Own.reads ho
       have YD : Hid (Own Wl (w.heap.size + 4) (.slice Bh p2.length Bd) p2) := Lib.hid (Own.lower ho (by have h1 := Yh.out; have h2 := GQ.out; first | omega | (have h3 := I8.out; omega) | (have h3 := I8.out; simp; omega)))
       have YN := Lib.hid ho.row.lt
       have R25 := Lib.hid (Row.below R24.out hb R24.out.lt)
       have N25 := Lib.hid (N24.out.below hb)
       have TG := Lib.hid (Row.below OL.out hb OL.out.lt)
       have YU := Lib.hid (Row.below Tf.out hb Tf.out.lt)
       have Tv := Lib.hid (Row.below Ox.out hb Ox.out.lt)
       have Yt := Lib.hid (Yu.out.below hb)
       have U25 : Hid (ws.heap.size ≤ Wl.heap.size) := Lib.hid (by have h1 := hb.size; have h2 := Yh.out; first | omega | (simp at h1; omega))
       clear ho hb
       go_wp2_with fail
       clear hHeld
       have hHeld := KT.out _ N25.out TG.out Tv.out
       refine hK.out _ _ (fun _ => hHeld) ?_
       clear hK K
       try simp only [Act.put, List.setIfInBounds_toArray, List.set_cons_zero, List.set_cons_succ]
       refine Until.take (i := 14) (oi := _) (v := ?u10) rfl (by kernel_rfl) (by kernel_rfl) (by kernel_rfl) (by kernel_rfl) (by kernel_rfl) (fun _ _ _ h => h) (Or.inl ⟨by rfl, ?Nk⟩) hHeld ?_
       case Nk =>
        intro w' hSw
        (try dsimp only at hSw)
        simp only [List.getElem_toArray, List.getElem_cons_succ, List.getElem_cons_zero]
        go_simp
        (try with_reducible rfl)
       change Until _ _ _ _ _ _ _ _ (Act.put _ (some 105) _) _
       simp only [Act.put, List.setIfInBounds_toArray, List.set_cons_zero, List.set_cons_succ]
       refine Until.take (i := 15) (oi := _) (v := ?u11) rfl (by kernel_rfl) (by kernel_rfl) (by kernel_rfl) (by kernel_rfl) (by kernel_rfl) (fun _ _ _ h => h) (Or.inl ⟨by rfl, ?Nj⟩) hHeld ?_
       case Nj =>
        intro w' hSw
        (try dsimp only at hSw)
        simp only [List.getElem_toArray, List.getElem_cons_succ, List.getElem_cons_zero]
        go_simp
        (try with_reducible rfl)
       change Until _ _ _ _ _ _ _ _ (Act.put _ (some 106) _) _
       simp only [Act.put, List.setIfInBounds_toArray, List.set_cons_zero, List.set_cons_succ]
       refine Until.take (i := 16) (oi := _) (v := ?u12) rfl (by kernel_rfl) (by kernel_rfl) (by kernel_rfl) (by kernel_rfl) (by kernel_rfl) (fun _ _ _ h => h) (Or.inl ⟨by rfl, ?Nh⟩) hHeld ?_
       case Nh =>
        intro w' hSw
        (try dsimp only at hSw)
        simp only [List.getElem_toArray, List.getElem_cons_succ, List.getElem_cons_zero]
        go_simp
        (try with_reducible rfl)
       change Until _ _ _ _ _ _ _ _ (Act.put _ (some 107) _) _
       simp only [Act.put, List.setIfInBounds_toArray, List.set_cons_zero, List.set_cons_succ]
       refine Until.one (i := 17) (o := _) (by kernel_rfl) rfl (fun K hK => ?_)
       go_simp
       refine (lT g (s || b1 || b2 || b3 || b4 || b5 || b6 || b7 || b8 || b9) b10 n n 0 Bh p2.length Bd _ R25.out).mono ?_
       rintro e Pm ⟨rfl, hr, hg⟩
       have R26 := Lib.hid hr
       have N26 := Lib.hid (N25.out.touch hg GL.out)
       have YY := Lib.hid (Row.grown TG.out hg (by have h1 := GL.out; have h2 := HKB.out; have h3 := GX.out; have h4 := GQ.out; simp; omega))
       have YT := Lib.hid (Row.grown YU.out hg (by have h1 := GL.out; have h2 := HKB.out; have h3 := GX.out; have h4 := GQ.out; simp; omega))
       have KD := Lib.hid (Row.grown Tv.out hg (by have h1 := GL.out; have h2 := HKB.out; have h3 := GX.out; have h4 := GQ.out; simp; omega))
       have Yr := Lib.hid (Own.touch Yt.out hg (by have h1 := GL.out; omega))
       have YC := Lib.hid (Own.touch YD.out hg (by have h1 := GL.out; omega))
       have U26 : Hid (ws.heap.size ≤ Pm.heap.size) := Lib.hid (by have h1 := hg.size; have h2 := U25.out; first | omega | (simp at h1; omega))
       have kc := KD.out.cell
       have kf := KD.out.free
       clear hr hg
       go_wp2_with fail
       clear hHeld
       have hHeld := KT.out _ N26.out YY.out KD.out
       refine hK.out _ _ (fun _ => hHeld) ?_
       clear hK K
       try simp only [Act.put, List.setIfInBounds_toArray, List.set_cons_zero, List.set_cons_succ]
       refine Until.one (i := 18) (o := _) (by kernel_rfl) rfl (fun K hK => ?_)
       go_simp
       refine hK.out _ _ (fun h => Bool.noConfusion (show true = false from h)) ?_
       clear hK K hHeld
       try simp only [Act.put, List.setIfInBounds_toArray, List.set_cons_zero, List.set_cons_succ]
       refine Until.done (by kernel_rfl) ?_ _
       refine NoPanic.normal ?_
       have N27 := Lib.hid (N26.out.bz (C := w7.heap.size) (by have h1 := GQ.out; simpa using h1) (I n) (I n) (.slice Bh p2.length Bd))
       have Ky : Hid (Row (bz Pm w7.heap.size (I n) (I n) (.slice Bh p2.length Bd)) kx 31 #[I n, I 1, .slice Ax x.length dx]) := Lib.hid (YT.out.mF HXQ.out)
       have KA := Lib.hid (KD.out.bz (I n) (I n) (.slice Bh p2.length Bd))
       have Oo := Lib.hid (Own.jm Yr.out HXO.out (I n) (I n) (.slice Bh p2.length Bd))
       have Sj := Lib.hid (Own.jm YC.out (C := w7.heap.size) (fun q hq => by have h1 := (YN.out q hq).1; have h2 := Yh.out; have h3 := I8.out; omega) (I n) (I n) (.slice Bh p2.length Bd))
       have Yl := Lib.hid (R26.out.mF (C := w7.heap.size) (by have h1 := GL.out; have h2 := GQ.out; omega) (a := I n) (b := I n) (c := .slice Bh p2.length Bd))
       go_wp2_with fail
       change Code.wp Try.prog _ _ _ (bz Pm w7.heap.size (I n) (I n) (.slice Bh p2.length Bd))
       have UW : Hid (ws.heap.size ≤ (bz Pm w7.heap.size (I n) (I n) (.slice Bh p2.length Bd)).heap.size) := Lib.hid (by have h1 := U26.out; simpa using h1)
       obtain ⟨Pj, Qk⟩ : ∃ Pj, bz Pm w7.heap.size (I n) (I n) (.slice Bh p2.length Bd) = Pj := ⟨_, rfl⟩
       rw [Qk] at N27 Ky KA Oo Sj Yl UW ⊢
       clear Qk kc kf
       have KU : Hid (∀ w', Row w' kx 31 #[I n, I 1, .slice Ax x.length dx] → Row w' w7.heap.size 31 #[I n, I n, .slice Bh p2.length Bd] → (∀ o, w'.cell? ⟨kx, o, none⟩ = #[I n, I 1, .slice Ax x.length dx][o]?) ∧ (∀ o, w'.cell? ⟨w7.heap.size, o, none⟩ = #[I n, I n, .slice Bh p2.length Bd][o]?)) := Lib.hid (fun w' h1 h2 => ⟨h1.cell, h2.cell⟩)
       have G15 := Lib.hid (fun w' (o : Own w' (w.heap.size + 4) (.slice Bh p2.length Bd) p2) => vV n Bh Bd p2 w' HH.out.2 (by rw [← HT2.out.Z9]; exact upto_length) (Own.rd o).1 (Own.rd o).2)
       rw [HT2.out.eP] at G15
       go_region_held3 (fun w' => (∀ o, w'.cell? ⟨kx, o, none⟩ = #[I n, I 1, .slice Ax x.length dx][o]?) ∧ (∀ o, w'.cell? ⟨w7.heap.size, o, none⟩ = #[I n, I n, .slice Bh p2.length Bd][o]?))
        (first | with_reducible exact KU.out _ Td.out Tu.out | with_reducible exact KU.out _ Ky.out.drew KA.out.drew | exact KU.out _ (Row.ou Td.out (C := w.heap.size + 1 + 1 + 1) (by have h1 := GX.out; omega) _ _ _ _ _ _) (Row.ou Tu.out (C := w.heap.size + 1 + 1 + 1) (by have h1 := GQ.out; omega) _ _ _ _ _ _))
        (first
          | (go_at_call 104
             refine (G15.out _ Sj.out.drew).mono ?_
             rintro e w28 ⟨Ag, cg, rfl, ho, hb⟩
             have YK := Lib.hid ho
             have VU := Lib.hid (N27.out.drew.below hb)
             have Td := Lib.hid (Row.below Ky.out.drew hb Ky.out.lt)
             have Tu := Lib.hid (Row.below KA.out.drew hb KA.out.lt)
             have Yq := Lib.hid (Oo.out.drew.below hb)
             have R28 := Lib.hid (Row.below Yl.out.drew hb Yl.out.lt)
             have YM := Lib.hid ho.row.lt
             have OXB : Hid (∀ q, (Value.slice Ax x.length dx).ownBlock = some q → q < Pj.heap.size) := Lib.hid (fun q hq => (Oo.out.row.lt q hq).2)
             have x3 := VU.out.r3.cell
             have g3 := VU.out.r3.free
             clear ho hb))
       go_wp2
       have zg := GL.out
       have z7 := GQ.out
       have zu := I8.out
       have zw := UW.out
       have zd : Pj.drew.heap.size = Pj.heap.size := rfl
       refine bodyPost_ret (Wu rfl rfl (Row.dO VU.out.r3 _ _ _ _ _ _)) rfl ⟨_, _, _, _, rfl, ?_, ?_, ?_, Row.ou R28.out (by omega) _ _ _ _ _ _, Hy VU.out.gr (by omega) _ _ _ _ _ _⟩
       · exact (Own.dO Yq.out (by omega) _ _ _ _ _ _).lower (by omega)
       · exact (Own.dO YK.out (by omega) _ _ _ _ _ _).lower (by omega)
       · intro q hq e
         have h1 := OXB.out q hq
         have h2 := (YM.out q e).1
         omega)
      clear Rj
      have UT : Hid (w.heap.size + 4 ≤ wt.heap.size ∧ kb < wt.heap.size ∧ kx < wt.heap.size ∧ bk < wt.heap.size ∧ w6.heap.size < wt.heap.size) := Lib.hid ⟨by have h1 := yP.out.rows.le yP.out.gr.size; simpa using h1, uI.out.lt, yQ.out.lt, (yN.out.row.lt bk rfl).2, uH.out.lt⟩
      have UX : Hid (∀ q, (Value.slice Ax x.length dx).ownBlock = some q → q < wt.heap.size) := Lib.hid (fun q hq => (FW.out.row.lt q hq).2)
      have Uo := Lib.hid (fun w' (h : w.grownBy w' (some g)) (o : Own w' (w.heap.size + 4) (.slice (some ⟨bk, 0, none⟩) k.length ck) k) => qV n 1 n (some ⟨bk, 0, none⟩) A3 ck c3 k lh w' HH.out.2 (by omega) HH.out.2 AV.out HHL.out (Own.rd o).1 (TH.out _ h))
      rw [HT2.out.ekh, HT2.out.eb5] at Uo
      have Zj := Lib.hid (fun A' c' w' (o : Own w' (w.heap.size + 4) (.slice Ae (kG n).length ce) (kG n)) (o' : Own w' (w.heap.size + 4) (.slice A' kh.length c') kh) hc' => Jq n n Ae A' ce c' (kG n) kh w' HH.out.2 HH.out.2 (by unfold kG; rw [ji]; simp) (by rw [← HT2.out.ekh]; exact iQ _ _ _ _ _) (Own.rd o).1 (Own.rd o').1 (Own.rd o).2 hc')
      rw [HT2.out.eik, HT2.out.eb6] at Zj
      simp only [eo] at Uo
      have KS : Hid (∀ w', Sg w g [(156, #[.pointer (some ⟨g, 0, none⟩)]), (33, #[I n, I 1, .slice A1 lx.length c1, I n, I n, .slice A2 lp.length c2]), (31, #[I 1, I n, .slice A3 lh.length c3]), (33, #[I 0, I 0, .slice none 0 0, I 0, I 0, .slice none 0 0])] w' → Row w' kb 31 #[I n, I 1, .slice (some ⟨bk, 0, none⟩) k.length ck] → Row w' w6.heap.size 31 #[I n, I n, .slice Ae (kG n).length ce] → ((∀ o, w'.cell? ⟨w.heap.size, o, none⟩ = #[.pointer (some ⟨g, 0, none⟩)][o]?) ∧ (∀ o, w'.cell? ⟨w.heap.size + 1, o, none⟩ = #[I n, I 1, .slice A1 lx.length c1, I n, I n, .slice A2 lp.length c2][o]?) ∧ (∀ o, w'.cell? ⟨w.heap.size + 1 + 1, o, none⟩ = #[I 1, I n, .slice A3 lh.length c3][o]?)) ∧ (∀ o, w'.cell? ⟨kb, o, none⟩ = #[I n, I 1, .slice (some ⟨bk, 0, none⟩) k.length ck][o]?) ∧ (∀ o, w'.cell? ⟨w6.heap.size, o, none⟩ = #[I n, I n, .slice Ae (kG n).length ce][o]?)) := Lib.hid (fun w' h h1 h2 => ⟨⟨h.r0.cell, h.r1.cell, h.r2.cell⟩, h1.cell, h2.cell⟩)
      go_region_held3 (fun w' => ((∀ o, w'.cell? ⟨w.heap.size, o, none⟩ = #[.pointer (some ⟨g, 0, none⟩)][o]?) ∧ (∀ o, w'.cell? ⟨w.heap.size + 1, o, none⟩ = #[I n, I 1, .slice A1 lx.length c1, I n, I n, .slice A2 lp.length c2][o]?) ∧ (∀ o, w'.cell? ⟨w.heap.size + 1 + 1, o, none⟩ = #[I 1, I n, .slice A3 lh.length c3][o]?)) ∧ (∀ o, w'.cell? ⟨kb, o, none⟩ = #[I n, I 1, .slice (some ⟨bk, 0, none⟩) k.length ck][o]?) ∧ (∀ o, w'.cell? ⟨w6.heap.size, o, none⟩ = #[I n, I n, .slice Ae (kG n).length ce][o]?))
       (first | with_reducible exact KS.out _ Tc.out IU.out OJ.out | with_reducible exact KS.out _ (Tc.out.alloc _) (IU.out.alloc _) (OJ.out.alloc _) | with_reducible exact KS.out _ VX.out KH.out KF.out | with_reducible exact KS.out _ (VX.out.alloc _) (KH.out.alloc _) (KF.out.alloc _) | with_reducible exact KS.out _ VY.out Gg.out Gf.out | with_reducible exact KS.out _ (VY.out.alloc _) (Gg.out.alloc _) (Gf.out.alloc _) | with_reducible exact KS.out _ VZ.out KI.out KG.out | with_reducible exact KS.out _ (VZ.out.alloc _) (KI.out.alloc _) (KG.out.alloc _) | with_reducible exact KS.out _ (yP.out.drew) (uI.out.drew) (uH.out.drew) | with_reducible exact KS.out _ (yP.out.drew.alloc _) (uI.out.drew.alloc _) (uH.out.drew.alloc _) | with_reducible exact KS.out _ ((yP.out.alloc _).drew) ((uI.out.alloc _).drew) ((uH.out.alloc _).drew) | exact KS.out _ (Tc.out.bz (by have h1 := UT.out; have h2 := Kr.out; have h3 := LH.out; have h4 := Og.out; have h5 := VO.out; have h6 := GE.out; simp; omega) _ _ _) (IU.out.mF (by have h1 := UT.out; have h2 := Kr.out; have h3 := LH.out; have h4 := Og.out; have h5 := VO.out; omega)) (OJ.out.mF (by have h1 := UT.out; have h2 := Kr.out; have h3 := LH.out; have h4 := Og.out; have h5 := VO.out; omega)))
       (first
         | (go_at_call 100
            first
             | (with_reducible refine (lT g (s || b1 || b2 || b3 || b4 || b5) b6 n n 0 Ai ik.length di _ R13.out).mono ?_)
             | (with_reducible refine (lT g (s || b1 || b2 || b3 || b4 || b5) b6 n n 0 Ai ik.length di _ (R13.out.alloc _)).mono ?_)
            rintro e PU ⟨rfl, hr, hg⟩
            have R14 := Lib.hid hr
            have Tc := Lib.hid (by first | exact VX.out.touch hg GL.out | exact (VX.out.alloc _).touch hg GL.out)
            have IU := Lib.hid (by first | exact Row.grown (KH.out) hg (by have h1 := GL.out; have h2 := HKB.out; have h3 := GX.out; have h4 := GE.out; simp; omega) | exact Row.grown ((KH.out.alloc _)) hg (by have h1 := GL.out; have h2 := HKB.out; have h3 := GX.out; have h4 := GE.out; simp; omega))
            have Tn := Lib.hid (by first | exact Row.grown (Tq.out) hg (by have h1 := GL.out; have h2 := HKB.out; have h3 := GX.out; have h4 := GE.out; simp; omega) | exact Row.grown ((Tq.out.alloc _)) hg (by have h1 := GL.out; have h2 := HKB.out; have h3 := GX.out; have h4 := GE.out; simp; omega))
            have OJ := Lib.hid (by first | exact Row.grown (KF.out) hg (by have h1 := GL.out; have h2 := HKB.out; have h3 := GX.out; have h4 := GE.out; simp; omega) | exact Row.grown ((KF.out.alloc _)) hg (by have h1 := GL.out; have h2 := HKB.out; have h3 := GX.out; have h4 := GE.out; simp; omega))
            have Sv := Lib.hid (by first | exact Own.touch (Sz.out) hg (by have h1 := GL.out; omega) | exact Own.touch ((Sz.out.alloc _)) hg (by have h1 := GL.out; omega))
            have RU := Lib.hid (by first | exact Own.touch (RY.out) hg (by have h1 := GL.out; omega) | exact Own.touch ((RY.out.alloc _)) hg (by have h1 := GL.out; omega))
            have SE := Lib.hid (by first | exact Own.touch (SG.out) hg (by have h1 := GL.out; omega) | exact Own.touch ((SG.out.alloc _)) hg (by have h1 := GL.out; omega))
            have VO : Hid (wt.heap.size ≤ PU.heap.size ∧ Gn.heap.size ≤ PU.heap.size) := Lib.hid (by have h1 := hg.size; have h2 := Og.out; first | omega | (simp at h1; omega))
            first
             | (have F_ := Lib.hid (Row.grown TD.out hg (by have h1 := GL.out; have h4 := GE.out; have h5 := UT.out; have h6 := Og.out; have h7 := LH.out; have h8 := Kr.out; simp; omega))
                have kc := F_.out.cell
                have kf := F_.out.free)
             | (have F_ : Hid (Row PU Gn.heap.size 31 #[I 0, I 0, .slice none 0 0]) := Lib.hid (Row.grown (Row.new Gn 31 #[I 0, I 0, .slice none 0 0]) hg (by have h1 := GL.out; have h4 := GE.out; have h5 := UT.out; have h6 := Og.out; have h7 := LH.out; have h8 := Kr.out; simp; omega))
                have kc := F_.out.cell
                have kf := F_.out.free)
             | skip
            clear hr hg)
         | (go_at_call 127
            first
             | (with_reducible refine (Zj.out _ _ _ SN.out SI.out Ue.out).mono ?_)
             | (with_reducible refine (Zj.out _ _ _ (SN.out.alloc _) (SI.out.alloc _) Ue.out).mono ?_)
            rintro e Gn ⟨v, rfl, ho, hb⟩
            obtain ⟨Ai, di, rfl, _, _⟩ := Own.reads ho
            have SG : Hid (Own Gn (w.heap.size + 4) (.slice Ai ik.length di) ik) := Lib.hid (Own.lower ho (by have h1 := UT.out; have h4 := GE.out; have h5 := LH.out; first | omega | (simp; omega)))
            have YO := Lib.hid ho.row.lt
            have VX := Lib.hid (by first | exact VY.out.below hb | exact (VY.out.alloc _).below hb)
            have KH := Lib.hid (by first | exact Row.below (Gg.out) hb (Gg.out).lt | exact Row.below ((Gg.out.alloc _)) hb ((Gg.out.alloc _)).lt)
            have Tq := Lib.hid (by first | exact Row.below (Kz.out) hb (Kz.out).lt | exact Row.below ((Kz.out.alloc _)) hb ((Kz.out.alloc _)).lt)
            have KF := Lib.hid (by first | exact Row.below (Gf.out) hb (Gf.out).lt | exact Row.below ((Gf.out.alloc _)) hb ((Gf.out.alloc _)).lt)
            have Sz := Lib.hid (by first | exact SA.out.below hb | exact (SA.out.alloc _).below hb)
            have RY := Lib.hid (by first | exact R_.out.below hb | exact (R_.out.alloc _).below hb)
            have R13 := Lib.hid (by first | exact Row.below (R12.out) hb (R12.out).lt | exact Row.below ((R12.out.alloc _)) hb ((R12.out.alloc _)).lt)
            have Og : Hid (wt.heap.size ≤ Gn.heap.size ∧ w12.heap.size ≤ Gn.heap.size) := Lib.hid (by have h1 := hb.size; have h2 := LH.out; first | omega | (simp at h1; omega))
            first
             | (have TD := Lib.hid (Row.below IP.out hb IP.out.lt))
             | (have TD : Hid (Row Gn w12.heap.size 31 #[I 0, I 0, .slice none 0 0]) := Lib.hid (Row.below (Row.new w12 31 #[I 0, I 0, .slice none 0 0]) hb (by simp)))
             | skip
            clear hb ho)
         | (go_at_call 100
            first
             | (with_reducible refine (lT g (s || b1 || b2 || b3 || b4) b5 n n 0 Ah kh.length dh _ R11.out).mono ?_)
             | (with_reducible refine (lT g (s || b1 || b2 || b3 || b4) b5 n n 0 Ah kh.length dh _ (R11.out.alloc _)).mono ?_)
            rintro e w12 ⟨rfl, hr, hg⟩
            have R12 := Lib.hid hr
            have VY := Lib.hid (by first | exact VZ.out.touch hg GL.out | exact (VZ.out.alloc _).touch hg GL.out)
            have Gg := Lib.hid (by first | exact Row.grown (KI.out) hg (by have h1 := GL.out; have h2 := HKB.out; have h3 := GX.out; have h4 := GE.out; simp; omega) | exact Row.grown ((KI.out.alloc _)) hg (by have h1 := GL.out; have h2 := HKB.out; have h3 := GX.out; have h4 := GE.out; simp; omega))
            have Kz := Lib.hid (by first | exact Row.grown (Tt.out) hg (by have h1 := GL.out; have h2 := HKB.out; have h3 := GX.out; have h4 := GE.out; simp; omega) | exact Row.grown ((Tt.out.alloc _)) hg (by have h1 := GL.out; have h2 := HKB.out; have h3 := GX.out; have h4 := GE.out; simp; omega))
            have Gf := Lib.hid (by first | exact Row.grown (KG.out) hg (by have h1 := GL.out; have h2 := HKB.out; have h3 := GX.out; have h4 := GE.out; simp; omega) | exact Row.grown ((KG.out.alloc _)) hg (by have h1 := GL.out; have h2 := HKB.out; have h3 := GX.out; have h4 := GE.out; simp; omega))
            have SA := Lib.hid (by first | exact Own.touch (SC.out) hg (by have h1 := GL.out; omega) | exact Own.touch ((SC.out.alloc _)) hg (by have h1 := GL.out; omega))
            have R_ := Lib.hid (by first | exact Own.touch (Si.out) hg (by have h1 := GL.out; omega) | exact Own.touch ((Si.out.alloc _)) hg (by have h1 := GL.out; omega))
            have SN := Lib.hid (by first | exact Own.touch (SS.out) hg (by have h1 := GL.out; omega) | exact Own.touch ((SS.out.alloc _)) hg (by have h1 := GL.out; omega))
            have SI := Lib.hid (by first | exact Own.touch (SL.out) hg (by have h1 := GL.out; omega) | exact Own.touch ((SL.out.alloc _)) hg (by have h1 := GL.out; omega))
            have LH : Hid (wt.heap.size ≤ w12.heap.size ∧ Gi.heap.size ≤ w12.heap.size) := Lib.hid (by have h1 := hg.size; have h2 := Kr.out; first | omega | (simp at h1; omega))
            first
             | (have IP := Lib.hid (Row.grown OD.out hg (by have h1 := GL.out; have h4 := GE.out; have h5 := UT.out; have h6 := Kr.out; simp; omega)))
             | (have IP : Hid (Row w12 Gi.heap.size 31 #[I 0, I 0, .slice none 0 0]) := Lib.hid (Row.grown (Row.new Gi 31 #[I 0, I 0, .slice none 0 0]) hg (by have h1 := GL.out; have h4 := GE.out; have h5 := UT.out; have h6 := Kr.out; simp; omega)))
             | skip
            clear hr hg)
         | (go_at_call 101
            first
             | (with_reducible refine (Uo.out _ yP.out.drew.gr yN.out.drew).mono ?_)
             | (with_reducible refine (Uo.out _ (yP.out.drew.alloc _).gr (yN.out.drew.alloc _)).mono ?_)
             | (with_reducible refine (Uo.out _ (yP.out.alloc _).drew.gr (yN.out.alloc _).drew).mono ?_)
            rintro e Gi ⟨v, rfl, ho, hb⟩
            obtain ⟨Ah, dh, rfl, hch, rah⟩ := Own.reads ho
            have Ue := Lib.hid hch
            have SL : Hid (Own Gi (w.heap.size + 4) (.slice Ah kh.length dh) kh) := Lib.hid (Own.lower ho (by have h1 := UT.out; have h4 := GE.out; first | omega | (simp; omega)))
            have VZ := Lib.hid (by first | exact yP.out.drew.below hb | exact (yP.out.drew.alloc _).below hb | exact (yP.out.alloc _).drew.below hb)
            have KI := Lib.hid (by first | exact Row.below (uI.out.drew) hb (uI.out.drew).lt | exact Row.below ((uI.out.drew.alloc _)) hb ((uI.out.drew.alloc _)).lt | exact Row.below ((uI.out.alloc _).drew) hb ((uI.out.alloc _).drew).lt)
            have Tt := Lib.hid (by first | exact Row.below (yQ.out.drew) hb (yQ.out.drew).lt | exact Row.below ((yQ.out.drew.alloc _)) hb ((yQ.out.drew.alloc _)).lt | exact Row.below ((yQ.out.alloc _).drew) hb ((yQ.out.alloc _).drew).lt)
            have KG := Lib.hid (by first | exact Row.below (uH.out.drew) hb (uH.out.drew).lt | exact Row.below ((uH.out.drew.alloc _)) hb ((uH.out.drew.alloc _)).lt | exact Row.below ((uH.out.alloc _).drew) hb ((uH.out.alloc _).drew).lt)
            have SC := Lib.hid (by first | exact yN.out.drew.below hb | exact (yN.out.drew.alloc _).below hb | exact (yN.out.alloc _).drew.below hb)
            have Si := Lib.hid (by first | exact FW.out.drew.below hb | exact (FW.out.drew.alloc _).below hb | exact (FW.out.alloc _).drew.below hb)
            have SS := Lib.hid (by first | exact IL.out.drew.below hb | exact (IL.out.drew.alloc _).below hb | exact (IL.out.alloc _).drew.below hb)
            have R11 := Lib.hid (by first | exact Row.below (R10.out.drew) hb (R10.out.drew).lt | exact Row.below ((R10.out.drew.alloc _)) hb ((R10.out.drew.alloc _)).lt | exact Row.below ((R10.out.alloc _).drew) hb ((R10.out.alloc _).drew).lt)
            have Kr : Hid (wt.heap.size ≤ Gi.heap.size ∧ wt.heap.size ≤ Gi.heap.size) := Lib.hid (by have h1 := hb.size; first | omega | (simp at h1; omega))
            first
             | (have OD : Hid (Row Gi wt.heap.size 31 #[I 0, I 0, .slice none 0 0]) := Lib.hid (Row.below (Row.new wt.drew 31 #[I 0, I 0, .slice none 0 0]) hb (by simp)))
             | (have OD : Hid (Row Gi wt.heap.size 31 #[I 0, I 0, .slice none 0 0]) := Lib.hid (Row.below (Row.new wt 31 #[I 0, I 0, .slice none 0 0]).drew hb (by simp)))
             | skip
            clear hb ho hch rah))
      all_goals
       show K10 _ _
       have z0 := UT.out
       have z1 := Kr.out
       have z2 := LH.out
       have z3 := Og.out
       have z4 := VO.out
       have zg := GL.out
       have ze := GE.out
       first
        | (refine IK.out _ _ _ _ _ _ _ _ _ _ _ _ _ _ _ _ _ _ _ _ _ _ _ _ _ _ _ _ _ _ _ _ _ _ _ _ _ _ _ _ _ _ _ _ _ _ _ _ _ _ _ _ _ _ _ _ _ _ _ _ _ _ _ _ _ _ _ _ _ _ _ _ (Tc.out.alloc _) (IU.out.alloc _) (Sv.out.alloc _) (Tn.out.alloc _) (RU.out.alloc _) (Row.new _ _ _) (SE.out.alloc _) (R14.out.alloc _) (by omega))
        | (refine IK.out _ _ _ _ _ _ _ _ _ _ _ _ _ _ _ _ _ _ _ _ _ _ _ _ _ _ _ _ _ _ _ _ _ _ _ _ _ _ _ _ _ _ _ _ _ _ _ _ _ _ _ _ _ _ _ _ _ _ _ _ _ _ _ _ _ _ _ _ _ _ _ _ (Tc.out.bz (by simp; omega) _ _ _) (IU.out.mF (by omega)) (Own.jm Sv.out (fun q hq => ?_) _ _ _) (Tn.out.mF (by omega)) (Own.jm RU.out (fun q hq => ?_) _ _ _) (F_.out.bz _ _ _) (Own.jm SE.out (fun q hq => ?_) _ _ _) (R14.out.mF (by omega)) (by omega)
           · injection hq with hq
             dsimp only at hq
             omega
           · have h1 := UX.out q hq
             omega
           · have h1 := YO.out q hq
             first | omega | (simp at h1; omega) | (have h2 := OD.out.lt; omega) | (have h2 := IP.out.lt; omega) | (simp at h1; have h2 := IP.out.lt; omega)))
     clear Ri
     have U0 : Hid (w.heap.size + 4 ≤ wr.heap.size ∧ kb < wr.heap.size ∧ bk < wr.heap.size) := Lib.hid ⟨by have h1 := N5.out.rows.le N5.out.gr.size; simpa using h1, Bg.out.lt, (OK.out.row.lt bk rfl).2⟩
     have VR := Lib.hid (fun w' (o : Own w' (w.heap.size + 4) (.slice (some ⟨bk, 0, none⟩) k.length ck) k) rk rp rg => qM g kb w.heap.size n (s || b1 || b2) (some ⟨bk, 0, none⟩) ck k y w' HH.out.2 AV.out (Own.rd o).1 (Own.rd o).2 rk rp rg)
     rw [HT2.out.Z7, HT2.out.XX] at VR
     have Wh := Lib.hid (fun A' c' w' (h : w.grownBy w' (some g)) (ha : Rd w' A' sy) hc => yw n 1 A1 A' c1 c' lx sy w' HH.out.2 (by omega) HX.out (by rw [← HT2.out.Z7]; exact upto_length) (TX.out _ h) ha CX.out hc)
     rw [HT2.out.ex, HT2.out.eb4] at Wh
     simp only [eo] at Wh
     go_region_held3 (fun w' => (∀ o, w'.cell? ⟨w.heap.size, o, none⟩ = #[.pointer (some ⟨g, 0, none⟩)][o]?) ∧ (∀ o, w'.cell? ⟨w.heap.size + 1, o, none⟩ = #[I n, I 1, .slice A1 lx.length c1, I n, I n, .slice A2 lp.length c2][o]?) ∧ (∀ o, w'.cell? ⟨w.heap.size + 1 + 1, o, none⟩ = #[I 1, I n, .slice A3 lh.length c3][o]?))
      (first | with_reducible exact KK.out _ M4.out | with_reducible exact KK.out _ (M4.out.alloc _) | with_reducible exact KK.out _ M3.out | with_reducible exact KK.out _ (M3.out.alloc _) | with_reducible exact KK.out _ M2.out | with_reducible exact KK.out _ (M2.out.alloc _) | with_reducible exact KK.out _ N5.out.drew | with_reducible exact KK.out _ (N5.out.drew.alloc _) | with_reducible exact KK.out _ (N5.out.alloc _).drew | exact KK.out _ (M4.out.bz (by have := U0.out; have := U2.out; have := U3.out; have := U4.out; simp; omega) _ _ _))
      (first
        | (go_at_call 100
           first
            | (with_reducible refine (lT g (s || b1 || b2 || b3) b4 n 1 0 Ax x.length dx _ R3.out).mono ?_)
            | (with_reducible refine (lT g (s || b1 || b2 || b3) b4 n 1 0 Ax x.length dx _ (R3.out.alloc _)).mono ?_)
           rintro e w4 ⟨rfl, hr4, hg4⟩
           have R4 := Lib.hid hr4
           have M4 := Lib.hid (by first | exact M3.out.touch hg4 GL.out | exact (M3.out.alloc _).touch hg4 GL.out)
           have KM4 := Lib.hid (by first | exact Row.grown (KM3.out) hg4 (by have h1 := GL.out; have h2 := HKB.out; simp; omega) | exact Row.grown ((KM3.out.alloc _)) hg4 (by have h1 := GL.out; have h2 := HKB.out; simp; omega))
           have OK4 := Lib.hid (by first | exact Own.touch (OK3.out) hg4 (by have h1 := GL.out; omega) | exact Own.touch ((OK3.out.alloc _)) hg4 (by have h1 := GL.out; omega))
           have PL := Lib.hid (by first | exact Own.touch (OX3.out) hg4 (by have h1 := GL.out; omega) | exact Own.touch ((OX3.out.alloc _)) hg4 (by have h1 := GL.out; omega))
           have U4 : Hid (w3.heap.size ≤ w4.heap.size) := Lib.hid (by have h1 := hg4.size; first | omega | (simp at h1; omega))
           first
            | (have PE := Lib.hid (Row.grown XB3.out hg4 (by have h1 := GL.out; have h2 := U0.out; have h3 := U2.out; simp; omega))
               have kc := PE.out.cell
               have kf := PE.out.free)
            | (have PE : Hid (Row w4 w3.heap.size 31 #[I 0, I 0, .slice none 0 0]) := Lib.hid (Row.grown (Row.new w3 31 #[I 0, I 0, .slice none 0 0]) hg4 (by have h1 := GL.out; have h2 := U0.out; have h3 := U2.out; have h4 := U3.out; simp; omega))
               have kc := PE.out.cell
               have kf := PE.out.free)
            | skip
           clear hr4 hg4)
        | (go_at_call 102
           first
            | (with_reducible refine (Wh.out _ _ _ M2.out.gr RA.out CS.out).mono ?_)
            | (with_reducible refine (Wh.out _ _ _ (M2.out.alloc _).gr (RA.out.below ((Below.refl _ _).alloc (Nat.le_refl _) _)) CS.out).mono ?_)
           rintro e w3 ⟨v, rfl, ho, hb⟩
           obtain ⟨Ax, dx, rfl, _, _⟩ := Own.reads ho
           have OX3 : Hid (Own w3 (w.heap.size + 4) (.slice Ax x.length dx) x) := Lib.hid (Own.lower ho (by have h1 := U2.out; have h2 := U0.out; first | omega | (simp; omega)))
           have YL := Lib.hid ho.row.lt
           have M3 := Lib.hid (by first | exact M2.out.below hb | exact (M2.out.alloc _).below hb)
           have KM3 := Lib.hid (by first | exact Row.below (V5.out) hb (V5.out).lt | exact Row.below ((V5.out.alloc _)) hb ((V5.out.alloc _)).lt)
           have OK3 := Lib.hid (by first | exact LU.out.below hb | exact (LU.out.alloc _).below hb)
           have R3 := Lib.hid (by first | exact Row.below (R2.out) hb (R2.out).lt | exact Row.below ((R2.out.alloc _)) hb ((R2.out.alloc _)).lt)
           have U3 : Hid (w2.heap.size ≤ w3.heap.size) := Lib.hid (by have h1 := hb.size; first | omega | (simp at h1; omega))
           first
            | (have XB3 := Lib.hid (Row.below VM.out hb VM.out.lt))
            | (have XB3 : Hid (Row w3 w2.heap.size 31 #[I 0, I 0, .slice none 0 0]) := Lib.hid (Row.below (Row.new w2 31 #[I 0, I 0, .slice none 0 0]) hb (by simp)))
            | skip
           clear hb ho)
        | (go_at_call 124
           first
            | (with_reducible refine (VR.out _ OK.out.drew Bg.out.drew N5.out.drew.r0 R5.out.drew).mono ?_)
            | (with_reducible refine (VR.out _ (OK.out.drew.alloc _) (Bg.out.drew.alloc _) (N5.out.drew.alloc _).r0 (R5.out.drew.alloc _)).mono ?_)
            | (with_reducible refine (VR.out _ (OK.out.alloc _).drew (Bg.out.alloc _).drew (N5.out.alloc _).drew.r0 (R5.out.alloc _).drew).mono ?_)
           rintro e w2 ⟨As, cs, rfl, ho, hr, hg2⟩
           have RA := Lib.hid (Own.rd ho).1
           have CS := Lib.hid (Own.rd ho).2
           have R2 := Lib.hid hr
           have M2 := Lib.hid (by first | exact N5.out.drew.touch hg2 GL.out | exact (N5.out.drew.alloc _).touch hg2 GL.out | exact (N5.out.alloc _).drew.touch hg2 GL.out)
           have V5 := Lib.hid (by first | exact Row.grown (Bg.out.drew) hg2 (by have h1 := GL.out; have h2 := HKB.out; simp; omega) | exact Row.grown ((Bg.out.drew.alloc _)) hg2 (by have h1 := GL.out; have h2 := HKB.out; simp; omega) | exact Row.grown ((Bg.out.alloc _).drew) hg2 (by have h1 := GL.out; have h2 := HKB.out; simp; omega))
           have LU := Lib.hid (by first | exact Own.touch (OK.out.drew) hg2 (by have h1 := GL.out; omega) | exact Own.touch ((OK.out.drew.alloc _)) hg2 (by have h1 := GL.out; omega) | exact Own.touch ((OK.out.alloc _).drew) hg2 (by have h1 := GL.out; omega))
           have U2 : Hid (wr.heap.size ≤ w2.heap.size) := Lib.hid (by have h1 := hg2.size; first | omega | (simp at h1; omega))
           first
            | (have VM : Hid (Row w2 wr.heap.size 31 #[I 0, I 0, .slice none 0 0]) := Lib.hid (Row.grown (Row.new wr.drew 31 #[I 0, I 0, .slice none 0 0]) hg2 (by have h1 := GL.out; have h2 := U0.out; simp; omega)))
            | (have VM : Hid (Row w2 wr.heap.size 31 #[I 0, I 0, .slice none 0 0]) := Lib.hid (Row.grown (Row.new wr 31 #[I 0, I 0, .slice none 0 0]).drew hg2 (by have h1 := GL.out; have h2 := U0.out; simp; omega)))
            | skip
           clear hr hg2 ho))
     all_goals
      show K8 _ _
      have z0 := U0.out
      have z2 := U2.out
      have z3 := U3.out
      have z4 := U4.out
      have zg := GL.out
      first
       | (refine AO.out _ _ _ _ _ _ _ _ _ _ _ _ _ _ _ _ _ _ _ _ _ _ _ _ _ _ _ _ _ _ _ _ _ _ _ _ _ _ _ _ _ _ _ _ _ _ _ _ (M4.out.alloc _) (KM4.out.alloc _) (OK4.out.alloc _) (Row.new _ _ _) (PL.out.alloc _) (R4.out.alloc _) (by omega) (fun q hq => ?_)
          have h1 := (PL.out.row.lt q hq).2
          omega)
       | (refine AO.out _ _ _ _ _ _ _ _ _ _ _ _ _ _ _ _ _ _ _ _ _ _ _ _ _ _ _ _ _ _ _ _ _ _ _ _ _ _ _ _ _ _ _ _ _ _ _ _ (M4.out.bz (by simp; omega) _ _ _) (KM4.out.mF (by omega)) (Own.jm OK4.out (fun q hq => ?_) _ _ _) (PE.out.bz _ _ _) (Own.jm PL.out (fun q hq => ?_) _ _ _) (R4.out.mF (by omega)) (by omega) (fun q hq => ?_)
          · injection hq with hq
            dsimp only at hq
            omega
          all_goals
           have h1 := YL.out q hq
           first | omega | (simp at h1; omega) | (have h2 := VM.out.lt; omega))
   have hlt : (j : Int) < k0.length := by omega
   have hj0 : (0 : Int) ≤ j := by omega
   have hjlt : j < k0.length := by omega
   have HJ := Lib.hid hjlt
   have STEP : Hid (j + 1 ≤ k0.length ∧ k0.length - (j + 1) < k0.length - j) := Lib.hid (by omega)
   have hw64 : IntKind.i64.wrap ((j : Int) + 1) = (j : Int) + 1 := by have := HKL.out; simp [IntKind.wrap, IntKind.bits, IntKind.signed]; omega
   have hq := O5.out.cellAt j (by omega)
   rw [List.getElem?_map, zV sv k0 j (by omega)] at hq
   have hset : Hid ((nD sv k0 j).set j (xy (k0.getD j 0) sv).1 = nD sv k0 (j + 1)) := Lib.hid (Fz sv k0 j (by omega))
   have hsb : Hid (vZ sv k0 (j + 1) = (vZ sv k0 j || (xy (k0.getD j 0) sv).2)) := Lib.hid (FB sv k0 j (by omega))
   have DV := Lib.hid (fun w => Fv (k0.getD j 0) sv w)
   obtain ⟨q, eq⟩ : ∃ q, k0.getD j 0 = q := ⟨_, rfl⟩
   rw [eq] at hq hset hsb DV
   obtain ⟨d, ed⟩ : ∃ d, xy q sv = d := ⟨_, rfl⟩
   rw [ed] at hset hsb DV
   obtain ⟨d1, d2⟩ := d
   dsimp only at hset hsb DV
   have cq : wr.cell? ⟨bk, j, none⟩ = some (I q) := hq
   have CE : Hid (((nD sv k0 j).map I)[j]? = some (I q)) := Lib.hid (by rw [List.getElem?_map, zV sv k0 j hjlt, eq]; rfl)
   clear hq eq ed hj hjk hjlt
   have K5 : Hid (∀ w', Sg w g [(156, #[.pointer (some ⟨g, 0, none⟩)]), (33, #[I n, I 1, .slice A1 lx.length c1, I n, I n, .slice A2 lp.length c2]), (31, #[I 1, I n, .slice A3 lh.length c3]), (33, #[I 0, I 0, .slice none 0 0, I 0, I 0, .slice none 0 0])] w' → Row w' kb 31 #[I n, I 1, .slice (some ⟨bk, 0, none⟩) k0.length ck] → (∀ o, w'.cell? ⟨kb, o, none⟩ = #[I n, I 1, .slice (some ⟨bk, 0, none⟩) k0.length ck][o]?) ∧ (∀ o, w'.cell? ⟨w.heap.size, o, none⟩ = #[.pointer (some ⟨g, 0, none⟩)][o]?)) := Lib.hid (fun w' h h' => ⟨h'.cell, h.r0.cell⟩)
   go_wp2_with fail
   go_region_held3 (fun w' => (∀ o, w'.cell? ⟨kb, o, none⟩ = #[I n, I 1, .slice (some ⟨bk, 0, none⟩) k0.length ck][o]?) ∧ (∀ o, w'.cell? ⟨w.heap.size, o, none⟩ = #[.pointer (some ⟨g, 0, none⟩)][o]?))
    (first | with_reducible exact K5.out _ N7.out YX.out | with_reducible exact K5.out _ N6.out KB6.out | with_reducible exact K5.out _ N5.out.drew Bg.out.drew | exact K5.out _ (N7.out.set (p := ⟨bk, j, none⟩) Ze.out _) (YX.out.far (p := ⟨bk, j, none⟩) HNE.out.symm _))
    (first
      | (go_at_call 119
         refine (qR g (s || b1 || vZ sv k0 j) d2 d1 _ R6.out).mono ?_
         rintro e w7 ⟨rfl, Zy, U6⟩
         have R7 := Lib.hid Zy
         have N7 := Lib.hid (N6.out.touch U6 GL.out)
         have YX := Lib.hid (KB6.out.grown U6 (by have := GL.out; have := HKB.out; simp; omega))
         have O7 := Lib.hid (jO O6.out (fun q hq => U6.block q (O6.out.lt q hq).2 (fun e => by have h1 := (O6.out.lt q hq).1; have h2 := GL.out; injection e with e; omega)))
         have c7 : w7.cell? ⟨bk, j, none⟩ = some (I q) := by
          have h := O7.out.cellAt j (by have := HJ.out; omega)
          rw [h]
          exact CE.out
         have f7 := O7.out.frozenAt j
         clear Zy U6)
      | (go_at_call 93
         refine (DV.out _).mono ?_
         rintro e w6 ⟨rfl, hb⟩
         have N6 := Lib.hid (N5.out.drew.below hb)
         have KB6 := Lib.hid (Bg.out.drew.below hb Bg.out.lt)
         have O6 := Lib.hid (jO O5.out.drew (fun q hq => hb.block q (O5.out.lt q hq).2))
         have R6 := Lib.hid (R5.out.drew.below hb R5.out.lt)
         clear hb))
   have O8 := Lib.hid (O7.out.stored j (I d1)).1
   go_wp2
   go_roundw
   case rel => exact ⟨j + 1, STEP.out.1, by go_num, N7.out.set (p := ⟨bk, j, none⟩) Ze.out _, YX.out.far (p := ⟨bk, j, none⟩) HNE.out.symm _, by have := O8.out; rw [← hset.out, List.map_set]; exact this, by rw [hsb.out, ← Bool.or_assoc]; exact R7.out.far (p := ⟨bk, j, none⟩) (by have := GL.out; have := Ze.out; dsimp only; omega) _⟩
   case measure =>
    have h := STEP.out.2
    show k0.length - ((j : Int) + 1).toNat < k0.length - ((j : Int)).toNat
    rw [show ((j : Int) + 1).toNat = j + 1 by omega, show ((j : Int)).toNat = j by omega]
    exact h)
 clear aK1
 go_region_held3 (fun w' => (∀ o, w'.cell? ⟨w.heap.size, o, none⟩ = #[.pointer (some ⟨g, 0, none⟩)][o]?) ∧ (∀ o, w'.cell? ⟨w.heap.size + 1, o, none⟩ = #[I n, I 1, .slice A1 lx.length c1, I n, I n, .slice A2 lp.length c2][o]?) ∧ (∀ o, w'.cell? ⟨w.heap.size + 1 + 1, o, none⟩ = #[I 1, I n, .slice A3 lh.length c3][o]?))
  (first | with_reducible exact KK.out _ N4.out | with_reducible exact KK.out _ (N4.out.alloc _) | with_reducible exact KK.out _ N3.out | with_reducible exact KK.out _ (N3.out.alloc _) | with_reducible exact KK.out _ N2.out | with_reducible exact KK.out _ (N2.out.alloc _) | with_reducible exact KK.out _ N.out.drew | with_reducible exact KK.out _ (N.out.drew.alloc _) | with_reducible exact KK.out _ (N.out.alloc _).drew | with_reducible exact KK.out _ N.out | with_reducible exact KK.out _ (N.out.alloc _) | exact KK.out _ (N4.out.bz (by have := S4.out; have := SZ.out; have := S2.out; have := S3.out; simp; omega) _ _ _))
  (first
   | (go_at_call 100
      first
       | (with_reducible refine (lT g s b1 n 1 0 Ak k0.length ck _ RG3.out).mono ?_)
       | (with_reducible refine (lT g s b1 n 1 0 Ak k0.length ck _ (RG3.out.alloc _)).mono ?_)
      rintro e w4 ⟨rfl, hr4, hg4⟩
      have R4 := Lib.hid hr4
      have O4 := Lib.hid (by first | exact Own.touch O3.out hg4 (by have := GL.out; omega) | exact Own.touch (O3.out.alloc _) hg4 (by have := GL.out; omega))
      have N4 := Lib.hid (by first | exact N3.out.touch hg4 GL.out | exact (N3.out.alloc _).touch hg4 GL.out)
      have S4 : Hid (w.heap.size + 4 ≤ w4.heap.size ∧ w3.heap.size ≤ w4.heap.size) := Lib.hid (by have h1 := hg4.size; have h2 := S3.out; first | omega | (simp at h1; omega))
      first
       | (have PS := Lib.hid (Row.grown KB3.out hg4 (by have := GL.out; have := S2.out; have := SZ.out; simp; omega))
          have kc := PS.out.cell
          have kf := PS.out.free)
       | (have PS : Hid (Row w4 w3.heap.size 31 #[I 0, I 0, .slice none 0 0]) := Lib.hid (Row.grown (Row.new w3 31 #[I 0, I 0, .slice none 0 0]) hg4 (by have := GL.out; have := S3.out; simp; omega))
          have kc := PS.out.cell
          have kf := PS.out.free)
       | skip
      clear hr4 hg4)
   | (go_at_call 101
      first
       | (with_reducible refine (HM.out At ct _ N2.out.gr RA.out).mono ?_)
       | (with_reducible refine (HM.out At ct _ (N2.out.alloc _).gr (RA.out.below ((Below.refl _ _).alloc (Nat.le_refl _) _))).mono ?_)
      rintro e w3 ⟨v, rfl, ho, hb⟩
      obtain ⟨Ak, ck, rfl, _, _⟩ := Own.reads ho
      have O3 : Hid (Own w3 (w.heap.size + 4) (.slice Ak k0.length ck) k0) := Lib.hid (Own.lower ho (by have := S2.out; first | omega | (simp; omega)))
      have N3 := Lib.hid (by first | exact N2.out.below hb | exact (N2.out.alloc _).below hb)
      have RG3 := Lib.hid (by first | exact Row.below (PK.out) hb (PK.out).lt | exact Row.below ((PK.out.alloc _)) hb ((PK.out.alloc _)).lt)
      have S3 : Hid (w.heap.size + 4 ≤ w3.heap.size) := Lib.hid (by have h1 := hb.size; have h2 := S2.out; first | omega | (simp at h1; omega))
      first
       | (have KB3 := Lib.hid (Row.below V7.out hb V7.out.lt))
       | (have KB3 : Hid (Row w3 w2.heap.size 31 #[I 0, I 0, .slice none 0 0]) := Lib.hid (Row.below (Row.new w2 31 #[I 0, I 0, .slice none 0 0]) hb (by simp)))
       | skip
      have YL := Lib.hid ho.row.lt
      clear hb ho)
   | (go_at_call 77
      first
       | (with_reducible refine (HT.out _ N.out.drew.gr).mono ?_)
       | (with_reducible refine (HT.out _ (N.out.drew.alloc _).gr).mono ?_)
       | (with_reducible refine (HT.out _ (N.out.alloc _).drew.gr).mono ?_)
      rintro e w2 ⟨v, rfl, ho, hb⟩
      obtain ⟨At, ct, rfl, _, ra⟩ := Own.reads ho
      have RA := Lib.hid ra
      have N2 := Lib.hid (by first | exact N.out.drew.below hb | exact (N.out.drew.alloc _).below hb | exact (N.out.alloc _).drew.below hb)
      have PK := Lib.hid (by first | exact Row.below (RG.out.drew) hb (RG.out.drew).lt | exact Row.below ((RG.out.drew.alloc _)) hb ((RG.out.drew.alloc _)).lt | exact Row.below ((RG.out.alloc _).drew) hb ((RG.out.alloc _).drew).lt)
      have S2 : Hid (w.heap.size + 4 ≤ w2.heap.size) := Lib.hid (by have h1 := hb.size; have h2 := SZ.out; first | omega | (simp at h1; omega))
      first
       | (have V7 : Hid (Row w2 wr.heap.size 31 #[I 0, I 0, .slice none 0 0]) := Lib.hid (Row.below (Row.new wr.drew 31 #[I 0, I 0, .slice none 0 0]) hb (by simp)))
       | (have V7 : Hid (Row w2 wr.heap.size 31 #[I 0, I 0, .slice none 0 0]) := Lib.hid (Row.below (Row.new wr 31 #[I 0, I 0, .slice none 0 0]).drew hb (by simp)))
       | skip
      clear hb ra ho))
 all_goals
  show K1 _ _
  have z0 := SZ.out
  have z2 := S2.out
  have z3 := S3.out
  have z4 := S4.out
  have zg := GL.out
  first
   | (refine LQ.out _ _ _ _ _ _ _ _ _ _ _ _ _ _ (N4.out.alloc _) (Row.new _ _ _) (O4.out.alloc _) (R4.out.alloc _) (by omega) (fun q hq => ?_)
      have h1 := (O4.out.row.lt q hq).2
      omega)
   | (refine LQ.out _ _ _ _ _ _ _ _ _ _ _ _ _ _ (N4.out.bz (by simp; omega) _ _ _) (PS.out.bz _ _ _) (Own.jm O4.out (fun q hq => ?_) _ _ _) (R4.out.mF (by omega)) (by omega) (fun q hq => ?_)
      all_goals
       have h1 := YL.out q hq
       first | omega | (simp at h1; omega) | (have h2 := V7.out.lt; omega))
end Go.Proofs.Ytnijhjbcjeohhaa.PR

namespace Go.Proofs.Ytnijhjbcjeohhaa.PR
open Go.RowKit Go.Proofs.Ytnijhjbcjeohhaa.PQ Go.Proofs.af.aF Go.Proofs.af.aP Go.Proofs.af.aQ Go.Proofs.Ytnijhjbcjeohhaa.KK
set_option linter.unusedVariables false
set_option linter.unusedSimpArgs false
def UE (n : Nat) (lp lh : List Int) : List Int := mulL n n 1 lp (qJ 1 n lh)
def tK (n : Nat) (lp lh : List Int) (sv : Int) : List Int := (UE n lp lh).map (fun q => (xy q sv).1)
def tX (n : Nat) (lx lp lh : List Int) (y sv : Int) : List Int := gW gu n 1 lx (jk n 1 (tK n lp lh sv) y)
def tI (n : Nat) (lp lh : List Int) (sv : Int) : List Int := gW jE n n (kG n) (mulL n 1 n (tK n lp lh sv) lh)
def PW (n : Nat) (lp lh : List Int) (sv r : Int) : List Int := mulL n 1 n (jk n 1 (tK n lp lh sv) r) (qJ n 1 (tK n lp lh sv))
def tP (n : Nat) (lp lh : List Int) (sv r : Int) : List Int := qZ n (gW gu n n (gm n n (tI n lp lh sv) lp) (PW n lp lh sv r))
def tB (n : Nat) (lx lp lh : List Int) (y sv r : Int) (s : Bool) : Bool :=
 s || nR n n 1 lp (qJ 1 n lh) || (UE n lp lh).any (fun q => (xy q sv).2) || scaleB n 1 (tK n lp lh sv) y || iK gu n 1 lx (jk n 1 (tK n lp lh sv) y) || nR n 1 n (tK n lp lh sv) lh || iK jE n n (kG n) (mulL n 1 n (tK n lp lh sv) lh) || kR n n (tI n lp lh sv) lp || scaleB n 1 (tK n lp lh sv) r || nR n 1 n (jk n 1 (tK n lp lh sv) r) (qJ n 1 (tK n lp lh sv)) || iK gu n n (gm n n (tI n lp lh sv) lp) (PW n lp lh sv r)
theorem Gp (n : Nat) (lx lp lh : List Int) (s : Bool) (y sv r : Int) : LJ n lx lp lh s y sv r (qJ 1 n lh) (UE n lp lh) (tK n lp lh sv) (jk n 1 (tK n lp lh sv) y) (tX n lx lp lh y sv) (mulL n 1 n (tK n lp lh sv) lh) (tI n lp lh sv) (gm n n (tI n lp lh sv) lp) (jk n 1 (tK n lp lh sv) r) (qJ n 1 (tK n lp lh sv)) (PW n lp lh sv r) (gW gu n n (gm n n (tI n lp lh sv) lp) (PW n lp lh sv r)) (tP n lp lh sv r)
 (nR n n 1 lp (qJ 1 n lh)) ((UE n lp lh).any (fun q => (xy q sv).2)) (scaleB n 1 (tK n lp lh sv) y) (iK gu n 1 lx (jk n 1 (tK n lp lh sv) y)) (nR n 1 n (tK n lp lh sv) lh) (iK jE n n (kG n) (mulL n 1 n (tK n lp lh sv) lh)) (kR n n (tI n lp lh sv) lp) (scaleB n 1 (tK n lp lh sv) r) (nR n 1 n (jk n 1 (tK n lp lh sv) r) (qJ n 1 (tK n lp lh sv))) (iK gu n n (gm n n (tI n lp lh sv) lp) (PW n lp lh sv r)) :=
 ⟨rfl, rfl, rfl, rfl, rfl, rfl, rfl, rfl, rfl, rfl, rfl, rfl, rfl, rfl, rfl, rfl, rfl, rfl, rfl, rfl, rfl, rfl, rfl⟩
end Go.Proofs.Ytnijhjbcjeohhaa.PR

namespace Go.Proofs.Ytnijhjbcjeohhaa.PR
open Go.RowKit Go.Proofs.Ytnijhjbcjeohhaa.PQ Go.Proofs.af.aF Go.Proofs.af.aP Go.Proofs.af.aQ Go.Proofs.Ytnijhjbcjeohhaa.KK
set_option linter.unusedVariables false
set_option linter.unusedSimpArgs false
theorem Rd.blk {w : World} {A : Option Addr} {l : List Int} (h : Rd w A l) : ∀ ad, A = some ad → 0 < l.length → ad.block < w.heap.size := fun ad e hp => by
 obtain ⟨b, off, e2, hb, _⟩ := Rd.cells h hp
 rw [e] at e2
 injection e2 with e2
 subst e2
 exact hb
theorem yg {w : World} {B : Nat} {a b c d e f : Value} {fn : Func} {k i j m : Nat} {tmps : Array Value} (h : fn.results = #[.cell k 33, .tmp i, .tmp j, .tmp m]) (hk : tmps.getD k undef = .pointer (some ⟨B, 0, none⟩)) (R : Row w B 33 #[a, b, c, d, e, f]) :
 (results fn tmps).run Try.prog w = .ok (.tuple #[.agg #[a, b, c, d, e, f], tmps.getD i undef, tmps.getD j undef, tmps.getD m undef]) w := by
 have c := R.cell
 have hk' : tmps[k]?.getD undef = .pointer (some ⟨B, 0, none⟩) := by simpa using hk
 simp only [results, h]
 simp [go_sem, hk', c]
theorem Eo (n : Nat) (A1 A2 A3 : Option Addr) (c1 c2 c3 : Nat) (lx lp lh : List Int) (z r gate y s q1 q2 : Int) (o f1 f2 : Bool) (w : World) (h1 : 1 ≤ n) (h8 : n ≤ 8) (hx : lx.length = n * 1) (hp : lp.length = n * n) (hh : lh.length = 1 * n)
 (rx : Rd w A1 lx) (cx : lx.length ≤ c1) (rp : Rd w A2 lp) (cp : lp.length ≤ c2) (rh : Rd w A3 lh) (ch : lh.length ≤ c3)
 (hm : PQ.dw.f 1000 n 1 lx n n lp 1 n lh r = some 0) (hi : cu.f false n 1 lx n n lp 1 n lh z r = some (y, s, o)) (h2 : gZ y y = (q1, f1)) (h3 : gZ gate s = (q2, f2)) (h4 : ¬ q1 > q2) (h5 : ¬ s ≤ 0) :
 Calls Try.prog 105 #[.agg #[I n, I 1, .slice A1 lx.length c1, I n, I n, .slice A2 lp.length c2], .agg #[I 1, I n, .slice A3 lh.length c3], I z, I r, I gate] w fun e w' => ∃ Ax dx Ap dp, e = .returned (.tuple #[.agg #[I n, I 1, .slice Ax (tX n lx lp lh y s).length dx, I n, I n, .slice Ap (tP n lp lh s r).length dp], .bool true, .bool (tB n lx lp lh y s r (o || f1 || f2)), I 0]) ∧ Own w' w.heap.size (.slice Ax (tX n lx lp lh y s).length dx) (tX n lx lp lh y s) ∧ Own w' w.heap.size (.slice Ap (tP n lp lh s r).length dp) (tP n lp lh s r) ∧ (∀ k, (Value.slice Ax (tX n lx lp lh y s).length dx).ownBlock = some k → (Value.slice Ap (tP n lp lh s r).length dp).ownBlock ≠ some k) ∧ Below w.heap.size w w' := by
 have N : Hid (aV w [(33, #[I n, I 1, .slice A1 lx.length c1, I n, I n, .slice A2 lp.length c2]), (31, #[I 1, I n, .slice A3 lh.length c3]), (33, #[I 0, I 0, .slice none 0 0, I 0, I 0, .slice none 0 0])] (((w.alloc (.cells #[I n, I 1, .slice A1 lx.length c1, I n, I n, .slice A2 lp.length c2] 33)).alloc (.cells #[I 1, I n, .slice A3 lh.length c3] 31)).alloc (.cells #[I 0, I 0, .slice none 0 0, I 0, I 0, .slice none 0 0] 33))) := Lib.hid ((((aV.none w).push (by simp) _ _).push (by simp) _ _).push (by simp) _ _)
 have RX := Lib.hid rx
 have RP := Lib.hid rp
 have RH := Lib.hid rh
 have CX := Lib.hid cx
 have CP := Lib.hid cp
 have CH := Lib.hid ch
 have HM := Lib.hid hm
 have HI := Lib.hid hi
 have H2 := Lib.hid h2
 have H3 := Lib.hid h3
 have HT := Lib.hid (And.intro (And.intro h1 h8) (And.intro hx (And.intro hp hh)))
 have e4 : decide (q1 > q2) = false := decide_eq_false h4
 have e5 : decide (s ≤ 0) = false := decide_eq_false h5
 clear rx rp rh cx cp ch hm hi h1 h8 hx hp hh h2 h3 h4 h5
 go_enter Try.func105, Try.ntmps105
 go_wp2_with fail
 refine (PQ.dw.calls 1000 n 1 A1 c1 lx n n A2 c2 lp 1 n A3 c3 lh r 0 _ (RX.out.below N.out.be) CX.out (RP.out.below N.out.be) CP.out (RH.out.below N.out.be) CH.out HM.out).mono ?_
 rintro e w1 ⟨rfl, hb⟩
 have N1 := Lib.hid (N.out.below hb)
 have y0 := N1.out.r0.cell
 have y1 := N1.out.r1.cell
 have t0 := N1.out.r0.lt
 have t1 := N1.out.r1.lt
 clear hb N
 have G1 := Lib.hid (Row.new w1 158 #[.bool false])
 have N2 := Lib.hid (N1.out.alloc (.cells #[.bool false] 158))
 have GE : Hid (w.heap.size + 3 ≤ w1.heap.size) := Lib.hid (by have h := N1.out.rows.le N1.out.be.size; simpa using h)
 have FX : Hid (∀ ad, A1 = some ad → 0 < lx.length → ad.block ≠ w1.heap.size) := Lib.hid (fun ad e hp => by have h1 := Rd.blk RX.out ad e hp; have h2 := GE.out; omega)
 have FP : Hid (∀ ad, A2 = some ad → 0 < lp.length → ad.block ≠ w1.heap.size) := Lib.hid (fun ad e hp => by have h1 := Rd.blk RP.out ad e hp; have h2 := GE.out; omega)
 have FH : Hid (∀ ad, A3 = some ad → 0 < lh.length → ad.block ≠ w1.heap.size) := Lib.hid (fun ad e hp => by have h1 := Rd.blk RH.out ad e hp; have h2 := GE.out; omega)
 go_wp2_with fail
 refine (cu.calls w1.heap.size false n 1 A1 c1 lx n n A2 c2 lp 1 n A3 c3 lh z r y s o w _ ⟨G1.out, by have h := GE.out; omega⟩ N2.out.be (RX.out.below N2.out.be) CX.out FX.out (RP.out.below N2.out.be) CP.out FP.out (RH.out.below N2.out.be) CH.out FH.out HI.out).mono ?_
 rintro e w2 ⟨rfl, hs, hb, hk⟩
 have R2 : Hid (Row w2 w1.heap.size 158 #[.bool o]) := Lib.hid hs.1
 have N3 := Lib.hid (N2.out.app (grown_of N2.out.be hb hk) (fun g e => by injection e with e; have h := GE.out; simp; omega))
 clear hs hb hk y0 y1 t0 t1
 go_wp2_with fail
 refine (gQ y y w2).mono ?_
 rw [H2.out]
 rintro e w3 ⟨rfl, hb⟩
 have R3 := Lib.hid (Row.below R2.out hb R2.out.lt)
 have N4 := Lib.hid (N3.out.below hb)
 clear hb
 go_wp2_with fail
 refine (qR w1.heap.size o f1 q1 w3 R3.out).mono ?_
 rintro e w4 ⟨rfl, hr, hg⟩
 have R4 := Lib.hid hr
 have N5 := Lib.hid (N4.out.app hg (fun g e => by injection e with e; have h := GE.out; simp; omega))
 clear hr hg
 go_wp2_with fail
 refine (gQ gate s w4).mono ?_
 rw [H3.out]
 rintro e w5 ⟨rfl, hb⟩
 have R5 := Lib.hid (Row.below R4.out hb R4.out.lt)
 have N6 := Lib.hid (N5.out.below hb)
 clear hb
 go_wp2_with fail
 refine (qR w1.heap.size (o || f1) f2 q2 w5 R5.out).mono ?_
 rintro e w6 ⟨rfl, hr, hg⟩
 have R6 := Lib.hid hr
 have N7 := Lib.hid (N6.out.app hg (fun g e => by injection e with e; have h := GE.out; simp; omega))
 clear hr hg
 have y0 := N7.out.r0.cell
 have y1 := N7.out.r1.cell
 go_wp2_with fail
 refine (yV w w6 w1.heap.size n (o || f1 || f2) y s r A1 A2 A3 c1 c2 c3 lx lp lh _ _ _ _ _ _ _ _ _ _ _ _ _ _ _ _ _ _ _ _ _ _ _ HT.out.1.1 HT.out.1.2 HT.out.2.1 HT.out.2.2.1 HT.out.2.2.2 (Gp n lx lp lh (o || f1 || f2) y s r) R6.out (by have h := GE.out; omega) N7.out.be (RX.out.below N7.out.be) CX.out FX.out (RP.out.below N7.out.be) CP.out FP.out (RH.out.below N7.out.be) CH.out FH.out).mono ?_
 rintro e w7 ⟨Ax, dx, Ap, dp, rfl, ox, op, hne, hr, hg⟩
 have N8 := Lib.hid (N7.out.app hg (fun g e => by injection e with e; have h := GE.out; simp; omega))
 have R8 := Lib.hid hr
 have OX := Lib.hid ox
 have OP := Lib.hid op
 have NE := Lib.hid hne
 have BE : Hid (w.heap.size + 3 ≤ w6.heap.size) := Lib.hid (by have h := N7.out.rows.le N7.out.be.size; simpa using h)
 obtain ⟨X, hX⟩ : ∃ X, tX n lx lp lh y s = X := ⟨_, rfl⟩
 obtain ⟨P, hP⟩ : ∃ P, tP n lp lh s r = P := ⟨_, rfl⟩
 obtain ⟨fl, hfl⟩ : ∃ fl, tB n lx lp lh y s r (o || f1 || f2) = fl := ⟨_, rfl⟩
 have R8' : Hid (Row w7 w1.heap.size 158 #[.bool fl]) := Lib.hid (by rw [← hfl]; exact R8.out)
 have HX := Lib.hid hX
 have HP := Lib.hid hP
 have OW := Lib.hid hfl
 rw [hX] at OX NE ⊢
 rw [hP] at OP NE ⊢
 clear hX hP hfl R8 ox op hne hr hg y0 y1 N1 N2 N3 N4 N5 N6 N7 R2 R3 R4 R5 R6
 have N9 := Lib.hid (N8.out.alloc (.cells #[I n, I 1, .slice Ax X.length dx, I n, I n, .slice Ap P.length dp] 33))
 have R9 := Lib.hid (Row.alloc R8'.out (.cells #[I n, I 1, .slice Ax X.length dx, I n, I n, .slice Ap P.length dp] 33))
 have T9 := Lib.hid (Row.new w7 33 #[I n, I 1, .slice Ax X.length dx, I n, I n, .slice Ap P.length dp])
 have Ku := Lib.hid (OX.out.alloc (.cells #[I n, I 1, .slice Ax X.length dx, I n, I n, .slice Ap P.length dp] 33))
 have OP9 := Lib.hid (OP.out.alloc (.cells #[I n, I 1, .slice Ax X.length dx, I n, I n, .slice Ap P.length dp] 33))
 have BF : Hid (w.heap.size + 3 ≤ w7.heap.size ∧ w.heap.size + 3 ≤ w1.heap.size) := Lib.hid ⟨by have h := N8.out.rows.le N8.out.be.size; simpa using h, GE.out⟩
 go_wp2_with fail
 obtain ⟨w8, hw8⟩ : ∃ w8, w7.alloc (.cells #[I n, I 1, .slice Ax X.length dx, I n, I n, .slice Ap P.length dp] 33) = w8 := ⟨_, rfl⟩
 rw [hw8] at N9 R9 T9 Ku OP9
 change Code.wp Try.prog _ _ _ (w7.alloc (.cells #[I n, I 1, .slice Ax X.length dx, I n, I n, .slice Ap P.length dp] 33))
 rw [hw8]
 clear hw8
 have x2 := N9.out.r2.cell
 have g2 := N9.out.r2.free
 have KS : Hid (∀ w', Row w' w7.heap.size 33 #[I n, I 1, .slice Ax X.length dx, I n, I n, .slice Ap P.length dp] → Row w' w1.heap.size 158 #[.bool fl] → (∀ o, w'.cell? ⟨w7.heap.size, o, none⟩ = #[I n, I 1, .slice Ax X.length dx, I n, I n, .slice Ap P.length dp][o]?) ∧ (∀ o, w'.cell? ⟨w1.heap.size, o, none⟩ = #[.bool fl][o]?)) := Lib.hid (fun w' a b => ⟨a.cell, b.cell⟩)
 go_region_held3 (fun w' => (∀ o, w'.cell? ⟨w7.heap.size, o, none⟩ = #[I n, I 1, .slice Ax X.length dx, I n, I n, .slice Ap P.length dp][o]?) ∧ (∀ o, w'.cell? ⟨w1.heap.size, o, none⟩ = #[.bool fl][o]?))
  (first | with_reducible exact KS.out _ T9.out.drew R9.out.drew | with_reducible exact KS.out _ (Row.drew (Row.ou T9.out (C := w.heap.size + 1 + 1) (by have h := BF.out; omega) _ _ _ _ _ _)) (Row.drew (Row.ou R9.out (C := w.heap.size + 1 + 1) (by have h := BF.out; omega) _ _ _ _ _ _)))
  (fail)
 go_wp2
 have zb := BF.out
 have zc := BE.out
 refine bodyPost_ret (yg rfl rfl (Row.drew (Row.dO N9.out.r2 _ _ _ _ _ _))) rfl ?_
 rw [HX.out, HP.out, OW.out]
 refine ⟨_, _, _, _, rfl, ?_, ?_, NE.out, ?_⟩
 · exact ((Own.dO Ku.out (by omega) _ _ _ _ _ _).drew).lower (by omega)
 · exact ((Own.dO OP9.out (by omega) _ _ _ _ _ _).drew).lower (by omega)
 · have hbb := N9.out.be
   exact ((((((hbb.setCell (p := ⟨w.heap.size + 1 + 1, 0, none⟩) (by dsimp only; omega) _).setCell (p := ⟨w.heap.size + 1 + 1, 1, none⟩) (by dsimp only; omega) _).setCell (p := ⟨w.heap.size + 1 + 1, 2, none⟩) (by dsimp only; omega) _).setCell (p := ⟨w.heap.size + 1 + 1, 3, none⟩) (by dsimp only; omega) _).setCell (p := ⟨w.heap.size + 1 + 1, 4, none⟩) (by dsimp only; omega) _).setCell (p := ⟨w.heap.size + 1 + 1, 5, none⟩) (by dsimp only; omega) _).drew
end Go.Proofs.Ytnijhjbcjeohhaa.PR

namespace Go.Proofs.Ytnijhjbcjeohhaa.PR
open Go.RowKit Go.Proofs.Ytnijhjbcjeohhaa.PQ Go.Proofs.af.aF Go.Proofs.af.aP Go.Proofs.af.aQ Go.Proofs.Ytnijhjbcjeohhaa.KK
set_option linter.unusedVariables false
set_option linter.unusedSimpArgs false
theorem Below.dO {B C : Nat} {w0 w : World} (h : Below B w0 w) (hC : B ≤ C) (a b c d e f : Value) : Below B w0 (dO w C a b c d e f) :=
 (((((h.setCell (p := ⟨C, 0, none⟩) hC a).setCell (p := ⟨C, 1, none⟩) hC b).setCell (p := ⟨C, 2, none⟩) hC c).setCell (p := ⟨C, 3, none⟩) hC d).setCell (p := ⟨C, 4, none⟩) hC e).setCell (p := ⟨C, 5, none⟩) hC f
theorem bal {w0 w : World} (h : Below w0.heap.size w0 w) (o : Obj) : Below w0.heap.size w0 (w.alloc o) := h.alloc h.size o
theorem CV {w0 w : World} (h : Below w0.heap.size w0 w) : Below w0.heap.size w0 w.drew := h.drew
theorem DZ {w0 w w' : World} (h : Below w0.heap.size w0 w) (hb : Below w.heap.size w w') : Below w0.heap.size w0 w' := h.trans (hb.mono h.size)
theorem JZ (w : World) (r : Option Nat) : w.grownBy w r := KK.dI (Below.refl _ _) r
theorem iR {w w' : World} {r : Option Nat} (h : w.grownBy w' r) (o : Obj) : w.grownBy (w'.alloc o) r := KK.bI h (KK.dI ((Below.refl _ _).alloc (Nat.le_refl _) o) r)
theorem lu {w w' : World} {r : Option Nat} (h : w.grownBy w' r) : w.grownBy w'.drew r := KK.bI h (KK.dI (Below.refl _ _).drew r)
theorem zO {w w' w'' : World} {r : Option Nat} (h : w.grownBy w' r) (hb : Below w'.heap.size w' w'') : w.grownBy w'' r := KK.bI h (KK.dI hb r)
theorem Row.gr {w w' : World} {B g : Nat} {t : TypeId} {cs : Array Value} (h : Row w B t cs) (hg : w.grownBy w' (some g)) (hne : B ≠ g) : Row w' B t cs := h.grown hg (fun e => hne (by injection e))
theorem MK {w : World} {B : Nat} {a b c d e f : Value} {fn : Func} {k i j : Nat} {tmps : Array Value} (h : fn.results = #[.cell k 33, .tmp i, .tmp j]) (hk : tmps.getD k undef = .pointer (some ⟨B, 0, none⟩)) (R : Row w B 33 #[a, b, c, d, e, f]) :
 (results fn tmps).run Try.prog w = .ok (.tuple #[.agg #[a, b, c, d, e, f], tmps.getD i undef, tmps.getD j undef]) w := by
 have c := R.cell
 have hk' : tmps[k]?.getD undef = .pointer (some ⟨B, 0, none⟩) := by simpa using hk
 simp only [results, h]
 simp [go_sem, hk', c]
def J3 (r c n : Int) : Bool := decide (r = n ∧ c = n)
theorem vX (r c n : Int) (A : Option Addr) (m cp nb : Nat) (w : World) (R : Row w nb 3 #[I n]) :
 Calls Try.prog 99 #[.agg #[I r, I c, .slice A m cp], .pointer (some ⟨nb, 0, none⟩)] w fun e w' => e = .returned (.bool (J3 r c n)) ∧ Below w.heap.size w w' := by
 have hlt := R.lt
 have x := (R.alloc (.cells #[I r, I c, .slice A m cp] 31)).cell
 have HB : Hid (Below w.heap.size w (w.alloc (.cells #[I r, I c, .slice A m cp] 31))) := Lib.hid ((Below.refl _ _).alloc (Nat.le_refl _) _)
 have x2 := (Row.new w 31 #[I r, I c, .slice A m cp]).cell
 unfold J3
 clear R
 by_cases h1 : r = n
 · by_cases h2 : c = n
   · subst h1
     subst h2
     go_enter Try.func99, Try.ntmps99
     go_wp2
     go_ret
     exact ⟨by simp, HB.out⟩
   · subst h1
     have e2 : (c == r) = false := by simpa using h2
     have HD : Hid (decide (r = r ∧ c = r) = false) := Lib.hid (by simp [h2])
     clear h2
     go_enter Try.func99, Try.ntmps99
     go_wp2
     go_ret
     exact ⟨by have h := HD.out; simp at h; simp [h], HB.out⟩
 · have e1 : (r == n) = false := by simpa using h1
   have HD : Hid (decide (r = n ∧ c = n) = false) := Lib.hid (by simp [h1])
   clear h1
   go_enter Try.func99, Try.ntmps99
   go_wp2
   go_ret
   exact ⟨by first | rfl | (rw [HD.out]; rfl), HB.out⟩
end Go.Proofs.Ytnijhjbcjeohhaa.PR

namespace Go.Proofs.Ytnijhjbcjeohhaa.PR
open Go.RowKit Go.Proofs.Ytnijhjbcjeohhaa.PQ Go.Proofs.af.aF Go.Proofs.af.aP Go.Proofs.af.aQ Go.Proofs.Ytnijhjbcjeohhaa.KK
set_option linter.unusedVariables false
set_option linter.unusedSimpArgs false
theorem xu (n : Int) : J3 n n n = true := by simp [J3]
structure Told (n : Nat) (lx lp lf lq X B M P : List Int) (b1 b2 b3 : Bool) : Prop where
 eX : mulL n n 1 lf lx = X
 X_ : nR n n 1 lf lx = b1
 eB : gm n n lf lp = B
 XZ : kR n n lf lp = b2
 eM : gW gu n n B lq = M
 XX : iK gu n n B lq = b3
 eP : qZ n M = P
theorem wY (n : Nat) (A1 A2 A3 A4 : Option Addr) (c1 c2 c3 c4 : Nat) (lx lp lf lq X B M P : List Int) (b1 b2 b3 : Bool) (w : World) (h1 : 1 ≤ n) (h8 : n ≤ 8) (hx : lx.length = n * 1) (hp : lp.length = n * n) (hf : lf.length = n * n) (hq : lq.length = n * n) (T : Told n lx lp lf lq X B M P b1 b2 b3)
 (rx : Rd w A1 lx) (cx : lx.length ≤ c1) (rp : Rd w A2 lp) (cp : lp.length ≤ c2) (rf : Rd w A3 lf) (cf : lf.length ≤ c3) (rq : Rd w A4 lq) (cq : lq.length ≤ c4) :
 Calls Try.prog 68 #[.agg #[I n, I 1, .slice A1 lx.length c1, I n, I n, .slice A2 lp.length c2], .agg #[I n, I n, .slice A3 lf.length c3], .agg #[I n, I n, .slice A4 lq.length c4]] w fun e w' => ∃ Ax dx Ap dp, e = .returned (.tuple #[.agg #[I n, I 1, .slice Ax X.length dx, I n, I n, .slice Ap P.length dp], .bool (b1 || b2 || b3), I 0]) ∧ Own w' w.heap.size (.slice Ax X.length dx) X ∧ Own w' w.heap.size (.slice Ap P.length dp) P ∧ (∀ k, (Value.slice Ax X.length dx).ownBlock = some k → (Value.slice Ap P.length dp).ownBlock ≠ some k) ∧ Below w.heap.size w w' := by
 have N : Hid (aV w [(33, #[I n, I 1, .slice A1 lx.length c1, I n, I n, .slice A2 lp.length c2]), (31, #[I n, I n, .slice A3 lf.length c3]), (31, #[I n, I n, .slice A4 lq.length c4]), (33, #[I 0, I 0, .slice none 0 0, I 0, I 0, .slice none 0 0]), (3, #[I n])] (((((w.alloc (.cells #[I n, I 1, .slice A1 lx.length c1, I n, I n, .slice A2 lp.length c2] 33)).alloc (.cells #[I n, I n, .slice A3 lf.length c3] 31)).alloc (.cells #[I n, I n, .slice A4 lq.length c4] 31)).alloc (.cells #[I 0, I 0, .slice none 0 0, I 0, I 0, .slice none 0 0] 33)).alloc (.cells #[I n] 3))) := Lib.hid ((((((aV.none w).push (by simp) _ _).push (by simp) _ _).push (by simp) _ _).push (by simp) _ _).push (by simp) _ _)
 have RX := Lib.hid rx
 have RP := Lib.hid rp
 have RF := Lib.hid rf
 have RQ := Lib.hid rq
 have CX := Lib.hid cx
 have CP := Lib.hid cp
 have CF := Lib.hid cf
 have CQ := Lib.hid cq
 have HH := Lib.hid (And.intro (And.intro h1 h8) (And.intro hx (And.intro hp (And.intro hf hq))))
 have HT := Lib.hid T
 have hmf := KK.hmf
 clear rx rp rf rq cx cp cf cq h1 h8 hx hp hf hq T
 go_enter Try.func68, Try.ntmps68
 go_wp2_with fail
 refine (vX n n n A3 lf.length c3 _ _ N.out.r4).mono ?_
 rw [xu]
 rintro e w1 ⟨rfl, hb⟩
 have N1 := Lib.hid (N.out.below hb)
 clear hb N
 have y2 := N1.out.r2.cell
 have y4 := N1.out.r4.cell
 go_wp2_with fail
 refine (vX n n n A4 lq.length c4 _ _ N1.out.r4).mono ?_
 rw [xu]
 rintro e w2 ⟨rfl, hb⟩
 have N2 := Lib.hid (N1.out.below hb)
 clear hb N1 y2 y4
 have G2 := Lib.hid (Row.new w2 158 #[.bool false])
 have N3 := Lib.hid (N2.out.alloc (.cells #[.bool false] 158))
 have GE : Hid (w.heap.size + 5 ≤ w2.heap.size) := Lib.hid (by have h := N2.out.rows.le N2.out.be.size; simpa using h)
 have FX : Hid (∀ ad, A1 = some ad → 0 < lx.length → ad.block ≠ w2.heap.size) := Lib.hid (fun ad e hp => by have h1 := Rd.blk RX.out ad e hp; have h2 := GE.out; omega)
 have FP : Hid (∀ ad, A2 = some ad → 0 < lp.length → ad.block ≠ w2.heap.size) := Lib.hid (fun ad e hp => by have h1 := Rd.blk RP.out ad e hp; have h2 := GE.out; omega)
 have FF : Hid (∀ ad, A3 = some ad → 0 < lf.length → ad.block ≠ w2.heap.size) := Lib.hid (fun ad e hp => by have h1 := Rd.blk RF.out ad e hp; have h2 := GE.out; omega)
 have FQ : Hid (∀ ad, A4 = some ad → 0 < lq.length → ad.block ≠ w2.heap.size) := Lib.hid (fun ad e hp => by have h1 := Rd.blk RQ.out ad e hp; have h2 := GE.out; omega)
 have y0 := N2.out.r0.cell
 have y1 := N2.out.r1.cell
 have t0 := N2.out.r0.lt
 have t1 := N2.out.r1.lt
 have HM : Hid (∀ w', Rd w' A3 lf → Rd w' A1 lx → Calls Try.prog 101 #[.agg #[I n, I n, .slice A3 lf.length c3], .agg #[I n, I 1, .slice A1 lx.length c1]] w' fun e w'' => ∃ v, e = .returned (.tuple #[.agg #[I n, I 1, v], .bool b1, I 0]) ∧ Own w'' w'.heap.size v X ∧ Below w'.heap.size w' w'') := Lib.hid (fun w' h h' => by
  have hh := qV n n 1 A3 A1 c3 c1 lf lx w' HH.out.1.2 HH.out.1.2 (by omega) HH.out.2.2.2.1 HH.out.2.1 h h'
  rw [HT.out.eX, HT.out.X_] at hh
  exact hh)
 go_wp2_with fail
 refine (HM.out _ (RF.out.below N3.out.be) (RX.out.below N3.out.be)).mono ?_
 rintro e w3 ⟨v, rfl, ho, hb⟩
 obtain ⟨Ax, dx, rfl, _, _⟩ := Own.reads ho
 have OX := Lib.hid ho
 have N4 := Lib.hid (N3.out.below hb)
 have G3 := Lib.hid (G2.out.below hb G2.out.lt)
 have L3 : Hid (w2.heap.size + 1 ≤ w3.heap.size) := Lib.hid (by have h := hb.size; simpa using h)
 clear ho hb y0 y1 t0 t1 N3 G2
 go_wp2_with fail
 refine (lT w2.heap.size false b1 n 1 0 Ax X.length dx w3 G3.out).mono ?_
 rintro e w4 ⟨rfl, hr, hg⟩
 have PL := Lib.hid (Own.touch OX.out hg (by simp))
 have N5 := Lib.hid (N4.out.app hg (fun g e => by injection e with e; have h := GE.out; simp; omega))
 have R4 := Lib.hid hr
 have L4 : Hid (w2.heap.size + 1 ≤ w4.heap.size) := Lib.hid (by have h := hg.size; have h2 := L3.out; omega)
 clear hr hg N4 G3 OX
 have x0 := N5.out.r0.cell
 go_wp2_with fail
 rename_i K8 Ri
 have N6 := Lib.hid (N5.out.alloc (.cells #[I n, I 1, .slice Ax X.length dx] 31))
 have VT := Lib.hid (Row.new w4 31 #[I n, I 1, .slice Ax X.length dx])
 have RJ : Hid (Own (w4.alloc (.cells #[I n, I 1, .slice Ax X.length dx] 31)) (w2.heap.size + 1) (.slice Ax X.length dx) X) := Lib.hid (Own.lower (PL.out.alloc (.cells #[I n, I 1, .slice Ax X.length dx] 31)) (by simp))
 have R6 : Hid (Row (w4.alloc (.cells #[I n, I 1, .slice Ax X.length dx] 31)) w2.heap.size 158 #[.bool b1]) := Lib.hid (by have h := R4.out.alloc (.cells #[I n, I 1, .slice Ax X.length dx] 31); simpa using h)
 have L6 : Hid (w2.heap.size + 1 ≤ w4.heap.size ∧ (w4.alloc (.cells #[I n, I 1, .slice Ax X.length dx] 31)).heap.size = w4.heap.size + 1) := Lib.hid ⟨L4.out, by simp⟩
 clear x0 N5 PL R4 L4 L3
 obtain ⟨wr, hwr⟩ : ∃ wr, w4.alloc (.cells #[I n, I 1, .slice Ax X.length dx] 31) = wr := ⟨_, rfl⟩
 rw [hwr] at N6 VT RJ R6 L6
 change Code.wp Try.prog _ _ _ (w4.alloc (.cells #[I n, I 1, .slice Ax X.length dx] 31))
 rw [hwr]
 clear hwr
 obtain ⟨kb, hkb⟩ : ∃ kb, w4.heap.size = kb := ⟨_, rfl⟩
 rw [hkb] at VT L6 ⊢
 obtain ⟨g, hg⟩ : ∃ g, w2.heap.size = g := ⟨_, rfl⟩
 rw [hg] at RJ R6 L6 FX FP FF FQ GE ⊢
 clear hkb hg
 have VP : Hid (∀ w', wr.grownBy w' (some g) → Row w' g 158 #[.bool b1] → Calls Try.prog 103 #[.pointer (some ⟨g, 0, none⟩), .agg #[I n, I n, .slice A3 lf.length c3], .agg #[I n, I n, .slice A2 lp.length c2]] w' fun e w'' => ∃ A c, e = .returned (.agg #[I n, I n, .slice A B.length c]) ∧ Own w'' w'.heap.size (.slice A B.length c) B ∧ Row w'' g 158 #[.bool (b1 || b2)] ∧ w'.grownBy w'' (some g)) := Lib.hid (fun w' h hr => by
  have hh := nX b1 n n lf lp HH.out.1.2 HH.out.1.2 HH.out.2.2.2.1 HH.out.2.2.1
  rw [HT.out.eB, HT.out.XZ] at hh
  have hb := oZ N6.out.be (by have := GE.out; omega) h
  exact sS w w' g b1 n n A3 c3 lf n n A2 c2 lp n n B (b1 || b2) hr (by have := GE.out; omega) hb (RF.out.below hb) CF.out FF.out (RP.out.below hb) CP.out FP.out hh)
 have Yj : Hid (∀ w' A c, wr.grownBy w' (some g) → Rd w' A B → B.length ≤ c → Calls Try.prog 102 #[.agg #[I n, I n, .slice A B.length c], .agg #[I n, I n, .slice A4 lq.length c4]] w' fun e w'' => ∃ v, e = .returned (.tuple #[.agg #[I n, I n, v], .bool b3, I 0]) ∧ Own w'' w'.heap.size v M ∧ Below w'.heap.size w' w'') := Lib.hid (fun w' A c h hr hc => by
  have hb := oZ N6.out.be (by have := GE.out; omega) h
  have hh := yw n n A A4 c c4 B lq w' HH.out.1.2 HH.out.1.2 (by rw [← HT.out.eB]; exact iQ _ _ _ _ _) HH.out.2.2.2.2 hr (RQ.out.below hb) hc CQ.out
  rw [HT.out.eM, HT.out.XX] at hh
  exact hh)
 have OH : Hid (∀ w', wr.grownBy w' (some g) → (∀ o, w'.cell? ⟨w.heap.size, o, none⟩ = #[I n, I 1, .slice A1 lx.length c1, I n, I n, .slice A2 lp.length c2][o]?) ∧ (∀ o, w'.cell? ⟨w.heap.size + 1, o, none⟩ = #[I n, I n, .slice A3 lf.length c3][o]?) ∧ (∀ o, w'.cell? ⟨w.heap.size + 1 + 1, o, none⟩ = #[I n, I n, .slice A4 lq.length c4][o]?)) := Lib.hid (fun w' h => ⟨(Row.gr N6.out.r0 h (by have := GE.out; omega)).cell, (Row.gr N6.out.r1 h (by have := GE.out; omega)).cell, (Row.gr N6.out.r2 h (by have := GE.out; omega)).cell⟩)
 have GN := Lib.hid (JZ wr (some g))
 have RG := Lib.hid R6.out
 have NG : Hid (wr.heap.size ≠ g ∧ g < wr.heap.size) := Lib.hid (by have := L6.out; omega)
 clear HM
 have AO : Hid (∀ (pb : Nat) (w9 : World) (Ab : Option Addr) (cb : Nat) (Am : Option Addr) (dm : Nat), wr.grownBy w9 (some g) → Row w9 pb 31 #[I n, I n, .slice Am M.length dm] → Rd w9 Am M → M.length ≤ dm → Row w9 g 158 #[.bool (b1 || b2 || b3)] → wr.heap.size ≤ pb → K8 { tmps := #[Value.agg #[I n, I 1, Value.slice A1 lx.length c1, I n, I n, Value.slice A2 lp.length c2], Value.agg #[I n, I n, Value.slice A3 lf.length c3], Value.agg #[I n, I n, Value.slice A4 lq.length c4], Value.pointer (some ⟨w.heap.size, 0, none⟩), Value.pointer (some ⟨w.heap.size + 1, 0, none⟩), Value.pointer (some ⟨w.heap.size + 1 + 1, 0, none⟩), Value.pointer (some ⟨w.heap.size + 1 + 1 + 1, 0, none⟩), Value.bool false, I 0, Value.pointer (some ⟨w.heap.size + 1 + 1 + 1 + 1, 0, none⟩), Value.func (Fn.func 99) #[] #[Value.pointer (some ⟨w.heap.size + 1 + 1 + 1 + 1, 0, none⟩)], Value.pointer (some ⟨g, 0, none⟩), Value.func (Fn.func 100) #[Value.pointer (some ⟨g, 0, none⟩)] #[], Value.pointer (some ⟨kb, 0, none⟩), Value.pointer (some ⟨pb, 0, none⟩), Value.pointer (some ⟨w.heap.size, 0, none⟩), Value.pointer (some ⟨w.heap.size, 0, none⟩), I n, Value.func (Fn.func 99) #[] #[Value.pointer (some ⟨w.heap.size + 1 + 1 + 1 + 1, 0, none⟩)], Value.func (Fn.func 99) #[] #[Value.pointer (some ⟨w.heap.size + 1 + 1 + 1 + 1, 0, none⟩)], Value.agg #[I n, I n, Value.slice A3 lf.length c3], Value.bool true, Value.bool false, Value.bool false, Value.func (Fn.func 99) #[] #[Value.pointer (some ⟨w.heap.size + 1 + 1 + 1 + 1, 0, none⟩)], Value.agg #[I n, I n, Value.slice A4 lq.length c4], Value.bool true, Value.bool false, Value.bool false, undef, Value.agg #[Value.bool false], Value.pointer (some ⟨g, 0, none⟩), Value.pointer (some ⟨g, 0, none⟩), Value.func (Fn.func 100) #[Value.pointer (some ⟨g, 0, none⟩)] #[], Value.func (Fn.func 100) #[Value.pointer (some ⟨g, 0, none⟩)] #[], Value.agg #[I n, I n, Value.slice A3 lf.length c3], Value.pointer (some ⟨w.heap.size, 0, none⟩), Value.agg #[I n, I 1, Value.slice A1 lx.length c1], Value.tuple #[Value.agg #[I n, I 1, Value.slice Ax X.length dx], Value.bool b1, I 0], Value.agg #[I n, I 1, Value.slice Ax X.length dx], Value.bool b1, I 0, Value.agg #[I n, I 1, Value.slice Ax X.length dx], Value.func (Fn.func 100) #[Value.pointer (some ⟨g, 0, none⟩)] #[], Value.pointer (some ⟨g, 0, none⟩), Value.agg #[I n, I n, Value.slice A3 lf.length c3], Value.pointer (some ⟨w.heap.size, 3, none⟩), Value.agg #[I n, I n, Value.slice A2 lp.length c2], Value.agg #[I n, I n, Value.slice Ab B.length cb], Value.agg #[I n, I n, Value.slice A4 lq.length c4], Value.tuple #[Value.agg #[I n, I n, Value.slice Am M.length dm], Value.bool b3, I 0], Value.agg #[I n, I n, Value.slice Am M.length dm], Value.bool b3, I 0, Value.agg #[I n, I n, Value.slice Am M.length dm], undef, undef, undef, undef, undef, undef, undef, undef], defers := [] } w9) := Lib.hid (by
  intro pb w9 Ab cb Am dm hgr hP hM hdm hR hpb
  refine Ri _ _ ?_
  have P9 := Lib.hid hP
  have R9 := Lib.hid hR
  have X9 := Lib.hid (Row.gr VT.out hgr (by have := L6.out; omega))
  have N9 : Hid (aV w [(33, #[I n, I 1, .slice A1 lx.length c1, I n, I n, .slice A2 lp.length c2]), (31, #[I n, I n, .slice A3 lf.length c3]), (31, #[I n, I n, .slice A4 lq.length c4]), (33, #[I 0, I 0, .slice none 0 0, I 0, I 0, .slice none 0 0]), (3, #[I n])] w9) := Lib.hid (N6.out.app hgr (fun g' e => by injection e with e; have h := GE.out; simp; omega))
  have Ku := Lib.hid (Own.touch RJ.out hgr (by omega))
  have XB : Hid (∀ k, (Value.slice Ax X.length dx).ownBlock = some k → k < w9.heap.size) := Lib.hid (fun k hk => by have h1 := (RJ.out.row.lt k hk).2; have h2 := hgr.size; omega)
  have S9 : Hid (w.heap.size + 5 ≤ g ∧ g < wr.heap.size ∧ wr.heap.size ≤ w9.heap.size ∧ wr.heap.size ≤ pb ∧ w.heap.size + 5 ≤ kb) := Lib.hid ⟨GE.out, NG.out.2, hgr.size, hpb, by have h := L6.out; have h2 := GE.out; omega⟩
  have T15 : Hid (∀ w', Below w9.heap.size w9 w' → Calls Try.prog 104 #[.agg #[I n, I n, .slice Am M.length dm]] w' fun e w'' => ∃ A c, e = .returned (.agg #[I n, I n, .slice A P.length c]) ∧ Own w'' w'.heap.size (.slice A P.length c) P ∧ Below w'.heap.size w' w'') := Lib.hid (fun w' h => by
   have hh := vV n Am dm M w' HH.out.1.2 (by rw [← HT.out.eM]; exact upto_length) (hM.below h) hdm
   rw [HT.out.eP] at hh
   exact hh)
  have V6 : Hid (∀ w', Row w' kb 31 #[I n, I 1, .slice Ax X.length dx] → Row w' pb 31 #[I n, I n, .slice Am M.length dm] → Row w' g 158 #[.bool (b1 || b2 || b3)] → (∀ o, w'.cell? ⟨kb, o, none⟩ = #[I n, I 1, .slice Ax X.length dx][o]?) ∧ (∀ o, w'.cell? ⟨pb, o, none⟩ = #[I n, I n, .slice Am M.length dm][o]?) ∧ (∀ o, w'.cell? ⟨g, o, none⟩ = #[.bool (b1 || b2 || b3)][o]?)) := Lib.hid (fun w' a b c => ⟨a.cell, b.cell, c.cell⟩)
  have B9 := Lib.hid (Below.refl w9.heap.size w9)
  clear hgr hP hM hdm hR hpb VP Yj OH GN RG NG N6 VT RJ R6 L6 Ri
  obtain ⟨fl, hfl⟩ : ∃ fl, (b1 || b2 || b3) = fl := ⟨_, rfl⟩
  have OW := Lib.hid hfl
  rw [hfl] at R9 V6
  clear hfl
  have x3 := N9.out.r3.cell
  have g3 := N9.out.r3.free
  have y3 := N9.out.r3.lt
  go_wp2_with fail
  go_region_held3 (fun w' => (∀ o, w'.cell? ⟨kb, o, none⟩ = #[I n, I 1, .slice Ax X.length dx][o]?) ∧ (∀ o, w'.cell? ⟨pb, o, none⟩ = #[I n, I n, .slice Am M.length dm][o]?) ∧ (∀ o, w'.cell? ⟨g, o, none⟩ = #[.bool fl][o]?))
   (first | with_reducible exact V6.out _ X9.out P9.out R9.out | with_reducible exact V6.out _ X9.out.drew P9.out.drew R9.out.drew | with_reducible exact V6.out _ (Row.ou X9.out (C := w.heap.size + 1 + 1 + 1) (by have h := S9.out; omega) _ _ _ _ _ _) (Row.ou P9.out (C := w.heap.size + 1 + 1 + 1) (by have h := S9.out; omega) _ _ _ _ _ _) (Row.ou R9.out (C := w.heap.size + 1 + 1 + 1) (by have h := S9.out; omega) _ _ _ _ _ _))
   (first
     | (go_at_call 104
        (with_reducible refine (T15.out _ (CV B9.out)).mono ?_)
        rintro e w10 ⟨Ap, dp, rfl, ho, hb⟩
        have OP := Lib.hid ho
        have Ku := Lib.hid (Ku.out.drew.below hb)
        have yP := Lib.hid (N9.out.drew.below hb)
        have x3 := yP.out.r3.cell
        have g3 := yP.out.r3.free
        have y3 := yP.out.r3.lt
        have X9 := Lib.hid (Row.below X9.out.drew hb X9.out.drew.lt)
        have P9 := Lib.hid (Row.below P9.out.drew hb P9.out.drew.lt)
        have R9 := Lib.hid (Row.below R9.out.drew hb R9.out.drew.lt)
        clear ho hb))
  all_goals
   go_wp2
   have z9 := S9.out
   have hd9 : w9.drew.heap.size = w9.heap.size := rfl
   refine bodyPost_ret (MK rfl rfl (Row.dO yP.out.r3 _ _ _ _ _ _)) rfl ?_
   rw [OW.out]
   refine ⟨_, _, _, _, rfl, ?_, ?_, ?_, ?_⟩
   · exact (Own.dO Ku.out (by omega) _ _ _ _ _ _).lower (by omega)
   · exact (Own.dO OP.out (by omega) _ _ _ _ _ _).lower (by omega)
   · intro k h1 h2
     have a := XB.out k h1
     have b := (OP.out.row.lt k h2).1
     omega
   · exact Below.dO yP.out.be (by omega) _ _ _ _ _ _)
 go_region_held3 (fun w' => (∀ o, w'.cell? ⟨w.heap.size, o, none⟩ = #[I n, I 1, .slice A1 lx.length c1, I n, I n, .slice A2 lp.length c2][o]?) ∧ (∀ o, w'.cell? ⟨w.heap.size + 1, o, none⟩ = #[I n, I n, .slice A3 lf.length c3][o]?) ∧ (∀ o, w'.cell? ⟨w.heap.size + 1 + 1, o, none⟩ = #[I n, I n, .slice A4 lq.length c4][o]?))
  (first | with_reducible exact OH.out _ GN.out | with_reducible exact OH.out _ (iR GN.out _) | with_reducible exact OH.out _ (lu GN.out) | with_reducible exact OH.out _ (iR (lu GN.out) _) | with_reducible exact OH.out _ (lu (iR GN.out _)) | ((with_reducible refine OH.out _ (qY GN.out ?_ _ _ _)); first | omega | (simp; omega) | simp))
  (first
    | (go_at_call 100
       first
        | ((with_reducible refine (lT g (b1 || b2) b3 n n 0 Am M.length dm _ RG.out).mono ?_)
           rintro e w7 ⟨rfl, hr, hg⟩
           have OM := Lib.hid (Own.touch OM.out hg (by omega))
           have NT : Hid (w6.heap.size ≠ g) := Lib.hid (by have h1 := GN.out.size; have h2 := NG.out; omega)
           have RG := Lib.hid hr
           have GN := Lib.hid (KK.bI GN.out hg)
           have z7 := GN.out.size
           first
            | (have TB := Lib.hid (Row.gr TB.out hg (by first | exact NG.out.1 | exact YP.out))
               have kc := TB.out.cell
               have kf := TB.out.free)
            | skip
           clear hr hg)
        | ((with_reducible refine (lT g (b1 || b2) b3 n n 0 Am M.length dm _ (Row.alloc RG.out _)).mono ?_)
           rintro e w7 ⟨rfl, hr, hg⟩
           have OM := Lib.hid (Own.touch (OM.out.alloc _) hg (by omega))
           have NT : Hid (w6.heap.size ≠ g) := Lib.hid (by have h1 := GN.out.size; have h2 := NG.out; omega)
           have RG := Lib.hid hr
           have GN := Lib.hid (KK.bI (iR GN.out _) hg)
           have z7 := GN.out.size
           have TB : Hid (Row w7 w6.heap.size 31 #[I 0, I 0, .slice none 0 0]) := Lib.hid (Row.gr (Row.new w6 31 #[I 0, I 0, .slice none 0 0]) hg NT.out)
           have zt := TB.out.lt
           have kc := TB.out.cell
           have kf := TB.out.free
           clear hr hg))
    | (go_at_call 102
       first
        | ((with_reducible refine (Yj.out _ _ _ GN.out OB.out.1 OB.out.2).mono ?_)
           rintro e w6 ⟨v, rfl, ho, hb⟩
           obtain ⟨Am, dm, rfl, _, _⟩ := Own.reads ho
           have YI := Lib.hid (fun q hq => ho.row.lt q hq)
           have OM : Hid (Own w6 (g + 1) (.slice Am M.length dm) M) := Lib.hid (Own.lower ho (by have h1 := GN.out.size; have h2 := NG.out; first | omega | (simp; omega)))
           have RG := Lib.hid (Row.below RG.out hb RG.out.lt)
           have YP : Hid (w5.heap.size ≠ g) := Lib.hid (by have h1 := GN.out.size; have h2 := NG.out; omega)
           have GN := Lib.hid (zO GN.out hb)
           have z6 := GN.out.size
           first
            | (have TB := Lib.hid (Row.below TB.out hb TB.out.lt)
               have kc := TB.out.cell
               have kf := TB.out.free)
            | skip
           clear ho hb)
        | ((with_reducible refine (Yj.out _ _ _ (iR GN.out _) (Rd.below OB.out.1 ((Below.refl _ _).alloc (Nat.le_refl _) _)) OB.out.2).mono ?_)
           rintro e w6 ⟨v, rfl, ho, hb⟩
           obtain ⟨Am, dm, rfl, _, _⟩ := Own.reads ho
           have YI := Lib.hid (fun q hq => ho.row.lt q hq)
           have OM : Hid (Own w6 (g + 1) (.slice Am M.length dm) M) := Lib.hid (Own.lower ho (by have h1 := GN.out.size; have h2 := NG.out; first | omega | (simp; omega)))
           have RG := Lib.hid (Row.below (Row.alloc RG.out _) hb (Row.alloc RG.out _).lt)
           have YP : Hid (w5.heap.size ≠ g) := Lib.hid (by have h1 := GN.out.size; have h2 := NG.out; omega)
           have GN := Lib.hid (zO (iR GN.out _) hb)
           have z6 := GN.out.size
           have TB : Hid (Row w6 w5.heap.size 31 #[I 0, I 0, .slice none 0 0]) := Lib.hid (Row.below (Row.new w5 31 #[I 0, I 0, .slice none 0 0]) hb (by simp))
           have zt := TB.out.lt
           have kc := TB.out.cell
           have kf := TB.out.free
           clear ho hb))
    | (go_at_call 103
       first
        | ((with_reducible refine (VP.out _ (lu GN.out) (Row.drew RG.out)).mono ?_)
           rintro e w5 ⟨Ab, cb, rfl, ho, hr, hg⟩
           have GN := Lib.hid (KK.bI (lu GN.out) hg)
           have RG := Lib.hid hr
           have OB := Lib.hid (Own.rd ho)
           have z5 := GN.out.size
           clear ho hr hg)
        | ((with_reducible refine (VP.out _ (iR (lu GN.out) _) (Row.alloc (Row.drew RG.out) _)).mono ?_)
           rintro e w5 ⟨Ab, cb, rfl, ho, hr, hg⟩
           have GN := Lib.hid (KK.bI (iR (lu GN.out) _) hg)
           have TB : Hid (Row w5 wr.heap.size 31 #[I 0, I 0, .slice none 0 0]) := Lib.hid (Row.gr (Row.new wr.drew 31 #[I 0, I 0, .slice none 0 0]) hg NG.out.1)
           have zt := TB.out.lt
           have kc := TB.out.cell
           have kf := TB.out.free
           have RG := Lib.hid hr
           have OB := Lib.hid (Own.rd ho)
           have z5 := GN.out.size
           clear ho hr hg)
        | ((with_reducible refine (VP.out _ (lu (iR GN.out _)) (Row.drew (Row.alloc RG.out _))).mono ?_)
           rintro e w5 ⟨Ab, cb, rfl, ho, hr, hg⟩
           have GN := Lib.hid (KK.bI (lu (iR GN.out _)) hg)
           have TB : Hid (Row w5 wr.heap.size 31 #[I 0, I 0, .slice none 0 0]) := Lib.hid (Row.gr (Row.drew (Row.new wr 31 #[I 0, I 0, .slice none 0 0])) hg NG.out.1)
           have zt := TB.out.lt
           have kc := TB.out.cell
           have kf := TB.out.free
           have RG := Lib.hid hr
           have OB := Lib.hid (Own.rd ho)
           have z5 := GN.out.size
           clear ho hr hg)))
 all_goals
  show K8 _ _
  first
   | (with_reducible refine AO.out _ _ _ _ _ _ (iR GN.out _) (Row.new _ _ _) (Own.rd (OM.out.alloc _)).1 (Own.rd OM.out).2 (Row.alloc RG.out _) (by omega))
   | ((with_reducible refine AO.out _ _ _ _ _ _ (qY GN.out ?_ _ _ _) (Row.bz TB.out _ _ _) (Own.rd (Own.jm OM.out (fun q hq => ?_) _ _ _)).1 (Own.rd OM.out).2 (Row.mF RG.out ?_) ?_)
      all_goals first | omega | exact NG.out.1.symm | exact NT.out.symm | exact YP.out.symm | (have h := NG.out; omega) | (have h1 := YI.out q hq; have h2 := TB.out.lt; omega) | (have h1 := YI.out q hq; simp at h1; omega) | (simp; omega))
end Go.Proofs.Ytnijhjbcjeohhaa.PR

namespace Go.Proofs.Ytnijhjbcjeohhaa.PR
open Go.RowKit Go.Proofs.Ytnijhjbcjeohhaa.PQ Go.Proofs.af.aF Go.Proofs.af.aP Go.Proofs.af.aQ Go.Proofs.Ytnijhjbcjeohhaa.KK
set_option linter.unusedVariables false
set_option linter.unusedSimpArgs false
theorem Jc (n : Nat) (A1 A2 A3 : Option Addr) (c1 c2 c3 : Nat) (lx lp lh : List Int) (z r gate y s q1 q2 : Int) (o f1 f2 : Bool) (w : World) (h1 : 1 ≤ n) (h8 : n ≤ 8) (hx : lx.length = n * 1) (hp : lp.length = n * n) (hh : lh.length = 1 * n)
 (rx : Rd w A1 lx) (cx : lx.length ≤ c1) (rp : Rd w A2 lp) (cp : lp.length ≤ c2) (rh : Rd w A3 lh) (ch : lh.length ≤ c3)
 (hm : PQ.dw.f 1000 n 1 lx n n lp 1 n lh r = some 0) (hi : cu.f false n 1 lx n n lp 1 n lh z r = some (y, s, o)) (h2 : gZ y y = (q1, f1)) (h3 : gZ gate s = (q2, f2)) (h4 : q1 > q2) :
 Calls Try.prog 105 #[.agg #[I n, I 1, .slice A1 lx.length c1, I n, I n, .slice A2 lp.length c2], .agg #[I 1, I n, .slice A3 lh.length c3], I z, I r, I gate] w fun e w' => e = .returned (.tuple #[.agg #[I n, I 1, .slice A1 lx.length c1, I n, I n, .slice A2 lp.length c2], .bool false, .bool (o || f1 || f2), I 0]) ∧ Below w.heap.size w w' := by
 have N : Hid (aV w [(33, #[I n, I 1, .slice A1 lx.length c1, I n, I n, .slice A2 lp.length c2]), (31, #[I 1, I n, .slice A3 lh.length c3]), (33, #[I 0, I 0, .slice none 0 0, I 0, I 0, .slice none 0 0])] (((w.alloc (.cells #[I n, I 1, .slice A1 lx.length c1, I n, I n, .slice A2 lp.length c2] 33)).alloc (.cells #[I 1, I n, .slice A3 lh.length c3] 31)).alloc (.cells #[I 0, I 0, .slice none 0 0, I 0, I 0, .slice none 0 0] 33))) := Lib.hid ((((aV.none w).push (by simp) _ _).push (by simp) _ _).push (by simp) _ _)
 have RX := Lib.hid rx
 have RP := Lib.hid rp
 have RH := Lib.hid rh
 have CX := Lib.hid cx
 have CP := Lib.hid cp
 have CH := Lib.hid ch
 have HM := Lib.hid hm
 have HI := Lib.hid hi
 have H2 := Lib.hid h2
 have H3 := Lib.hid h3
 have HT := Lib.hid (And.intro (And.intro h1 h8) (And.intro hx (And.intro hp hh)))
 have e4 : decide (q1 > q2) = true := decide_eq_true h4
 clear rx rp rh cx cp ch hm hi h1 h8 hx hp hh h2 h3 h4
 go_enter Try.func105, Try.ntmps105
 go_wp2_with fail
 refine (PQ.dw.calls 1000 n 1 A1 c1 lx n n A2 c2 lp 1 n A3 c3 lh r 0 _ (RX.out.below N.out.be) CX.out (RP.out.below N.out.be) CP.out (RH.out.below N.out.be) CH.out HM.out).mono ?_
 rintro e w1 ⟨rfl, hb⟩
 have N1 := Lib.hid (N.out.below hb)
 have y0 := N1.out.r0.cell
 have y1 := N1.out.r1.cell
 have t0 := N1.out.r0.lt
 have t1 := N1.out.r1.lt
 clear hb N
 have G1 := Lib.hid (Row.new w1 158 #[.bool false])
 have N2 := Lib.hid (N1.out.alloc (.cells #[.bool false] 158))
 have GE : Hid (w.heap.size + 3 ≤ w1.heap.size) := Lib.hid (by have h := N1.out.rows.le N1.out.be.size; simpa using h)
 have FX : Hid (∀ ad, A1 = some ad → 0 < lx.length → ad.block ≠ w1.heap.size) := Lib.hid (fun ad e hp => by have h1 := Rd.blk RX.out ad e hp; have h2 := GE.out; omega)
 have FP : Hid (∀ ad, A2 = some ad → 0 < lp.length → ad.block ≠ w1.heap.size) := Lib.hid (fun ad e hp => by have h1 := Rd.blk RP.out ad e hp; have h2 := GE.out; omega)
 have FH : Hid (∀ ad, A3 = some ad → 0 < lh.length → ad.block ≠ w1.heap.size) := Lib.hid (fun ad e hp => by have h1 := Rd.blk RH.out ad e hp; have h2 := GE.out; omega)
 go_wp2_with fail
 refine (cu.calls w1.heap.size false n 1 A1 c1 lx n n A2 c2 lp 1 n A3 c3 lh z r y s o w _ ⟨G1.out, by have h := GE.out; omega⟩ N2.out.be (RX.out.below N2.out.be) CX.out FX.out (RP.out.below N2.out.be) CP.out FP.out (RH.out.below N2.out.be) CH.out FH.out HI.out).mono ?_
 rintro e w2 ⟨rfl, hs, hb, hk⟩
 have R2 : Hid (Row w2 w1.heap.size 158 #[.bool o]) := Lib.hid hs.1
 have N3 := Lib.hid (N2.out.app (grown_of N2.out.be hb hk) (fun g e => by injection e with e; have h := GE.out; simp; omega))
 clear hs hb hk y0 y1 t0 t1
 go_wp2_with fail
 refine (gQ y y w2).mono ?_
 rw [H2.out]
 rintro e w3 ⟨rfl, hb⟩
 have R3 := Lib.hid (Row.below R2.out hb R2.out.lt)
 have N4 := Lib.hid (N3.out.below hb)
 clear hb
 go_wp2_with fail
 refine (qR w1.heap.size o f1 q1 w3 R3.out).mono ?_
 rintro e w4 ⟨rfl, hr, hg⟩
 have R4 := Lib.hid hr
 have N5 := Lib.hid (N4.out.app hg (fun g e => by injection e with e; have h := GE.out; simp; omega))
 clear hr hg
 go_wp2_with fail
 refine (gQ gate s w4).mono ?_
 rw [H3.out]
 rintro e w5 ⟨rfl, hb⟩
 have R5 := Lib.hid (Row.below R4.out hb R4.out.lt)
 have N6 := Lib.hid (N5.out.below hb)
 clear hb
 go_wp2_with fail
 refine (qR w1.heap.size (o || f1) f2 q2 w5 R5.out).mono ?_
 rintro e w6 ⟨rfl, hr, hg⟩
 have R6 := Lib.hid hr
 have N7 := Lib.hid (N6.out.app hg (fun g e => by injection e with e; have h := GE.out; simp; omega))
 clear hr hg
 have y0 := N7.out.r0.cell
 have x2 := N7.out.r2.cell
 have g2 := N7.out.r2.free
 have KS : Hid (∀ w', Row w' w.heap.size 33 #[I n, I 1, .slice A1 lx.length c1, I n, I n, .slice A2 lp.length c2] → Row w' w1.heap.size 158 #[.bool (o || f1 || f2)] → (∀ o, w'.cell? ⟨w.heap.size, o, none⟩ = #[I n, I 1, .slice A1 lx.length c1, I n, I n, .slice A2 lp.length c2][o]?) ∧ (∀ o', w'.cell? ⟨w1.heap.size, o', none⟩ = #[.bool (o || f1 || f2)][o']?)) := Lib.hid (fun w' a b => ⟨a.cell, b.cell⟩)
 have T7 := Lib.hid N7.out.r0
 obtain ⟨fl, hfl⟩ : ∃ fl, (o || f1 || f2) = fl := ⟨_, rfl⟩
 have OW := Lib.hid hfl
 rw [hfl] at KS R6
 clear hfl
 have BE : Hid (w.heap.size + 3 ≤ w6.heap.size) := Lib.hid (by have h := N7.out.rows.le N7.out.be.size; simpa using h)
 go_wp2_with fail
 go_region_held3 (fun w' => (∀ o, w'.cell? ⟨w.heap.size, o, none⟩ = #[I n, I 1, .slice A1 lx.length c1, I n, I n, .slice A2 lp.length c2][o]?) ∧ (∀ o, w'.cell? ⟨w1.heap.size, o, none⟩ = #[.bool fl][o]?))
  (first | with_reducible exact KS.out _ T7.out.drew R6.out.drew | with_reducible exact KS.out _ (Row.drew (Row.ou T7.out (C := w.heap.size + 1 + 1) (by omega) _ _ _ _ _ _)) (Row.drew (Row.ou R6.out (C := w.heap.size + 1 + 1) (by have h := GE.out; omega) _ _ _ _ _ _)))
  (fail)
 go_wp2
 refine bodyPost_ret (yg rfl rfl (Row.drew (Row.dO N7.out.r2 _ _ _ _ _ _))) rfl ?_
 rw [OW.out]
 refine ⟨rfl, ?_⟩
 have hbb := N7.out.be
 exact (Below.dO hbb (by omega) _ _ _ _ _ _).drew
theorem Jd (n : Nat) (A1 A2 A3 : Option Addr) (c1 c2 c3 : Nat) (lx lp lh : List Int) (z r gate y s q1 q2 : Int) (o f1 f2 : Bool) (w : World) (h1 : 1 ≤ n) (h8 : n ≤ 8) (hx : lx.length = n * 1) (hp : lp.length = n * n) (hh : lh.length = 1 * n)
 (rx : Rd w A1 lx) (cx : lx.length ≤ c1) (rp : Rd w A2 lp) (cp : lp.length ≤ c2) (rh : Rd w A3 lh) (ch : lh.length ≤ c3)
 (hm : PQ.dw.f 1000 n 1 lx n n lp 1 n lh r = some 0) (hi : cu.f false n 1 lx n n lp 1 n lh z r = some (y, s, o)) (h2 : gZ y y = (q1, f1)) (h3 : gZ gate s = (q2, f2)) (h4 : ¬ q1 > q2) (h5 : s ≤ 0) :
 Calls Try.prog 105 #[.agg #[I n, I 1, .slice A1 lx.length c1, I n, I n, .slice A2 lp.length c2], .agg #[I 1, I n, .slice A3 lh.length c3], I z, I r, I gate] w fun e w' => e = .returned (.tuple #[.agg #[I n, I 1, .slice A1 lx.length c1, I n, I n, .slice A2 lp.length c2], .bool false, .bool (o || f1 || f2), I 0]) ∧ Below w.heap.size w w' := by
 have N : Hid (aV w [(33, #[I n, I 1, .slice A1 lx.length c1, I n, I n, .slice A2 lp.length c2]), (31, #[I 1, I n, .slice A3 lh.length c3]), (33, #[I 0, I 0, .slice none 0 0, I 0, I 0, .slice none 0 0])] (((w.alloc (.cells #[I n, I 1, .slice A1 lx.length c1, I n, I n, .slice A2 lp.length c2] 33)).alloc (.cells #[I 1, I n, .slice A3 lh.length c3] 31)).alloc (.cells #[I 0, I 0, .slice none 0 0, I 0, I 0, .slice none 0 0] 33))) := Lib.hid ((((aV.none w).push (by simp) _ _).push (by simp) _ _).push (by simp) _ _)
 have RX := Lib.hid rx
 have RP := Lib.hid rp
 have RH := Lib.hid rh
 have CX := Lib.hid cx
 have CP := Lib.hid cp
 have CH := Lib.hid ch
 have HM := Lib.hid hm
 have HI := Lib.hid hi
 have H2 := Lib.hid h2
 have H3 := Lib.hid h3
 have HT := Lib.hid (And.intro (And.intro h1 h8) (And.intro hx (And.intro hp hh)))
 have e4 : decide (q1 > q2) = false := decide_eq_false h4
 have e5 : decide (s ≤ 0) = true := decide_eq_true h5
 clear rx rp rh cx cp ch hm hi h1 h8 hx hp hh h2 h3 h4 h5
 go_enter Try.func105, Try.ntmps105
 go_wp2_with fail
 refine (PQ.dw.calls 1000 n 1 A1 c1 lx n n A2 c2 lp 1 n A3 c3 lh r 0 _ (RX.out.below N.out.be) CX.out (RP.out.below N.out.be) CP.out (RH.out.below N.out.be) CH.out HM.out).mono ?_
 rintro e w1 ⟨rfl, hb⟩
 have N1 := Lib.hid (N.out.below hb)
 have y0 := N1.out.r0.cell
 have y1 := N1.out.r1.cell
 have t0 := N1.out.r0.lt
 have t1 := N1.out.r1.lt
 clear hb N
 have G1 := Lib.hid (Row.new w1 158 #[.bool false])
 have N2 := Lib.hid (N1.out.alloc (.cells #[.bool false] 158))
 have GE : Hid (w.heap.size + 3 ≤ w1.heap.size) := Lib.hid (by have h := N1.out.rows.le N1.out.be.size; simpa using h)
 have FX : Hid (∀ ad, A1 = some ad → 0 < lx.length → ad.block ≠ w1.heap.size) := Lib.hid (fun ad e hp => by have h1 := Rd.blk RX.out ad e hp; have h2 := GE.out; omega)
 have FP : Hid (∀ ad, A2 = some ad → 0 < lp.length → ad.block ≠ w1.heap.size) := Lib.hid (fun ad e hp => by have h1 := Rd.blk RP.out ad e hp; have h2 := GE.out; omega)
 have FH : Hid (∀ ad, A3 = some ad → 0 < lh.length → ad.block ≠ w1.heap.size) := Lib.hid (fun ad e hp => by have h1 := Rd.blk RH.out ad e hp; have h2 := GE.out; omega)
 go_wp2_with fail
 refine (cu.calls w1.heap.size false n 1 A1 c1 lx n n A2 c2 lp 1 n A3 c3 lh z r y s o w _ ⟨G1.out, by have h := GE.out; omega⟩ N2.out.be (RX.out.below N2.out.be) CX.out FX.out (RP.out.below N2.out.be) CP.out FP.out (RH.out.below N2.out.be) CH.out FH.out HI.out).mono ?_
 rintro e w2 ⟨rfl, hs, hb, hk⟩
 have R2 : Hid (Row w2 w1.heap.size 158 #[.bool o]) := Lib.hid hs.1
 have N3 := Lib.hid (N2.out.app (grown_of N2.out.be hb hk) (fun g e => by injection e with e; have h := GE.out; simp; omega))
 clear hs hb hk y0 y1 t0 t1
 go_wp2_with fail
 refine (gQ y y w2).mono ?_
 rw [H2.out]
 rintro e w3 ⟨rfl, hb⟩
 have R3 := Lib.hid (Row.below R2.out hb R2.out.lt)
 have N4 := Lib.hid (N3.out.below hb)
 clear hb
 go_wp2_with fail
 refine (qR w1.heap.size o f1 q1 w3 R3.out).mono ?_
 rintro e w4 ⟨rfl, hr, hg⟩
 have R4 := Lib.hid hr
 have N5 := Lib.hid (N4.out.app hg (fun g e => by injection e with e; have h := GE.out; simp; omega))
 clear hr hg
 go_wp2_with fail
 refine (gQ gate s w4).mono ?_
 rw [H3.out]
 rintro e w5 ⟨rfl, hb⟩
 have R5 := Lib.hid (Row.below R4.out hb R4.out.lt)
 have N6 := Lib.hid (N5.out.below hb)
 clear hb
 go_wp2_with fail
 refine (qR w1.heap.size (o || f1) f2 q2 w5 R5.out).mono ?_
 rintro e w6 ⟨rfl, hr, hg⟩
 have R6 := Lib.hid hr
 have N7 := Lib.hid (N6.out.app hg (fun g e => by injection e with e; have h := GE.out; simp; omega))
 clear hr hg
 have y0 := N7.out.r0.cell
 have x2 := N7.out.r2.cell
 have g2 := N7.out.r2.free
 have KS : Hid (∀ w', Row w' w.heap.size 33 #[I n, I 1, .slice A1 lx.length c1, I n, I n, .slice A2 lp.length c2] → Row w' w1.heap.size 158 #[.bool (o || f1 || f2)] → (∀ o, w'.cell? ⟨w.heap.size, o, none⟩ = #[I n, I 1, .slice A1 lx.length c1, I n, I n, .slice A2 lp.length c2][o]?) ∧ (∀ o', w'.cell? ⟨w1.heap.size, o', none⟩ = #[.bool (o || f1 || f2)][o']?)) := Lib.hid (fun w' a b => ⟨a.cell, b.cell⟩)
 have T7 := Lib.hid N7.out.r0
 obtain ⟨fl, hfl⟩ : ∃ fl, (o || f1 || f2) = fl := ⟨_, rfl⟩
 have OW := Lib.hid hfl
 rw [hfl] at KS R6
 clear hfl
 have BE : Hid (w.heap.size + 3 ≤ w6.heap.size) := Lib.hid (by have h := N7.out.rows.le N7.out.be.size; simpa using h)
 go_wp2_with fail
 go_region_held3 (fun w' => (∀ o, w'.cell? ⟨w.heap.size, o, none⟩ = #[I n, I 1, .slice A1 lx.length c1, I n, I n, .slice A2 lp.length c2][o]?) ∧ (∀ o, w'.cell? ⟨w1.heap.size, o, none⟩ = #[.bool fl][o]?))
  (first | with_reducible exact KS.out _ T7.out.drew R6.out.drew | with_reducible exact KS.out _ (Row.drew (Row.ou T7.out (C := w.heap.size + 1 + 1) (by omega) _ _ _ _ _ _)) (Row.drew (Row.ou R6.out (C := w.heap.size + 1 + 1) (by have h := GE.out; omega) _ _ _ _ _ _)))
  (fail)
 go_wp2
 refine bodyPost_ret (yg rfl rfl (Row.drew (Row.dO N7.out.r2 _ _ _ _ _ _))) rfl ?_
 rw [OW.out]
 refine ⟨rfl, ?_⟩
 have hbb := N7.out.be
 exact (Below.dO hbb (by omega) _ _ _ _ _ _).drew
end Go.Proofs.Ytnijhjbcjeohhaa.PR

namespace Go.Proofs.Ytnijhjbcjeohhaa.PR
open Go.RowKit Go.Proofs.Ytnijhjbcjeohhaa.PQ Go.Proofs.af.aF Go.Proofs.af.aP Go.Proofs.af.aQ Go.Proofs.Ytnijhjbcjeohhaa.KK
set_option linter.unusedVariables false
set_option linter.unusedSimpArgs false
def hv (a : Int) : Int := if a % 2 = 0 then a / 2 else if a / 2 % 2 = 0 then a / 2 else a / 2 + 1
def fl (N : Nat) (Q : Nat → Int) : List Int := (List.range N).map Q
variable {N j c : Nat} {Q Q' : Nat → Int} {q : Nat → Nat → Int} {x : Int}
theorem kF : (fl N Q).length = N := by simp [fl]
theorem ry (h : j < N) : (fl N Q).getD j 0 = Q j := by simp [fl, List.getD_eq_getElem?_getD, h]
theorem Hz {l : List Int} (hl : l.length = N) (h : ∀ j, j < N → l.getD j 0 = Q j) : l = fl N Q := by
 apply List.ext_getElem?
 intro j
 by_cases hj : j < N
 · have h1 := h j hj
   rw [List.getD_eq_getElem?_getD, List.getElem?_eq_getElem (by omega)] at h1
   rw [List.getElem?_eq_getElem (by omega), List.getElem?_eq_getElem (by rw [kF]; exact hj)]
   simp only [Option.getD_some] at h1
   rw [h1]
   simp [fl]
 · rw [List.getElem?_eq_none (by omega), List.getElem?_eq_none (by rw [kF]; omega)]
theorem dv {n i k : Nat} (hk : k < n) : (i * n + k) / n = i := by
 rw [Nat.mul_comm, Nat.mul_add_div (by omega), Nat.div_eq_of_lt hk, Nat.add_zero]
theorem md {n i k : Nat} (hk : k < n) : (i * n + k) % n = k := by
 rw [Nat.mul_comm, Nat.mul_add_mod, Nat.mod_eq_of_lt hk]
theorem Dn : ∀ r, upto c q r = fl (r * c) (fun j => q (j / c) (j % c)) := by
 intro r
 induction r with
 | zero => simp [upto, fl]
 | succ r ih =>
   rw [upto_succ, ih]
   refine Hz (by simp [kF, Nat.succ_mul]) (fun j hj => ?_)
   rw [Nat.succ_mul] at hj
   by_cases h : j < r * c
   · rw [List.getD_eq_getElem?_getD, List.getElem?_append_left (by rw [kF]; exact h), ← List.getD_eq_getElem?_getD, ry h]
   · obtain ⟨k, rfl⟩ : ∃ k, j = r * c + k := ⟨j - r * c, by omega⟩
     have hk : k < c := by omega
     rw [List.getD_eq_getElem?_getD, List.getElem?_append_right (by rw [kF]; omega), kF, Nat.add_sub_cancel_left, dv hk, md hk]
     simp [hk]
end Go.Proofs.Ytnijhjbcjeohhaa.PR

namespace Go.Proofs.Ytnijhjbcjeohhaa.PR
open Go.RowKit Go.Proofs.Ytnijhjbcjeohhaa.PQ Go.Proofs.af.aF Go.Proofs.af.aP Go.Proofs.af.aQ Go.Proofs.Ytnijhjbcjeohhaa.KK
set_option linter.unusedVariables false
set_option linter.unusedSimpArgs false
def ac (n m : Nat) : Nat := (m % n) * n + m / n
def M_ (l : List Int) : Prop := ∀ j, -70368744177664 ≤ l.getD j 0 ∧ l.getD j 0 ≤ 70368744177663
theorem UF {n : Nat} (h : n ≤ 8) : n * n ≤ 64 := Nat.mul_le_mul h h
theorem MC {i : Nat} (h : i ≤ 1000000) : wrap64 ((i : Int) + 1) = ((i + 1 : Nat) : Int) := by rw [Gm (by omega) (by omega)]; push_cast; rfl
end Go.Proofs.Ytnijhjbcjeohhaa.PR

namespace Go.Proofs.Ytnijhjbcjeohhaa.PR
open Go.RowKit Go.Proofs.Ytnijhjbcjeohhaa.PQ Go.Proofs.af.aF Go.Proofs.af.aP Go.Proofs.af.aQ Go.Proofs.Ytnijhjbcjeohhaa.KK
set_option linter.unusedVariables false
set_option linter.unusedSimpArgs false
theorem Rf {n m : Nat} (h : m < n * n) : ac n m < n * n := by
 have h0 : 0 < n := by rcases Nat.eq_zero_or_pos n with e | e; (subst e; omega); exact e
 exact jR (c := n) (Nat.mod_lt m h0) (Nat.div_lt_of_lt_mul h)
theorem MI (n : Nat) (l : List Int) : qJ n n l = fl (n * n) (fun m => l.getD (ac n m) 0) := Dn n
theorem D7 {n m : Nat} (h : m < n * n) (e : m / n = m % n) : ac n m = m := by
 unfold ac
 rw [← e]
 have := Nat.div_add_mod m n
 rw [← e, Nat.mul_comm] at this
 exact this
theorem Rh {n m : Nat} (h : m < n * n) : (ac n m / n = ac n m % n) ↔ m / n = m % n := by
 have h1 : m / n < n := Nat.div_lt_of_lt_mul h
 unfold ac
 rw [dv h1, md h1]
 exact eq_comm
theorem MZ {N : Nat} {Q : Nat → Int} (h : ∀ m, m < N → -70368744177664 ≤ Q m ∧ Q m ≤ 70368744177663) : M_ (fl N Q) := fun j => by
 by_cases hj : j < N
 · rw [ry hj]; exact h j hj
 · rw [List.getD_eq_getElem?_getD, List.getElem?_eq_none (by rw [kF]; omega)]
   simp
def xw (n : Nat) (l : List Int) : Prop := ∀ m, m < n * n → l.getD m 0 = l.getD (ac n m) 0 ∧ (m / n = m % n → 0 ≤ l.getD m 0)
end Go.Proofs.Ytnijhjbcjeohhaa.PR

namespace Go.Proofs.Ytnijhjbcjeohhaa.PR
open Go.RowKit Go.Proofs.Ytnijhjbcjeohhaa.PQ Go.Proofs.af.aF Go.Proofs.af.aP Go.Proofs.af.aQ Go.Proofs.Ytnijhjbcjeohhaa.KK
set_option linter.unusedVariables false
set_option linter.unusedSimpArgs false
instance Px (n : Nat) (l : List Int) : Decidable (xw n l) := by unfold xw; infer_instance
def rowP (n : Nat) (l : List Int) (a : Nat) : Prop := 0 ≤ l.getD (a * n + a) 0 ∧ ∀ b, b < a → l.getD (a * n + b) 0 = l.getD (b * n + a) 0
theorem Fj (n : Nat) (l : List Int) : xw n l ↔ ∀ a, a < n → rowP n l a := by
 constructor
 · intro h a ha
   refine ⟨(h _ (jR (c := n) ha ha)).2 (by rw [dv ha, md ha]), fun b hb => ?_⟩
   have := (h _ (jR (c := n) ha (by omega : b < n))).1
   unfold ac at this
   rw [dv (by omega), md (by omega)] at this
   exact this
 · intro h m hm
   have h0 : 0 < n := by rcases Nat.eq_zero_or_pos n with e | e; (subst e; omega); exact e
   have ha : m / n < n := Nat.div_lt_of_lt_mul hm
   have hb : m % n < n := Nat.mod_lt m h0
   have e : m / n * n + m % n = m := by rw [Nat.mul_comm]; exact Nat.div_add_mod m n
   refine ⟨?_, fun d => ?_⟩
   · rcases Nat.lt_trichotomy (m / n) (m % n) with c | c | c
     · have := (h _ hb).2 _ c
       rw [e] at this
       exact this.symm
     · rw [D7 hm c]
     · have := (h _ ha).2 _ c
       rw [e] at this
       exact this
   · have := (h _ ha).1
     rwa [show m / n * n + m / n = m by rw [← d] at e; exact e] at this
def gJ (r c : Int) (x : List Int) (r' c' : Int) (l : List Int) : Prop := gK r c x = true ∧ gK r' c' l = true ∧ c = 1 ∧ r' = r ∧ c' = r ∧ xw r.toNat l
instance MH (r c : Int) (x : List Int) (r' c' : Int) (l : List Int) : Decidable (gJ r c x r' c' l) := by unfold gJ; infer_instance
theorem jM {r c : Int} {l : List Int} (h : gK r c l = true) : 1 ≤ r ∧ r ≤ 8 ∧ 1 ≤ c ∧ c ≤ 8 ∧ l.length = r.toNat * c.toNat ∧ l.any lg = false := by
 unfold gK at h
 simp only [Bool.and_eq_true, decide_eq_true_eq, Bool.not_eq_true', beq_iff_eq] at h
 obtain ⟨⟨⟨⟨⟨h1, h2⟩, h3⟩, h4⟩, h5⟩, h6⟩ := h
 have b0 : 0 ≤ r * c := Int.mul_nonneg (by omega) (by omega)
 have b1 : r * c ≤ 8 * c := Int.mul_le_mul_of_nonneg_right (by omega) (by omega)
 rw [Gm (by omega) (by omega)] at h5
 exact ⟨by omega, by omega, by omega, by omega, GY (by omega) (by omega) h5, h6⟩
end Go.Proofs.Ytnijhjbcjeohhaa.PR

