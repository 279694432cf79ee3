import Derived.Test.YtcfobekkchhbbaaGreatV8
import Derived.Test.YtcfobekkchhbbaaGreatV6
/- Joined and thinned by a program of this session's own (wip/pack2.py) out of its texts (wip/ of its repo); parts were laid by its own program (wip/print-patch.py over the kit's print) out of the translation; Lean checks all. -/
set_option maxRecDepth 100000
set_option maxHeartbeats 20000000
namespace Go.Proofs.YtcfobekkchhbbaaGreat.PR
open Go.RowKit Go.Proofs.YtcfobekkchhbbaaGreat.PQ Go.Proofs.af.aU Go.Proofs.af.a_ Go.Proofs.af.bf Go.Proofs.YtcfobekkchhbbaaGreat.KK
set_option linter.unusedVariables false
set_option linter.unusedSimpArgs false
theorem Own.grown {w w' : World} {base : Nat} {v : Value} {l : List Int} {r : Option Nat} (h : Own w base v l) (hg : w.grownBy w' r) (hr : ∀ k, r = some k → k < base) : Own w' base v l :=
 Own.sS (nU h.row fun k hk => hg.block k (h.row.lt k hk).2 (fun e => by have := (h.row.lt k hk).1; have := hr k e.symm; omega))
theorem Sg.dK {w w' : World} {g : Nat} {L : List (TypeId × Array Value)} (h : Sg w g L w') {C : Nat} (hC : w.heap.size + L.length ≤ C) (a b c : Value) : Sg w g L (dK w' C a b c) :=
 ⟨h.rows.imp fun k t cs _ hk r => r.rG (by omega), zh h.gr (by omega) a b c⟩
theorem Own.mM {w : World} {base C : Nat} {v : Value} {l : List Int} (h : Own w base v l) (hne : ∀ q, v.ownBlock = some q → q ≠ C) (a b c : Value) : Own (dK w C a b c) base v l :=
 Own.sS (nU h.row fun k hk => ((Below.heap_setCell _ _ c k (hne k hk)).trans (Below.heap_setCell _ _ b k (hne k hk))).trans (Below.heap_setCell w ⟨C, 0, none⟩ a k (hne k hk)))
theorem Sg.set {w w' : World} {g : Nat} {L : List (TypeId × Array Value)} (h : Sg w g L w') {p : Addr} (hC : w.heap.size + L.length ≤ p.block) (u : Value) : Sg w g L (w'.setCell p u) :=
 ⟨h.rows.imp fun k t cs _ hk r => r.far (by omega) u, tq h.gr (by omega) u⟩
theorem Own.form {w : World} {base : Nat} {A : Option Addr} {c : Nat} {l : List Int} (h : Own w base (.slice A l.length c) l) (hp : 0 < l.length) : ∃ b, A = some ⟨b, 0, none⟩ ∧ base ≤ b := by
 rcases h.row.2 with ⟨_, h0⟩ | ⟨b, cap, cur, he, hb, _⟩
 · omega
 · injection he with e1 _ _
   exact ⟨b, e1, hb⟩
theorem _root_.Go.Proofs.YtcfobekkchhbbaaGreat.KK.Own.drew {w : World} {base : Nat} {v : Value} {l : List Int} (h : KK.Own w base v l) : KK.Own w.drew base v l := h.below (Below.refl _ _).drew
theorem Own.rd {w : World} {base : Nat} {A : Option Addr} {c : Nat} {l : List Int} (h : Own w base (.slice A l.length c) l) : Rd w A l ∧ l.length ≤ c := by
 obtain ⟨A', c', he, hc, hr⟩ := Own.reads h
 injection he with e1 _ e3
 subst e1 e3; exact ⟨hr, hc⟩
theorem l7 (l : List Int) : (iH l).length = l.length * l.length := upto_length
def tV (sv : Int) (k0 : List Int) (j : Nat) : List Int := (k0.take j).map (fun q => (Gs q sv).1) ++ k0.drop j
def Ep (sv : Int) (k0 : List Int) (j : Nat) : Bool := (k0.take j).any (fun q => (Gs q sv).2)
theorem KF (sv : Int) (k0 : List Int) (j : Nat) (hj : j < k0.length) : (tV sv k0 j)[j]? = some (k0.getD j 0) := by
 unfold tV
 rw [List.getElem?_append_right (by simp; omega)]; simp only [List.length_map, List.length_take, List.getElem?_drop]; rw [show min j k0.length = j by omega, Nat.sub_self, Nat.add_zero]; exact jw hj
theorem Rn (sv : Int) (k0 : List Int) (j : Nat) (hj : j < k0.length) : (tV sv k0 j).set j (Gs (k0.getD j 0) sv).1 = tV sv k0 (j + 1) := by
 unfold tV
 rw [List.set_append_right _ _ (by simp; omega)]; simp only [List.length_map, List.length_take]; rw [show min j k0.length = j by omega, Nat.sub_self, List.take_add_one, jw hj, List.map_append, List.append_assoc]
 congr 1
 have hd : k0.drop j = k0.getD j 0 :: k0.drop (j + 1) := by
  rw [List.drop_eq_getElem_cons hj]
  congr 1
  rw [List.getD_eq_getElem?_getD, List.getElem?_eq_getElem hj]; rfl
 rw [hd]
 simp
theorem Rq (sv : Int) (k0 : List Int) (j : Nat) (hj : j < k0.length) : Ep sv k0 (j + 1) = (Ep sv k0 j || (Gs (k0.getD j 0) sv).2) := by
 unfold Ep
 rw [List.take_add_one, jw hj, List.any_append]
 simp
abbrev g_ (w : World) (C : Nat) (a b c d e f : Value) : World := (((((w.setCell ⟨C, 0, none⟩ a).setCell ⟨C, 1, none⟩ b).setCell ⟨C, 2, none⟩ c).setCell ⟨C, 3, none⟩ d).setCell ⟨C, 4, none⟩ e).setCell ⟨C, 5, none⟩ f
theorem Row.g_ {w : World} {B : Nat} {t : TypeId} {a' b' c' d' e' f' : Value} (h : Row w B t #[a', b', c', d', e', f']) (a b c d e f : Value) : Row (g_ w B a b c d e f) B t #[a, b, c, d, e, f] := by
 simpa using (((((h.set 0 a).set 1 b).set 2 c).set 3 d).set 4 e).set 5 f
theorem Row.vH {w : World} {B C : Nat} {t : TypeId} {cs : Array Value} (h : Row w B t cs) (hne : B ≠ C) (a b c d e f : Value) : Row (PR.g_ w C a b c d e f) B t cs :=
 (((((h.far (p := ⟨C, 0, none⟩) hne a).far (p := ⟨C, 1, none⟩) hne b).far (p := ⟨C, 2, none⟩) hne c).far (p := ⟨C, 3, none⟩) hne d).far (p := ⟨C, 4, none⟩) hne e).far (p := ⟨C, 5, none⟩) hne f
theorem Ui {w w' : World} {r : Option Nat} (h : w.grownBy w' r) {C : Nat} (hp : w.heap.size ≤ C) (a b c d e f : Value) : w.grownBy (PR.g_ w' C a b c d e f) r :=
 tq (tq (tq (tq (tq (tq h (p := ⟨C, 0, none⟩) hp a) (p := ⟨C, 1, none⟩) hp b) (p := ⟨C, 2, none⟩) hp c) (p := ⟨C, 3, none⟩) hp d) (p := ⟨C, 4, none⟩) hp e) (p := ⟨C, 5, none⟩) hp f
theorem Own.g_ {w : World} {base C : Nat} {v : Value} {l : List Int} (h : Own w base v l) (hp : C < base) (a b c d e f : Value) : Own (PR.g_ w C a b c d e f) base v l :=
 (((((h.far (p := ⟨C, 0, none⟩) hp a).far (p := ⟨C, 1, none⟩) hp b).far (p := ⟨C, 2, none⟩) hp c).far (p := ⟨C, 3, none⟩) hp d).far (p := ⟨C, 4, none⟩) hp e).far (p := ⟨C, 5, none⟩) hp f
theorem af9 {w : World} {B : Nat} {a b c d e f : Value} {fn : Func} {k : Nat} {tmps : Array Value} (h : fn.results = #[.cell k 31]) (hk : tmps.getD k undef = .pointer (some ⟨B, 0, none⟩)) (R : Row w B 31 #[a, b, c, d, e, f]) :
 (results fn tmps).run Tryz.prog w = .ok (.agg #[a, b, c, d, e, f]) w := by
 have c := R.cell
 have hk' : tmps[k]?.getD undef = .pointer (some ⟨B, 0, none⟩) := by simpa using hk
 simp only [results, h]
 simp [go_sem, hk', c]
structure X4 (n : Nat) (lx lp lh : List Int) (s : Bool) (y sv r : Int) (ht k0 k sy x kh ik p1 sr tk kk p2 P : List Int) (b1 b2 b3 b4 b5 b6 b7 b8 b9 b10 : Bool) : Prop where
 eht : yM 1 n lh = ht
 ek0 : mulL n n 1 lp ht = k0
 eb1 : uy n n 1 lp ht = b1
 ek : k0.map (fun q => (Gs q sv).1) = k
 eb2 : k0.any (fun q => (Gs q sv).2) = b2
 esy : mF n 1 k y = sy
 eb3 : scaleB n 1 k y = b3
 ex : kC jL n 1 lx sy = x
 eb4 : kZ jL n 1 lx sy = b4
 ekh : mulL n 1 n k lh = kh
 eb5 : uy n 1 n k lh = b5
 eik : kC ng n n (oW n) kh = ik
 eb6 : kZ ng n n (oW n) kh = b6
 ep1 : jI n n ik lp = p1
 eb7 : pJ n n ik lp = b7
 esr : mF n 1 k r = sr
 eb8 : scaleB n 1 k r = b8
 etk : yM n 1 k = tk
 ekk : mulL n 1 n sr tk = kk
 eb9 : uy n 1 n sr tk = b9
 ep2 : kC jL n n p1 kk = p2
 ahz : kZ jL n n p1 kk = b10
 eP : zi n p2 = P
theorem JG (w0 w : World) (g n : Nat) (s : Bool) (y sv r : Int) (A1 A2 A3 : Option Addr) (c1 c2 c3 : Nat) (lx lp lh : List Int) (ht k0 k sy x kh ik p1 sr tk kk p2 P : List Int) (b1 b2 b3 b4 b5 b6 b7 b8 b9 b10 : Bool)
 (h1 : 1 ≤ n) (h8 : n ≤ 8) (hx : lx.length = n * 1) (hp : lp.length = n * n) (hh : lh.length = 1 * n) (T : X4 n lx lp lh s y sv r ht k0 k sy x kh ik p1 sr tk kk p2 P b1 b2 b3 b4 b5 b6 b7 b8 b9 b10)
 (R : Row w g 213 #[.bool s]) (hg : w0.heap.size ≤ g) (hB : Below w0.heap.size w0 w) (rx : Rd w A1 lx) (cx : lx.length ≤ c1) (fx : ∀ ad, A1 = some ad → 0 < lx.length → ad.block ≠ g) (rp : Rd w A2 lp) (cp : lp.length ≤ c2) (fp : ∀ ad, A2 = some ad → 0 < lp.length → ad.block ≠ g) (rh : Rd w A3 lh) (ch : lh.length ≤ c3) (fh : ∀ ad, A3 = some ad → 0 < lh.length → ad.block ≠ g) :
 Calls Tryz.prog 192 #[.pointer (some ⟨g, 0, none⟩), .agg #[I n, I 1, .slice A1 lx.length c1, I n, I n, .slice A2 lp.length c2], .agg #[I 1, I n, .slice A3 lh.length c3], I y, I sv, I r] w fun e w' => ∃ Ax dx Ap dp, e = .returned (.agg #[I n, I 1, .slice Ax x.length dx, I n, I n, .slice Ap P.length dp]) ∧ Own w' w.heap.size (.slice Ax x.length dx) x ∧ Own w' w.heap.size (.slice Ap P.length dp) P ∧ (∀ k, (Value.slice Ax x.length dx).ownBlock = some k → (Value.slice Ap P.length dp).ownBlock ≠ some k) ∧ Row w' g 213 #[.bool (s || b1 || b2 || b3 || b4 || b5 || b6 || b7 || b8 || b9 || b10)] ∧ w.grownBy w' (some g) := by
 have hgl := R.lt; have N : Hid (Sg w g [(211, #[.pointer (some ⟨g, 0, none⟩)]), (31, #[I n, I 1, .slice A1 lx.length c1, I n, I n, .slice A2 lp.length c2]), (29, #[I 1, I n, .slice A3 lh.length c3]), (31, #[I 0, I 0, .slice none 0 0, I 0, I 0, .slice none 0 0])] ((((w.alloc (.cells #[.pointer (some ⟨g, 0, none⟩)] 211)).alloc (.cells #[I n, I 1, .slice A1 lx.length c1, I n, I n, .slice A2 lp.length c2] 31)).alloc (.cells #[I 1, I n, .slice A3 lh.length c3] 29)).alloc (.cells #[I 0, I 0, .slice none 0 0, I 0, I 0, .slice none 0 0] 31))) := Lib.hid (Sg.of (((((bD.none w).push (by simp) _ _).push (by simp) _ _).push (by simp) _ _).push (by simp) _ _)); have RG := Lib.hid ((((R.alloc (.cells #[.pointer (some ⟨g, 0, none⟩)] 211)).alloc (.cells #[I n, I 1, .slice A1 lx.length c1, I n, I n, .slice A2 lp.length c2] 31)).alloc (.cells #[I 1, I n, .slice A3 lh.length c3] 29)).alloc (.cells #[I 0, I 0, .slice none 0 0, I 0, I 0, .slice none 0 0] 31))
 have hlt : ht.length = n * 1 := by rw [← T.eht, qG]
 have HT := Lib.hid (fun w' (h : w.grownBy w' (some g)) => nG 1 n A3 c3 lh w' (by omega) h8 hh (rh.touch h fh)); rw [T.eht] at HT; have HM := Lib.hid (fun At ct w' (h : w.grownBy w' (some g)) (ha : Rd w' At ht) => yZ n n 1 A2 At c2 ct lp ht w' h8 h8 (by omega) hp hlt (rp.touch h fp) ha); rw [T.ek0, T.eb1] at HM; have eo : ((1 : Nat) : Int) = 1 := rfl; simp only [eo] at HT HM; have KK : Hid (∀ w', Sg w g [(211, #[.pointer (some ⟨g, 0, none⟩)]), (31, #[I n, I 1, .slice A1 lx.length c1, I n, I n, .slice A2 lp.length c2]), (29, #[I 1, I n, .slice A3 lh.length c3]), (31, #[I 0, I 0, .slice none 0 0, I 0, I 0, .slice none 0 0])] w' → (∀ o, w'.cell? ⟨w.heap.size, o, none⟩ = #[.pointer (some ⟨g, 0, none⟩)][o]?) ∧ (∀ o, w'.cell? ⟨w.heap.size + 1, o, none⟩ = #[I n, I 1, .slice A1 lx.length c1, I n, I n, .slice A2 lp.length c2][o]?) ∧ (∀ o, w'.cell? ⟨w.heap.size + 1 + 1, o, none⟩ = #[I 1, I n, .slice A3 lh.length c3][o]?)) := Lib.hid (fun w' h => ⟨h.r0.cell, h.r1.cell, h.r2.cell⟩); have GL := Lib.hid hgl; have HK0 : Hid (k0.length = n * 1) := Lib.hid (by rw [← T.ek0, lC]); have HH := Lib.hid (And.intro h1 h8); have HT2 := Lib.hid T; have TX := Lib.hid (fun w' (h : w.grownBy w' (some g)) => rx.touch h fx); have CX := Lib.hid cx; have HX := Lib.hid hx; have TP := Lib.hid (fun w' (h : w.grownBy w' (some g)) => rp.touch h fp); have CP := Lib.hid cp; have FP := Lib.hid fp; have HP := Lib.hid hp; have TH := Lib.hid (fun w' (h : w.grownBy w' (some g)) => rh.touch h fh); have HHL := Lib.hid hh; have HG0 := Lib.hid hg; have HB0 := Lib.hid hB; clear hgl hlt R hg hB rx cx fx rp cp fp rh ch fh h1 h8 hx hp hh T; have y0 := N.out.r0.cell; have y1 := N.out.r1.cell; have y2 := N.out.r2.cell; have SZ : Hid (((((w.alloc (.cells #[.pointer (some ⟨g, 0, none⟩)] 211)).alloc (.cells #[I n, I 1, .slice A1 lx.length c1, I n, I n, .slice A2 lp.length c2] 31)).alloc (.cells #[I 1, I n, .slice A3 lh.length c3] 29)).alloc (.cells #[I 0, I 0, .slice none 0 0, I 0, I 0, .slice none 0 0] 31)).heap.size = w.heap.size + 4) := Lib.hid (by simp)
 go_enter Tryz.func192, Tryz.ntmps192
 go_wp2_with fail
 rename_i K1 aK1
 obtain ⟨wr, hwr⟩ : ∃ wr, ((((w.alloc (.cells #[.pointer (some ⟨g, 0, none⟩)] 211)).alloc (.cells #[I n, I 1, .slice A1 lx.length c1, I n, I n, .slice A2 lp.length c2] 31)).alloc (.cells #[I 1, I n, .slice A3 lh.length c3] 29)).alloc (.cells #[I 0, I 0, .slice none 0 0, I 0, I 0, .slice none 0 0] 31)) = wr := ⟨_, rfl⟩
 rw [hwr] at N RG y0 y1 y2 SZ; change Code.wp Tryz.prog _ _ _ ((((w.alloc (.cells #[.pointer (some ⟨g, 0, none⟩)] 211)).alloc (.cells #[I n, I 1, .slice A1 lx.length c1, I n, I n, .slice A2 lp.length c2] 31)).alloc (.cells #[I 1, I n, .slice A3 lh.length c3] 29)).alloc (.cells #[I 0, I 0, .slice none 0 0, I 0, I 0, .slice none 0 0] 31)); rw [hwr]; clear hwr
 have X7 : Hid (∀ (kb : Nat) (w5 : World) (Ak : Option Addr) (ck : Nat) (v22 v23 v24 v25 v26 v27 v28 v29 v30 v31 : Value), Sg w g [(211, #[.pointer (some ⟨g, 0, none⟩)]), (31, #[I n, I 1, .slice A1 lx.length c1, I n, I n, .slice A2 lp.length c2]), (29, #[I 1, I n, .slice A3 lh.length c3]), (31, #[I 0, I 0, .slice none 0 0, I 0, I 0, .slice none 0 0])] w5 → Row w5 kb 29 #[I n, I 1, .slice Ak k0.length ck] → Own w5 (w.heap.size + 4) (.slice Ak k0.length ck) k0 → Row w5 g 213 #[.bool (s || b1)] → w.heap.size + 4 ≤ kb → (∀ q, (Value.slice Ak k0.length ck).ownBlock = some q → q ≠ kb) → K1 { tmps := #[.pointer (some ⟨g, 0, none⟩), .agg #[I n, I 1, .slice A1 lx.length c1, I n, I n, .slice A2 lp.length c2], .agg #[I 1, I n, .slice A3 lh.length c3], I y, I sv, I r, .pointer (some ⟨w.heap.size, 0, none⟩), .pointer (some ⟨w.heap.size + 1, 0, none⟩), .pointer (some ⟨w.heap.size + 1 + 1, 0, none⟩), undef, undef, undef, .pointer (some ⟨w.heap.size + 1 + 1 + 1, 0, none⟩), .pointer (some ⟨kb, 0, none⟩), undef, undef, undef, undef, undef, undef, undef, undef, v22, v23, v24, v25, v26, v27, v28, v29, v30, v31, undef, undef, undef, undef, undef, undef, undef, undef, undef, undef, undef, undef, undef, undef, undef, undef, undef, undef, undef, undef, undef, undef, undef, undef, undef, undef, undef, undef, undef, undef, undef, undef, undef, undef, undef, undef, undef, undef, undef, undef, undef, undef, undef, undef, undef, undef, undef, undef, undef, undef, undef, undef, undef, undef, undef, undef, undef, undef, undef, undef, undef, undef, undef, undef, undef, undef, undef, undef, undef, undef, undef, undef, undef, undef, undef, undef, undef, undef, undef, undef, undef], defers := [] } w5) := Lib.hid (by
  as_aux_lemma =>
  intro kb w5 Ak ck v22 v23 v24 v25 v26 v27 v28 v29 v30 v31 hN hkb hO hR hge hne; refine aK1 _ _ ?_
  have hpos : 0 < k0.length := by have := HK0.out; have := HH.out.1; omega
  obtain ⟨bk, rfl, hbk⟩ := Own.form hO hpos
  have hkl : k0.length ≤ 8 := by have := HK0.out; have := HH.out.2; omega
  have HNE : Hid (bk ≠ kb) := Lib.hid (hne bk rfl); have HBK := Lib.hid hbk; have HKB := Lib.hid hge; have HKL := Lib.hid hkl; have HPS := Lib.hid hpos; have O0 : Hid (w5.ownsRow (w.heap.size + 4) 22 1 (.slice (some ⟨bk, 0, none⟩) k0.length ck) k0.length ((tV sv k0 0).map I)) := Lib.hid (by have := hO.row; simpa [tV] using this); have N5 := Lib.hid hN; have Ls := Lib.hid hkb; have R5 : Hid (Row w5 g 213 #[.bool (s || b1 || Ep sv k0 0)]) := Lib.hid (by simpa [Ep] using hR); have x0 := hkb.cell; clear hN hkb hO hR hge hne hbk hkl hpos y0 y1 y2 N RG
  go_wp2_with fail
  go_loopw [35] (fun jj wr => ∃ j : Nat, j ≤ k0.length ∧ jj = .int .i64 j ∧ Hid (Sg w g [(211, #[.pointer (some ⟨g, 0, none⟩)]), (31, #[I n, I 1, .slice A1 lx.length c1, I n, I n, .slice A2 lp.length c2]), (29, #[I 1, I n, .slice A3 lh.length c3]), (31, #[I 0, I 0, .slice none 0 0, I 0, I 0, .slice none 0 0])] wr) ∧ Hid (Row wr kb 29 #[I n, I 1, .slice (some ⟨bk, 0, none⟩) k0.length ck]) ∧ Hid (wr.ownsRow (w.heap.size + 4) 22 1 (.slice (some ⟨bk, 0, none⟩) k0.length ck) k0.length ((tV sv k0 j).map I)) ∧ Hid (Row wr g 213 #[.bool (s || b1 || Ep sv k0 j)])) (fun jj _ => k0.length - (intOf jj).toNat)
  case atStart => exact ⟨0, by omega, rfl, N5, Ls, O0, R5⟩
  case round =>
   clear x0 N5 Ls O0 R5; obtain ⟨j, hj, rfl, N5, Ls, O5, R5⟩ := hrel; have x0 := Ls.out.cell; have x1 := N5.out.r0.cell
   by_cases hjk : j = k0.length
   · subst hjk
     have ek : tV sv k0 k0.length = k := by rw [← HT2.out.ek]; unfold tV; rw [List.take_length, List.drop_length, List.append_nil]
     have ekl : k0.length = k.length := by rw [← HT2.out.ek]; simp
     have eb : Ep sv k0 k0.length = b2 := by rw [← HT2.out.eb2]; unfold Ep; rw [List.take_length]
     rw [ek] at O5; rw [eb] at R5; have OK : Hid (Own wr (w.heap.size + 4) (.slice (some ⟨bk, 0, none⟩) k.length ck) k) := Lib.hid (Own.sS (by rw [← ekl]; exact O5.out)); have EO : Hid (k.length = n * 1) := Lib.hid (by rw [← ekl]; exact HK0.out); have y1 := N5.out.r1.cell; have y2 := N5.out.r2.cell; clear ek eb O5 hj
     go_wp2_with fail
     rename_i K8 aK8; rw [ekl] at Ls x0
     have La : Hid (∀ (kx : Nat) (w5 : World) (Ax : Option Addr) (dx : Nat) (v14 v15 v22 v23 v24 v25 v26 v27 v28 v29 v30 v31 v32 v33 v34 v35 v36 v37 v38 v39 v40 v41 v42 v43 v44 v45 v46 v47 v48 v49 v50 v51 v52 v53 v54 v55 v56 v57 v58 v59 v60 v61 v62 v63 : Value), Sg w g [(211, #[.pointer (some ⟨g, 0, none⟩)]), (31, #[I n, I 1, .slice A1 lx.length c1, I n, I n, .slice A2 lp.length c2]), (29, #[I 1, I n, .slice A3 lh.length c3]), (31, #[I 0, I 0, .slice none 0 0, I 0, I 0, .slice none 0 0])] w5 → Row w5 kb 29 #[I n, I 1, .slice (some ⟨bk, 0, none⟩) k.length ck] → Own w5 (w.heap.size + 4) (.slice (some ⟨bk, 0, none⟩) k.length ck) k → Row w5 kx 29 #[I n, I 1, .slice Ax x.length dx] → Own w5 (w.heap.size + 4) (.slice Ax x.length dx) x → Row w5 g 213 #[.bool (s || b1 || b2 || b3 || b4)] → w.heap.size + 4 ≤ kx → (∀ q, (Value.slice Ax x.length dx).ownBlock = some q → q ≠ kx) → K8 { tmps := #[.pointer (some ⟨g, 0, none⟩), .agg #[I n, I 1, .slice A1 lx.length c1, I n, I n, .slice A2 lp.length c2], .agg #[I 1, I n, .slice A3 lh.length c3], I y, I sv, I r, .pointer (some ⟨w.heap.size, 0, none⟩), .pointer (some ⟨w.heap.size + 1, 0, none⟩), .pointer (some ⟨w.heap.size + 1 + 1, 0, none⟩), undef, undef, undef, .pointer (some ⟨w.heap.size + 1 + 1 + 1, 0, none⟩), .pointer (some ⟨kb, 0, none⟩), v14, v15, .func (.func 202) #[] #[.pointer (some ⟨kb, 0, none⟩), .pointer (some ⟨w.heap.size, 0, none⟩)], .pointer (some ⟨kx, 0, none⟩), undef, undef, undef, undef, v22, v23, v24, v25, v26, v27, v28, v29, v30, v31, v32, v33, v34, v35, v36, v37, v38, v39, v40, v41, v42, v43, v44, v45, v46, v47, v48, v49, v50, v51, v52, v53, v54, v55, v56, v57, v58, v59, v60, v61, v62, v63, undef, undef, undef, undef, undef, undef, undef, undef, undef, undef, undef, undef, undef, undef, undef, undef, undef, undef, undef, undef, undef, undef, undef, undef, undef, undef, undef, undef, undef, undef, undef, undef, undef, undef, undef, undef, undef, undef, undef, undef, undef, undef, undef, undef, undef, undef, undef, undef, undef], defers := [] } w5) := Lib.hid (by
      as_aux_lemma =>
      intro kx w5 Ax dx v14 v15 v22 v23 v24 v25 v26 v27 v28 v29 v30 v31 v32 v33 v34 v35 v36 v37 v38 v39 v40 v41 v42 v43 v44 v45 v46 v47 v48 v49 v50 v51 v52 v53 v54 v55 v56 v57 v58 v59 v60 v61 v62 v63 hN hkb hK hkx hX hR hge hne; refine aK8 _ _ ?_
      have N9 := Lib.hid hN; have KB9 := Lib.hid hkb; have OK9 := Lib.hid hK; have KX9 := Lib.hid hkx; have Xe := Lib.hid hX; have R9 := Lib.hid hR; have GX := Lib.hid hge; have y1 := hN.r1.cell; clear hN hkb hK hkx hX hR hge hne x0 x1 y2 N5 Ls OK R5
      go_wp2_with fail
      refine (Rh n _ HH.out.1 HH.out.2).mono ?_
      rintro e w6 ⟨v, rfl, ho, hb⟩; obtain ⟨Ae, ce, rfl, _, _⟩ := Own.reads ho; have Jt := Lib.hid ((N9.out.below hb).alloc (.cells #[I n, I n, .slice Ae (oW n).length ce] 29)); have Cj := Lib.hid ((KB9.out.below hb KB9.out.lt).alloc (.cells #[I n, I n, .slice Ae (oW n).length ce] 29)); have Ju := Lib.hid ((KX9.out.below hb KX9.out.lt).alloc (.cells #[I n, I n, .slice Ae (oW n).length ce] 29)); have Jr := Lib.hid ((OK9.out.below hb).alloc (.cells #[I n, I n, .slice Ae (oW n).length ce] 29)); have RZ := Lib.hid ((Xe.out.below hb).alloc (.cells #[I n, I n, .slice Ae (oW n).length ce] 29)); have R10 := Lib.hid ((R9.out.below hb R9.out.lt).alloc (.cells #[I n, I n, .slice Ae (oW n).length ce] 29)); have U1 : Hid (Own (w6.alloc (.cells #[I n, I n, .slice Ae (oW n).length ce] 29)) (w.heap.size + 4) (.slice Ae (oW n).length ce) (oW n)) := Lib.hid (Own.lower (ho.alloc _) (by have h1 := N9.out.rows.le N9.out.gr.size; simpa using h1)); have Ci := Lib.hid (Row.new w6 29 #[I n, I n, .slice Ae (oW n).length ce]); have GE : Hid (w.heap.size + 4 ≤ w6.heap.size) := Lib.hid (by have h1 := N9.out.rows.le N9.out.gr.size; have h2 := hb.size; simp at h1; omega); clear ho hb y1
      go_wp2_with fail
      rename_i K10 abW
      obtain ⟨wt, hwt⟩ : ∃ wt, w6.alloc (.cells #[I n, I n, .slice Ae (oW n).length ce] 29) = wt := ⟨_, rfl⟩
      rw [hwt] at Jt Cj Ju Jr RZ R10 U1 Ci; change Code.wp Tryz.prog _ _ _ (w6.alloc (.cells #[I n, I n, .slice Ae (oW n).length ce] 29)); rw [hwt]; clear hwt; clear N9 KB9 OK9 KX9 Xe R9
      have UZ : Hid (∀ (kp : Nat) (w5 : World) (Ai : Option Addr) (di : Nat) (v14 v15 v18 v19 v22 v23 v24 v25 v26 v27 v28 v29 v30 v31 v32 v33 v34 v35 v36 v37 v38 v39 v40 v41 v42 v43 v44 v45 v46 v47 v48 v49 v50 v51 v52 v53 v54 v55 v56 v57 v58 v59 v60 v61 v62 v63 v64 v65 v66 v67 v68 v69 v70 v71 v72 v73 v74 v75 v76 v77 v78 v79 v80 v81 v82 v83 v84 v85 : Value), Sg w g [(211, #[.pointer (some ⟨g, 0, none⟩)]), (31, #[I n, I 1, .slice A1 lx.length c1, I n, I n, .slice A2 lp.length c2]), (29, #[I 1, I n, .slice A3 lh.length c3]), (31, #[I 0, I 0, .slice none 0 0, I 0, I 0, .slice none 0 0])] w5 → Row w5 kb 29 #[I n, I 1, .slice (some ⟨bk, 0, none⟩) k.length ck] → Own w5 (w.heap.size + 4) (.slice (some ⟨bk, 0, none⟩) k.length ck) k → Row w5 kx 29 #[I n, I 1, .slice Ax x.length dx] → Own w5 (w.heap.size + 4) (.slice Ax x.length dx) x → Row w5 kp 29 #[I n, I n, .slice Ai ik.length di] → Own w5 (w.heap.size + 4) (.slice Ai ik.length di) ik → Row w5 g 213 #[.bool (s || b1 || b2 || b3 || b4 || b5 || b6)] → w.heap.size + 4 ≤ kp → K10 { tmps := #[.pointer (some ⟨g, 0, none⟩), .agg #[I n, I 1, .slice A1 lx.length c1, I n, I n, .slice A2 lp.length c2], .agg #[I 1, I n, .slice A3 lh.length c3], I y, I sv, I r, .pointer (some ⟨w.heap.size, 0, none⟩), .pointer (some ⟨w.heap.size + 1, 0, none⟩), .pointer (some ⟨w.heap.size + 1 + 1, 0, none⟩), undef, undef, undef, .pointer (some ⟨w.heap.size + 1 + 1 + 1, 0, none⟩), .pointer (some ⟨kb, 0, none⟩), v14, v15, .func (.func 202) #[] #[.pointer (some ⟨kb, 0, none⟩), .pointer (some ⟨w.heap.size, 0, none⟩)], .pointer (some ⟨kx, 0, none⟩), v18, v19, .pointer (some ⟨kp, 0, none⟩), undef, v22, v23, v24, v25, v26, v27, v28, v29, v30, v31, v32, v33, v34, v35, v36, v37, v38, v39, v40, v41, v42, v43, v44, v45, v46, v47, v48, v49, v50, v51, v52, v53, v54, v55, v56, v57, v58, v59, v60, v61, v62, v63, v64, v65, v66, v67, v68, v69, v70, v71, v72, v73, v74, v75, v76, v77, v78, v79, v80, v81, v82, v83, v84, v85, undef, undef, undef, undef, undef, undef, undef, undef, undef, undef, undef, undef, undef, undef, undef, undef, undef, undef, undef, undef, undef, undef, undef, undef, undef, undef, undef], defers := [] } w5) := Lib.hid (by
       as_aux_lemma =>
       intro kp w5 Ai di v14 v15 v18 v19 v22 v23 v24 v25 v26 v27 v28 v29 v30 v31 v32 v33 v34 v35 v36 v37 v38 v39 v40 v41 v42 v43 v44 v45 v46 v47 v48 v49 v50 v51 v52 v53 v54 v55 v56 v57 v58 v59 v60 v61 v62 v63 v64 v65 v66 v67 v68 v69 v70 v71 v72 v73 v74 v75 v76 v77 v78 v79 v80 v81 v82 v83 v84 v85 hN hkb hK hkx hX hkp hI hR hge; refine abW _ _ ?_
       have hIf : ∀ ad, Ai = some ad → 0 < ik.length → ad.block ≠ g := fun ad e _ => by
        subst e; have h1 := (hI.row.lt ad.block rfl).1; have h2 := GL.out; omega
       have B48 := Lib.hid (AZ w0 w5 g (s || b1 || b2 || b3 || b4 || b5 || b6) n n Ai di ik n n A2 c2 lp n n p1 (s || b1 || b2 || b3 || b4 || b5 || b6 || b7) hR HG0.out (wH HB0.out HG0.out hN.gr) (Own.rd hI).1 (Own.rd hI).2 hIf (TP.out _ hN.gr) CP.out FP.out (by rw [uP _ n n ik lp HH.out.2 HH.out.2 (by rw [← HT2.out.eik]; exact upto_length) HP.out, HT2.out.ep1, HT2.out.eb7])); have N19 := Lib.hid hN; have acS := Lib.hid hkb; have acj := Lib.hid hK; have ZO := Lib.hid hkx; have ZL := Lib.hid hX; have x0 := hN.r0.cell; have x1 := hN.r1.cell; have x4 := hkp.cell; clear hN hkb hK hkx hX hkp hI hR hge hIf Jt Cj Ju Jr RZ R10 U1 Ci
       go_wp2_with fail
       refine B48.out.mono ?_
       rintro e w7 ⟨Ap, dp, rfl, ho, hr, hg⟩; have N20 := Lib.hid ((N19.out.touch hg GL.out).alloc (.cells #[I n, I n, .slice Ap p1.length dp] 29)); have U9 := Lib.hid ((Row.grown acS.out hg (by have h1 := GL.out; have h2 := HKB.out; simp; omega)).alloc (.cells #[I n, I n, .slice Ap p1.length dp] 29)); have ZN := Lib.hid ((Row.grown ZO.out hg (by have h1 := GL.out; have h2 := GX.out; simp; omega)).alloc (.cells #[I n, I n, .slice Ap p1.length dp] 29)); have Xf := Lib.hid ((Own.touch acj.out hg (by have h1 := GL.out; omega)).alloc (.cells #[I n, I n, .slice Ap p1.length dp] 29)); have ab9 := Lib.hid ((Own.touch ZL.out hg (by have h1 := GL.out; omega)).alloc (.cells #[I n, I n, .slice Ap p1.length dp] 29)); have ach : Hid (Own (w7.alloc (.cells #[I n, I n, .slice Ap p1.length dp] 29)) (w.heap.size + 4) (.slice Ap p1.length dp) p1) := Lib.hid (Own.lower (ho.alloc _) (by have h1 := N19.out.rows.le N19.out.gr.size; simpa using h1)); have Xk := Lib.hid (Row.new w7 29 #[I n, I n, .slice Ap p1.length dp]); have R20 := Lib.hid (Row.alloc hr (.cells #[I n, I n, .slice Ap p1.length dp] 29)); have GQ : Hid (w.heap.size + 4 ≤ w7.heap.size) := Lib.hid (by have h1 := N19.out.rows.le N19.out.gr.size; have h2 := hg.size; simp at h1; omega); have acI : Hid (kx < w7.heap.size) := Lib.hid (Row.grown ZO.out hg (by have h1 := GL.out; have h2 := GX.out; simp; omega)).lt; have HXO : Hid (∀ q, (Value.slice Ax x.length dx).ownBlock = some q → q ≠ w7.heap.size) := Lib.hid (fun q hq => by have h1 := ((Own.touch ZL.out hg (by have h1 := GL.out; omega)).row.lt q hq).2; omega); clear ho hr hg x0 x1 x4 N19 acS acj ZO ZL
       go_wp2_with fail
       obtain ⟨ws, hws⟩ : ∃ ws, w7.alloc (.cells #[I n, I n, .slice Ap p1.length dp] 29) = ws := ⟨_, rfl⟩
       rw [hws] at N20 U9 ZN Xf ab9 ach Xk R20; change Code.wp Tryz.prog _ _ _ (w7.alloc (.cells #[I n, I n, .slice Ap p1.length dp] 29)); rw [hws]; clear hws; have Vj : Hid (w7.heap.size < ws.heap.size) := Lib.hid Xk.out.lt; have UB : Hid (kb < ws.heap.size ∧ kx < ws.heap.size ∧ bk < ws.heap.size) := Lib.hid ⟨U9.out.lt, ZN.out.lt, (Xf.out.row.lt bk rfl).2⟩; have HXQ : Hid (kx ≠ w7.heap.size) := Lib.hid (by have h1 := acI.out; omega); have KT : Hid (∀ w', Sg w g [(211, #[.pointer (some ⟨g, 0, none⟩)]), (31, #[I n, I 1, .slice A1 lx.length c1, I n, I n, .slice A2 lp.length c2]), (29, #[I 1, I n, .slice A3 lh.length c3]), (31, #[I 0, I 0, .slice none 0 0, I 0, I 0, .slice none 0 0])] w' → Row w' kb 29 #[I n, I 1, .slice (some ⟨bk, 0, none⟩) k.length ck] → Row w' w7.heap.size 29 #[I n, I n, .slice Ap p1.length dp] → ((∀ o, w'.cell? ⟨w.heap.size, o, none⟩ = #[.pointer (some ⟨g, 0, none⟩)][o]?) ∧ (∀ o, w'.cell? ⟨w.heap.size + 1, o, none⟩ = #[I n, I 1, .slice A1 lx.length c1, I n, I n, .slice A2 lp.length c2][o]?) ∧ (∀ o, w'.cell? ⟨w.heap.size + 1 + 1, o, none⟩ = #[I 1, I n, .slice A3 lh.length c3][o]?)) ∧ (∀ o, w'.cell? ⟨kb, o, none⟩ = #[I n, I 1, .slice (some ⟨bk, 0, none⟩) k.length ck][o]?) ∧ (∀ o, w'.cell? ⟨w7.heap.size, o, none⟩ = #[I n, I n, .slice Ap p1.length dp][o]?)) := Lib.hid (fun w' h h1 h2 => ⟨⟨h.r0.cell, h.r1.cell, h.r2.cell⟩, h1.cell, h2.cell⟩); have ZE := Lib.hid (fun w' (o : Own w' (w.heap.size + 4) (.slice (some ⟨bk, 0, none⟩) k.length ck) k) rk rp rg => yO g kb w.heap.size n (s || b1 || b2 || b3 || b4 || b5 || b6 || b7) (some ⟨bk, 0, none⟩) ck k r w' HH.out.2 EO.out (Own.rd o).1 (Own.rd o).2 rk rp rg); rw [HT2.out.esr, HT2.out.eb8] at ZE; have T41 := Lib.hid (fun w' (o : Own w' (w.heap.size + 4) (.slice (some ⟨bk, 0, none⟩) k.length ck) k) => nG n 1 (some ⟨bk, 0, none⟩) ck k w' HH.out.2 (by omega) EO.out (Own.rd o).1); rw [HT2.out.etk] at T41; have M46 := Lib.hid (fun Aa ca Ab cb w' (o : Own w' (w.heap.size + 4) (.slice Aa sr.length ca) sr) (o' : Own w' (w.heap.size + 4) (.slice Ab tk.length cb) tk) => yZ n 1 n Aa Ab ca cb sr tk w' HH.out.2 (by omega) HH.out.2 (by rw [← HT2.out.esr]; exact upto_length) (by rw [← HT2.out.etk]; exact upto_length) (Own.rd o).1 (Own.rd o').1); rw [HT2.out.ekk, HT2.out.eb9] at M46; have adr := Lib.hid (fun Ab cb w' (o : Own w' (w.heap.size + 4) (.slice Ap p1.length dp) p1) (o' : Own w' (w.heap.size + 4) (.slice Ab kk.length cb) kk) => Io n n Ap Ab dp cb p1 kk w' HH.out.2 HH.out.2 (by rw [← HT2.out.ep1]; exact upto_length) (by rw [← HT2.out.ekk]; exact upto_length) (Own.rd o).1 (Own.rd o').1 (Own.rd o).2 (Own.rd o').2); rw [HT2.out.ep2, HT2.out.ahz] at adr; simp only [eo] at ZE T41 M46; refine yP (S := (fun w' => ((∀ o, w'.cell? ⟨w.heap.size, o, none⟩ = #[.pointer (some ⟨g, 0, none⟩)][o]?) ∧ (∀ o, w'.cell? ⟨w.heap.size + 1, o, none⟩ = #[I n, I 1, .slice A1 lx.length c1, I n, I n, .slice A2 lp.length c2][o]?) ∧ (∀ o, w'.cell? ⟨w.heap.size + 1 + 1, o, none⟩ = #[I 1, I n, .slice A3 lh.length c3][o]?)) ∧ (∀ o, w'.cell? ⟨kb, o, none⟩ = #[I n, I 1, .slice (some ⟨bk, 0, none⟩) k.length ck][o]?) ∧ (∀ o, w'.cell? ⟨w7.heap.size, o, none⟩ = #[I n, I n, .slice Ap p1.length dp][o]?))) 18 (by kernel_rfl) (KT.out _ N20.out.drew U9.out.drew Xk.out.drew) (fun hHeld => ?_)
       refine Until.take (i := 0) (oi := _) (v := ?u1) rfl (by kernel_rfl) (by kernel_rfl) (by kernel_rfl) (by kernel_rfl) (by kernel_rfl) (fun _ _ _ h => h) (Or.inl ⟨by rfl, ?hu1⟩) hHeld ?_
       case hu1 =>
        intro w' hSw
        (try dsimp only at hSw)
        simp only [List.getElem_toArray, List.getElem_cons_succ, List.getElem_cons_zero]
        go_simp
        (try with_reducible rfl)
       change Until _ _ _ _ _ _ _ _ (Act.put _ (some 91) _) _; simp only [Act.put, List.setIfInBounds_toArray, List.set_cons_zero, List.set_cons_succ]; refine Until.take (i := 1) (oi := _) (v := ?u2) rfl (by kernel_rfl) (by kernel_rfl) (by kernel_rfl) (by kernel_rfl) (by kernel_rfl) (fun _ _ _ h => h) (Or.inl ⟨by rfl, ?hu2⟩) hHeld ?_
       case hu2 =>
        intro w' hSw
        (try dsimp only at hSw)
        simp only [List.getElem_toArray, List.getElem_cons_succ, List.getElem_cons_zero]
        go_simp
        (try with_reducible rfl)
       change Until _ _ _ _ _ _ _ _ (Act.put _ (some 92) _) _; simp only [Act.put, List.setIfInBounds_toArray, List.set_cons_zero, List.set_cons_succ]; refine Until.take (i := 2) (oi := _) (v := ?u3) rfl (by kernel_rfl) (by kernel_rfl) (by kernel_rfl) (by kernel_rfl) (by kernel_rfl) (fun _ _ _ h => h) (Or.inl ⟨by rfl, ?hu3⟩) hHeld ?_
       case hu3 =>
        intro w' hSw
        (try dsimp only at hSw)
        simp only [List.getElem_toArray, List.getElem_cons_succ, List.getElem_cons_zero]
        go_simp
        (try with_reducible rfl)
       change Until _ _ _ _ _ _ _ _ (Act.put _ (some 93) _) _; simp only [Act.put, List.setIfInBounds_toArray, List.set_cons_zero, List.set_cons_succ]; refine Until.take (i := 3) (oi := _) (v := ?u4) rfl (by kernel_rfl) (by kernel_rfl) (by kernel_rfl) (by kernel_rfl) (by kernel_rfl) (fun _ _ _ h => h) (Or.inl ⟨by rfl, ?hu4⟩) hHeld ?_
       case hu4 =>
        intro w' hSw
        (try dsimp only at hSw)
        simp only [List.getElem_toArray, List.getElem_cons_succ, List.getElem_cons_zero]
        go_simp
        (try with_reducible rfl)
       change Until _ _ _ _ _ _ _ _ (Act.put _ (some 94) _) _; simp only [Act.put, List.setIfInBounds_toArray, List.set_cons_zero, List.set_cons_succ]; refine Until.take (i := 4) (oi := _) (v := ?u5) rfl (by kernel_rfl) (by kernel_rfl) (by kernel_rfl) (by kernel_rfl) (by kernel_rfl) (fun _ _ _ h => h) (Or.inl ⟨by rfl, ?hu5⟩) hHeld ?_
       case hu5 =>
        intro w' hSw
        (try dsimp only at hSw)
        simp only [List.getElem_toArray, List.getElem_cons_succ, List.getElem_cons_zero]
        go_simp
        (try with_reducible rfl)
       change Until _ _ _ _ _ _ _ _ (Act.put _ (some 95) _) _; simp only [Act.put, List.setIfInBounds_toArray, List.set_cons_zero, List.set_cons_succ]; refine Until.take (i := 6) (oi := _) (v := ?u6) rfl (by kernel_rfl) (by kernel_rfl) (by kernel_rfl) (by kernel_rfl) (by kernel_rfl) (fun _ _ _ h => h) (Or.inl ⟨by rfl, ?hu6⟩) hHeld ?_
       case hu6 =>
        intro w' hSw
        (try dsimp only at hSw)
        simp only [List.getElem_toArray, List.getElem_cons_succ, List.getElem_cons_zero]
        go_simp
        (try with_reducible rfl)
       change Until _ _ _ _ _ _ _ _ (Act.put _ (some 97) _) _; simp only [Act.put, List.setIfInBounds_toArray, List.set_cons_zero, List.set_cons_succ]; refine Until.one (i := 5) (o := _) (by kernel_rfl) rfl (fun K hK => ?_)
       go_simp
       refine (ZE.out _ Xf.out.drew U9.out.drew N20.out.drew.r0 R20.out.drew).mono ?_
       rintro e Xx ⟨As, cs, rfl, ho, hr, hg⟩; have ah2 : Hid (Own Xx (w.heap.size + 4) (.slice As sr.length cs) sr) := Lib.hid (Own.lower ho (by have h1 := Vj.out; have h2 := GQ.out; first | omega | (simp; omega))); have R21 := Lib.hid hr; have N21 := Lib.hid (N20.out.drew.touch hg GL.out); have ZZ := Lib.hid (Row.grown U9.out.drew hg (by have h1 := GL.out; have h2 := HKB.out; have h3 := GX.out; have h4 := GQ.out; simp; omega)); have acH := Lib.hid (Row.grown ZN.out.drew hg (by have h1 := GL.out; have h2 := HKB.out; have h3 := GX.out; have h4 := GQ.out; simp; omega)); have ZR := Lib.hid (Row.grown Xk.out.drew hg (by have h1 := GL.out; have h2 := HKB.out; have h3 := GX.out; have h4 := GQ.out; simp; omega)); have ah_ := Lib.hid (Own.touch Xf.out.drew hg (by have h1 := GL.out; omega)); have ahZ := Lib.hid (Own.touch ab9.out.drew hg (by have h1 := GL.out; omega)); have ah8 := Lib.hid (Own.touch ach.out.drew hg (by have h1 := GL.out; omega)); have U21 : Hid (ws.heap.size ≤ Xx.heap.size) := Lib.hid (by have h1 := hg.size; have h2 := Vj.out; first | omega | (simp at h1; omega)); clear ho hr hg
       go_wp2_with fail
       clear hHeld; have hHeld := KT.out _ N21.out ZZ.out ZR.out; refine hK.out _ _ (fun _ => hHeld) ?_
       clear hK K
       try simp only [Act.put, List.setIfInBounds_toArray, List.set_cons_zero, List.set_cons_succ]
       refine Until.one (i := 7) (o := _) (by kernel_rfl) rfl (fun K hK => ?_)
       go_simp
       refine (T41.out _ ah_.out).mono ?_
       rintro e w22 ⟨v, rfl, ho, hb⟩; obtain ⟨At2, ct2, rfl, _, _⟩ := Own.reads ho; have ah0 : Hid (Own w22 (w.heap.size + 4) (.slice At2 tk.length ct2) tk) := Lib.hid (Own.lower ho (by have h1 := U21.out; have h2 := GQ.out; first | omega | (have h3 := Vj.out; omega) | (have h3 := Vj.out; simp; omega))); have R22 := Lib.hid (Row.below R21.out hb R21.out.lt); have N22 := Lib.hid (N21.out.below hb); have ZY := Lib.hid (Row.below ZZ.out hb ZZ.out.lt); have acG := Lib.hid (Row.below acH.out hb acH.out.lt); have ZQ := Lib.hid (Row.below ZR.out hb ZR.out.lt); have ahW := Lib.hid (ahZ.out.below hb); have ah7 := Lib.hid (ah8.out.below hb); have ah1 := Lib.hid (ah2.out.below hb); have U22 : Hid (ws.heap.size ≤ w22.heap.size) := Lib.hid (by have h1 := hb.size; have h2 := U21.out; first | omega | (simp at h1; omega)); clear ho hb
       go_wp2_with fail
       clear hHeld; have hHeld := KT.out _ N22.out ZY.out ZQ.out; refine hK.out _ _ (fun _ => hHeld) ?_
       clear hK K
       try simp only [Act.put, List.setIfInBounds_toArray, List.set_cons_zero, List.set_cons_succ]
       refine Until.one (i := 8) (o := _) (by kernel_rfl) rfl (fun K hK => ?_)
       go_simp
       refine (M46.out _ _ _ _ _ ah1.out ah0.out).mono ?_
       rintro e w23 ⟨v, rfl, ho, hb⟩; obtain ⟨Ak2, ck2, rfl, _, _⟩ := Own.reads ho; have ahN : Hid (Own w23 (w.heap.size + 4) (.slice Ak2 kk.length ck2) kk) := Lib.hid (Own.lower ho (by have h1 := U22.out; have h2 := GQ.out; first | omega | (have h3 := Vj.out; omega) | (have h3 := Vj.out; simp; omega))); have R23 := Lib.hid (Row.below R22.out hb R22.out.lt); have N23 := Lib.hid (N22.out.below hb); have acR := Lib.hid (Row.below ZY.out hb ZY.out.lt); have aim := Lib.hid (Row.below acG.out hb acG.out.lt); have acO := Lib.hid (Row.below ZQ.out hb ZQ.out.lt); have ahV := Lib.hid (ahW.out.below hb); have ah6 := Lib.hid (ah7.out.below hb); have U23 : Hid (ws.heap.size ≤ w23.heap.size) := Lib.hid (by have h1 := hb.size; have h2 := U22.out; first | omega | (simp at h1; omega)); clear ho hb
       go_wp2_with fail
       clear hHeld; have hHeld := KT.out _ N23.out acR.out acO.out; refine hK.out _ _ (fun _ => hHeld) ?_
       clear hK K
       try simp only [Act.put, List.setIfInBounds_toArray, List.set_cons_zero, List.set_cons_succ]
       refine Until.take (i := 9) (oi := _) (v := ?u7) rfl (by kernel_rfl) (by kernel_rfl) (by kernel_rfl) (by kernel_rfl) (by kernel_rfl) (fun _ _ _ h => h) (Or.inl ⟨by rfl, ?hu7⟩) hHeld ?_
       case hu7 =>
        intro w' hSw
        (try dsimp only at hSw)
        simp only [List.getElem_toArray, List.getElem_cons_succ, List.getElem_cons_zero]
        go_simp
        (try with_reducible rfl)
       change Until _ _ _ _ _ _ _ _ (Act.put _ (some 100) _) _; simp only [Act.put, List.setIfInBounds_toArray, List.set_cons_zero, List.set_cons_succ]; refine Until.take (i := 10) (oi := _) (v := ?u8) rfl (by kernel_rfl) (by kernel_rfl) (by kernel_rfl) (by kernel_rfl) (by kernel_rfl) (fun _ _ _ h => h) (Or.inl ⟨by rfl, ?hu8⟩) hHeld ?_
       case hu8 =>
        intro w' hSw
        (try dsimp only at hSw)
        simp only [List.getElem_toArray, List.getElem_cons_succ, List.getElem_cons_zero]
        go_simp
        (try with_reducible rfl)
       change Until _ _ _ _ _ _ _ _ (Act.put _ (some 101) _) _; simp only [Act.put, List.setIfInBounds_toArray, List.set_cons_zero, List.set_cons_succ]; refine Until.take (i := 11) (oi := _) (v := ?u9) rfl (by kernel_rfl) (by kernel_rfl) (by kernel_rfl) (by kernel_rfl) (by kernel_rfl) (fun _ _ _ h => h) (Or.inl ⟨by rfl, ?hu9⟩) hHeld ?_
       case hu9 =>
        intro w' hSw
        (try dsimp only at hSw)
        simp only [List.getElem_toArray, List.getElem_cons_succ, List.getElem_cons_zero]
        go_simp
        (try with_reducible rfl)
       change Until _ _ _ _ _ _ _ _ (Act.put _ (some 102) _) _; simp only [Act.put, List.setIfInBounds_toArray, List.set_cons_zero, List.set_cons_succ]; refine Until.one (i := 12) (o := _) (by kernel_rfl) rfl (fun K hK => ?_)
       go_simp
       refine (qM g (s || b1 || b2 || b3 || b4 || b5 || b6 || b7 || b8) b9 n n 0 Ak2 kk.length ck2 _ R23.out).mono ?_
       rintro e w24 ⟨rfl, hr, hg⟩; have R24 := Lib.hid hr; have N24 := Lib.hid (N23.out.touch hg GL.out); have ZX := Lib.hid (Row.grown acR.out hg (by have h1 := GL.out; have h2 := HKB.out; have h3 := GX.out; have h4 := GQ.out; simp; omega)); have acF := Lib.hid (Row.grown aim.out hg (by have h1 := GL.out; have h2 := HKB.out; have h3 := GX.out; have h4 := GQ.out; simp; omega)); have ZP := Lib.hid (Row.grown acO.out hg (by have h1 := GL.out; have h2 := HKB.out; have h3 := GX.out; have h4 := GQ.out; simp; omega)); have ahU := Lib.hid (Own.touch ahV.out hg (by have h1 := GL.out; omega)); have ah5 := Lib.hid (Own.touch ah6.out hg (by have h1 := GL.out; omega)); have ahM := Lib.hid (Own.touch ahN.out hg (by have h1 := GL.out; omega)); have U24 : Hid (ws.heap.size ≤ w24.heap.size) := Lib.hid (by have h1 := hg.size; have h2 := U23.out; first | omega | (simp at h1; omega)); clear hr hg
       go_wp2_with fail
       clear hHeld; have hHeld := KT.out _ N24.out ZX.out ZP.out; refine hK.out _ _ (fun _ => hHeld) ?_
       clear hK K
       try simp only [Act.put, List.setIfInBounds_toArray, List.set_cons_zero, List.set_cons_succ]
       refine Until.one (i := 13) (o := _) (by kernel_rfl) rfl (fun K hK => ?_)
       go_simp
       refine (adr.out _ _ _ ah5.out ahM.out).mono ?_
       rintro e w25 ⟨v, rfl, ho, hb⟩; obtain ⟨Lt, Lr, rfl, _, _⟩ := Own.reads ho; have ah4 : Hid (Own w25 (w.heap.size + 4) (.slice Lt p2.length Lr) p2) := Lib.hid (Own.lower ho (by have h1 := U24.out; have h2 := GQ.out; first | omega | (have h3 := Vj.out; omega) | (have h3 := Vj.out; simp; omega))); have aid := Lib.hid ho.row.lt; have R25 := Lib.hid (Row.below R24.out hb R24.out.lt); have N25 := Lib.hid (N24.out.below hb); have acQ := Lib.hid (Row.below ZX.out hb ZX.out.lt); have ail := Lib.hid (Row.below acF.out hb acF.out.lt); have acN := Lib.hid (Row.below ZP.out hb ZP.out.lt); have ahT := Lib.hid (ahU.out.below hb); have U25 : Hid (ws.heap.size ≤ w25.heap.size) := Lib.hid (by have h1 := hb.size; have h2 := U24.out; first | omega | (simp at h1; omega)); clear ho hb
       go_wp2_with fail
       clear hHeld; have hHeld := KT.out _ N25.out acQ.out acN.out; refine hK.out _ _ (fun _ => hHeld) ?_
       clear hK K
       try simp only [Act.put, List.setIfInBounds_toArray, List.set_cons_zero, List.set_cons_succ]
       refine Until.take (i := 14) (oi := _) (v := ?u10) rfl (by kernel_rfl) (by kernel_rfl) (by kernel_rfl) (by kernel_rfl) (by kernel_rfl) (fun _ _ _ h => h) (Or.inl ⟨by rfl, ?YW⟩) hHeld ?_
       case YW =>
        intro w' hSw
        (try dsimp only at hSw)
        simp only [List.getElem_toArray, List.getElem_cons_succ, List.getElem_cons_zero]
        go_simp
        (try with_reducible rfl)
       change Until _ _ _ _ _ _ _ _ (Act.put _ (some 105) _) _; simp only [Act.put, List.setIfInBounds_toArray, List.set_cons_zero, List.set_cons_succ]; refine Until.take (i := 15) (oi := _) (v := ?u11) rfl (by kernel_rfl) (by kernel_rfl) (by kernel_rfl) (by kernel_rfl) (by kernel_rfl) (fun _ _ _ h => h) (Or.inl ⟨by rfl, ?YV⟩) hHeld ?_
       case YV =>
        intro w' hSw
        (try dsimp only at hSw)
        simp only [List.getElem_toArray, List.getElem_cons_succ, List.getElem_cons_zero]
        go_simp
        (try with_reducible rfl)
       change Until _ _ _ _ _ _ _ _ (Act.put _ (some 106) _) _; simp only [Act.put, List.setIfInBounds_toArray, List.set_cons_zero, List.set_cons_succ]; refine Until.take (i := 16) (oi := _) (v := ?u12) rfl (by kernel_rfl) (by kernel_rfl) (by kernel_rfl) (by kernel_rfl) (by kernel_rfl) (fun _ _ _ h => h) (Or.inl ⟨by rfl, ?YU⟩) hHeld ?_
       case YU =>
        intro w' hSw
        (try dsimp only at hSw)
        simp only [List.getElem_toArray, List.getElem_cons_succ, List.getElem_cons_zero]
        go_simp
        (try with_reducible rfl)
       change Until _ _ _ _ _ _ _ _ (Act.put _ (some 107) _) _; simp only [Act.put, List.setIfInBounds_toArray, List.set_cons_zero, List.set_cons_succ]; refine Until.one (i := 17) (o := _) (by kernel_rfl) rfl (fun K hK => ?_)
       go_simp
       refine (qM g (s || b1 || b2 || b3 || b4 || b5 || b6 || b7 || b8 || b9) b10 n n 0 Lt p2.length Lr _ R25.out).mono ?_
       rintro e Yr ⟨rfl, hr, hg⟩; have R26 := Lib.hid hr; have N26 := Lib.hid (N25.out.touch hg GL.out); have aip := Lib.hid (Row.grown acQ.out hg (by have h1 := GL.out; have h2 := HKB.out; have h3 := GX.out; have h4 := GQ.out; simp; omega)); have aik := Lib.hid (Row.grown ail.out hg (by have h1 := GL.out; have h2 := HKB.out; have h3 := GX.out; have h4 := GQ.out; simp; omega)); have Xj := Lib.hid (Row.grown acN.out hg (by have h1 := GL.out; have h2 := HKB.out; have h3 := GX.out; have h4 := GQ.out; simp; omega)); have ahR := Lib.hid (Own.touch ahT.out hg (by have h1 := GL.out; omega)); have ah3 := Lib.hid (Own.touch ah4.out hg (by have h1 := GL.out; omega)); have U26 : Hid (ws.heap.size ≤ Yr.heap.size) := Lib.hid (by have h1 := hg.size; have h2 := U25.out; first | omega | (simp at h1; omega)); have kc := Xj.out.cell; have kf := Xj.out.free; clear hr hg
       go_wp2_with fail
       clear hHeld; have hHeld := KT.out _ N26.out aip.out Xj.out; refine hK.out _ _ (fun _ => hHeld) ?_
       clear hK K
       try simp only [Act.put, List.setIfInBounds_toArray, List.set_cons_zero, List.set_cons_succ]
       refine Until.one (i := 18) (o := _) (by kernel_rfl) rfl (fun K hK => ?_)
       go_simp
       refine hK.out _ _ (fun h => Bool.noConfusion (show true = false from h)) ?_
       clear hK K hHeld
       try simp only [Act.put, List.setIfInBounds_toArray, List.set_cons_zero, List.set_cons_succ]
       refine Until.done (by kernel_rfl) ?_ _
       refine NoPanic.normal ?_
       have N27 := Lib.hid (N26.out.dK (C := w7.heap.size) (by have h1 := GQ.out; simpa using h1) (I n) (I n) (.slice Lt p2.length Lr)); have Xg : Hid (Row (dK Yr w7.heap.size (I n) (I n) (.slice Lt p2.length Lr)) kx 29 #[I n, I 1, .slice Ax x.length dx]) := Lib.hid (aik.out.rG HXQ.out); have Xi := Lib.hid (Xj.out.dK (I n) (I n) (.slice Lt p2.length Lr)); have ZK := Lib.hid (Own.mM ahR.out HXO.out (I n) (I n) (.slice Lt p2.length Lr)); have acg := Lib.hid (Own.mM ah3.out (C := w7.heap.size) (fun q hq => by have h1 := (aid.out q hq).1; have h2 := U24.out; have h3 := Vj.out; omega) (I n) (I n) (.slice Lt p2.length Lr)); have R27 := Lib.hid (R26.out.rG (C := w7.heap.size) (by have h1 := GL.out; have h2 := GQ.out; omega) (a := I n) (b := I n) (c := .slice Lt p2.length Lr))
       go_wp2_with fail
       change Code.wp Tryz.prog _ _ _ (dK Yr w7.heap.size (I n) (I n) (.slice Lt p2.length Lr)); have UW : Hid (ws.heap.size ≤ (dK Yr w7.heap.size (I n) (I n) (.slice Lt p2.length Lr)).heap.size) := Lib.hid (by have h1 := U26.out; simpa using h1)
       obtain ⟨Yq, aaW⟩ : ∃ Yq, dK Yr w7.heap.size (I n) (I n) (.slice Lt p2.length Lr) = Yq := ⟨_, rfl⟩
       rw [aaW] at N27 Xg Xi ZK acg R27 UW ⊢; clear aaW kc kf; have KU : Hid (∀ w', Row w' kx 29 #[I n, I 1, .slice Ax x.length dx] → Row w' w7.heap.size 29 #[I n, I n, .slice Lt p2.length Lr] → (∀ o, w'.cell? ⟨kx, o, none⟩ = #[I n, I 1, .slice Ax x.length dx][o]?) ∧ (∀ o, w'.cell? ⟨w7.heap.size, o, none⟩ = #[I n, I n, .slice Lt p2.length Lr][o]?)) := Lib.hid (fun w' h1 h2 => ⟨h1.cell, h2.cell⟩); have G15 := Lib.hid (fun w' (o : Own w' (w.heap.size + 4) (.slice Lt p2.length Lr) p2) => Ef n Lt Lr p2 w' HH.out.2 (by rw [← HT2.out.ep2]; exact upto_length) (Own.rd o).1 (Own.rd o).2); rw [HT2.out.eP] at G15
       go_region_held3 (fun w' => (∀ o, w'.cell? ⟨kx, o, none⟩ = #[I n, I 1, .slice Ax x.length dx][o]?) ∧ (∀ o, w'.cell? ⟨w7.heap.size, o, none⟩ = #[I n, I n, .slice Lt p2.length Lr][o]?))
        (first | with_reducible exact KU.out _ acE.out acM.out | with_reducible exact KU.out _ Xg.out.drew Xi.out.drew | exact KU.out _ (Row.vH acE.out (C := w.heap.size + 1 + 1 + 1) (by have h1 := GX.out; omega) _ _ _ _ _ _) (Row.vH acM.out (C := w.heap.size + 1 + 1 + 1) (by have h1 := GQ.out; omega) _ _ _ _ _ _))
        (first
          | (go_at_call 155
             refine (G15.out _ acg.out.drew).mono ?_
             rintro e w28 ⟨Ag, cg, rfl, ho, hb⟩; have aia := Lib.hid ho; have N28 := Lib.hid (N27.out.drew.below hb); have acE := Lib.hid (Row.below Xg.out.drew hb Xg.out.lt); have acM := Lib.hid (Row.below Xi.out.drew hb Xi.out.lt); have ahO := Lib.hid (ZK.out.drew.below hb); have X8 := Lib.hid (Row.below R27.out.drew hb R27.out.lt); have aic := Lib.hid ho.row.lt; have OXB : Hid (∀ q, (Value.slice Ax x.length dx).ownBlock = some q → q < Yq.heap.size) := Lib.hid (fun q hq => (ZK.out.row.lt q hq).2); have x3 := N28.out.r3.cell; have g3 := N28.out.r3.free
             clear ho hb))
       go_wp2
       have zg := GL.out; have z7 := GQ.out; have zu := Vj.out; have zw := UW.out; have zd : Yq.drew.heap.size = Yq.heap.size := rfl; refine bodyPost_ret (af9 rfl rfl (Row.g_ N28.out.r3 _ _ _ _ _ _)) rfl ⟨_, _, _, _, rfl, ?_, ?_, ?_, Row.vH X8.out (by omega) _ _ _ _ _ _, Ui N28.out.gr (by omega) _ _ _ _ _ _⟩
       · exact (Own.g_ ahO.out (by omega) _ _ _ _ _ _).lower (by omega)
       · exact (Own.g_ aia.out (by omega) _ _ _ _ _ _).lower (by omega)
       · intro q hq e
         have h1 := OXB.out q hq; have h2 := (aic.out q e).1
         omega)
      clear abW; have UT : Hid (w.heap.size + 4 ≤ wt.heap.size ∧ kb < wt.heap.size ∧ kx < wt.heap.size ∧ bk < wt.heap.size ∧ w6.heap.size < wt.heap.size) := Lib.hid ⟨by have h1 := Jt.out.rows.le Jt.out.gr.size; simpa using h1, Cj.out.lt, Ju.out.lt, (Jr.out.row.lt bk rfl).2, Ci.out.lt⟩; have UX : Hid (∀ q, (Value.slice Ax x.length dx).ownBlock = some q → q < wt.heap.size) := Lib.hid (fun q hq => (RZ.out.row.lt q hq).2); have A46 := Lib.hid (fun w' (h : w.grownBy w' (some g)) (o : Own w' (w.heap.size + 4) (.slice (some ⟨bk, 0, none⟩) k.length ck) k) => yZ n 1 n (some ⟨bk, 0, none⟩) A3 ck c3 k lh w' HH.out.2 (by omega) HH.out.2 EO.out HHL.out (Own.rd o).1 (TH.out _ h)); rw [HT2.out.ekh, HT2.out.eb5] at A46; have A71 := Lib.hid (fun A' c' w' (o : Own w' (w.heap.size + 4) (.slice Ae (oW n).length ce) (oW n)) (o' : Own w' (w.heap.size + 4) (.slice A' kh.length c') kh) hc' => VD n n Ae A' ce c' (oW n) kh w' HH.out.2 HH.out.2 (by unfold oW; rw [l7]; simp) (by rw [← HT2.out.ekh]; exact lC _ _ _ _ _) (Own.rd o).1 (Own.rd o').1 (Own.rd o).2 hc'); rw [HT2.out.eik, HT2.out.eb6] at A71; simp only [eo] at A46; have KS : Hid (∀ w', Sg w g [(211, #[.pointer (some ⟨g, 0, none⟩)]), (31, #[I n, I 1, .slice A1 lx.length c1, I n, I n, .slice A2 lp.length c2]), (29, #[I 1, I n, .slice A3 lh.length c3]), (31, #[I 0, I 0, .slice none 0 0, I 0, I 0, .slice none 0 0])] w' → Row w' kb 29 #[I n, I 1, .slice (some ⟨bk, 0, none⟩) k.length ck] → Row w' w6.heap.size 29 #[I n, I n, .slice Ae (oW n).length ce] → ((∀ o, w'.cell? ⟨w.heap.size, o, none⟩ = #[.pointer (some ⟨g, 0, none⟩)][o]?) ∧ (∀ o, w'.cell? ⟨w.heap.size + 1, o, none⟩ = #[I n, I 1, .slice A1 lx.length c1, I n, I n, .slice A2 lp.length c2][o]?) ∧ (∀ o, w'.cell? ⟨w.heap.size + 1 + 1, o, none⟩ = #[I 1, I n, .slice A3 lh.length c3][o]?)) ∧ (∀ o, w'.cell? ⟨kb, o, none⟩ = #[I n, I 1, .slice (some ⟨bk, 0, none⟩) k.length ck][o]?) ∧ (∀ o, w'.cell? ⟨w6.heap.size, o, none⟩ = #[I n, I n, .slice Ae (oW n).length ce][o]?)) := Lib.hid (fun w' h h1 h2 => ⟨⟨h.r0.cell, h.r1.cell, h.r2.cell⟩, h1.cell, h2.cell⟩)
      go_region_held3 (fun w' => ((∀ o, w'.cell? ⟨w.heap.size, o, none⟩ = #[.pointer (some ⟨g, 0, none⟩)][o]?) ∧ (∀ o, w'.cell? ⟨w.heap.size + 1, o, none⟩ = #[I n, I 1, .slice A1 lx.length c1, I n, I n, .slice A2 lp.length c2][o]?) ∧ (∀ o, w'.cell? ⟨w.heap.size + 1 + 1, o, none⟩ = #[I 1, I n, .slice A3 lh.length c3][o]?)) ∧ (∀ o, w'.cell? ⟨kb, o, none⟩ = #[I n, I 1, .slice (some ⟨bk, 0, none⟩) k.length ck][o]?) ∧ (∀ o, w'.cell? ⟨w6.heap.size, o, none⟩ = #[I n, I n, .slice Ae (oW n).length ce][o]?))
       (first | with_reducible exact KS.out _ N14.out U_.out ZW.out | with_reducible exact KS.out _ (N14.out.alloc _) (U_.out.alloc _) (ZW.out.alloc _) | with_reducible exact KS.out _ N13.out Xn.out Xl.out | with_reducible exact KS.out _ (N13.out.alloc _) (Xn.out.alloc _) (Xl.out.alloc _) | with_reducible exact KS.out _ N12.out Sv.out Su.out | with_reducible exact KS.out _ (N12.out.alloc _) (Sv.out.alloc _) (Su.out.alloc _) | with_reducible exact KS.out _ N11.out Xo.out Xm.out | with_reducible exact KS.out _ (N11.out.alloc _) (Xo.out.alloc _) (Xm.out.alloc _) | with_reducible exact KS.out _ (Jt.out.drew) (Cj.out.drew) (Ci.out.drew) | with_reducible exact KS.out _ (Jt.out.drew.alloc _) (Cj.out.drew.alloc _) (Ci.out.drew.alloc _) | with_reducible exact KS.out _ ((Jt.out.alloc _).drew) ((Cj.out.alloc _).drew) ((Ci.out.alloc _).drew) | exact KS.out _ (N14.out.dK (by have h1 := UT.out; have h2 := Xc.out; have h3 := X3.out; have h4 := ZC.out; have h5 := U14.out; have h6 := GE.out; simp; omega) _ _ _) (U_.out.rG (by have h1 := UT.out; have h2 := Xc.out; have h3 := X3.out; have h4 := ZC.out; have h5 := U14.out; omega)) (ZW.out.rG (by have h1 := UT.out; have h2 := Xc.out; have h3 := X3.out; have h4 := ZC.out; have h5 := U14.out; omega)))
       (first
         | (go_at_call 151
            first
             | (with_reducible refine (qM g (s || b1 || b2 || b3 || b4 || b5) b6 n n 0 Ai ik.length di _ R13.out).mono ?_)
             | (with_reducible refine (qM g (s || b1 || b2 || b3 || b4 || b5) b6 n n 0 Ai ik.length di _ (R13.out.alloc _)).mono ?_)
            rintro e w14 ⟨rfl, hr, hg⟩; have R14 := Lib.hid hr; have N14 := Lib.hid (by first | exact N13.out.touch hg GL.out | exact (N13.out.alloc _).touch hg GL.out); have U_ := Lib.hid (by first | exact Row.grown (Xn.out) hg (by have h1 := GL.out; have h2 := HKB.out; have h3 := GX.out; have h4 := GE.out; simp; omega) | exact Row.grown ((Xn.out.alloc _)) hg (by have h1 := GL.out; have h2 := HKB.out; have h3 := GX.out; have h4 := GE.out; simp; omega)); have acJ := Lib.hid (by first | exact Row.grown (acK.out) hg (by have h1 := GL.out; have h2 := HKB.out; have h3 := GX.out; have h4 := GE.out; simp; omega) | exact Row.grown ((acK.out.alloc _)) hg (by have h1 := GL.out; have h2 := HKB.out; have h3 := GX.out; have h4 := GE.out; simp; omega)); have ZW := Lib.hid (by first | exact Row.grown (Xl.out) hg (by have h1 := GL.out; have h2 := HKB.out; have h3 := GX.out; have h4 := GE.out; simp; omega) | exact Row.grown ((Xl.out.alloc _)) hg (by have h1 := GL.out; have h2 := HKB.out; have h3 := GX.out; have h4 := GE.out; simp; omega)); have ack := Lib.hid (by first | exact Own.touch (acm.out) hg (by have h1 := GL.out; omega) | exact Own.touch ((acm.out.alloc _)) hg (by have h1 := GL.out; omega)); have ab_ := Lib.hid (by first | exact Own.touch (acd.out) hg (by have h1 := GL.out; omega) | exact Own.touch ((acd.out.alloc _)) hg (by have h1 := GL.out; omega)); have acp := Lib.hid (by first | exact Own.touch (acr.out) hg (by have h1 := GL.out; omega) | exact Own.touch ((acr.out.alloc _)) hg (by have h1 := GL.out; omega)); have U14 : Hid (wt.heap.size ≤ w14.heap.size ∧ SG.heap.size ≤ w14.heap.size) := Lib.hid (by have h1 := hg.size; have h2 := ZC.out; first | omega | (simp at h1; omega))
            first
             | (have Sr := Lib.hid (Row.grown acP.out hg (by have h1 := GL.out; have h4 := GE.out; have h5 := UT.out; have h6 := ZC.out; have h7 := X3.out; have h8 := Xc.out; simp; omega))
                have kc := Sr.out.cell
                have kf := Sr.out.free)
             | (have Sr : Hid (Row w14 SG.heap.size 29 #[I 0, I 0, .slice none 0 0]) := Lib.hid (Row.grown (Row.new SG 29 #[I 0, I 0, .slice none 0 0]) hg (by have h1 := GL.out; have h4 := GE.out; have h5 := UT.out; have h6 := ZC.out; have h7 := X3.out; have h8 := Xc.out; simp; omega))
                have kc := Sr.out.cell
                have kf := Sr.out.free)
             | skip
            clear hr hg)
         | (go_at_call 205
            first
             | (with_reducible refine (A71.out _ _ _ acv.out acs.out adk.out).mono ?_)
             | (with_reducible refine (A71.out _ _ _ (acv.out.alloc _) (acs.out.alloc _) adk.out).mono ?_)
            rintro e SG ⟨v, rfl, ho, hb⟩; obtain ⟨Ai, di, rfl, _, _⟩ := Own.reads ho; have acr : Hid (Own SG (w.heap.size + 4) (.slice Ai ik.length di) ik) := Lib.hid (Own.lower ho (by have h1 := UT.out; have h4 := GE.out; have h5 := X3.out; first | omega | (simp; omega))); have aie := Lib.hid ho.row.lt; have N13 := Lib.hid (by first | exact N12.out.below hb | exact (N12.out.alloc _).below hb); have Xn := Lib.hid (by first | exact Row.below (Sv.out) hb (Sv.out).lt | exact Row.below ((Sv.out.alloc _)) hb ((Sv.out.alloc _)).lt); have acK := Lib.hid (by first | exact Row.below (Xh.out) hb (Xh.out).lt | exact Row.below ((Xh.out.alloc _)) hb ((Xh.out.alloc _)).lt); have Xl := Lib.hid (by first | exact Row.below (Su.out) hb (Su.out).lt | exact Row.below ((Su.out.alloc _)) hb ((Su.out.alloc _)).lt); have acm := Lib.hid (by first | exact acn.out.below hb | exact (acn.out.alloc _).below hb); have acd := Lib.hid (by first | exact ace.out.below hb | exact (ace.out.alloc _).below hb); have R13 := Lib.hid (by first | exact Row.below (R12.out) hb (R12.out).lt | exact Row.below ((R12.out.alloc _)) hb ((R12.out.alloc _)).lt); have ZC : Hid (wt.heap.size ≤ SG.heap.size ∧ w12.heap.size ≤ SG.heap.size) := Lib.hid (by have h1 := hb.size; have h2 := X3.out; first | omega | (simp at h1; omega))
            first
             | (have acP := Lib.hid (Row.below U8.out hb U8.out.lt))
             | (have acP : Hid (Row SG w12.heap.size 29 #[I 0, I 0, .slice none 0 0]) := Lib.hid (Row.below (Row.new w12 29 #[I 0, I 0, .slice none 0 0]) hb (by simp)))
             | skip
            clear hb ho)
         | (go_at_call 151
            first
             | (with_reducible refine (qM g (s || b1 || b2 || b3 || b4) b5 n n 0 Ah kh.length dh _ R11.out).mono ?_)
             | (with_reducible refine (qM g (s || b1 || b2 || b3 || b4) b5 n n 0 Ah kh.length dh _ (R11.out.alloc _)).mono ?_)
            rintro e w12 ⟨rfl, hr, hg⟩; have R12 := Lib.hid hr; have N12 := Lib.hid (by first | exact N11.out.touch hg GL.out | exact (N11.out.alloc _).touch hg GL.out); have Sv := Lib.hid (by first | exact Row.grown (Xo.out) hg (by have h1 := GL.out; have h2 := HKB.out; have h3 := GX.out; have h4 := GE.out; simp; omega) | exact Row.grown ((Xo.out.alloc _)) hg (by have h1 := GL.out; have h2 := HKB.out; have h3 := GX.out; have h4 := GE.out; simp; omega)); have Xh := Lib.hid (by first | exact Row.grown (acL.out) hg (by have h1 := GL.out; have h2 := HKB.out; have h3 := GX.out; have h4 := GE.out; simp; omega) | exact Row.grown ((acL.out.alloc _)) hg (by have h1 := GL.out; have h2 := HKB.out; have h3 := GX.out; have h4 := GE.out; simp; omega)); have Su := Lib.hid (by first | exact Row.grown (Xm.out) hg (by have h1 := GL.out; have h2 := HKB.out; have h3 := GX.out; have h4 := GE.out; simp; omega) | exact Row.grown ((Xm.out.alloc _)) hg (by have h1 := GL.out; have h2 := HKB.out; have h3 := GX.out; have h4 := GE.out; simp; omega)); have acn := Lib.hid (by first | exact Own.touch (aco.out) hg (by have h1 := GL.out; omega) | exact Own.touch ((aco.out.alloc _)) hg (by have h1 := GL.out; omega)); have ace := Lib.hid (by first | exact Own.touch (acf.out) hg (by have h1 := GL.out; omega) | exact Own.touch ((acf.out.alloc _)) hg (by have h1 := GL.out; omega)); have acv := Lib.hid (by first | exact Own.touch (acw.out) hg (by have h1 := GL.out; omega) | exact Own.touch ((acw.out.alloc _)) hg (by have h1 := GL.out; omega)); have acs := Lib.hid (by first | exact Own.touch (acu.out) hg (by have h1 := GL.out; omega) | exact Own.touch ((acu.out.alloc _)) hg (by have h1 := GL.out; omega)); have X3 : Hid (wt.heap.size ≤ w12.heap.size ∧ BX.heap.size ≤ w12.heap.size) := Lib.hid (by have h1 := hg.size; have h2 := Xc.out; first | omega | (simp at h1; omega))
            first
             | (have U8 := Lib.hid (Row.grown ZT.out hg (by have h1 := GL.out; have h4 := GE.out; have h5 := UT.out; have h6 := Xc.out; simp; omega)))
             | (have U8 : Hid (Row w12 BX.heap.size 29 #[I 0, I 0, .slice none 0 0]) := Lib.hid (Row.grown (Row.new BX 29 #[I 0, I 0, .slice none 0 0]) hg (by have h1 := GL.out; have h4 := GE.out; have h5 := UT.out; have h6 := Xc.out; simp; omega)))
             | skip
            clear hr hg)
         | (go_at_call 152
            first
             | (with_reducible refine (A46.out _ Jt.out.drew.gr Jr.out.drew).mono ?_)
             | (with_reducible refine (A46.out _ (Jt.out.drew.alloc _).gr (Jr.out.drew.alloc _)).mono ?_)
             | (with_reducible refine (A46.out _ (Jt.out.alloc _).drew.gr (Jr.out.alloc _).drew).mono ?_)
            rintro e BX ⟨v, rfl, ho, hb⟩; obtain ⟨Ah, dh, rfl, hch, rah⟩ := Own.reads ho; have adk := Lib.hid hch; have acu : Hid (Own BX (w.heap.size + 4) (.slice Ah kh.length dh) kh) := Lib.hid (Own.lower ho (by have h1 := UT.out; have h4 := GE.out; first | omega | (simp; omega))); have N11 := Lib.hid (by first | exact Jt.out.drew.below hb | exact (Jt.out.drew.alloc _).below hb | exact (Jt.out.alloc _).drew.below hb); have Xo := Lib.hid (by first | exact Row.below (Cj.out.drew) hb (Cj.out.drew).lt | exact Row.below ((Cj.out.drew.alloc _)) hb ((Cj.out.drew.alloc _)).lt | exact Row.below ((Cj.out.alloc _).drew) hb ((Cj.out.alloc _).drew).lt); have acL := Lib.hid (by first | exact Row.below (Ju.out.drew) hb (Ju.out.drew).lt | exact Row.below ((Ju.out.drew.alloc _)) hb ((Ju.out.drew.alloc _)).lt | exact Row.below ((Ju.out.alloc _).drew) hb ((Ju.out.alloc _).drew).lt); have Xm := Lib.hid (by first | exact Row.below (Ci.out.drew) hb (Ci.out.drew).lt | exact Row.below ((Ci.out.drew.alloc _)) hb ((Ci.out.drew.alloc _)).lt | exact Row.below ((Ci.out.alloc _).drew) hb ((Ci.out.alloc _).drew).lt); have aco := Lib.hid (by first | exact Jr.out.drew.below hb | exact (Jr.out.drew.alloc _).below hb | exact (Jr.out.alloc _).drew.below hb); have acf := Lib.hid (by first | exact RZ.out.drew.below hb | exact (RZ.out.drew.alloc _).below hb | exact (RZ.out.alloc _).drew.below hb); have acw := Lib.hid (by first | exact U1.out.drew.below hb | exact (U1.out.drew.alloc _).below hb | exact (U1.out.alloc _).drew.below hb); have R11 := Lib.hid (by first | exact Row.below (R10.out.drew) hb (R10.out.drew).lt | exact Row.below ((R10.out.drew.alloc _)) hb ((R10.out.drew.alloc _)).lt | exact Row.below ((R10.out.alloc _).drew) hb ((R10.out.alloc _).drew).lt); have Xc : Hid (wt.heap.size ≤ BX.heap.size ∧ wt.heap.size ≤ BX.heap.size) := Lib.hid (by have h1 := hb.size; first | omega | (simp at h1; omega))
            first
             | (have ZT : Hid (Row BX wt.heap.size 29 #[I 0, I 0, .slice none 0 0]) := Lib.hid (Row.below (Row.new wt.drew 29 #[I 0, I 0, .slice none 0 0]) hb (by simp)))
             | (have ZT : Hid (Row BX wt.heap.size 29 #[I 0, I 0, .slice none 0 0]) := Lib.hid (Row.below (Row.new wt 29 #[I 0, I 0, .slice none 0 0]).drew hb (by simp)))
             | skip
            clear hb ho hch rah))
      all_goals
       show K10 _ _; have z0 := UT.out; have z1 := Xc.out; have z2 := X3.out; have z3 := ZC.out; have z4 := U14.out; have zg := GL.out; have ze := GE.out
       first
        | (refine UZ.out _ _ _ _ _ _ _ _ _ _ _ _ _ _ _ _ _ _ _ _ _ _ _ _ _ _ _ _ _ _ _ _ _ _ _ _ _ _ _ _ _ _ _ _ _ _ _ _ _ _ _ _ _ _ _ _ _ _ _ _ _ _ _ _ _ _ _ _ _ _ _ _ (N14.out.alloc _) (U_.out.alloc _) (ack.out.alloc _) (acJ.out.alloc _) (ab_.out.alloc _) (Row.new _ _ _) (acp.out.alloc _) (R14.out.alloc _) (by omega))
        | (refine UZ.out _ _ _ _ _ _ _ _ _ _ _ _ _ _ _ _ _ _ _ _ _ _ _ _ _ _ _ _ _ _ _ _ _ _ _ _ _ _ _ _ _ _ _ _ _ _ _ _ _ _ _ _ _ _ _ _ _ _ _ _ _ _ _ _ _ _ _ _ _ _ _ _ (N14.out.dK (by simp; omega) _ _ _) (U_.out.rG (by omega)) (Own.mM ack.out (fun q hq => ?_) _ _ _) (acJ.out.rG (by omega)) (Own.mM ab_.out (fun q hq => ?_) _ _ _) (Sr.out.dK _ _ _) (Own.mM acp.out (fun q hq => ?_) _ _ _) (R14.out.rG (by omega)) (by omega)
           · injection hq with hq
             dsimp only at hq; omega
           · have h1 := UX.out q hq
             omega
           · have h1 := aie.out q hq
             first | omega | (simp at h1; omega) | (have h2 := ZT.out.lt; omega) | (have h2 := U8.out.lt; omega) | (simp at h1; have h2 := U8.out.lt; omega)))
     clear aK8; have U0 : Hid (w.heap.size + 4 ≤ wr.heap.size ∧ kb < wr.heap.size ∧ bk < wr.heap.size) := Lib.hid ⟨by have h1 := N5.out.rows.le N5.out.gr.size; simpa using h1, Ls.out.lt, (OK.out.row.lt bk rfl).2⟩; have S68 := Lib.hid (fun w' (o : Own w' (w.heap.size + 4) (.slice (some ⟨bk, 0, none⟩) k.length ck) k) rk rp rg => yO g kb w.heap.size n (s || b1 || b2) (some ⟨bk, 0, none⟩) ck k y w' HH.out.2 EO.out (Own.rd o).1 (Own.rd o).2 rk rp rg); rw [HT2.out.esy, HT2.out.eb3] at S68; have A47 := Lib.hid (fun A' c' w' (h : w.grownBy w' (some g)) (ha : Rd w' A' sy) hc => Io n 1 A1 A' c1 c' lx sy w' HH.out.2 (by omega) HX.out (by rw [← HT2.out.esy]; exact upto_length) (TX.out _ h) ha CX.out hc); rw [HT2.out.ex, HT2.out.eb4] at A47; simp only [eo] at A47
     go_region_held3 (fun w' => (∀ o, w'.cell? ⟨w.heap.size, o, none⟩ = #[.pointer (some ⟨g, 0, none⟩)][o]?) ∧ (∀ o, w'.cell? ⟨w.heap.size + 1, o, none⟩ = #[I n, I 1, .slice A1 lx.length c1, I n, I n, .slice A2 lp.length c2][o]?) ∧ (∀ o, w'.cell? ⟨w.heap.size + 1 + 1, o, none⟩ = #[I 1, I n, .slice A3 lh.length c3][o]?))
      (first | with_reducible exact KK.out _ M4.out | with_reducible exact KK.out _ (M4.out.alloc _) | with_reducible exact KK.out _ M3.out | with_reducible exact KK.out _ (M3.out.alloc _) | with_reducible exact KK.out _ M2.out | with_reducible exact KK.out _ (M2.out.alloc _) | with_reducible exact KK.out _ N5.out.drew | with_reducible exact KK.out _ (N5.out.drew.alloc _) | with_reducible exact KK.out _ (N5.out.alloc _).drew | exact KK.out _ (M4.out.dK (by have := U0.out; have := U2.out; have := U3.out; have := U4.out; simp; omega) _ _ _))
      (first
        | (go_at_call 151
           first
            | (with_reducible refine (qM g (s || b1 || b2 || b3) b4 n 1 0 Ax x.length dx _ R3.out).mono ?_)
            | (with_reducible refine (qM g (s || b1 || b2 || b3) b4 n 1 0 Ax x.length dx _ (R3.out.alloc _)).mono ?_)
           rintro e w4 ⟨rfl, hr4, hg4⟩; have R4 := Lib.hid hr4; have M4 := Lib.hid (by first | exact M3.out.touch hg4 GL.out | exact (M3.out.alloc _).touch hg4 GL.out); have KM4 := Lib.hid (by first | exact Row.grown (KM3.out) hg4 (by have h1 := GL.out; have h2 := HKB.out; simp; omega) | exact Row.grown ((KM3.out.alloc _)) hg4 (by have h1 := GL.out; have h2 := HKB.out; simp; omega)); have OK4 := Lib.hid (by first | exact Own.touch (OK3.out) hg4 (by have h1 := GL.out; omega) | exact Own.touch ((OK3.out.alloc _)) hg4 (by have h1 := GL.out; omega)); have OX4 := Lib.hid (by first | exact Own.touch (OX3.out) hg4 (by have h1 := GL.out; omega) | exact Own.touch ((OX3.out.alloc _)) hg4 (by have h1 := GL.out; omega)); have U4 : Hid (w3.heap.size ≤ w4.heap.size) := Lib.hid (by have h1 := hg4.size; first | omega | (simp at h1; omega))
           first
            | (have XB4 := Lib.hid (Row.grown XB3.out hg4 (by have h1 := GL.out; have h2 := U0.out; have h3 := U2.out; simp; omega))
               have kc := XB4.out.cell
               have kf := XB4.out.free)
            | (have XB4 : Hid (Row w4 w3.heap.size 29 #[I 0, I 0, .slice none 0 0]) := Lib.hid (Row.grown (Row.new w3 29 #[I 0, I 0, .slice none 0 0]) hg4 (by have h1 := GL.out; have h2 := U0.out; have h3 := U2.out; have h4 := U3.out; simp; omega))
               have kc := XB4.out.cell
               have kf := XB4.out.free)
            | skip
           clear hr4 hg4)
        | (go_at_call 153
           first
            | (with_reducible refine (A47.out _ _ _ M2.out.gr RA.out CS.out).mono ?_)
            | (with_reducible refine (A47.out _ _ _ (M2.out.alloc _).gr (RA.out.below ((Below.refl _ _).alloc (Nat.le_refl _) _)) CS.out).mono ?_)
           rintro e w3 ⟨v, rfl, ho, hb⟩; obtain ⟨Ax, dx, rfl, _, _⟩ := Own.reads ho; have OX3 : Hid (Own w3 (w.heap.size + 4) (.slice Ax x.length dx) x) := Lib.hid (Own.lower ho (by have h1 := U2.out; have h2 := U0.out; first | omega | (simp; omega))); have OB3 := Lib.hid ho.row.lt; have M3 := Lib.hid (by first | exact M2.out.below hb | exact (M2.out.alloc _).below hb); have KM3 := Lib.hid (by first | exact Row.below (KM2.out) hb (KM2.out).lt | exact Row.below ((KM2.out.alloc _)) hb ((KM2.out.alloc _)).lt); have OK3 := Lib.hid (by first | exact Qe.out.below hb | exact (Qe.out.alloc _).below hb); have R3 := Lib.hid (by first | exact Row.below (R2.out) hb (R2.out).lt | exact Row.below ((R2.out.alloc _)) hb ((R2.out.alloc _)).lt); have U3 : Hid (w2.heap.size ≤ w3.heap.size) := Lib.hid (by have h1 := hb.size; first | omega | (simp at h1; omega))
           first
            | (have XB3 := Lib.hid (Row.below XB2.out hb XB2.out.lt))
            | (have XB3 : Hid (Row w3 w2.heap.size 29 #[I 0, I 0, .slice none 0 0]) := Lib.hid (Row.below (Row.new w2 29 #[I 0, I 0, .slice none 0 0]) hb (by simp)))
            | skip
           clear hb ho)
        | (go_at_call 202
           first
            | (with_reducible refine (S68.out _ OK.out.drew Ls.out.drew N5.out.drew.r0 R5.out.drew).mono ?_)
            | (with_reducible refine (S68.out _ (OK.out.drew.alloc _) (Ls.out.drew.alloc _) (N5.out.drew.alloc _).r0 (R5.out.drew.alloc _)).mono ?_)
            | (with_reducible refine (S68.out _ (OK.out.alloc _).drew (Ls.out.alloc _).drew (N5.out.alloc _).drew.r0 (R5.out.alloc _).drew).mono ?_)
           rintro e w2 ⟨As, cs, rfl, ho, hr, hg2⟩; have RA := Lib.hid (Own.rd ho).1; have CS := Lib.hid (Own.rd ho).2; have R2 := Lib.hid hr; have M2 := Lib.hid (by first | exact N5.out.drew.touch hg2 GL.out | exact (N5.out.drew.alloc _).touch hg2 GL.out | exact (N5.out.alloc _).drew.touch hg2 GL.out); have KM2 := Lib.hid (by first | exact Row.grown (Ls.out.drew) hg2 (by have h1 := GL.out; have h2 := HKB.out; simp; omega) | exact Row.grown ((Ls.out.drew.alloc _)) hg2 (by have h1 := GL.out; have h2 := HKB.out; simp; omega) | exact Row.grown ((Ls.out.alloc _).drew) hg2 (by have h1 := GL.out; have h2 := HKB.out; simp; omega)); have Qe := Lib.hid (by first | exact Own.touch (OK.out.drew) hg2 (by have h1 := GL.out; omega) | exact Own.touch ((OK.out.drew.alloc _)) hg2 (by have h1 := GL.out; omega) | exact Own.touch ((OK.out.alloc _).drew) hg2 (by have h1 := GL.out; omega)); have U2 : Hid (wr.heap.size ≤ w2.heap.size) := Lib.hid (by have h1 := hg2.size; first | omega | (simp at h1; omega))
           first
            | (have XB2 : Hid (Row w2 wr.heap.size 29 #[I 0, I 0, .slice none 0 0]) := Lib.hid (Row.grown (Row.new wr.drew 29 #[I 0, I 0, .slice none 0 0]) hg2 (by have h1 := GL.out; have h2 := U0.out; simp; omega)))
            | (have XB2 : Hid (Row w2 wr.heap.size 29 #[I 0, I 0, .slice none 0 0]) := Lib.hid (Row.grown (Row.new wr 29 #[I 0, I 0, .slice none 0 0]).drew hg2 (by have h1 := GL.out; have h2 := U0.out; simp; omega)))
            | skip
           clear hr hg2 ho))
     all_goals
      show K8 _ _; have z0 := U0.out; have z2 := U2.out; have z3 := U3.out; have z4 := U4.out; have zg := GL.out
      first
       | (refine La.out _ _ _ _ _ _ _ _ _ _ _ _ _ _ _ _ _ _ _ _ _ _ _ _ _ _ _ _ _ _ _ _ _ _ _ _ _ _ _ _ _ _ _ _ _ _ _ _ (M4.out.alloc _) (KM4.out.alloc _) (OK4.out.alloc _) (Row.new _ _ _) (OX4.out.alloc _) (R4.out.alloc _) (by omega) (fun q hq => ?_)
          have h1 := (OX4.out.row.lt q hq).2
          omega)
       | (refine La.out _ _ _ _ _ _ _ _ _ _ _ _ _ _ _ _ _ _ _ _ _ _ _ _ _ _ _ _ _ _ _ _ _ _ _ _ _ _ _ _ _ _ _ _ _ _ _ _ (M4.out.dK (by simp; omega) _ _ _) (KM4.out.rG (by omega)) (Own.mM OK4.out (fun q hq => ?_) _ _ _) (XB4.out.dK _ _ _) (Own.mM OX4.out (fun q hq => ?_) _ _ _) (R4.out.rG (by omega)) (by omega) (fun q hq => ?_)
          · injection hq with hq
            dsimp only at hq; omega
          all_goals
           have h1 := OB3.out q hq
           first | omega | (simp at h1; omega) | (have h2 := XB2.out.lt; omega))
   have hlt : (j : Int) < k0.length := by omega
   have hj0 : (0 : Int) ≤ j := by omega
   have hjlt : j < k0.length := by omega
   have HJ := Lib.hid hjlt; have STEP : Hid (j + 1 ≤ k0.length ∧ k0.length - (j + 1) < k0.length - j) := Lib.hid (by omega)
   have hw64 : IntKind.i64.wrap ((j : Int) + 1) = (j : Int) + 1 := by have := HKL.out; simp [IntKind.wrap, IntKind.bits, IntKind.signed]; omega
   have hq := O5.out.cellAt j (by omega); rw [List.getElem?_map, KF sv k0 j (by omega)] at hq; have hset : Hid ((tV sv k0 j).set j (Gs (k0.getD j 0) sv).1 = tV sv k0 (j + 1)) := Lib.hid (Rn sv k0 j (by omega)); have hsb : Hid (Ep sv k0 (j + 1) = (Ep sv k0 j || (Gs (k0.getD j 0) sv).2)) := Lib.hid (Rq sv k0 j (by omega)); have DV := Lib.hid (fun w => Rl (k0.getD j 0) sv w)
   obtain ⟨q, eq⟩ : ∃ q, k0.getD j 0 = q := ⟨_, rfl⟩
   rw [eq] at hq hset hsb DV
   obtain ⟨d, ed⟩ : ∃ d, Gs q sv = d := ⟨_, rfl⟩
   rw [ed] at hset hsb DV; obtain ⟨d1, d2⟩ := d; dsimp only at hset hsb DV; have cq : wr.cell? ⟨bk, j, none⟩ = some (I q) := hq; have CE : Hid (((tV sv k0 j).map I)[j]? = some (I q)) := Lib.hid (by rw [List.getElem?_map, KF sv k0 j hjlt, eq]; rfl); clear hq eq ed hj hjk hjlt; have K5 : Hid (∀ w', Sg w g [(211, #[.pointer (some ⟨g, 0, none⟩)]), (31, #[I n, I 1, .slice A1 lx.length c1, I n, I n, .slice A2 lp.length c2]), (29, #[I 1, I n, .slice A3 lh.length c3]), (31, #[I 0, I 0, .slice none 0 0, I 0, I 0, .slice none 0 0])] w' → Row w' kb 29 #[I n, I 1, .slice (some ⟨bk, 0, none⟩) k0.length ck] → (∀ o, w'.cell? ⟨kb, o, none⟩ = #[I n, I 1, .slice (some ⟨bk, 0, none⟩) k0.length ck][o]?) ∧ (∀ o, w'.cell? ⟨w.heap.size, o, none⟩ = #[.pointer (some ⟨g, 0, none⟩)][o]?)) := Lib.hid (fun w' h h' => ⟨h'.cell, h.r0.cell⟩)
   go_wp2_with fail
   go_region_held3 (fun w' => (∀ o, w'.cell? ⟨kb, o, none⟩ = #[I n, I 1, .slice (some ⟨bk, 0, none⟩) k0.length ck][o]?) ∧ (∀ o, w'.cell? ⟨w.heap.size, o, none⟩ = #[.pointer (some ⟨g, 0, none⟩)][o]?))
    (first | with_reducible exact K5.out _ N7.out KB7.out | with_reducible exact K5.out _ N6.out KB6.out | with_reducible exact K5.out _ N5.out.drew Ls.out.drew | exact K5.out _ (N7.out.set (p := ⟨bk, j, none⟩) HBK.out _) (KB7.out.far (p := ⟨bk, j, none⟩) HNE.out.symm _))
    (first
      | (go_at_call 191
         refine (yX g (s || b1 || Ep sv k0 j) d2 d1 _ R6.out).mono ?_
         rintro e w7 ⟨rfl, hr7, hg7⟩; have R7 := Lib.hid hr7; have N7 := Lib.hid (N6.out.touch hg7 GL.out); have KB7 := Lib.hid (KB6.out.grown hg7 (by have := GL.out; have := HKB.out; simp; omega)); have O7 := Lib.hid (nU O6.out (fun q hq => hg7.block q (O6.out.lt q hq).2 (fun e => by have h1 := (O6.out.lt q hq).1; have h2 := GL.out; injection e with e; omega)))
         have c7 : w7.cell? ⟨bk, j, none⟩ = some (I q) := by
          have h := O7.out.cellAt j (by have := HJ.out; omega); rw [h]; exact CE.out
         have f7 := O7.out.frozenAt j
         clear hr7 hg7)
      | (go_at_call 144
         refine (DV.out _).mono ?_
         rintro e w6 ⟨rfl, hb⟩; have N6 := Lib.hid (N5.out.drew.below hb); have KB6 := Lib.hid (Ls.out.drew.below hb Ls.out.lt); have O6 := Lib.hid (nU O5.out.drew (fun q hq => hb.block q (O5.out.lt q hq).2)); have R6 := Lib.hid (R5.out.drew.below hb R5.out.lt)
         clear hb))
   have O8 := Lib.hid (O7.out.stored j (I d1)).1; go_wp2
   go_roundw
   case rel => exact ⟨j + 1, STEP.out.1, by go_num, N7.out.set (p := ⟨bk, j, none⟩) HBK.out _, KB7.out.far (p := ⟨bk, j, none⟩) HNE.out.symm _, by have := O8.out; rw [← hset.out, List.map_set]; exact this, by rw [hsb.out, ← Bool.or_assoc]; exact R7.out.far (p := ⟨bk, j, none⟩) (by have := GL.out; have := HBK.out; dsimp only; omega) _⟩
   case measure =>
    have h := STEP.out.2; show k0.length - ((j : Int) + 1).toNat < k0.length - ((j : Int)).toNat; rw [show ((j : Int) + 1).toNat = j + 1 by omega, show ((j : Int)).toNat = j by omega]; exact h)
 clear aK1
 go_region_held3 (fun w' => (∀ o, w'.cell? ⟨w.heap.size, o, none⟩ = #[.pointer (some ⟨g, 0, none⟩)][o]?) ∧ (∀ o, w'.cell? ⟨w.heap.size + 1, o, none⟩ = #[I n, I 1, .slice A1 lx.length c1, I n, I n, .slice A2 lp.length c2][o]?) ∧ (∀ o, w'.cell? ⟨w.heap.size + 1 + 1, o, none⟩ = #[I 1, I n, .slice A3 lh.length c3][o]?))
  (first | with_reducible exact KK.out _ N4.out | with_reducible exact KK.out _ (N4.out.alloc _) | with_reducible exact KK.out _ N3.out | with_reducible exact KK.out _ (N3.out.alloc _) | with_reducible exact KK.out _ N2.out | with_reducible exact KK.out _ (N2.out.alloc _) | with_reducible exact KK.out _ N.out.drew | with_reducible exact KK.out _ (N.out.drew.alloc _) | with_reducible exact KK.out _ (N.out.alloc _).drew | with_reducible exact KK.out _ N.out | with_reducible exact KK.out _ (N.out.alloc _) | exact KK.out _ (N4.out.dK (by have := S4.out; have := SZ.out; have := S2.out; have := S3.out; simp; omega) _ _ _))
  (first
   | (go_at_call 151
      first
       | (with_reducible refine (qM g s b1 n 1 0 Ak k0.length ck _ RG3.out).mono ?_)
       | (with_reducible refine (qM g s b1 n 1 0 Ak k0.length ck _ (RG3.out.alloc _)).mono ?_)
      rintro e w4 ⟨rfl, hr4, hg4⟩; have R4 := Lib.hid hr4; have O4 := Lib.hid (by first | exact Own.touch O3.out hg4 (by have := GL.out; omega) | exact Own.touch (O3.out.alloc _) hg4 (by have := GL.out; omega)); have N4 := Lib.hid (by first | exact N3.out.touch hg4 GL.out | exact (N3.out.alloc _).touch hg4 GL.out); have S4 : Hid (w.heap.size + 4 ≤ w4.heap.size ∧ w3.heap.size ≤ w4.heap.size) := Lib.hid (by have h1 := hg4.size; have h2 := S3.out; first | omega | (simp at h1; omega))
      first
       | (have KB4 := Lib.hid (Row.grown KB3.out hg4 (by have := GL.out; have := S2.out; have := SZ.out; simp; omega))
          have kc := KB4.out.cell
          have kf := KB4.out.free)
       | (have KB4 : Hid (Row w4 w3.heap.size 29 #[I 0, I 0, .slice none 0 0]) := Lib.hid (Row.grown (Row.new w3 29 #[I 0, I 0, .slice none 0 0]) hg4 (by have := GL.out; have := S3.out; simp; omega))
          have kc := KB4.out.cell
          have kf := KB4.out.free)
       | skip
      clear hr4 hg4)
   | (go_at_call 152
      first
       | (with_reducible refine (HM.out At ct _ N2.out.gr RA.out).mono ?_)
       | (with_reducible refine (HM.out At ct _ (N2.out.alloc _).gr (RA.out.below ((Below.refl _ _).alloc (Nat.le_refl _) _))).mono ?_)
      rintro e w3 ⟨v, rfl, ho, hb⟩; obtain ⟨Ak, ck, rfl, _, _⟩ := Own.reads ho; have O3 : Hid (Own w3 (w.heap.size + 4) (.slice Ak k0.length ck) k0) := Lib.hid (Own.lower ho (by have := S2.out; first | omega | (simp; omega))); have N3 := Lib.hid (by first | exact N2.out.below hb | exact (N2.out.alloc _).below hb); have RG3 := Lib.hid (by first | exact Row.below (RG2.out) hb (RG2.out).lt | exact Row.below ((RG2.out.alloc _)) hb ((RG2.out.alloc _)).lt); have S3 : Hid (w.heap.size + 4 ≤ w3.heap.size) := Lib.hid (by have h1 := hb.size; have h2 := S2.out; first | omega | (simp at h1; omega))
      first
       | (have KB3 := Lib.hid (Row.below KB2.out hb KB2.out.lt))
       | (have KB3 : Hid (Row w3 w2.heap.size 29 #[I 0, I 0, .slice none 0 0]) := Lib.hid (Row.below (Row.new w2 29 #[I 0, I 0, .slice none 0 0]) hb (by simp)))
       | skip
      have OB3 := Lib.hid ho.row.lt
      clear hb ho)
   | (go_at_call 82
      first
       | (with_reducible refine (HT.out _ N.out.drew.gr).mono ?_)
       | (with_reducible refine (HT.out _ (N.out.drew.alloc _).gr).mono ?_)
       | (with_reducible refine (HT.out _ (N.out.alloc _).drew.gr).mono ?_)
      rintro e w2 ⟨v, rfl, ho, hb⟩; obtain ⟨At, ct, rfl, _, ra⟩ := Own.reads ho; have RA := Lib.hid ra; have N2 := Lib.hid (by first | exact N.out.drew.below hb | exact (N.out.drew.alloc _).below hb | exact (N.out.alloc _).drew.below hb); have RG2 := Lib.hid (by first | exact Row.below (RG.out.drew) hb (RG.out.drew).lt | exact Row.below ((RG.out.drew.alloc _)) hb ((RG.out.drew.alloc _)).lt | exact Row.below ((RG.out.alloc _).drew) hb ((RG.out.alloc _).drew).lt); have S2 : Hid (w.heap.size + 4 ≤ w2.heap.size) := Lib.hid (by have h1 := hb.size; have h2 := SZ.out; first | omega | (simp at h1; omega))
      first
       | (have KB2 : Hid (Row w2 wr.heap.size 29 #[I 0, I 0, .slice none 0 0]) := Lib.hid (Row.below (Row.new wr.drew 29 #[I 0, I 0, .slice none 0 0]) hb (by simp)))
       | (have KB2 : Hid (Row w2 wr.heap.size 29 #[I 0, I 0, .slice none 0 0]) := Lib.hid (Row.below (Row.new wr 29 #[I 0, I 0, .slice none 0 0]).drew hb (by simp)))
       | skip
      clear hb ra ho))
 all_goals
  show K1 _ _; have z0 := SZ.out; have z2 := S2.out; have z3 := S3.out; have z4 := S4.out; have zg := GL.out
  first
   | (refine X7.out _ _ _ _ _ _ _ _ _ _ _ _ _ _ (N4.out.alloc _) (Row.new _ _ _) (O4.out.alloc _) (R4.out.alloc _) (by omega) (fun q hq => ?_)
      have h1 := (O4.out.row.lt q hq).2
      omega)
   | (refine X7.out _ _ _ _ _ _ _ _ _ _ _ _ _ _ (N4.out.dK (by simp; omega) _ _ _) (KB4.out.dK _ _ _) (Own.mM O4.out (fun q hq => ?_) _ _ _) (R4.out.rG (by omega)) (by omega) (fun q hq => ?_)
      all_goals
       have h1 := OB3.out q hq
       first | omega | (simp at h1; omega) | (have h2 := KB2.out.lt; omega))
end Go.Proofs.YtcfobekkchhbbaaGreat.PR

namespace Go.Proofs.YtcfobekkchhbbaaGreat.PR
open Go.RowKit Go.Proofs.YtcfobekkchhbbaaGreat.PQ Go.Proofs.af.aU Go.Proofs.af.a_ Go.Proofs.af.bf Go.Proofs.YtcfobekkchhbbaaGreat.KK
set_option linter.unusedVariables false
set_option linter.unusedSimpArgs false
def tK0 (n : Nat) (lp lh : List Int) : List Int := mulL n n 1 lp (yM 1 n lh)
def tK (n : Nat) (lp lh : List Int) (sv : Int) : List Int := (tK0 n lp lh).map (fun q => (Gs q sv).1)
def tX (n : Nat) (lx lp lh : List Int) (y sv : Int) : List Int := kC jL n 1 lx (mF n 1 (tK n lp lh sv) y)
def tI (n : Nat) (lp lh : List Int) (sv : Int) : List Int := kC ng n n (oW n) (mulL n 1 n (tK n lp lh sv) lh)
def tKK (n : Nat) (lp lh : List Int) (sv r : Int) : List Int := mulL n 1 n (mF n 1 (tK n lp lh sv) r) (yM n 1 (tK n lp lh sv))
def tP (n : Nat) (lp lh : List Int) (sv r : Int) : List Int := zi n (kC jL n n (jI n n (tI n lp lh sv) lp) (tKK n lp lh sv r))
def tB (n : Nat) (lx lp lh : List Int) (y sv r : Int) (s : Bool) : Bool :=
 s || uy n n 1 lp (yM 1 n lh) || (tK0 n lp lh).any (fun q => (Gs q sv).2) || scaleB n 1 (tK n lp lh sv) y || kZ jL n 1 lx (mF n 1 (tK n lp lh sv) y) || uy n 1 n (tK n lp lh sv) lh || kZ ng n n (oW n) (mulL n 1 n (tK n lp lh sv) lh) || pJ n n (tI n lp lh sv) lp || scaleB n 1 (tK n lp lh sv) r || uy n 1 n (mF n 1 (tK n lp lh sv) r) (yM n 1 (tK n lp lh sv)) || kZ jL n n (jI n n (tI n lp lh sv) lp) (tKK n lp lh sv r)
theorem SI (n : Nat) (lx lp lh : List Int) (s : Bool) (y sv r : Int) : X4 n lx lp lh s y sv r (yM 1 n lh) (tK0 n lp lh) (tK n lp lh sv) (mF n 1 (tK n lp lh sv) y) (tX n lx lp lh y sv) (mulL n 1 n (tK n lp lh sv) lh) (tI n lp lh sv) (jI n n (tI n lp lh sv) lp) (mF n 1 (tK n lp lh sv) r) (yM n 1 (tK n lp lh sv)) (tKK n lp lh sv r) (kC jL n n (jI n n (tI n lp lh sv) lp) (tKK n lp lh sv r)) (tP n lp lh sv r)
 (uy n n 1 lp (yM 1 n lh)) ((tK0 n lp lh).any (fun q => (Gs q sv).2)) (scaleB n 1 (tK n lp lh sv) y) (kZ jL n 1 lx (mF n 1 (tK n lp lh sv) y)) (uy n 1 n (tK n lp lh sv) lh) (kZ ng n n (oW n) (mulL n 1 n (tK n lp lh sv) lh)) (pJ n n (tI n lp lh sv) lp) (scaleB n 1 (tK n lp lh sv) r) (uy n 1 n (mF n 1 (tK n lp lh sv) r) (yM n 1 (tK n lp lh sv))) (kZ jL n n (jI n n (tI n lp lh sv) lp) (tKK n lp lh sv r)) :=
 ⟨rfl, rfl, rfl, rfl, rfl, rfl, rfl, rfl, rfl, rfl, rfl, rfl, rfl, rfl, rfl, rfl, rfl, rfl, rfl, rfl, rfl, rfl, rfl⟩
end Go.Proofs.YtcfobekkchhbbaaGreat.PR

namespace Go.Proofs.YtcfobekkchhbbaaGreat.PR
open Go.RowKit Go.Proofs.YtcfobekkchhbbaaGreat.PQ Go.Proofs.af.aU Go.Proofs.af.a_ Go.Proofs.af.bf Go.Proofs.YtcfobekkchhbbaaGreat.KK
set_option linter.unusedVariables false
set_option linter.unusedSimpArgs false
theorem Rd.blk {w : World} {A : Option Addr} {l : List Int} (h : Rd w A l) : ∀ ad, A = some ad → 0 < l.length → ad.block < w.heap.size := fun ad e hp => by
 obtain ⟨b, off, e2, hb, _⟩ := Rd.cells h hp; rw [e] at e2
 injection e2 with e2
 subst e2; exact hb
theorem Ie {w : World} {B : Nat} {a b c d e f : Value} {fn : Func} {k i j m : Nat} {tmps : Array Value} (h : fn.results = #[.cell k 31, .tmp i, .tmp j, .tmp m]) (hk : tmps.getD k undef = .pointer (some ⟨B, 0, none⟩)) (R : Row w B 31 #[a, b, c, d, e, f]) :
 (results fn tmps).run Tryz.prog w = .ok (.tuple #[.agg #[a, b, c, d, e, f], tmps.getD i undef, tmps.getD j undef, tmps.getD m undef]) w := by
 have c := R.cell
 have hk' : tmps[k]?.getD undef = .pointer (some ⟨B, 0, none⟩) := by simpa using hk
 simp only [results, h]
 simp [go_sem, hk', c]
theorem Qq (n : Nat) (A1 A2 A3 : Option Addr) (c1 c2 c3 : Nat) (lx lp lh : List Int) (z r gate y s q1 q2 : Int) (o f1 f2 : Bool) (w : World) (h1 : 1 ≤ n) (h8 : n ≤ 8) (hx : lx.length = n * 1) (hp : lp.length = n * n) (hh : lh.length = 1 * n)
 (rx : Rd w A1 lx) (cx : lx.length ≤ c1) (rp : Rd w A2 lp) (cp : lp.length ≤ c2) (rh : Rd w A3 lh) (ch : lh.length ≤ c3)
 (hm : PQ.fM.f 1000 n 1 lx n n lp 1 n lh r = some 0) (hi : fA.f false n 1 lx n n lp 1 n lh z r = some (y, s, o)) (h2 : kE y y = (q1, f1)) (h3 : kE gate s = (q2, f2)) (h4 : ¬ q1 > q2) (h5 : ¬ s ≤ 0) :
 Calls Tryz.prog 156 #[.agg #[I n, I 1, .slice A1 lx.length c1, I n, I n, .slice A2 lp.length c2], .agg #[I 1, I n, .slice A3 lh.length c3], I z, I r, I gate] w fun e w' => ∃ Ax dx Ap dp, e = .returned (.tuple #[.agg #[I n, I 1, .slice Ax (tX n lx lp lh y s).length dx, I n, I n, .slice Ap (tP n lp lh s r).length dp], .bool true, .bool (tB n lx lp lh y s r (o || f1 || f2)), I 0]) ∧ Own w' w.heap.size (.slice Ax (tX n lx lp lh y s).length dx) (tX n lx lp lh y s) ∧ Own w' w.heap.size (.slice Ap (tP n lp lh s r).length dp) (tP n lp lh s r) ∧ (∀ k, (Value.slice Ax (tX n lx lp lh y s).length dx).ownBlock = some k → (Value.slice Ap (tP n lp lh s r).length dp).ownBlock ≠ some k) ∧ Below w.heap.size w w' := by
 have N : Hid (bD w [(31, #[I n, I 1, .slice A1 lx.length c1, I n, I n, .slice A2 lp.length c2]), (29, #[I 1, I n, .slice A3 lh.length c3]), (31, #[I 0, I 0, .slice none 0 0, I 0, I 0, .slice none 0 0])] (((w.alloc (.cells #[I n, I 1, .slice A1 lx.length c1, I n, I n, .slice A2 lp.length c2] 31)).alloc (.cells #[I 1, I n, .slice A3 lh.length c3] 29)).alloc (.cells #[I 0, I 0, .slice none 0 0, I 0, I 0, .slice none 0 0] 31))) := Lib.hid ((((bD.none w).push (by simp) _ _).push (by simp) _ _).push (by simp) _ _); have RX := Lib.hid rx; have RP := Lib.hid rp; have RH := Lib.hid rh; have CX := Lib.hid cx; have CP := Lib.hid cp; have CH := Lib.hid ch; have HM := Lib.hid hm; have HI := Lib.hid hi; have H2 := Lib.hid h2; have H3 := Lib.hid h3; have HT := Lib.hid (And.intro (And.intro h1 h8) (And.intro hx (And.intro hp hh))); have e4 : decide (q1 > q2) = false := decide_eq_false h4; have e5 : decide (s ≤ 0) = false := decide_eq_false h5; clear rx rp rh cx cp ch hm hi h1 h8 hx hp hh h2 h3 h4 h5
 go_enter Tryz.func156, Tryz.ntmps156
 go_wp2_with fail
 refine (PQ.fM.calls 1000 n 1 A1 c1 lx n n A2 c2 lp 1 n A3 c3 lh r 0 _ (RX.out.below N.out.be) CX.out (RP.out.below N.out.be) CP.out (RH.out.below N.out.be) CH.out HM.out).mono ?_
 rintro e w1 ⟨rfl, hb⟩; have N1 := Lib.hid (N.out.below hb); have y0 := N1.out.r0.cell; have y1 := N1.out.r1.cell; have t0 := N1.out.r0.lt; have t1 := N1.out.r1.lt; clear hb N; have G1 := Lib.hid (Row.new w1 213 #[.bool false]); have N2 := Lib.hid (N1.out.alloc (.cells #[.bool false] 213)); have GE : Hid (w.heap.size + 3 ≤ w1.heap.size) := Lib.hid (by have h := N1.out.rows.le N1.out.be.size; simpa using h); have FX : Hid (∀ ad, A1 = some ad → 0 < lx.length → ad.block ≠ w1.heap.size) := Lib.hid (fun ad e hp => by have h1 := Rd.blk RX.out ad e hp; have h2 := GE.out; omega); have FP : Hid (∀ ad, A2 = some ad → 0 < lp.length → ad.block ≠ w1.heap.size) := Lib.hid (fun ad e hp => by have h1 := Rd.blk RP.out ad e hp; have h2 := GE.out; omega); have FH : Hid (∀ ad, A3 = some ad → 0 < lh.length → ad.block ≠ w1.heap.size) := Lib.hid (fun ad e hp => by have h1 := Rd.blk RH.out ad e hp; have h2 := GE.out; omega)
 go_wp2_with fail
 refine (fA.calls w1.heap.size false n 1 A1 c1 lx n n A2 c2 lp 1 n A3 c3 lh z r y s o w _ ⟨G1.out, by have h := GE.out; omega⟩ N2.out.be (RX.out.below N2.out.be) CX.out FX.out (RP.out.below N2.out.be) CP.out FP.out (RH.out.below N2.out.be) CH.out FH.out HI.out).mono ?_
 rintro e w2 ⟨rfl, hs, hb, hk⟩; have R2 : Hid (Row w2 w1.heap.size 213 #[.bool o]) := Lib.hid hs.1; have N3 := Lib.hid (N2.out.app (grown_of N2.out.be hb hk) (fun g e => by injection e with e; have h := GE.out; simp; omega)); clear hs hb hk y0 y1 t0 t1
 go_wp2_with fail
 refine (jW y y w2).mono ?_
 rw [H2.out]; rintro e w3 ⟨rfl, hb⟩; have R3 := Lib.hid (Row.below R2.out hb R2.out.lt); have N4 := Lib.hid (N3.out.below hb); clear hb
 go_wp2_with fail
 refine (yX w1.heap.size o f1 q1 w3 R3.out).mono ?_
 rintro e w4 ⟨rfl, hr, hg⟩; have R4 := Lib.hid hr; have N5 := Lib.hid (N4.out.app hg (fun g e => by injection e with e; have h := GE.out; simp; omega)); clear hr hg
 go_wp2_with fail
 refine (jW gate s w4).mono ?_
 rw [H3.out]; rintro e w5 ⟨rfl, hb⟩; have R5 := Lib.hid (Row.below R4.out hb R4.out.lt); have N6 := Lib.hid (N5.out.below hb); clear hb
 go_wp2_with fail
 refine (yX w1.heap.size (o || f1) f2 q2 w5 R5.out).mono ?_
 rintro e w6 ⟨rfl, hr, hg⟩; have R6 := Lib.hid hr; have N7 := Lib.hid (N6.out.app hg (fun g e => by injection e with e; have h := GE.out; simp; omega)); clear hr hg; have y0 := N7.out.r0.cell; have y1 := N7.out.r1.cell
 go_wp2_with fail
 refine (JG w w6 w1.heap.size n (o || f1 || f2) y s r A1 A2 A3 c1 c2 c3 lx lp lh _ _ _ _ _ _ _ _ _ _ _ _ _ _ _ _ _ _ _ _ _ _ _ HT.out.1.1 HT.out.1.2 HT.out.2.1 HT.out.2.2.1 HT.out.2.2.2 (SI n lx lp lh (o || f1 || f2) y s r) R6.out (by have h := GE.out; omega) N7.out.be (RX.out.below N7.out.be) CX.out FX.out (RP.out.below N7.out.be) CP.out FP.out (RH.out.below N7.out.be) CH.out FH.out).mono ?_
 rintro e w7 ⟨Ax, dx, Ap, dp, rfl, ox, op, hne, hr, hg⟩; have N8 := Lib.hid (N7.out.app hg (fun g e => by injection e with e; have h := GE.out; simp; omega)); have R8 := Lib.hid hr; have OX := Lib.hid ox; have OP := Lib.hid op; have NE := Lib.hid hne; have BE : Hid (w.heap.size + 3 ≤ w6.heap.size) := Lib.hid (by have h := N7.out.rows.le N7.out.be.size; simpa using h)
 obtain ⟨X, hX⟩ : ∃ X, tX n lx lp lh y s = X := ⟨_, rfl⟩
 obtain ⟨P, hP⟩ : ∃ P, tP n lp lh s r = P := ⟨_, rfl⟩
 obtain ⟨fl, hfl⟩ : ∃ fl, tB n lx lp lh y s r (o || f1 || f2) = fl := ⟨_, rfl⟩
 have R8' : Hid (Row w7 w1.heap.size 213 #[.bool fl]) := Lib.hid (by rw [← hfl]; exact R8.out); have HX := Lib.hid hX; have HP := Lib.hid hP; have Z8 := Lib.hid hfl; rw [hX] at OX NE ⊢; rw [hP] at OP NE ⊢; clear hX hP hfl R8 ox op hne hr hg y0 y1 N1 N2 N3 N4 N5 N6 N7 R2 R3 R4 R5 R6; have N9 := Lib.hid (N8.out.alloc (.cells #[I n, I 1, .slice Ax X.length dx, I n, I n, .slice Ap P.length dp] 31)); have R9 := Lib.hid (Row.alloc R8'.out (.cells #[I n, I 1, .slice Ax X.length dx, I n, I n, .slice Ap P.length dp] 31)); have T9 := Lib.hid (Row.new w7 31 #[I n, I 1, .slice Ax X.length dx, I n, I n, .slice Ap P.length dp]); have Xe := Lib.hid (OX.out.alloc (.cells #[I n, I 1, .slice Ax X.length dx, I n, I n, .slice Ap P.length dp] 31)); have OP9 := Lib.hid (OP.out.alloc (.cells #[I n, I 1, .slice Ax X.length dx, I n, I n, .slice Ap P.length dp] 31)); have BF : Hid (w.heap.size + 3 ≤ w7.heap.size ∧ w.heap.size + 3 ≤ w1.heap.size) := Lib.hid ⟨by have h := N8.out.rows.le N8.out.be.size; simpa using h, GE.out⟩
 go_wp2_with fail
 obtain ⟨w8, hw8⟩ : ∃ w8, w7.alloc (.cells #[I n, I 1, .slice Ax X.length dx, I n, I n, .slice Ap P.length dp] 31) = w8 := ⟨_, rfl⟩
 rw [hw8] at N9 R9 T9 Xe OP9; change Code.wp Tryz.prog _ _ _ (w7.alloc (.cells #[I n, I 1, .slice Ax X.length dx, I n, I n, .slice Ap P.length dp] 31)); rw [hw8]; clear hw8; have x2 := N9.out.r2.cell; have g2 := N9.out.r2.free; have KS : Hid (∀ w', Row w' w7.heap.size 31 #[I n, I 1, .slice Ax X.length dx, I n, I n, .slice Ap P.length dp] → Row w' w1.heap.size 213 #[.bool fl] → (∀ o, w'.cell? ⟨w7.heap.size, o, none⟩ = #[I n, I 1, .slice Ax X.length dx, I n, I n, .slice Ap P.length dp][o]?) ∧ (∀ o, w'.cell? ⟨w1.heap.size, o, none⟩ = #[.bool fl][o]?)) := Lib.hid (fun w' a b => ⟨a.cell, b.cell⟩)
 go_region_held3 (fun w' => (∀ o, w'.cell? ⟨w7.heap.size, o, none⟩ = #[I n, I 1, .slice Ax X.length dx, I n, I n, .slice Ap P.length dp][o]?) ∧ (∀ o, w'.cell? ⟨w1.heap.size, o, none⟩ = #[.bool fl][o]?))
  (first | with_reducible exact KS.out _ T9.out.drew R9.out.drew | with_reducible exact KS.out _ (Row.drew (Row.vH T9.out (C := w.heap.size + 1 + 1) (by have h := BF.out; omega) _ _ _ _ _ _)) (Row.drew (Row.vH R9.out (C := w.heap.size + 1 + 1) (by have h := BF.out; omega) _ _ _ _ _ _)))
  (fail)
 go_wp2
 have zb := BF.out; have zc := BE.out; refine bodyPost_ret (Ie rfl rfl (Row.drew (Row.g_ N9.out.r2 _ _ _ _ _ _))) rfl ?_
 rw [HX.out, HP.out, Z8.out]; refine ⟨_, _, _, _, rfl, ?_, ?_, NE.out, ?_⟩
 · exact ((Own.g_ Xe.out (by omega) _ _ _ _ _ _).drew).lower (by omega)
 · exact ((Own.g_ OP9.out (by omega) _ _ _ _ _ _).drew).lower (by omega)
 · have hbb := N9.out.be
   exact ((((((hbb.setCell (p := ⟨w.heap.size + 1 + 1, 0, none⟩) (by dsimp only; omega) _).setCell (p := ⟨w.heap.size + 1 + 1, 1, none⟩) (by dsimp only; omega) _).setCell (p := ⟨w.heap.size + 1 + 1, 2, none⟩) (by dsimp only; omega) _).setCell (p := ⟨w.heap.size + 1 + 1, 3, none⟩) (by dsimp only; omega) _).setCell (p := ⟨w.heap.size + 1 + 1, 4, none⟩) (by dsimp only; omega) _).setCell (p := ⟨w.heap.size + 1 + 1, 5, none⟩) (by dsimp only; omega) _).drew
end Go.Proofs.YtcfobekkchhbbaaGreat.PR

namespace Go.Proofs.YtcfobekkchhbbaaGreat.PR
open Go.RowKit Go.Proofs.YtcfobekkchhbbaaGreat.PQ Go.Proofs.af.aU Go.Proofs.af.a_ Go.Proofs.af.bf Go.Proofs.YtcfobekkchhbbaaGreat.KK
set_option linter.unusedVariables false
set_option linter.unusedSimpArgs false
theorem Below.g_ {B C : Nat} {w0 w : World} (h : Below B w0 w) (hC : B ≤ C) (a b c d e f : Value) : Below B w0 (g_ w C a b c d e f) :=
 (((((h.setCell (p := ⟨C, 0, none⟩) hC a).setCell (p := ⟨C, 1, none⟩) hC b).setCell (p := ⟨C, 2, none⟩) hC c).setCell (p := ⟨C, 3, none⟩) hC d).setCell (p := ⟨C, 4, none⟩) hC e).setCell (p := ⟨C, 5, none⟩) hC f
theorem bal {w0 w : World} (h : Below w0.heap.size w0 w) (o : Obj) : Below w0.heap.size w0 (w.alloc o) := h.alloc h.size o
theorem N_ {w0 w : World} (h : Below w0.heap.size w0 w) : Below w0.heap.size w0 w.drew := h.drew
theorem PW {w0 w w' : World} (h : Below w0.heap.size w0 w) (hb : Below w.heap.size w w') : Below w0.heap.size w0 w' := h.trans (hb.mono h.size)
theorem WS (w : World) (r : Option Nat) : w.grownBy w r := KK.gu (Below.refl _ _) r
theorem lF {w w' : World} {r : Option Nat} (h : w.grownBy w' r) (o : Obj) : w.grownBy (w'.alloc o) r := KK.dU h (KK.gu ((Below.refl _ _).alloc (Nat.le_refl _) o) r)
theorem qo {w w' : World} {r : Option Nat} (h : w.grownBy w' r) : w.grownBy w'.drew r := KK.dU h (KK.gu (Below.refl _ _).drew r)
theorem KD {w w' w'' : World} {r : Option Nat} (h : w.grownBy w' r) (hb : Below w'.heap.size w' w'') : w.grownBy w'' r := KK.dU h (KK.gu hb r)
theorem Row.gr {w w' : World} {B g : Nat} {t : TypeId} {cs : Array Value} (h : Row w B t cs) (hg : w.grownBy w' (some g)) (hne : B ≠ g) : Row w' B t cs := h.grown hg (fun e => hne (by injection e))
theorem Yy {w : World} {B : Nat} {a b c d e f : Value} {fn : Func} {k i j : Nat} {tmps : Array Value} (h : fn.results = #[.cell k 31, .tmp i, .tmp j]) (hk : tmps.getD k undef = .pointer (some ⟨B, 0, none⟩)) (R : Row w B 31 #[a, b, c, d, e, f]) :
 (results fn tmps).run Tryz.prog w = .ok (.tuple #[.agg #[a, b, c, d, e, f], tmps.getD i undef, tmps.getD j undef]) w := by
 have c := R.cell
 have hk' : tmps[k]?.getD undef = .pointer (some ⟨B, 0, none⟩) := by simpa using hk
 simp only [results, h]
 simp [go_sem, hk', c]
def WT (r c n : Int) : Bool := decide (r = n ∧ c = n)
theorem Ei (r c n : Int) (A : Option Addr) (m cp nb : Nat) (w : World) (R : Row w nb 3 #[I n]) :
 Calls Tryz.prog 150 #[.agg #[I r, I c, .slice A m cp], .pointer (some ⟨nb, 0, none⟩)] w fun e w' => e = .returned (.bool (WT r c n)) ∧ Below w.heap.size w w' := by
 have hlt := R.lt; have x := (R.alloc (.cells #[I r, I c, .slice A m cp] 29)).cell; have HB : Hid (Below w.heap.size w (w.alloc (.cells #[I r, I c, .slice A m cp] 29))) := Lib.hid ((Below.refl _ _).alloc (Nat.le_refl _) _); have x2 := (Row.new w 29 #[I r, I c, .slice A m cp]).cell
 unfold WT
 clear R
 by_cases h1 : r = n
 · by_cases h2 : c = n
   · subst h1
     subst h2
     go_enter Tryz.func150, Tryz.ntmps150
     go_wp2
     go_ret
     exact ⟨by simp, HB.out⟩
   · subst h1
     have e2 : (c == r) = false := by simpa using h2
     have HD : Hid (decide (r = r ∧ c = r) = false) := Lib.hid (by simp [h2]); clear h2
     go_enter Tryz.func150, Tryz.ntmps150
     go_wp2
     go_ret
     exact ⟨by have h := HD.out; simp at h; simp [h], HB.out⟩
 · have e1 : (r == n) = false := by simpa using h1
   have HD : Hid (decide (r = n ∧ c = n) = false) := Lib.hid (by simp [h1]); clear h1
   go_enter Tryz.func150, Tryz.ntmps150
   go_wp2
   go_ret
   exact ⟨by first | rfl | (rw [HD.out]; rfl), HB.out⟩
end Go.Proofs.YtcfobekkchhbbaaGreat.PR

namespace Go.Proofs.YtcfobekkchhbbaaGreat.PR
open Go.RowKit Go.Proofs.YtcfobekkchhbbaaGreat.PQ Go.Proofs.af.aU Go.Proofs.af.a_ Go.Proofs.af.bf Go.Proofs.YtcfobekkchhbbaaGreat.KK
set_option linter.unusedVariables false
set_option linter.unusedSimpArgs false
theorem Gj (n : Int) : WT n n n = true := by simp [WT]
structure Told (n : Nat) (lx lp lf lq X B M P : List Int) (b1 b2 b3 : Bool) : Prop where
 eX : mulL n n 1 lf lx = X
 eb1 : uy n n 1 lf lx = b1
 eB : jI n n lf lp = B
 eb2 : pJ n n lf lp = b2
 eM : kC jL n n B lq = M
 eb3 : kZ jL n n B lq = b3
 eP : zi n M = P
theorem Fq (n : Nat) (A1 A2 A3 A4 : Option Addr) (c1 c2 c3 c4 : Nat) (lx lp lf lq X B M P : List Int) (b1 b2 b3 : Bool) (w : World) (h1 : 1 ≤ n) (h8 : n ≤ 8) (hx : lx.length = n * 1) (hp : lp.length = n * n) (hf : lf.length = n * n) (hq : lq.length = n * n) (T : Told n lx lp lf lq X B M P b1 b2 b3)
 (rx : Rd w A1 lx) (cx : lx.length ≤ c1) (rp : Rd w A2 lp) (cp : lp.length ≤ c2) (rf : Rd w A3 lf) (cf : lf.length ≤ c3) (rq : Rd w A4 lq) (cq : lq.length ≤ c4) :
 Calls Tryz.prog 93 #[.agg #[I n, I 1, .slice A1 lx.length c1, I n, I n, .slice A2 lp.length c2], .agg #[I n, I n, .slice A3 lf.length c3], .agg #[I n, I n, .slice A4 lq.length c4]] w fun e w' => ∃ Ax dx Ap dp, e = .returned (.tuple #[.agg #[I n, I 1, .slice Ax X.length dx, I n, I n, .slice Ap P.length dp], .bool (b1 || b2 || b3), I 0]) ∧ Own w' w.heap.size (.slice Ax X.length dx) X ∧ Own w' w.heap.size (.slice Ap P.length dp) P ∧ (∀ k, (Value.slice Ax X.length dx).ownBlock = some k → (Value.slice Ap P.length dp).ownBlock ≠ some k) ∧ Below w.heap.size w w' := by
 have N : Hid (bD w [(31, #[I n, I 1, .slice A1 lx.length c1, I n, I n, .slice A2 lp.length c2]), (29, #[I n, I n, .slice A3 lf.length c3]), (29, #[I n, I n, .slice A4 lq.length c4]), (31, #[I 0, I 0, .slice none 0 0, I 0, I 0, .slice none 0 0]), (3, #[I n])] (((((w.alloc (.cells #[I n, I 1, .slice A1 lx.length c1, I n, I n, .slice A2 lp.length c2] 31)).alloc (.cells #[I n, I n, .slice A3 lf.length c3] 29)).alloc (.cells #[I n, I n, .slice A4 lq.length c4] 29)).alloc (.cells #[I 0, I 0, .slice none 0 0, I 0, I 0, .slice none 0 0] 31)).alloc (.cells #[I n] 3))) := Lib.hid ((((((bD.none w).push (by simp) _ _).push (by simp) _ _).push (by simp) _ _).push (by simp) _ _).push (by simp) _ _); have RX := Lib.hid rx; have RP := Lib.hid rp; have RF := Lib.hid rf; have RQ := Lib.hid rq; have CX := Lib.hid cx; have CP := Lib.hid cp; have CF := Lib.hid cf; have CQ := Lib.hid cq; have HH := Lib.hid (And.intro (And.intro h1 h8) (And.intro hx (And.intro hp (And.intro hf hq)))); have HT := Lib.hid T; have hmf := KK.hmf; clear rx rp rf rq cx cp cf cq h1 h8 hx hp hf hq T
 go_enter Tryz.func93, Tryz.ntmps93
 go_wp2_with fail
 refine (Ei n n n A3 lf.length c3 _ _ N.out.r4).mono ?_
 rw [Gj]; rintro e w1 ⟨rfl, hb⟩; have N1 := Lib.hid (N.out.below hb); clear hb N; have y2 := N1.out.r2.cell; have y4 := N1.out.r4.cell
 go_wp2_with fail
 refine (Ei n n n A4 lq.length c4 _ _ N1.out.r4).mono ?_
 rw [Gj]; rintro e w2 ⟨rfl, hb⟩; have N2 := Lib.hid (N1.out.below hb); clear hb N1 y2 y4; have G2 := Lib.hid (Row.new w2 213 #[.bool false]); have N3 := Lib.hid (N2.out.alloc (.cells #[.bool false] 213)); have GE : Hid (w.heap.size + 5 ≤ w2.heap.size) := Lib.hid (by have h := N2.out.rows.le N2.out.be.size; simpa using h); have FX : Hid (∀ ad, A1 = some ad → 0 < lx.length → ad.block ≠ w2.heap.size) := Lib.hid (fun ad e hp => by have h1 := Rd.blk RX.out ad e hp; have h2 := GE.out; omega); have FP : Hid (∀ ad, A2 = some ad → 0 < lp.length → ad.block ≠ w2.heap.size) := Lib.hid (fun ad e hp => by have h1 := Rd.blk RP.out ad e hp; have h2 := GE.out; omega); have FF : Hid (∀ ad, A3 = some ad → 0 < lf.length → ad.block ≠ w2.heap.size) := Lib.hid (fun ad e hp => by have h1 := Rd.blk RF.out ad e hp; have h2 := GE.out; omega); have FQ : Hid (∀ ad, A4 = some ad → 0 < lq.length → ad.block ≠ w2.heap.size) := Lib.hid (fun ad e hp => by have h1 := Rd.blk RQ.out ad e hp; have h2 := GE.out; omega); have y0 := N2.out.r0.cell; have y1 := N2.out.r1.cell; have t0 := N2.out.r0.lt; have t1 := N2.out.r1.lt
 have HM : Hid (∀ w', Rd w' A3 lf → Rd w' A1 lx → Calls Tryz.prog 152 #[.agg #[I n, I n, .slice A3 lf.length c3], .agg #[I n, I 1, .slice A1 lx.length c1]] w' fun e w'' => ∃ v, e = .returned (.tuple #[.agg #[I n, I 1, v], .bool b1, I 0]) ∧ Own w'' w'.heap.size v X ∧ Below w'.heap.size w' w'') := Lib.hid (fun w' h h' => by
  have hh := yZ n n 1 A3 A1 c3 c1 lf lx w' HH.out.1.2 HH.out.1.2 (by omega) HH.out.2.2.2.1 HH.out.2.1 h h'; rw [HT.out.eX, HT.out.eb1] at hh; exact hh)
 go_wp2_with fail
 refine (HM.out _ (RF.out.below N3.out.be) (RX.out.below N3.out.be)).mono ?_
 rintro e w3 ⟨v, rfl, ho, hb⟩; obtain ⟨Ax, dx, rfl, _, _⟩ := Own.reads ho; have OX := Lib.hid ho; have N4 := Lib.hid (N3.out.below hb); have G3 := Lib.hid (G2.out.below hb G2.out.lt); have L3 : Hid (w2.heap.size + 1 ≤ w3.heap.size) := Lib.hid (by have h := hb.size; simpa using h); clear ho hb y0 y1 t0 t1 N3 G2
 go_wp2_with fail
 refine (qM w2.heap.size false b1 n 1 0 Ax X.length dx w3 G3.out).mono ?_
 rintro e w4 ⟨rfl, hr, hg⟩; have OX4 := Lib.hid (Own.touch OX.out hg (by simp)); have N5 := Lib.hid (N4.out.app hg (fun g e => by injection e with e; have h := GE.out; simp; omega)); have R4 := Lib.hid hr; have L4 : Hid (w2.heap.size + 1 ≤ w4.heap.size) := Lib.hid (by have h := hg.size; have h2 := L3.out; omega); clear hr hg N4 G3 OX; have x0 := N5.out.r0.cell
 go_wp2_with fail
 rename_i K8 aK8; have N6 := Lib.hid (N5.out.alloc (.cells #[I n, I 1, .slice Ax X.length dx] 29)); have RX6 := Lib.hid (Row.new w4 29 #[I n, I 1, .slice Ax X.length dx]); have OX6 : Hid (Own (w4.alloc (.cells #[I n, I 1, .slice Ax X.length dx] 29)) (w2.heap.size + 1) (.slice Ax X.length dx) X) := Lib.hid (Own.lower (OX4.out.alloc (.cells #[I n, I 1, .slice Ax X.length dx] 29)) (by simp)); have R6 : Hid (Row (w4.alloc (.cells #[I n, I 1, .slice Ax X.length dx] 29)) w2.heap.size 213 #[.bool b1]) := Lib.hid (by have h := R4.out.alloc (.cells #[I n, I 1, .slice Ax X.length dx] 29); simpa using h); have L6 : Hid (w2.heap.size + 1 ≤ w4.heap.size ∧ (w4.alloc (.cells #[I n, I 1, .slice Ax X.length dx] 29)).heap.size = w4.heap.size + 1) := Lib.hid ⟨L4.out, by simp⟩; clear x0 N5 OX4 R4 L4 L3
 obtain ⟨wr, hwr⟩ : ∃ wr, w4.alloc (.cells #[I n, I 1, .slice Ax X.length dx] 29) = wr := ⟨_, rfl⟩
 rw [hwr] at N6 RX6 OX6 R6 L6; change Code.wp Tryz.prog _ _ _ (w4.alloc (.cells #[I n, I 1, .slice Ax X.length dx] 29)); rw [hwr]; clear hwr
 obtain ⟨kb, hkb⟩ : ∃ kb, w4.heap.size = kb := ⟨_, rfl⟩
 rw [hkb] at RX6 L6 ⊢
 obtain ⟨g, hg⟩ : ∃ g, w2.heap.size = g := ⟨_, rfl⟩
 rw [hg] at OX6 R6 L6 FX FP FF FQ GE ⊢; clear hkb hg
 have T48 : Hid (∀ w', wr.grownBy w' (some g) → Row w' g 213 #[.bool b1] → Calls Tryz.prog 154 #[.pointer (some ⟨g, 0, none⟩), .agg #[I n, I n, .slice A3 lf.length c3], .agg #[I n, I n, .slice A2 lp.length c2]] w' fun e w'' => ∃ A c, e = .returned (.agg #[I n, I n, .slice A B.length c]) ∧ Own w'' w'.heap.size (.slice A B.length c) B ∧ Row w'' g 213 #[.bool (b1 || b2)] ∧ w'.grownBy w'' (some g)) := Lib.hid (fun w' h hr => by
  have hh := uP b1 n n lf lp HH.out.1.2 HH.out.1.2 HH.out.2.2.2.1 HH.out.2.2.1; rw [HT.out.eB, HT.out.eb2] at hh; have hb := wH N6.out.be (by have := GE.out; omega) h; exact AZ w w' g b1 n n A3 c3 lf n n A2 c2 lp n n B (b1 || b2) hr (by have := GE.out; omega) hb (RF.out.below hb) CF.out FF.out (RP.out.below hb) CP.out FP.out hh)
 have T47 : Hid (∀ w' A c, wr.grownBy w' (some g) → Rd w' A B → B.length ≤ c → Calls Tryz.prog 153 #[.agg #[I n, I n, .slice A B.length c], .agg #[I n, I n, .slice A4 lq.length c4]] w' fun e w'' => ∃ v, e = .returned (.tuple #[.agg #[I n, I n, v], .bool b3, I 0]) ∧ Own w'' w'.heap.size v M ∧ Below w'.heap.size w' w'') := Lib.hid (fun w' A c h hr hc => by
  have hb := wH N6.out.be (by have := GE.out; omega) h; have hh := Io n n A A4 c c4 B lq w' HH.out.1.2 HH.out.1.2 (by rw [← HT.out.eB]; exact lC _ _ _ _ _) HH.out.2.2.2.2 hr (RQ.out.below hb) hc CQ.out; rw [HT.out.eM, HT.out.eb3] at hh; exact hh)
 have ZU : Hid (∀ w', wr.grownBy w' (some g) → (∀ o, w'.cell? ⟨w.heap.size, o, none⟩ = #[I n, I 1, .slice A1 lx.length c1, I n, I n, .slice A2 lp.length c2][o]?) ∧ (∀ o, w'.cell? ⟨w.heap.size + 1, o, none⟩ = #[I n, I n, .slice A3 lf.length c3][o]?) ∧ (∀ o, w'.cell? ⟨w.heap.size + 1 + 1, o, none⟩ = #[I n, I n, .slice A4 lq.length c4][o]?)) := Lib.hid (fun w' h => ⟨(Row.gr N6.out.r0 h (by have := GE.out; omega)).cell, (Row.gr N6.out.r1 h (by have := GE.out; omega)).cell, (Row.gr N6.out.r2 h (by have := GE.out; omega)).cell⟩); have GN := Lib.hid (WS wr (some g)); have RG := Lib.hid R6.out; have NG : Hid (wr.heap.size ≠ g ∧ g < wr.heap.size) := Lib.hid (by have := L6.out; omega); clear HM
 have La : Hid (∀ (pb : Nat) (w9 : World) (Ab : Option Addr) (cb : Nat) (Am : Option Addr) (dm : Nat), wr.grownBy w9 (some g) → Row w9 pb 29 #[I n, I n, .slice Am M.length dm] → Rd w9 Am M → M.length ≤ dm → Row w9 g 213 #[.bool (b1 || b2 || b3)] → wr.heap.size ≤ pb → K8 { tmps := #[Value.agg #[I n, I 1, Value.slice A1 lx.length c1, I n, I n, Value.slice A2 lp.length c2], Value.agg #[I n, I n, Value.slice A3 lf.length c3], Value.agg #[I n, I n, Value.slice A4 lq.length c4], Value.pointer (some ⟨w.heap.size, 0, none⟩), Value.pointer (some ⟨w.heap.size + 1, 0, none⟩), Value.pointer (some ⟨w.heap.size + 1 + 1, 0, none⟩), Value.pointer (some ⟨w.heap.size + 1 + 1 + 1, 0, none⟩), Value.bool false, I 0, Value.pointer (some ⟨w.heap.size + 1 + 1 + 1 + 1, 0, none⟩), Value.func (Fn.func 150) #[] #[Value.pointer (some ⟨w.heap.size + 1 + 1 + 1 + 1, 0, none⟩)], Value.pointer (some ⟨g, 0, none⟩), Value.func (Fn.func 151) #[Value.pointer (some ⟨g, 0, none⟩)] #[], Value.pointer (some ⟨kb, 0, none⟩), Value.pointer (some ⟨pb, 0, none⟩), Value.pointer (some ⟨w.heap.size, 0, none⟩), Value.pointer (some ⟨w.heap.size, 0, none⟩), I n, Value.func (Fn.func 150) #[] #[Value.pointer (some ⟨w.heap.size + 1 + 1 + 1 + 1, 0, none⟩)], Value.func (Fn.func 150) #[] #[Value.pointer (some ⟨w.heap.size + 1 + 1 + 1 + 1, 0, none⟩)], Value.agg #[I n, I n, Value.slice A3 lf.length c3], Value.bool true, Value.bool false, Value.bool false, Value.func (Fn.func 150) #[] #[Value.pointer (some ⟨w.heap.size + 1 + 1 + 1 + 1, 0, none⟩)], Value.agg #[I n, I n, Value.slice A4 lq.length c4], Value.bool true, Value.bool false, Value.bool false, undef, Value.agg #[Value.bool false], Value.pointer (some ⟨g, 0, none⟩), Value.pointer (some ⟨g, 0, none⟩), Value.func (Fn.func 151) #[Value.pointer (some ⟨g, 0, none⟩)] #[], Value.func (Fn.func 151) #[Value.pointer (some ⟨g, 0, none⟩)] #[], Value.agg #[I n, I n, Value.slice A3 lf.length c3], Value.pointer (some ⟨w.heap.size, 0, none⟩), Value.agg #[I n, I 1, Value.slice A1 lx.length c1], Value.tuple #[Value.agg #[I n, I 1, Value.slice Ax X.length dx], Value.bool b1, I 0], Value.agg #[I n, I 1, Value.slice Ax X.length dx], Value.bool b1, I 0, Value.agg #[I n, I 1, Value.slice Ax X.length dx], Value.func (Fn.func 151) #[Value.pointer (some ⟨g, 0, none⟩)] #[], Value.pointer (some ⟨g, 0, none⟩), Value.agg #[I n, I n, Value.slice A3 lf.length c3], Value.pointer (some ⟨w.heap.size, 3, none⟩), Value.agg #[I n, I n, Value.slice A2 lp.length c2], Value.agg #[I n, I n, Value.slice Ab B.length cb], Value.agg #[I n, I n, Value.slice A4 lq.length c4], Value.tuple #[Value.agg #[I n, I n, Value.slice Am M.length dm], Value.bool b3, I 0], Value.agg #[I n, I n, Value.slice Am M.length dm], Value.bool b3, I 0, Value.agg #[I n, I n, Value.slice Am M.length dm], undef, undef, undef, undef, undef, undef, undef, undef], defers := [] } w9) := Lib.hid (by
  intro pb w9 Ab cb Am dm hgr hP hM hdm hR hpb; refine aK8 _ _ ?_
  have P9 := Lib.hid hP; have R9 := Lib.hid hR; have X9 := Lib.hid (Row.gr RX6.out hgr (by have := L6.out; omega)); have N9 : Hid (bD w [(31, #[I n, I 1, .slice A1 lx.length c1, I n, I n, .slice A2 lp.length c2]), (29, #[I n, I n, .slice A3 lf.length c3]), (29, #[I n, I n, .slice A4 lq.length c4]), (31, #[I 0, I 0, .slice none 0 0, I 0, I 0, .slice none 0 0]), (3, #[I n])] w9) := Lib.hid (N6.out.app hgr (fun g' e => by injection e with e; have h := GE.out; simp; omega)); have Xe := Lib.hid (Own.touch OX6.out hgr (by omega)); have XB : Hid (∀ k, (Value.slice Ax X.length dx).ownBlock = some k → k < w9.heap.size) := Lib.hid (fun k hk => by have h1 := (OX6.out.row.lt k hk).2; have h2 := hgr.size; omega); have S9 : Hid (w.heap.size + 5 ≤ g ∧ g < wr.heap.size ∧ wr.heap.size ≤ w9.heap.size ∧ wr.heap.size ≤ pb ∧ w.heap.size + 5 ≤ kb) := Lib.hid ⟨GE.out, NG.out.2, hgr.size, hpb, by have h := L6.out; have h2 := GE.out; omega⟩
  have T15 : Hid (∀ w', Below w9.heap.size w9 w' → Calls Tryz.prog 155 #[.agg #[I n, I n, .slice Am M.length dm]] w' fun e w'' => ∃ A c, e = .returned (.agg #[I n, I n, .slice A P.length c]) ∧ Own w'' w'.heap.size (.slice A P.length c) P ∧ Below w'.heap.size w' w'') := Lib.hid (fun w' h => by
   have hh := Ef n Am dm M w' HH.out.1.2 (by rw [← HT.out.eM]; exact upto_length) (hM.below h) hdm; rw [HT.out.eP] at hh; exact hh)
  have KK9 : Hid (∀ w', Row w' kb 29 #[I n, I 1, .slice Ax X.length dx] → Row w' pb 29 #[I n, I n, .slice Am M.length dm] → Row w' g 213 #[.bool (b1 || b2 || b3)] → (∀ o, w'.cell? ⟨kb, o, none⟩ = #[I n, I 1, .slice Ax X.length dx][o]?) ∧ (∀ o, w'.cell? ⟨pb, o, none⟩ = #[I n, I n, .slice Am M.length dm][o]?) ∧ (∀ o, w'.cell? ⟨g, o, none⟩ = #[.bool (b1 || b2 || b3)][o]?)) := Lib.hid (fun w' a b c => ⟨a.cell, b.cell, c.cell⟩); have B9 := Lib.hid (Below.refl w9.heap.size w9); clear hgr hP hM hdm hR hpb T48 T47 ZU GN RG NG N6 RX6 OX6 R6 L6 aK8
  obtain ⟨fl, hfl⟩ : ∃ fl, (b1 || b2 || b3) = fl := ⟨_, rfl⟩
  have Z8 := Lib.hid hfl; rw [hfl] at R9 KK9; clear hfl; have x3 := N9.out.r3.cell; have g3 := N9.out.r3.free; have y3 := N9.out.r3.lt
  go_wp2_with fail
  go_region_held3 (fun w' => (∀ o, w'.cell? ⟨kb, o, none⟩ = #[I n, I 1, .slice Ax X.length dx][o]?) ∧ (∀ o, w'.cell? ⟨pb, o, none⟩ = #[I n, I n, .slice Am M.length dm][o]?) ∧ (∀ o, w'.cell? ⟨g, o, none⟩ = #[.bool fl][o]?))
   (first | with_reducible exact KK9.out _ X9.out P9.out R9.out | with_reducible exact KK9.out _ X9.out.drew P9.out.drew R9.out.drew | with_reducible exact KK9.out _ (Row.vH X9.out (C := w.heap.size + 1 + 1 + 1) (by have h := S9.out; omega) _ _ _ _ _ _) (Row.vH P9.out (C := w.heap.size + 1 + 1 + 1) (by have h := S9.out; omega) _ _ _ _ _ _) (Row.vH R9.out (C := w.heap.size + 1 + 1 + 1) (by have h := S9.out; omega) _ _ _ _ _ _))
   (first
     | (go_at_call 155
        (with_reducible refine (T15.out _ (N_ B9.out)).mono ?_)
        rintro e w10 ⟨Ap, dp, rfl, ho, hb⟩; have OP := Lib.hid ho; have Xe := Lib.hid (Xe.out.drew.below hb); have Jt := Lib.hid (N9.out.drew.below hb); have x3 := Jt.out.r3.cell; have g3 := Jt.out.r3.free; have y3 := Jt.out.r3.lt; have X9 := Lib.hid (Row.below X9.out.drew hb X9.out.drew.lt); have P9 := Lib.hid (Row.below P9.out.drew hb P9.out.drew.lt); have R9 := Lib.hid (Row.below R9.out.drew hb R9.out.drew.lt)
        clear ho hb))
  all_goals
   go_wp2
   have z9 := S9.out; have hd9 : w9.drew.heap.size = w9.heap.size := rfl; refine bodyPost_ret (Yy rfl rfl (Row.g_ Jt.out.r3 _ _ _ _ _ _)) rfl ?_
   rw [Z8.out]; refine ⟨_, _, _, _, rfl, ?_, ?_, ?_, ?_⟩
   · exact (Own.g_ Xe.out (by omega) _ _ _ _ _ _).lower (by omega)
   · exact (Own.g_ OP.out (by omega) _ _ _ _ _ _).lower (by omega)
   · intro k h1 h2
     have a := XB.out k h1; have b := (OP.out.row.lt k h2).1; omega
   · exact Below.g_ Jt.out.be (by omega) _ _ _ _ _ _)
 go_region_held3 (fun w' => (∀ o, w'.cell? ⟨w.heap.size, o, none⟩ = #[I n, I 1, .slice A1 lx.length c1, I n, I n, .slice A2 lp.length c2][o]?) ∧ (∀ o, w'.cell? ⟨w.heap.size + 1, o, none⟩ = #[I n, I n, .slice A3 lf.length c3][o]?) ∧ (∀ o, w'.cell? ⟨w.heap.size + 1 + 1, o, none⟩ = #[I n, I n, .slice A4 lq.length c4][o]?))
  (first | with_reducible exact ZU.out _ GN.out | with_reducible exact ZU.out _ (lF GN.out _) | with_reducible exact ZU.out _ (qo GN.out) | with_reducible exact ZU.out _ (lF (qo GN.out) _) | with_reducible exact ZU.out _ (qo (lF GN.out _)) | ((with_reducible refine ZU.out _ (zh GN.out ?_ _ _ _)); first | omega | (simp; omega) | simp))
  (first
    | (go_at_call 151
       first
        | ((with_reducible refine (qM g (b1 || b2) b3 n n 0 Am M.length dm _ RG.out).mono ?_)
           rintro e w7 ⟨rfl, hr, hg⟩; have OM := Lib.hid (Own.touch OM.out hg (by omega)); have NT : Hid (w6.heap.size ≠ g) := Lib.hid (by have h1 := GN.out.size; have h2 := NG.out; omega); have RG := Lib.hid hr; have GN := Lib.hid (KK.dU GN.out hg); have z7 := GN.out.size
           first
            | (have TB := Lib.hid (Row.gr TB.out hg (by first | exact NG.out.1 | exact NT5.out))
               have kc := TB.out.cell
               have kf := TB.out.free)
            | skip
           clear hr hg)
        | ((with_reducible refine (qM g (b1 || b2) b3 n n 0 Am M.length dm _ (Row.alloc RG.out _)).mono ?_)
           rintro e w7 ⟨rfl, hr, hg⟩; have OM := Lib.hid (Own.touch (OM.out.alloc _) hg (by omega)); have NT : Hid (w6.heap.size ≠ g) := Lib.hid (by have h1 := GN.out.size; have h2 := NG.out; omega); have RG := Lib.hid hr; have GN := Lib.hid (KK.dU (lF GN.out _) hg); have z7 := GN.out.size; have TB : Hid (Row w7 w6.heap.size 29 #[I 0, I 0, .slice none 0 0]) := Lib.hid (Row.gr (Row.new w6 29 #[I 0, I 0, .slice none 0 0]) hg NT.out); have zt := TB.out.lt; have kc := TB.out.cell; have kf := TB.out.free
           clear hr hg))
    | (go_at_call 153
       first
        | ((with_reducible refine (T47.out _ _ _ GN.out OB.out.1 OB.out.2).mono ?_)
           rintro e w6 ⟨v, rfl, ho, hb⟩; obtain ⟨Am, dm, rfl, _, _⟩ := Own.reads ho; have OMB := Lib.hid (fun q hq => ho.row.lt q hq); have OM : Hid (Own w6 (g + 1) (.slice Am M.length dm) M) := Lib.hid (Own.lower ho (by have h1 := GN.out.size; have h2 := NG.out; first | omega | (simp; omega))); have RG := Lib.hid (Row.below RG.out hb RG.out.lt); have NT5 : Hid (w5.heap.size ≠ g) := Lib.hid (by have h1 := GN.out.size; have h2 := NG.out; omega); have GN := Lib.hid (KD GN.out hb); have z6 := GN.out.size
           first
            | (have TB := Lib.hid (Row.below TB.out hb TB.out.lt)
               have kc := TB.out.cell
               have kf := TB.out.free)
            | skip
           clear ho hb)
        | ((with_reducible refine (T47.out _ _ _ (lF GN.out _) (Rd.below OB.out.1 ((Below.refl _ _).alloc (Nat.le_refl _) _)) OB.out.2).mono ?_)
           rintro e w6 ⟨v, rfl, ho, hb⟩; obtain ⟨Am, dm, rfl, _, _⟩ := Own.reads ho; have OMB := Lib.hid (fun q hq => ho.row.lt q hq); have OM : Hid (Own w6 (g + 1) (.slice Am M.length dm) M) := Lib.hid (Own.lower ho (by have h1 := GN.out.size; have h2 := NG.out; first | omega | (simp; omega))); have RG := Lib.hid (Row.below (Row.alloc RG.out _) hb (Row.alloc RG.out _).lt); have NT5 : Hid (w5.heap.size ≠ g) := Lib.hid (by have h1 := GN.out.size; have h2 := NG.out; omega); have GN := Lib.hid (KD (lF GN.out _) hb); have z6 := GN.out.size; have TB : Hid (Row w6 w5.heap.size 29 #[I 0, I 0, .slice none 0 0]) := Lib.hid (Row.below (Row.new w5 29 #[I 0, I 0, .slice none 0 0]) hb (by simp)); have zt := TB.out.lt; have kc := TB.out.cell; have kf := TB.out.free
           clear ho hb))
    | (go_at_call 154
       first
        | ((with_reducible refine (T48.out _ (qo GN.out) (Row.drew RG.out)).mono ?_)
           rintro e w5 ⟨Ab, cb, rfl, ho, hr, hg⟩; have GN := Lib.hid (KK.dU (qo GN.out) hg); have RG := Lib.hid hr; have OB := Lib.hid (Own.rd ho); have z5 := GN.out.size
           clear ho hr hg)
        | ((with_reducible refine (T48.out _ (lF (qo GN.out) _) (Row.alloc (Row.drew RG.out) _)).mono ?_)
           rintro e w5 ⟨Ab, cb, rfl, ho, hr, hg⟩; have GN := Lib.hid (KK.dU (lF (qo GN.out) _) hg); have TB : Hid (Row w5 wr.heap.size 29 #[I 0, I 0, .slice none 0 0]) := Lib.hid (Row.gr (Row.new wr.drew 29 #[I 0, I 0, .slice none 0 0]) hg NG.out.1); have zt := TB.out.lt; have kc := TB.out.cell; have kf := TB.out.free; have RG := Lib.hid hr; have OB := Lib.hid (Own.rd ho); have z5 := GN.out.size
           clear ho hr hg)
        | ((with_reducible refine (T48.out _ (qo (lF GN.out _)) (Row.drew (Row.alloc RG.out _))).mono ?_)
           rintro e w5 ⟨Ab, cb, rfl, ho, hr, hg⟩; have GN := Lib.hid (KK.dU (qo (lF GN.out _)) hg); have TB : Hid (Row w5 wr.heap.size 29 #[I 0, I 0, .slice none 0 0]) := Lib.hid (Row.gr (Row.drew (Row.new wr 29 #[I 0, I 0, .slice none 0 0])) hg NG.out.1); have zt := TB.out.lt; have kc := TB.out.cell; have kf := TB.out.free; have RG := Lib.hid hr; have OB := Lib.hid (Own.rd ho); have z5 := GN.out.size
           clear ho hr hg)))
 all_goals
  show K8 _ _
  first
   | (with_reducible refine La.out _ _ _ _ _ _ (lF GN.out _) (Row.new _ _ _) (Own.rd (OM.out.alloc _)).1 (Own.rd OM.out).2 (Row.alloc RG.out _) (by omega))
   | ((with_reducible refine La.out _ _ _ _ _ _ (zh GN.out ?_ _ _ _) (Row.dK TB.out _ _ _) (Own.rd (Own.mM OM.out (fun q hq => ?_) _ _ _)).1 (Own.rd OM.out).2 (Row.rG RG.out ?_) ?_)
      all_goals first | omega | exact NG.out.1.symm | exact NT.out.symm | exact NT5.out.symm | (have h := NG.out; omega) | (have h1 := OMB.out q hq; have h2 := TB.out.lt; omega) | (have h1 := OMB.out q hq; simp at h1; omega) | (simp; omega))
end Go.Proofs.YtcfobekkchhbbaaGreat.PR

namespace Go.Proofs.YtcfobekkchhbbaaGreat.PR
open Go.RowKit Go.Proofs.YtcfobekkchhbbaaGreat.PQ Go.Proofs.af.aU Go.Proofs.af.a_ Go.Proofs.af.bf Go.Proofs.YtcfobekkchhbbaaGreat.KK
set_option linter.unusedVariables false
set_option linter.unusedSimpArgs false
theorem Vl (n : Nat) (A1 A2 A3 : Option Addr) (c1 c2 c3 : Nat) (lx lp lh : List Int) (z r gate y s q1 q2 : Int) (o f1 f2 : Bool) (w : World) (h1 : 1 ≤ n) (h8 : n ≤ 8) (hx : lx.length = n * 1) (hp : lp.length = n * n) (hh : lh.length = 1 * n)
 (rx : Rd w A1 lx) (cx : lx.length ≤ c1) (rp : Rd w A2 lp) (cp : lp.length ≤ c2) (rh : Rd w A3 lh) (ch : lh.length ≤ c3)
 (hm : PQ.fM.f 1000 n 1 lx n n lp 1 n lh r = some 0) (hi : fA.f false n 1 lx n n lp 1 n lh z r = some (y, s, o)) (h2 : kE y y = (q1, f1)) (h3 : kE gate s = (q2, f2)) (h4 : q1 > q2) :
 Calls Tryz.prog 156 #[.agg #[I n, I 1, .slice A1 lx.length c1, I n, I n, .slice A2 lp.length c2], .agg #[I 1, I n, .slice A3 lh.length c3], I z, I r, I gate] w fun e w' => e = .returned (.tuple #[.agg #[I n, I 1, .slice A1 lx.length c1, I n, I n, .slice A2 lp.length c2], .bool false, .bool (o || f1 || f2), I 0]) ∧ Below w.heap.size w w' := by
 have N : Hid (bD w [(31, #[I n, I 1, .slice A1 lx.length c1, I n, I n, .slice A2 lp.length c2]), (29, #[I 1, I n, .slice A3 lh.length c3]), (31, #[I 0, I 0, .slice none 0 0, I 0, I 0, .slice none 0 0])] (((w.alloc (.cells #[I n, I 1, .slice A1 lx.length c1, I n, I n, .slice A2 lp.length c2] 31)).alloc (.cells #[I 1, I n, .slice A3 lh.length c3] 29)).alloc (.cells #[I 0, I 0, .slice none 0 0, I 0, I 0, .slice none 0 0] 31))) := Lib.hid ((((bD.none w).push (by simp) _ _).push (by simp) _ _).push (by simp) _ _); have RX := Lib.hid rx; have RP := Lib.hid rp; have RH := Lib.hid rh; have CX := Lib.hid cx; have CP := Lib.hid cp; have CH := Lib.hid ch; have HM := Lib.hid hm; have HI := Lib.hid hi; have H2 := Lib.hid h2; have H3 := Lib.hid h3; have HT := Lib.hid (And.intro (And.intro h1 h8) (And.intro hx (And.intro hp hh))); have e4 : decide (q1 > q2) = true := decide_eq_true h4; clear rx rp rh cx cp ch hm hi h1 h8 hx hp hh h2 h3 h4
 go_enter Tryz.func156, Tryz.ntmps156
 go_wp2_with fail
 refine (PQ.fM.calls 1000 n 1 A1 c1 lx n n A2 c2 lp 1 n A3 c3 lh r 0 _ (RX.out.below N.out.be) CX.out (RP.out.below N.out.be) CP.out (RH.out.below N.out.be) CH.out HM.out).mono ?_
 rintro e w1 ⟨rfl, hb⟩; have N1 := Lib.hid (N.out.below hb); have y0 := N1.out.r0.cell; have y1 := N1.out.r1.cell; have t0 := N1.out.r0.lt; have t1 := N1.out.r1.lt; clear hb N; have G1 := Lib.hid (Row.new w1 213 #[.bool false]); have N2 := Lib.hid (N1.out.alloc (.cells #[.bool false] 213)); have GE : Hid (w.heap.size + 3 ≤ w1.heap.size) := Lib.hid (by have h := N1.out.rows.le N1.out.be.size; simpa using h); have FX : Hid (∀ ad, A1 = some ad → 0 < lx.length → ad.block ≠ w1.heap.size) := Lib.hid (fun ad e hp => by have h1 := Rd.blk RX.out ad e hp; have h2 := GE.out; omega); have FP : Hid (∀ ad, A2 = some ad → 0 < lp.length → ad.block ≠ w1.heap.size) := Lib.hid (fun ad e hp => by have h1 := Rd.blk RP.out ad e hp; have h2 := GE.out; omega); have FH : Hid (∀ ad, A3 = some ad → 0 < lh.length → ad.block ≠ w1.heap.size) := Lib.hid (fun ad e hp => by have h1 := Rd.blk RH.out ad e hp; have h2 := GE.out; omega)
 go_wp2_with fail
 refine (fA.calls w1.heap.size false n 1 A1 c1 lx n n A2 c2 lp 1 n A3 c3 lh z r y s o w _ ⟨G1.out, by have h := GE.out; omega⟩ N2.out.be (RX.out.below N2.out.be) CX.out FX.out (RP.out.below N2.out.be) CP.out FP.out (RH.out.below N2.out.be) CH.out FH.out HI.out).mono ?_
 rintro e w2 ⟨rfl, hs, hb, hk⟩; have R2 : Hid (Row w2 w1.heap.size 213 #[.bool o]) := Lib.hid hs.1; have N3 := Lib.hid (N2.out.app (grown_of N2.out.be hb hk) (fun g e => by injection e with e; have h := GE.out; simp; omega)); clear hs hb hk y0 y1 t0 t1
 go_wp2_with fail
 refine (jW y y w2).mono ?_
 rw [H2.out]; rintro e w3 ⟨rfl, hb⟩; have R3 := Lib.hid (Row.below R2.out hb R2.out.lt); have N4 := Lib.hid (N3.out.below hb); clear hb
 go_wp2_with fail
 refine (yX w1.heap.size o f1 q1 w3 R3.out).mono ?_
 rintro e w4 ⟨rfl, hr, hg⟩; have R4 := Lib.hid hr; have N5 := Lib.hid (N4.out.app hg (fun g e => by injection e with e; have h := GE.out; simp; omega)); clear hr hg
 go_wp2_with fail
 refine (jW gate s w4).mono ?_
 rw [H3.out]; rintro e w5 ⟨rfl, hb⟩; have R5 := Lib.hid (Row.below R4.out hb R4.out.lt); have N6 := Lib.hid (N5.out.below hb); clear hb
 go_wp2_with fail
 refine (yX w1.heap.size (o || f1) f2 q2 w5 R5.out).mono ?_
 rintro e w6 ⟨rfl, hr, hg⟩; have R6 := Lib.hid hr; have N7 := Lib.hid (N6.out.app hg (fun g e => by injection e with e; have h := GE.out; simp; omega)); clear hr hg; have y0 := N7.out.r0.cell; have x2 := N7.out.r2.cell; have g2 := N7.out.r2.free; have KS : Hid (∀ w', Row w' w.heap.size 31 #[I n, I 1, .slice A1 lx.length c1, I n, I n, .slice A2 lp.length c2] → Row w' w1.heap.size 213 #[.bool (o || f1 || f2)] → (∀ o, w'.cell? ⟨w.heap.size, o, none⟩ = #[I n, I 1, .slice A1 lx.length c1, I n, I n, .slice A2 lp.length c2][o]?) ∧ (∀ o', w'.cell? ⟨w1.heap.size, o', none⟩ = #[.bool (o || f1 || f2)][o']?)) := Lib.hid (fun w' a b => ⟨a.cell, b.cell⟩); have T7 := Lib.hid N7.out.r0
 obtain ⟨fl, hfl⟩ : ∃ fl, (o || f1 || f2) = fl := ⟨_, rfl⟩
 have Z8 := Lib.hid hfl; rw [hfl] at KS R6; clear hfl; have BE : Hid (w.heap.size + 3 ≤ w6.heap.size) := Lib.hid (by have h := N7.out.rows.le N7.out.be.size; simpa using h)
 go_wp2_with fail
 go_region_held3 (fun w' => (∀ o, w'.cell? ⟨w.heap.size, o, none⟩ = #[I n, I 1, .slice A1 lx.length c1, I n, I n, .slice A2 lp.length c2][o]?) ∧ (∀ o, w'.cell? ⟨w1.heap.size, o, none⟩ = #[.bool fl][o]?))
  (first | with_reducible exact KS.out _ T7.out.drew R6.out.drew | with_reducible exact KS.out _ (Row.drew (Row.vH T7.out (C := w.heap.size + 1 + 1) (by omega) _ _ _ _ _ _)) (Row.drew (Row.vH R6.out (C := w.heap.size + 1 + 1) (by have h := GE.out; omega) _ _ _ _ _ _)))
  (fail)
 go_wp2
 refine bodyPost_ret (Ie rfl rfl (Row.drew (Row.g_ N7.out.r2 _ _ _ _ _ _))) rfl ?_
 rw [Z8.out]; refine ⟨rfl, ?_⟩
 have hbb := N7.out.be; exact (Below.g_ hbb (by omega) _ _ _ _ _ _).drew
theorem Vm (n : Nat) (A1 A2 A3 : Option Addr) (c1 c2 c3 : Nat) (lx lp lh : List Int) (z r gate y s q1 q2 : Int) (o f1 f2 : Bool) (w : World) (h1 : 1 ≤ n) (h8 : n ≤ 8) (hx : lx.length = n * 1) (hp : lp.length = n * n) (hh : lh.length = 1 * n)
 (rx : Rd w A1 lx) (cx : lx.length ≤ c1) (rp : Rd w A2 lp) (cp : lp.length ≤ c2) (rh : Rd w A3 lh) (ch : lh.length ≤ c3)
 (hm : PQ.fM.f 1000 n 1 lx n n lp 1 n lh r = some 0) (hi : fA.f false n 1 lx n n lp 1 n lh z r = some (y, s, o)) (h2 : kE y y = (q1, f1)) (h3 : kE gate s = (q2, f2)) (h4 : ¬ q1 > q2) (h5 : s ≤ 0) :
 Calls Tryz.prog 156 #[.agg #[I n, I 1, .slice A1 lx.length c1, I n, I n, .slice A2 lp.length c2], .agg #[I 1, I n, .slice A3 lh.length c3], I z, I r, I gate] w fun e w' => e = .returned (.tuple #[.agg #[I n, I 1, .slice A1 lx.length c1, I n, I n, .slice A2 lp.length c2], .bool false, .bool (o || f1 || f2), I 0]) ∧ Below w.heap.size w w' := by
 have N : Hid (bD w [(31, #[I n, I 1, .slice A1 lx.length c1, I n, I n, .slice A2 lp.length c2]), (29, #[I 1, I n, .slice A3 lh.length c3]), (31, #[I 0, I 0, .slice none 0 0, I 0, I 0, .slice none 0 0])] (((w.alloc (.cells #[I n, I 1, .slice A1 lx.length c1, I n, I n, .slice A2 lp.length c2] 31)).alloc (.cells #[I 1, I n, .slice A3 lh.length c3] 29)).alloc (.cells #[I 0, I 0, .slice none 0 0, I 0, I 0, .slice none 0 0] 31))) := Lib.hid ((((bD.none w).push (by simp) _ _).push (by simp) _ _).push (by simp) _ _); have RX := Lib.hid rx; have RP := Lib.hid rp; have RH := Lib.hid rh; have CX := Lib.hid cx; have CP := Lib.hid cp; have CH := Lib.hid ch; have HM := Lib.hid hm; have HI := Lib.hid hi; have H2 := Lib.hid h2; have H3 := Lib.hid h3; have HT := Lib.hid (And.intro (And.intro h1 h8) (And.intro hx (And.intro hp hh))); have e4 : decide (q1 > q2) = false := decide_eq_false h4; have e5 : decide (s ≤ 0) = true := decide_eq_true h5; clear rx rp rh cx cp ch hm hi h1 h8 hx hp hh h2 h3 h4 h5
 go_enter Tryz.func156, Tryz.ntmps156
 go_wp2_with fail
 refine (PQ.fM.calls 1000 n 1 A1 c1 lx n n A2 c2 lp 1 n A3 c3 lh r 0 _ (RX.out.below N.out.be) CX.out (RP.out.below N.out.be) CP.out (RH.out.below N.out.be) CH.out HM.out).mono ?_
 rintro e w1 ⟨rfl, hb⟩; have N1 := Lib.hid (N.out.below hb); have y0 := N1.out.r0.cell; have y1 := N1.out.r1.cell; have t0 := N1.out.r0.lt; have t1 := N1.out.r1.lt; clear hb N; have G1 := Lib.hid (Row.new w1 213 #[.bool false]); have N2 := Lib.hid (N1.out.alloc (.cells #[.bool false] 213)); have GE : Hid (w.heap.size + 3 ≤ w1.heap.size) := Lib.hid (by have h := N1.out.rows.le N1.out.be.size; simpa using h); have FX : Hid (∀ ad, A1 = some ad → 0 < lx.length → ad.block ≠ w1.heap.size) := Lib.hid (fun ad e hp => by have h1 := Rd.blk RX.out ad e hp; have h2 := GE.out; omega); have FP : Hid (∀ ad, A2 = some ad → 0 < lp.length → ad.block ≠ w1.heap.size) := Lib.hid (fun ad e hp => by have h1 := Rd.blk RP.out ad e hp; have h2 := GE.out; omega); have FH : Hid (∀ ad, A3 = some ad → 0 < lh.length → ad.block ≠ w1.heap.size) := Lib.hid (fun ad e hp => by have h1 := Rd.blk RH.out ad e hp; have h2 := GE.out; omega)
 go_wp2_with fail
 refine (fA.calls w1.heap.size false n 1 A1 c1 lx n n A2 c2 lp 1 n A3 c3 lh z r y s o w _ ⟨G1.out, by have h := GE.out; omega⟩ N2.out.be (RX.out.below N2.out.be) CX.out FX.out (RP.out.below N2.out.be) CP.out FP.out (RH.out.below N2.out.be) CH.out FH.out HI.out).mono ?_
 rintro e w2 ⟨rfl, hs, hb, hk⟩; have R2 : Hid (Row w2 w1.heap.size 213 #[.bool o]) := Lib.hid hs.1; have N3 := Lib.hid (N2.out.app (grown_of N2.out.be hb hk) (fun g e => by injection e with e; have h := GE.out; simp; omega)); clear hs hb hk y0 y1 t0 t1
 go_wp2_with fail
 refine (jW y y w2).mono ?_
 rw [H2.out]; rintro e w3 ⟨rfl, hb⟩; have R3 := Lib.hid (Row.below R2.out hb R2.out.lt); have N4 := Lib.hid (N3.out.below hb); clear hb
 go_wp2_with fail
 refine (yX w1.heap.size o f1 q1 w3 R3.out).mono ?_
 rintro e w4 ⟨rfl, hr, hg⟩; have R4 := Lib.hid hr; have N5 := Lib.hid (N4.out.app hg (fun g e => by injection e with e; have h := GE.out; simp; omega)); clear hr hg
 go_wp2_with fail
 refine (jW gate s w4).mono ?_
 rw [H3.out]; rintro e w5 ⟨rfl, hb⟩; have R5 := Lib.hid (Row.below R4.out hb R4.out.lt); have N6 := Lib.hid (N5.out.below hb); clear hb
 go_wp2_with fail
 refine (yX w1.heap.size (o || f1) f2 q2 w5 R5.out).mono ?_
 rintro e w6 ⟨rfl, hr, hg⟩; have R6 := Lib.hid hr; have N7 := Lib.hid (N6.out.app hg (fun g e => by injection e with e; have h := GE.out; simp; omega)); clear hr hg; have y0 := N7.out.r0.cell; have x2 := N7.out.r2.cell; have g2 := N7.out.r2.free; have KS : Hid (∀ w', Row w' w.heap.size 31 #[I n, I 1, .slice A1 lx.length c1, I n, I n, .slice A2 lp.length c2] → Row w' w1.heap.size 213 #[.bool (o || f1 || f2)] → (∀ o, w'.cell? ⟨w.heap.size, o, none⟩ = #[I n, I 1, .slice A1 lx.length c1, I n, I n, .slice A2 lp.length c2][o]?) ∧ (∀ o', w'.cell? ⟨w1.heap.size, o', none⟩ = #[.bool (o || f1 || f2)][o']?)) := Lib.hid (fun w' a b => ⟨a.cell, b.cell⟩); have T7 := Lib.hid N7.out.r0
 obtain ⟨fl, hfl⟩ : ∃ fl, (o || f1 || f2) = fl := ⟨_, rfl⟩
 have Z8 := Lib.hid hfl; rw [hfl] at KS R6; clear hfl; have BE : Hid (w.heap.size + 3 ≤ w6.heap.size) := Lib.hid (by have h := N7.out.rows.le N7.out.be.size; simpa using h)
 go_wp2_with fail
 go_region_held3 (fun w' => (∀ o, w'.cell? ⟨w.heap.size, o, none⟩ = #[I n, I 1, .slice A1 lx.length c1, I n, I n, .slice A2 lp.length c2][o]?) ∧ (∀ o, w'.cell? ⟨w1.heap.size, o, none⟩ = #[.bool fl][o]?))
  (first | with_reducible exact KS.out _ T7.out.drew R6.out.drew | with_reducible exact KS.out _ (Row.drew (Row.vH T7.out (C := w.heap.size + 1 + 1) (by omega) _ _ _ _ _ _)) (Row.drew (Row.vH R6.out (C := w.heap.size + 1 + 1) (by have h := GE.out; omega) _ _ _ _ _ _)))
  (fail)
 go_wp2
 refine bodyPost_ret (Ie rfl rfl (Row.drew (Row.g_ N7.out.r2 _ _ _ _ _ _))) rfl ?_
 rw [Z8.out]; refine ⟨rfl, ?_⟩
 have hbb := N7.out.be; exact (Below.g_ hbb (by omega) _ _ _ _ _ _).drew
end Go.Proofs.YtcfobekkchhbbaaGreat.PR

namespace Go.Proofs.YtcfobekkchhbbaaGreat.PR
open Go.RowKit Go.Proofs.YtcfobekkchhbbaaGreat.PQ Go.Proofs.af.aU Go.Proofs.af.a_ Go.Proofs.af.bf Go.Proofs.YtcfobekkchhbbaaGreat.KK
set_option linter.unusedVariables false
set_option linter.unusedSimpArgs false
theorem YM (a : Int) : dQ.f a = some (!ny a) := by
 rw [aaU]
 unfold ny
 congr 1
 by_cases h1 : a < -70368744177664
 · simp [h1]
   try omega
 · by_cases h2 : a > 70368744177663
   · simp [h1, h2]
     try omega
   · simp [h1, h2]
     try omega
theorem UC {l : List Int} {j : Nat} (h : j < l.length) : (l.drop j).any ny = (ny (l.getD j 0) || (l.drop (j + 1)).any ny) := by
 rw [List.drop_eq_getElem_cons h, List.any_cons]
 congr 2
 rw [List.getD_eq_getElem?_getD, List.getElem?_eq_getElem h]; rfl
theorem Fh (r c : Int) (l : List Int) (hl : l.length ≤ 1000000) : ∀ (d j : Nat), j + d = l.length → aI.l0 (d + 1) j r c l = some (!(l.drop j).any ny) := by
 intro d
 induction d with
 | zero =>
   intro j hj
   obtain rfl : j = l.length := by omega
   unfold aI.l0
   rw [if_neg (by omega)]
   simp
 | succ d ih =>
   intro j hj
   have hlt : j < l.length := by omega
   have e1 : wrap64 ((j : Int) + 1) = ((j + 1 : Nat) : Int) := by rw [Lp (by omega) (by omega)]; push_cast; rfl
   have e2 : rd l (j : Int) = l.getD j 0 := by unfold rd; rw [Int.toNat_natCast]
   unfold aI.l0
   rw [if_pos (by omega), if_pos (by omega), e2, YM, UC hlt]; simp only [Option.bind_some]
   cases ho : ny (l.getD j 0)
   · simp only [Bool.not_false, if_true, e1, ih (j + 1) (by omega), Bool.false_or]
   · simp
theorem JP (r c : Int) (l : List Int) : ∃ k, aI.f k r c l = some (iW r c l) := by
 unfold aI.f iW
 by_cases h0 : r < 1
 · exact ⟨1, by rw [if_pos h0]; unfold aI.j0; (try simp); (try omega)⟩
 simp only [if_neg h0]
 by_cases h1 : r > 8
 · exact ⟨1, by rw [if_pos h1]; unfold aI.j0; (try simp); (try omega)⟩
 simp only [if_neg h1]
 by_cases h2 : c < 1
 · exact ⟨1, by rw [if_pos h2]; unfold aI.j0; (try simp); (try omega)⟩
 simp only [if_neg h2]
 by_cases h3 : c > 8
 · exact ⟨1, by rw [if_pos h3]; unfold aI.j0; (try simp); (try omega)⟩
 simp only [if_neg h3]
 by_cases h4 : (l.length : Int) = wrap64 (r * c)
 · have b0 : 0 ≤ r * c := Int.mul_nonneg (by omega) (by omega)
   have b1 : r * c ≤ 8 * c := Int.mul_le_mul_of_nonneg_right (by omega) (by omega)
   have hl : l.length ≤ 1000000 := by
    rw [Lp (by omega) (by omega)] at h4; omega
   refine ⟨l.length + 2, ?_⟩
   have e : ((l.length : Int) != wrap64 (r * c)) = false := by simp [h4]
   unfold aI.j0
   rw [e]; simp only [Bool.false_eq_true, if_false]; have := Fh r c l hl l.length 0 (by omega); simp only [List.drop_zero] at this; rw [show ((0 : Nat) : Int) = 0 from rfl] at this; rw [this]; have d0 : decide (r ≥ 1) = true := decide_eq_true (by omega); have d1 : decide (r ≤ 8) = true := decide_eq_true (by omega); have d2 : decide (c ≥ 1) = true := decide_eq_true (by omega); have d3 : decide (c ≤ 8) = true := decide_eq_true (by omega)
   have d4 : ((l.length : Int) == wrap64 (r * c)) = true := by simpa using h4
   simp [d0, d1, d2, d3, d4]
 · refine ⟨1, ?_⟩
   have e : ((l.length : Int) != wrap64 (r * c)) = true := by simpa using h4
   have e2 : ((l.length : Int) == wrap64 (r * c)) = false := by simpa using h4
   unfold aI.j0
   simp [e, e2]
end Go.Proofs.YtcfobekkchhbbaaGreat.PR

