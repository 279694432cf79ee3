import Derived.Test.YtninmcmajbfccaaY8
/- Joined and thinned by a program of this session's own (wip/pack2.py) out of its texts (wip/ of its repo); parts were laid by its own program (wip/print-patch.py over the kit's print) out of the translation; Lean checks all. -/
set_option maxRecDepth 100000
set_option maxHeartbeats 20000000
namespace Go.Proofs.Ytninmcmajbfccaa.PR
open Go.RowKit Go.Proofs.Ytninmcmajbfccaa.PQ Go.Proofs.aH.bK Go.Proofs.aH.dG Go.Proofs.aH.dJ Go.Proofs.Ytninmcmajbfccaa.KK
set_option linter.unusedVariables false
set_option linter.unusedSimpArgs false
theorem Sg.gy {w w' : World} {g : Nat} {L : List (TypeId × Array Value)} (h : Sg w g L w') {C : Nat} (hC : w.heap.size + L.length ≤ C) (a b c : Value) : Sg w g L (gy w' C a b c) :=
 ⟨h.rows.imp fun k t cs _ hk r => r.CU (by omega), Lu h.gr (by omega) a b c⟩
theorem Own.yE {w : World} {base C : Nat} {v : Value} {l : List Int} (h : Own w base v l) (hne : ∀ q, v.ownBlock = some q → q ≠ C) (a b c : Value) : Own (gy w C a b c) base v l :=
 Own.Ac (wI h.row fun k hk => ((Below.heap_setCell _ _ c k (hne k hk)).trans (Below.heap_setCell _ _ b k (hne k hk))).trans (Below.heap_setCell w ⟨C, 0, none⟩ a k (hne k hk)))
theorem Sg.set {w w' : World} {g : Nat} {L : List (TypeId × Array Value)} (h : Sg w g L w') {p : Addr} (hC : w.heap.size + L.length ≤ p.block) (u : Value) : Sg w g L (w'.setCell p u) :=
 ⟨h.rows.imp fun k t cs _ hk r => r.far (by omega) u, wz h.gr (by omega) u⟩
theorem Own.form {w : World} {base : Nat} {A : Option Addr} {c : Nat} {l : List Int} (h : Own w base (.slice A l.length c) l) (hp : 0 < l.length) : ∃ b, A = some ⟨b, 0, none⟩ ∧ base ≤ b := by
 rcases h.row.2 with ⟨_, h0⟩ | ⟨b, cap, cur, he, hb, _⟩
 · omega
 · injection he with e1 _ _
   exact ⟨b, e1, hb⟩
theorem _root_.Go.Proofs.Ytninmcmajbfccaa.KK.Own.drew {w : World} {base : Nat} {v : Value} {l : List Int} (h : KK.Own w base v l) : KK.Own w.drew base v l := h.below (Below.refl _ _).drew
theorem Own.rd {w : World} {base : Nat} {A : Option Addr} {c : Nat} {l : List Int} (h : Own w base (.slice A l.length c) l) : Rd w A l ∧ l.length ≤ c := by
 obtain ⟨A', c', he, hc, hr⟩ := Own.reads h
 injection he with e1 _ e3
 subst e1 e3
 exact ⟨hr, hc⟩
theorem xB (l : List Int) : (jf l).length = l.length * l.length := upto_length
def wK (sv : Int) (k0 : List Int) (j : Nat) : List Int := (k0.take j).map (fun q => (H9 q sv).1) ++ k0.drop j
def Gh (sv : Int) (k0 : List Int) (j : Nat) : Bool := (k0.take j).any (fun q => (H9 q sv).2)
theorem LJ (sv : Int) (k0 : List Int) (j : Nat) (hj : j < k0.length) : (wK sv k0 j)[j]? = some (k0.getD j 0) := by
 unfold wK
 rw [List.getElem?_append_right (by simp; omega)]
 simp only [List.length_map, List.length_take, List.getElem?_drop]
 rw [show min j k0.length = j by omega, Nat.sub_self, Nat.add_zero]
 exact xy hj
theorem Rx (sv : Int) (k0 : List Int) (j : Nat) (hj : j < k0.length) : (wK sv k0 j).set j (H9 (k0.getD j 0) sv).1 = wK sv k0 (j + 1) := by
 unfold wK
 rw [List.set_append_right _ _ (by simp; omega)]
 simp only [List.length_map, List.length_take]
 rw [show min j k0.length = j by omega, Nat.sub_self, List.take_add_one, xy hj, List.map_append, List.append_assoc]
 congr 1
 have hd : k0.drop j = k0.getD j 0 :: k0.drop (j + 1) := by
  rw [List.drop_eq_getElem_cons hj]
  congr 1
  rw [List.getD_eq_getElem?_getD, List.getElem?_eq_getElem hj]; rfl
 rw [hd]
 simp
theorem Ry (sv : Int) (k0 : List Int) (j : Nat) (hj : j < k0.length) : Gh sv k0 (j + 1) = (Gh sv k0 j || (H9 (k0.getD j 0) sv).2) := by
 unfold Gh
 rw [List.take_add_one, xy hj, List.any_append]
 simp
abbrev oO (w : World) (C : Nat) (a b c d e f : Value) : World := (((((w.setCell ⟨C, 0, none⟩ a).setCell ⟨C, 1, none⟩ b).setCell ⟨C, 2, none⟩ c).setCell ⟨C, 3, none⟩ d).setCell ⟨C, 4, none⟩ e).setCell ⟨C, 5, none⟩ f
theorem Row.oO {w : World} {B : Nat} {t : TypeId} {a' b' c' d' e' f' : Value} (h : Row w B t #[a', b', c', d', e', f']) (a b c d e f : Value) : Row (oO w B a b c d e f) B t #[a, b, c, d, e, f] := by
 simpa using (((((h.set 0 a).set 1 b).set 2 c).set 3 d).set 4 e).set 5 f
theorem Row.TS {w : World} {B C : Nat} {t : TypeId} {cs : Array Value} (h : Row w B t cs) (hne : B ≠ C) (a b c d e f : Value) : Row (PR.oO w C a b c d e f) B t cs :=
 (((((h.far (p := ⟨C, 0, none⟩) hne a).far (p := ⟨C, 1, none⟩) hne b).far (p := ⟨C, 2, none⟩) hne c).far (p := ⟨C, 3, none⟩) hne d).far (p := ⟨C, 4, none⟩) hne e).far (p := ⟨C, 5, none⟩) hne f
theorem TN {w w' : World} {r : Option Nat} (h : w.grownBy w' r) {C : Nat} (hp : w.heap.size ≤ C) (a b c d e f : Value) : w.grownBy (PR.oO w' C a b c d e f) r :=
 wz (wz (wz (wz (wz (wz h (p := ⟨C, 0, none⟩) hp a) (p := ⟨C, 1, none⟩) hp b) (p := ⟨C, 2, none⟩) hp c) (p := ⟨C, 3, none⟩) hp d) (p := ⟨C, 4, none⟩) hp e) (p := ⟨C, 5, none⟩) hp f
theorem Own.oO {w : World} {base C : Nat} {v : Value} {l : List Int} (h : Own w base v l) (hp : C < base) (a b c d e f : Value) : Own (PR.oO w C a b c d e f) base v l :=
 (((((h.far (p := ⟨C, 0, none⟩) hp a).far (p := ⟨C, 1, none⟩) hp b).far (p := ⟨C, 2, none⟩) hp c).far (p := ⟨C, 3, none⟩) hp d).far (p := ⟨C, 4, none⟩) hp e).far (p := ⟨C, 5, none⟩) hp f
theorem ahN {w : World} {B : Nat} {a b c d e f : Value} {fn : Func} {k : Nat} {tmps : Array Value} (h : fn.results = #[.cell k 28]) (hk : tmps.getD k undef = .pointer (some ⟨B, 0, none⟩)) (R : Row w B 28 #[a, b, c, d, e, f]) :
 (results fn tmps).run Try.prog w = .ok (.agg #[a, b, c, d, e, f]) w := by
 have c := R.cell
 have hk' : tmps[k]?.getD undef = .pointer (some ⟨B, 0, none⟩) := by simpa using hk
 simp only [results, h]
 simp [go_sem, hk', c]
structure Yy (n : Nat) (lx lp lh : List Int) (s : Bool) (y sv r : Int) (ht k0 k sy x kh ik p1 sr tk kk p2 P : List Int) (b1 b2 b3 b4 b5 b6 b7 b8 b9 b10 : Bool) : Prop where
 eht : AY 1 n lh = ht
 ek0 : mulL n n 1 lp ht = k0
 eb1 : Ad n n 1 lp ht = b1
 ek : k0.map (fun q => (H9 q sv).1) = k
 eb2 : k0.any (fun q => (H9 q sv).2) = b2
 esy : oW n 1 k y = sy
 eb3 : scaleB n 1 k y = b3
 ex : mV oC n 1 lx sy = x
 eb4 : oP oC n 1 lx sy = b4
 ekh : mulL n 1 n k lh = kh
 eb5 : Ad n 1 n k lh = b5
 eik : mV sJ n n (rq n) kh = ik
 eb6 : oP sJ n n (rq n) kh = b6
 ep1 : rZ n n ik lp = p1
 eb7 : yK n n ik lp = b7
 esr : oW n 1 k r = sr
 eb8 : scaleB n 1 k r = b8
 etk : AY n 1 k = tk
 ekk : mulL n 1 n sr tk = kk
 eb9 : Ad n 1 n sr tk = b9
 ep2 : mV oC n n p1 kk = p2
 aiY : oP oC n n p1 kk = b10
 eP : DK n p2 = P
theorem J9 (w0 w : World) (g n : Nat) (s : Bool) (y sv r : Int) (A1 A2 A3 : Option Addr) (c1 c2 c3 : Nat) (lx lp lh : List Int) (ht k0 k sy x kh ik p1 sr tk kk p2 P : List Int) (b1 b2 b3 b4 b5 b6 b7 b8 b9 b10 : Bool)
 (h1 : 1 ≤ n) (h8 : n ≤ 8) (hx : lx.length = n * 1) (hp : lp.length = n * n) (hh : lh.length = 1 * n) (T : Yy n lx lp lh s y sv r ht k0 k sy x kh ik p1 sr tk kk p2 P b1 b2 b3 b4 b5 b6 b7 b8 b9 b10)
 (R : Row w g 77 #[.bool s]) (hg : w0.heap.size ≤ g) (hB : Below w0.heap.size w0 w) (rx : Rd w A1 lx) (cx : lx.length ≤ c1) (fx : ∀ ad, A1 = some ad → 0 < lx.length → ad.block ≠ g) (rp : Rd w A2 lp) (cp : lp.length ≤ c2) (fp : ∀ ad, A2 = some ad → 0 < lp.length → ad.block ≠ g) (rh : Rd w A3 lh) (ch : lh.length ≤ c3) (fh : ∀ ad, A3 = some ad → 0 < lh.length → ad.block ≠ g) :
 Calls Try.prog 36 #[.pointer (some ⟨g, 0, none⟩), .agg #[I n, I 1, .slice A1 lx.length c1, I n, I n, .slice A2 lp.length c2], .agg #[I 1, I n, .slice A3 lh.length c3], I y, I sv, I r] w fun e w' => ∃ Ax dx Ap dp, e = .returned (.agg #[I n, I 1, .slice Ax x.length dx, I n, I n, .slice Ap P.length dp]) ∧ Own w' w.heap.size (.slice Ax x.length dx) x ∧ Own w' w.heap.size (.slice Ap P.length dp) P ∧ (∀ k, (Value.slice Ax x.length dx).ownBlock = some k → (Value.slice Ap P.length dp).ownBlock ≠ some k) ∧ Row w' g 77 #[.bool (s || b1 || b2 || b3 || b4 || b5 || b6 || b7 || b8 || b9 || b10)] ∧ w.grownBy w' (some g) := by
 have hgl := R.lt
 have N : Hid (Sg w g [(75, #[.pointer (some ⟨g, 0, none⟩)]), (28, #[I n, I 1, .slice A1 lx.length c1, I n, I n, .slice A2 lp.length c2]), (26, #[I 1, I n, .slice A3 lh.length c3]), (28, #[I 0, I 0, .slice none 0 0, I 0, I 0, .slice none 0 0])] ((((w.alloc (.cells #[.pointer (some ⟨g, 0, none⟩)] 75)).alloc (.cells #[I n, I 1, .slice A1 lx.length c1, I n, I n, .slice A2 lp.length c2] 28)).alloc (.cells #[I 1, I n, .slice A3 lh.length c3] 26)).alloc (.cells #[I 0, I 0, .slice none 0 0, I 0, I 0, .slice none 0 0] 28))) := Lib.hid (Sg.of (((((fF.none w).push (by simp) _ _).push (by simp) _ _).push (by simp) _ _).push (by simp) _ _))
 have RG := Lib.hid ((((R.alloc (.cells #[.pointer (some ⟨g, 0, none⟩)] 75)).alloc (.cells #[I n, I 1, .slice A1 lx.length c1, I n, I n, .slice A2 lp.length c2] 28)).alloc (.cells #[I 1, I n, .slice A3 lh.length c3] 26)).alloc (.cells #[I 0, I 0, .slice none 0 0, I 0, I 0, .slice none 0 0] 28))
 have hlt : ht.length = n * 1 := by rw [← T.eht, z_]
 have HT := Lib.hid (fun w' (h : w.grownBy w' (some g)) => rO 1 n A3 c3 lh w' (by omega) h8 hh (rh.touch h fh))
 rw [T.eht] at HT
 have HM := Lib.hid (fun At ct w' (h : w.grownBy w' (some g)) (ha : Rd w' At ht) => Ep n n 1 A2 At c2 ct lp ht w' h8 h8 (by omega) hp hlt (rp.touch h fp) ha)
 rw [T.ek0, T.eb1] at HM
 have eo : ((1 : Nat) : Int) = 1 := rfl
 simp only [eo] at HT HM
 have KK : Hid (∀ w', Sg w g [(75, #[.pointer (some ⟨g, 0, none⟩)]), (28, #[I n, I 1, .slice A1 lx.length c1, I n, I n, .slice A2 lp.length c2]), (26, #[I 1, I n, .slice A3 lh.length c3]), (28, #[I 0, I 0, .slice none 0 0, I 0, I 0, .slice none 0 0])] w' → (∀ o, w'.cell? ⟨w.heap.size, o, none⟩ = #[.pointer (some ⟨g, 0, none⟩)][o]?) ∧ (∀ o, w'.cell? ⟨w.heap.size + 1, o, none⟩ = #[I n, I 1, .slice A1 lx.length c1, I n, I n, .slice A2 lp.length c2][o]?) ∧ (∀ o, w'.cell? ⟨w.heap.size + 1 + 1, o, none⟩ = #[I 1, I n, .slice A3 lh.length c3][o]?)) := Lib.hid (fun w' h => ⟨h.r0.cell, h.r1.cell, h.r2.cell⟩)
 have GL := Lib.hid hgl
 have HK0 : Hid (k0.length = n * 1) := Lib.hid (by rw [← T.ek0, yu])
 have HH := Lib.hid (And.intro h1 h8)
 have HT2 := Lib.hid T
 have TX := Lib.hid (fun w' (h : w.grownBy w' (some g)) => rx.touch h fx)
 have CX := Lib.hid cx
 have HX := Lib.hid hx
 have TP := Lib.hid (fun w' (h : w.grownBy w' (some g)) => rp.touch h fp)
 have CP := Lib.hid cp
 have FP := Lib.hid fp
 have HP := Lib.hid hp
 have TH := Lib.hid (fun w' (h : w.grownBy w' (some g)) => rh.touch h fh)
 have HHL := Lib.hid hh
 have HG0 := Lib.hid hg
 have HB0 := Lib.hid hB
 clear hgl hlt R hg hB rx cx fx rp cp fp rh ch fh h1 h8 hx hp hh T
 have y0 := N.out.r0.cell
 have y1 := N.out.r1.cell
 have y2 := N.out.r2.cell
 have SZ : Hid (((((w.alloc (.cells #[.pointer (some ⟨g, 0, none⟩)] 75)).alloc (.cells #[I n, I 1, .slice A1 lx.length c1, I n, I n, .slice A2 lp.length c2] 28)).alloc (.cells #[I 1, I n, .slice A3 lh.length c3] 26)).alloc (.cells #[I 0, I 0, .slice none 0 0, I 0, I 0, .slice none 0 0] 28)).heap.size = w.heap.size + 4) := Lib.hid (by simp)
 go_enter Try.func36, Try.ntmps36
 go_wp2_with fail
 rename_i K1 aK1
 obtain ⟨wr, hwr⟩ : ∃ wr, ((((w.alloc (.cells #[.pointer (some ⟨g, 0, none⟩)] 75)).alloc (.cells #[I n, I 1, .slice A1 lx.length c1, I n, I n, .slice A2 lp.length c2] 28)).alloc (.cells #[I 1, I n, .slice A3 lh.length c3] 26)).alloc (.cells #[I 0, I 0, .slice none 0 0, I 0, I 0, .slice none 0 0] 28)) = wr := ⟨_, rfl⟩
 rw [hwr] at N RG y0 y1 y2 SZ
 change Code.wp Try.prog _ _ _ ((((w.alloc (.cells #[.pointer (some ⟨g, 0, none⟩)] 75)).alloc (.cells #[I n, I 1, .slice A1 lx.length c1, I n, I n, .slice A2 lp.length c2] 28)).alloc (.cells #[I 1, I n, .slice A3 lh.length c3] 26)).alloc (.cells #[I 0, I 0, .slice none 0 0, I 0, I 0, .slice none 0 0] 28))
 rw [hwr]
 clear hwr
 have YC : Hid (∀ (kb : Nat) (w5 : World) (Ak : Option Addr) (ck : Nat) (v22 v23 v24 v25 v26 v27 v28 v29 v30 v31 : Value), Sg w g [(75, #[.pointer (some ⟨g, 0, none⟩)]), (28, #[I n, I 1, .slice A1 lx.length c1, I n, I n, .slice A2 lp.length c2]), (26, #[I 1, I n, .slice A3 lh.length c3]), (28, #[I 0, I 0, .slice none 0 0, I 0, I 0, .slice none 0 0])] w5 → Row w5 kb 26 #[I n, I 1, .slice Ak k0.length ck] → Own w5 (w.heap.size + 4) (.slice Ak k0.length ck) k0 → Row w5 g 77 #[.bool (s || b1)] → w.heap.size + 4 ≤ kb → (∀ q, (Value.slice Ak k0.length ck).ownBlock = some q → q ≠ kb) → K1 { tmps := #[.pointer (some ⟨g, 0, none⟩), .agg #[I n, I 1, .slice A1 lx.length c1, I n, I n, .slice A2 lp.length c2], .agg #[I 1, I n, .slice A3 lh.length c3], I y, I sv, I r, .pointer (some ⟨w.heap.size, 0, none⟩), .pointer (some ⟨w.heap.size + 1, 0, none⟩), .pointer (some ⟨w.heap.size + 1 + 1, 0, none⟩), undef, undef, undef, .pointer (some ⟨w.heap.size + 1 + 1 + 1, 0, none⟩), .pointer (some ⟨kb, 0, none⟩), undef, undef, undef, undef, undef, undef, undef, undef, v22, v23, v24, v25, v26, v27, v28, v29, v30, v31, undef, undef, undef, undef, undef, undef, undef, undef, undef, undef, undef, undef, undef, undef, undef, undef, undef, undef, undef, undef, undef, undef, undef, undef, undef, undef, undef, undef, undef, undef, undef, undef, undef, undef, undef, undef, undef, undef, undef, undef, undef, undef, undef, undef, undef, undef, undef, undef, undef, undef, undef, undef, undef, undef, undef, undef, undef, undef, undef, undef, undef, undef, undef, undef, undef, undef, undef, undef, undef, undef, undef, undef, undef, undef, undef, undef, undef, undef, undef, undef, undef], defers := [] } w5) := Lib.hid (by
  as_aux_lemma =>
  intro kb w5 Ak ck v22 v23 v24 v25 v26 v27 v28 v29 v30 v31 hN hkb hO hR hge hne
  refine aK1 _ _ ?_
  have hpos : 0 < k0.length := by have := HK0.out; have := HH.out.1; omega
  obtain ⟨bk, rfl, hbk⟩ := Own.form hO hpos
  have hkl : k0.length ≤ 8 := by have := HK0.out; have := HH.out.2; omega
  have HNE : Hid (bk ≠ kb) := Lib.hid (hne bk rfl)
  have HBK := Lib.hid hbk
  have HKB := Lib.hid hge
  have HKL := Lib.hid hkl
  have HPS := Lib.hid hpos
  have O0 : Hid (w5.ownsRow (w.heap.size + 4) 22 1 (.slice (some ⟨bk, 0, none⟩) k0.length ck) k0.length ((wK sv k0 0).map I)) := Lib.hid (by have := hO.row; simpa [wK] using this)
  have N5 := Lib.hid hN
  have MK := Lib.hid hkb
  have R5 : Hid (Row w5 g 77 #[.bool (s || b1 || Gh sv k0 0)]) := Lib.hid (by simpa [Gh] using hR)
  have x0 := hkb.cell
  clear hN hkb hO hR hge hne hbk hkl hpos y0 y1 y2 N RG
  go_wp2_with fail
  go_loopw [35] (fun jj wr => ∃ j : Nat, j ≤ k0.length ∧ jj = .int .i64 j ∧ Hid (Sg w g [(75, #[.pointer (some ⟨g, 0, none⟩)]), (28, #[I n, I 1, .slice A1 lx.length c1, I n, I n, .slice A2 lp.length c2]), (26, #[I 1, I n, .slice A3 lh.length c3]), (28, #[I 0, I 0, .slice none 0 0, I 0, I 0, .slice none 0 0])] wr) ∧ Hid (Row wr kb 26 #[I n, I 1, .slice (some ⟨bk, 0, none⟩) k0.length ck]) ∧ Hid (wr.ownsRow (w.heap.size + 4) 22 1 (.slice (some ⟨bk, 0, none⟩) k0.length ck) k0.length ((wK sv k0 j).map I)) ∧ Hid (Row wr g 77 #[.bool (s || b1 || Gh sv k0 j)])) (fun jj _ => k0.length - (intOf jj).toNat)
  case atStart => exact ⟨0, by omega, rfl, N5, MK, O0, R5⟩
  case round =>
   clear x0 N5 MK O0 R5
   obtain ⟨j, hj, rfl, N5, MK, O5, R5⟩ := hrel
   have x0 := MK.out.cell
   have x1 := N5.out.r0.cell
   by_cases hjk : j = k0.length
   · subst hjk
     have ek : wK sv k0 k0.length = k := by rw [← HT2.out.ek]; unfold wK; rw [List.take_length, List.drop_length, List.append_nil]
     have ekl : k0.length = k.length := by rw [← HT2.out.ek]; simp
     have eb : Gh sv k0 k0.length = b2 := by rw [← HT2.out.eb2]; unfold Gh; rw [List.take_length]
     rw [ek] at O5
     rw [eb] at R5
     have OK : Hid (Own wr (w.heap.size + 4) (.slice (some ⟨bk, 0, none⟩) k.length ck) k) := Lib.hid (Own.Ac (by rw [← ekl]; exact O5.out))
     have Aq : Hid (k.length = n * 1) := Lib.hid (by rw [← ekl]; exact HK0.out)
     have y1 := N5.out.r1.cell
     have y2 := N5.out.r2.cell
     clear ek eb O5 hj
     go_wp2_with fail
     rename_i K8 aK8
     rw [ekl] at MK x0
     have YB : Hid (∀ (kx : Nat) (w5 : World) (Ax : Option Addr) (dx : Nat) (v14 v15 v22 v23 v24 v25 v26 v27 v28 v29 v30 v31 v32 v33 v34 v35 v36 v37 v38 v39 v40 v41 v42 v43 v44 v45 v46 v47 v48 v49 v50 v51 v52 v53 v54 v55 v56 v57 v58 v59 v60 v61 v62 v63 : Value), Sg w g [(75, #[.pointer (some ⟨g, 0, none⟩)]), (28, #[I n, I 1, .slice A1 lx.length c1, I n, I n, .slice A2 lp.length c2]), (26, #[I 1, I n, .slice A3 lh.length c3]), (28, #[I 0, I 0, .slice none 0 0, I 0, I 0, .slice none 0 0])] w5 → Row w5 kb 26 #[I n, I 1, .slice (some ⟨bk, 0, none⟩) k.length ck] → Own w5 (w.heap.size + 4) (.slice (some ⟨bk, 0, none⟩) k.length ck) k → Row w5 kx 26 #[I n, I 1, .slice Ax x.length dx] → Own w5 (w.heap.size + 4) (.slice Ax x.length dx) x → Row w5 g 77 #[.bool (s || b1 || b2 || b3 || b4)] → w.heap.size + 4 ≤ kx → (∀ q, (Value.slice Ax x.length dx).ownBlock = some q → q ≠ kx) → K8 { tmps := #[.pointer (some ⟨g, 0, none⟩), .agg #[I n, I 1, .slice A1 lx.length c1, I n, I n, .slice A2 lp.length c2], .agg #[I 1, I n, .slice A3 lh.length c3], I y, I sv, I r, .pointer (some ⟨w.heap.size, 0, none⟩), .pointer (some ⟨w.heap.size + 1, 0, none⟩), .pointer (some ⟨w.heap.size + 1 + 1, 0, none⟩), undef, undef, undef, .pointer (some ⟨w.heap.size + 1 + 1 + 1, 0, none⟩), .pointer (some ⟨kb, 0, none⟩), v14, v15, .func (.func 68) #[] #[.pointer (some ⟨kb, 0, none⟩), .pointer (some ⟨w.heap.size, 0, none⟩)], .pointer (some ⟨kx, 0, none⟩), undef, undef, undef, undef, v22, v23, v24, v25, v26, v27, v28, v29, v30, v31, v32, v33, v34, v35, v36, v37, v38, v39, v40, v41, v42, v43, v44, v45, v46, v47, v48, v49, v50, v51, v52, v53, v54, v55, v56, v57, v58, v59, v60, v61, v62, v63, undef, undef, undef, undef, undef, undef, undef, undef, undef, undef, undef, undef, undef, undef, undef, undef, undef, undef, undef, undef, undef, undef, undef, undef, undef, undef, undef, undef, undef, undef, undef, undef, undef, undef, undef, undef, undef, undef, undef, undef, undef, undef, undef, undef, undef, undef, undef, undef, undef], defers := [] } w5) := Lib.hid (by
      as_aux_lemma =>
      intro kx w5 Ax dx v14 v15 v22 v23 v24 v25 v26 v27 v28 v29 v30 v31 v32 v33 v34 v35 v36 v37 v38 v39 v40 v41 v42 v43 v44 v45 v46 v47 v48 v49 v50 v51 v52 v53 v54 v55 v56 v57 v58 v59 v60 v61 v62 v63 hN hkb hK hkx hX hR hge hne
      refine aK8 _ _ ?_
      have N9 := Lib.hid hN
      have KB9 := Lib.hid hkb
      have OK9 := Lib.hid hK
      have KX9 := Lib.hid hkx
      have OX9 := Lib.hid hX
      have R9 := Lib.hid hR
      have GX := Lib.hid hge
      have y1 := hN.r1.cell
      clear hN hkb hK hkx hX hR hge hne x0 x1 y2 N5 MK OK R5
      go_wp2_with fail
      refine (Rn n _ HH.out.1 HH.out.2).mono ?_
      rintro e w6 ⟨v, rfl, ho, hb⟩
      obtain ⟨Ae, ce, rfl, _, _⟩ := Own.reads ho
      have Sr := Lib.hid ((N9.out.below hb).alloc (.cells #[I n, I n, .slice Ae (rq n).length ce] 26))
      have Ee := Lib.hid ((KB9.out.below hb KB9.out.lt).alloc (.cells #[I n, I n, .slice Ae (rq n).length ce] 26))
      have JY := Lib.hid ((KX9.out.below hb KX9.out.lt).alloc (.cells #[I n, I n, .slice Ae (rq n).length ce] 26))
      have JW := Lib.hid ((OK9.out.below hb).alloc (.cells #[I n, I n, .slice Ae (rq n).length ce] 26))
      have R_ := Lib.hid ((OX9.out.below hb).alloc (.cells #[I n, I n, .slice Ae (rq n).length ce] 26))
      have R10 := Lib.hid ((R9.out.below hb R9.out.lt).alloc (.cells #[I n, I n, .slice Ae (rq n).length ce] 26))
      have UD : Hid (Own (w6.alloc (.cells #[I n, I n, .slice Ae (rq n).length ce] 26)) (w.heap.size + 4) (.slice Ae (rq n).length ce) (rq n)) := Lib.hid (Own.lower (ho.alloc _) (by have h1 := N9.out.rows.le N9.out.gr.size; simpa using h1))
      have Ed := Lib.hid (Row.new w6 26 #[I n, I n, .slice Ae (rq n).length ce])
      have GE : Hid (w.heap.size + 4 ≤ w6.heap.size) := Lib.hid (by have h1 := N9.out.rows.le N9.out.gr.size; have h2 := hb.size; simp at h1; omega)
      clear ho hb y1
      go_wp2_with fail
      rename_i K10 ab5
      obtain ⟨wt, hwt⟩ : ∃ wt, w6.alloc (.cells #[I n, I n, .slice Ae (rq n).length ce] 26) = wt := ⟨_, rfl⟩
      rw [hwt] at Sr Ee JY JW R_ R10 UD Ed
      change Code.wp Try.prog _ _ _ (w6.alloc (.cells #[I n, I n, .slice Ae (rq n).length ce] 26))
      rw [hwt]
      clear hwt
      clear N9 KB9 OK9 KX9 OX9 R9
      have UC : Hid (∀ (kp : Nat) (w5 : World) (Ai : Option Addr) (di : Nat) (v14 v15 v18 v19 v22 v23 v24 v25 v26 v27 v28 v29 v30 v31 v32 v33 v34 v35 v36 v37 v38 v39 v40 v41 v42 v43 v44 v45 v46 v47 v48 v49 v50 v51 v52 v53 v54 v55 v56 v57 v58 v59 v60 v61 v62 v63 v64 v65 v66 v67 v68 v69 v70 v71 v72 v73 v74 v75 v76 v77 v78 v79 v80 v81 v82 v83 v84 v85 : Value), Sg w g [(75, #[.pointer (some ⟨g, 0, none⟩)]), (28, #[I n, I 1, .slice A1 lx.length c1, I n, I n, .slice A2 lp.length c2]), (26, #[I 1, I n, .slice A3 lh.length c3]), (28, #[I 0, I 0, .slice none 0 0, I 0, I 0, .slice none 0 0])] w5 → Row w5 kb 26 #[I n, I 1, .slice (some ⟨bk, 0, none⟩) k.length ck] → Own w5 (w.heap.size + 4) (.slice (some ⟨bk, 0, none⟩) k.length ck) k → Row w5 kx 26 #[I n, I 1, .slice Ax x.length dx] → Own w5 (w.heap.size + 4) (.slice Ax x.length dx) x → Row w5 kp 26 #[I n, I n, .slice Ai ik.length di] → Own w5 (w.heap.size + 4) (.slice Ai ik.length di) ik → Row w5 g 77 #[.bool (s || b1 || b2 || b3 || b4 || b5 || b6)] → w.heap.size + 4 ≤ kp → K10 { tmps := #[.pointer (some ⟨g, 0, none⟩), .agg #[I n, I 1, .slice A1 lx.length c1, I n, I n, .slice A2 lp.length c2], .agg #[I 1, I n, .slice A3 lh.length c3], I y, I sv, I r, .pointer (some ⟨w.heap.size, 0, none⟩), .pointer (some ⟨w.heap.size + 1, 0, none⟩), .pointer (some ⟨w.heap.size + 1 + 1, 0, none⟩), undef, undef, undef, .pointer (some ⟨w.heap.size + 1 + 1 + 1, 0, none⟩), .pointer (some ⟨kb, 0, none⟩), v14, v15, .func (.func 68) #[] #[.pointer (some ⟨kb, 0, none⟩), .pointer (some ⟨w.heap.size, 0, none⟩)], .pointer (some ⟨kx, 0, none⟩), v18, v19, .pointer (some ⟨kp, 0, none⟩), undef, v22, v23, v24, v25, v26, v27, v28, v29, v30, v31, v32, v33, v34, v35, v36, v37, v38, v39, v40, v41, v42, v43, v44, v45, v46, v47, v48, v49, v50, v51, v52, v53, v54, v55, v56, v57, v58, v59, v60, v61, v62, v63, v64, v65, v66, v67, v68, v69, v70, v71, v72, v73, v74, v75, v76, v77, v78, v79, v80, v81, v82, v83, v84, v85, undef, undef, undef, undef, undef, undef, undef, undef, undef, undef, undef, undef, undef, undef, undef, undef, undef, undef, undef, undef, undef, undef, undef, undef, undef, undef, undef], defers := [] } w5) := Lib.hid (by
       as_aux_lemma =>
       intro kp w5 Ai di v14 v15 v18 v19 v22 v23 v24 v25 v26 v27 v28 v29 v30 v31 v32 v33 v34 v35 v36 v37 v38 v39 v40 v41 v42 v43 v44 v45 v46 v47 v48 v49 v50 v51 v52 v53 v54 v55 v56 v57 v58 v59 v60 v61 v62 v63 v64 v65 v66 v67 v68 v69 v70 v71 v72 v73 v74 v75 v76 v77 v78 v79 v80 v81 v82 v83 v84 v85 hN hkb hK hkx hX hkp hI hR hge
       refine ab5 _ _ ?_
       have hIf : ∀ ad, Ai = some ad → 0 < ik.length → ad.block ≠ g := fun ad e _ => by
        subst e
        have h1 := (hI.row.lt ad.block rfl).1
        have h2 := GL.out
        omega
       have B48 := Lib.hid (Ih w0 w5 g (s || b1 || b2 || b3 || b4 || b5 || b6) n n Ai di ik n n A2 c2 lp n n p1 (s || b1 || b2 || b3 || b4 || b5 || b6 || b7) hR HG0.out (Gx HB0.out HG0.out hN.gr) (Own.rd hI).1 (Own.rd hI).2 hIf (TP.out _ hN.gr) CP.out FP.out (by rw [JR _ n n ik lp HH.out.2 HH.out.2 (by rw [← HT2.out.eik]; exact upto_length) HP.out, HT2.out.ep1, HT2.out.eb7]))
       have N19 := Lib.hid hN
       have acV := Lib.hid hkb
       have ack := Lib.hid hK
       have ZT := Lib.hid hkx
       have ZQ := Lib.hid hX
       have x0 := hN.r0.cell
       have x1 := hN.r1.cell
       have x4 := hkp.cell
       clear hN hkb hK hkx hX hkp hI hR hge hIf Sr Ee JY JW R_ R10 UD Ed
       go_wp2_with fail
       refine B48.out.mono ?_
       rintro e w7 ⟨Ap, dp, rfl, ho, hr, hg⟩
       have N20 := Lib.hid ((N19.out.touch hg GL.out).alloc (.cells #[I n, I n, .slice Ap p1.length dp] 26))
       have UG := Lib.hid ((Row.grown acV.out hg (by have h1 := GL.out; have h2 := HKB.out; simp; omega)).alloc (.cells #[I n, I n, .slice Ap p1.length dp] 26))
       have ZR := Lib.hid ((Row.grown ZT.out hg (by have h1 := GL.out; have h2 := GX.out; simp; omega)).alloc (.cells #[I n, I n, .slice Ap p1.length dp] 26))
       have XJ := Lib.hid ((Own.touch ack.out hg (by have h1 := GL.out; omega)).alloc (.cells #[I n, I n, .slice Ap p1.length dp] 26))
       have acd := Lib.hid ((Own.touch ZQ.out hg (by have h1 := GL.out; omega)).alloc (.cells #[I n, I n, .slice Ap p1.length dp] 26))
       have acj : Hid (Own (w7.alloc (.cells #[I n, I n, .slice Ap p1.length dp] 26)) (w.heap.size + 4) (.slice Ap p1.length dp) p1) := Lib.hid (Own.lower (ho.alloc _) (by have h1 := N19.out.rows.le N19.out.gr.size; simpa using h1))
       have XP := Lib.hid (Row.new w7 26 #[I n, I n, .slice Ap p1.length dp])
       have R20 := Lib.hid (Row.alloc hr (.cells #[I n, I n, .slice Ap p1.length dp] 26))
       have GQ : Hid (w.heap.size + 4 ≤ w7.heap.size) := Lib.hid (by have h1 := N19.out.rows.le N19.out.gr.size; have h2 := hg.size; simp at h1; omega)
       have acL : Hid (kx < w7.heap.size) := Lib.hid (Row.grown ZT.out hg (by have h1 := GL.out; have h2 := GX.out; simp; omega)).lt
       have HXO : Hid (∀ q, (Value.slice Ax x.length dx).ownBlock = some q → q ≠ w7.heap.size) := Lib.hid (fun q hq => by have h1 := ((Own.touch ZQ.out hg (by have h1 := GL.out; omega)).row.lt q hq).2; omega)
       clear ho hr hg x0 x1 x4 N19 acV ack ZT ZQ
       go_wp2_with fail
       obtain ⟨ws, hws⟩ : ∃ ws, w7.alloc (.cells #[I n, I n, .slice Ap p1.length dp] 26) = ws := ⟨_, rfl⟩
       rw [hws] at N20 UG ZR XJ acd acj XP R20
       change Code.wp Try.prog _ _ _ (w7.alloc (.cells #[I n, I n, .slice Ap p1.length dp] 26))
       rw [hws]
       clear hws
       have U7 : Hid (w7.heap.size < ws.heap.size) := Lib.hid XP.out.lt
       have UB : Hid (kb < ws.heap.size ∧ kx < ws.heap.size ∧ bk < ws.heap.size) := Lib.hid ⟨UG.out.lt, ZR.out.lt, (XJ.out.row.lt bk rfl).2⟩
       have HXQ : Hid (kx ≠ w7.heap.size) := Lib.hid (by have h1 := acL.out; omega)
       have KT : Hid (∀ w', Sg w g [(75, #[.pointer (some ⟨g, 0, none⟩)]), (28, #[I n, I 1, .slice A1 lx.length c1, I n, I n, .slice A2 lp.length c2]), (26, #[I 1, I n, .slice A3 lh.length c3]), (28, #[I 0, I 0, .slice none 0 0, I 0, I 0, .slice none 0 0])] w' → Row w' kb 26 #[I n, I 1, .slice (some ⟨bk, 0, none⟩) k.length ck] → Row w' w7.heap.size 26 #[I n, I n, .slice Ap p1.length dp] → ((∀ o, w'.cell? ⟨w.heap.size, o, none⟩ = #[.pointer (some ⟨g, 0, none⟩)][o]?) ∧ (∀ o, w'.cell? ⟨w.heap.size + 1, o, none⟩ = #[I n, I 1, .slice A1 lx.length c1, I n, I n, .slice A2 lp.length c2][o]?) ∧ (∀ o, w'.cell? ⟨w.heap.size + 1 + 1, o, none⟩ = #[I 1, I n, .slice A3 lh.length c3][o]?)) ∧ (∀ o, w'.cell? ⟨kb, o, none⟩ = #[I n, I 1, .slice (some ⟨bk, 0, none⟩) k.length ck][o]?) ∧ (∀ o, w'.cell? ⟨w7.heap.size, o, none⟩ = #[I n, I n, .slice Ap p1.length dp][o]?)) := Lib.hid (fun w' h h1 h2 => ⟨⟨h.r0.cell, h.r1.cell, h.r2.cell⟩, h1.cell, h2.cell⟩)
       have ZJ := Lib.hid (fun w' (o : Own w' (w.heap.size + 4) (.slice (some ⟨bk, 0, none⟩) k.length ck) k) rk rp rg => AZ g kb w.heap.size n (s || b1 || b2 || b3 || b4 || b5 || b6 || b7) (some ⟨bk, 0, none⟩) ck k r w' HH.out.2 Aq.out (Own.rd o).1 (Own.rd o).2 rk rp rg)
       rw [HT2.out.esr, HT2.out.eb8] at ZJ
       have T41 := Lib.hid (fun w' (o : Own w' (w.heap.size + 4) (.slice (some ⟨bk, 0, none⟩) k.length ck) k) => rO n 1 (some ⟨bk, 0, none⟩) ck k w' HH.out.2 (by omega) Aq.out (Own.rd o).1)
       rw [HT2.out.etk] at T41
       have M46 := Lib.hid (fun Aa ca Ab cb w' (o : Own w' (w.heap.size + 4) (.slice Aa sr.length ca) sr) (o' : Own w' (w.heap.size + 4) (.slice Ab tk.length cb) tk) => Ep n 1 n Aa Ab ca cb sr tk w' HH.out.2 (by omega) HH.out.2 (by rw [← HT2.out.esr]; exact upto_length) (by rw [← HT2.out.etk]; exact upto_length) (Own.rd o).1 (Own.rd o').1)
       rw [HT2.out.ekk, HT2.out.eb9] at M46
       have adp := Lib.hid (fun Ab cb w' (o : Own w' (w.heap.size + 4) (.slice Ap p1.length dp) p1) (o' : Own w' (w.heap.size + 4) (.slice Ab kk.length cb) kk) => OY n n Ap Ab dp cb p1 kk w' HH.out.2 HH.out.2 (by rw [← HT2.out.ep1]; exact upto_length) (by rw [← HT2.out.ekk]; exact upto_length) (Own.rd o).1 (Own.rd o').1 (Own.rd o).2 (Own.rd o').2)
       rw [HT2.out.ep2, HT2.out.aiY] at adp
       simp only [eo] at ZJ T41 M46
       refine I_ (S := (fun w' => ((∀ o, w'.cell? ⟨w.heap.size, o, none⟩ = #[.pointer (some ⟨g, 0, none⟩)][o]?) ∧ (∀ o, w'.cell? ⟨w.heap.size + 1, o, none⟩ = #[I n, I 1, .slice A1 lx.length c1, I n, I n, .slice A2 lp.length c2][o]?) ∧ (∀ o, w'.cell? ⟨w.heap.size + 1 + 1, o, none⟩ = #[I 1, I n, .slice A3 lh.length c3][o]?)) ∧ (∀ o, w'.cell? ⟨kb, o, none⟩ = #[I n, I 1, .slice (some ⟨bk, 0, none⟩) k.length ck][o]?) ∧ (∀ o, w'.cell? ⟨w7.heap.size, o, none⟩ = #[I n, I n, .slice Ap p1.length dp][o]?))) 18 (by kernel_rfl) (KT.out _ N20.out.drew UG.out.drew XP.out.drew) (fun hHeld => ?_)
       refine Until.take (i := 0) (oi := _) (v := ?u1) rfl (by kernel_rfl) (by kernel_rfl) (by kernel_rfl) (by kernel_rfl) (by kernel_rfl) (fun _ _ _ h => h) (Or.inl ⟨by rfl, ?hu1⟩) hHeld ?_
       case hu1 =>
        intro w' hSw
        (try dsimp only at hSw)
        simp only [List.getElem_toArray, List.getElem_cons_succ, List.getElem_cons_zero]
        go_simp
        (try with_reducible rfl)
       change Until _ _ _ _ _ _ _ _ (Act.put _ (some 91) _) _
       simp only [Act.put, List.setIfInBounds_toArray, List.set_cons_zero, List.set_cons_succ]
       refine Until.take (i := 1) (oi := _) (v := ?u2) rfl (by kernel_rfl) (by kernel_rfl) (by kernel_rfl) (by kernel_rfl) (by kernel_rfl) (fun _ _ _ h => h) (Or.inl ⟨by rfl, ?hu2⟩) hHeld ?_
       case hu2 =>
        intro w' hSw
        (try dsimp only at hSw)
        simp only [List.getElem_toArray, List.getElem_cons_succ, List.getElem_cons_zero]
        go_simp
        (try with_reducible rfl)
       change Until _ _ _ _ _ _ _ _ (Act.put _ (some 92) _) _
       simp only [Act.put, List.setIfInBounds_toArray, List.set_cons_zero, List.set_cons_succ]
       refine Until.take (i := 2) (oi := _) (v := ?u3) rfl (by kernel_rfl) (by kernel_rfl) (by kernel_rfl) (by kernel_rfl) (by kernel_rfl) (fun _ _ _ h => h) (Or.inl ⟨by rfl, ?hu3⟩) hHeld ?_
       case hu3 =>
        intro w' hSw
        (try dsimp only at hSw)
        simp only [List.getElem_toArray, List.getElem_cons_succ, List.getElem_cons_zero]
        go_simp
        (try with_reducible rfl)
       change Until _ _ _ _ _ _ _ _ (Act.put _ (some 93) _) _
       simp only [Act.put, List.setIfInBounds_toArray, List.set_cons_zero, List.set_cons_succ]
       refine Until.take (i := 3) (oi := _) (v := ?u4) rfl (by kernel_rfl) (by kernel_rfl) (by kernel_rfl) (by kernel_rfl) (by kernel_rfl) (fun _ _ _ h => h) (Or.inl ⟨by rfl, ?hu4⟩) hHeld ?_
       case hu4 =>
        intro w' hSw
        (try dsimp only at hSw)
        simp only [List.getElem_toArray, List.getElem_cons_succ, List.getElem_cons_zero]
        go_simp
        (try with_reducible rfl)
       change Until _ _ _ _ _ _ _ _ (Act.put _ (some 94) _) _
       simp only [Act.put, List.setIfInBounds_toArray, List.set_cons_zero, List.set_cons_succ]
       refine Until.take (i := 4) (oi := _) (v := ?u5) rfl (by kernel_rfl) (by kernel_rfl) (by kernel_rfl) (by kernel_rfl) (by kernel_rfl) (fun _ _ _ h => h) (Or.inl ⟨by rfl, ?hu5⟩) hHeld ?_
       case hu5 =>
        intro w' hSw
        (try dsimp only at hSw)
        simp only [List.getElem_toArray, List.getElem_cons_succ, List.getElem_cons_zero]
        go_simp
        (try with_reducible rfl)
       change Until _ _ _ _ _ _ _ _ (Act.put _ (some 95) _) _
       simp only [Act.put, List.setIfInBounds_toArray, List.set_cons_zero, List.set_cons_succ]
       refine Until.take (i := 6) (oi := _) (v := ?u6) rfl (by kernel_rfl) (by kernel_rfl) (by kernel_rfl) (by kernel_rfl) (by kernel_rfl) (fun _ _ _ h => h) (Or.inl ⟨by rfl, ?hu6⟩) hHeld ?_
       case hu6 =>
        intro w' hSw
        (try dsimp only at hSw)
        simp only [List.getElem_toArray, List.getElem_cons_succ, List.getElem_cons_zero]
        go_simp
        (try with_reducible rfl)
       change Until _ _ _ _ _ _ _ _ (Act.put _ (some 97) _) _
       simp only [Act.put, List.setIfInBounds_toArray, List.set_cons_zero, List.set_cons_succ]
       refine Until.one (i := 5) (o := _) (by kernel_rfl) rfl (fun K hK => ?_)
       go_simp
       refine (ZJ.out _ XJ.out.drew UG.out.drew N20.out.drew.r0 R20.out.drew).mono ?_
       rintro e U9 ⟨As, cs, rfl, ho, hr, hg⟩
       have ajl : Hid (Own U9 (w.heap.size + 4) (.slice As sr.length cs) sr) := Lib.hid (Own.lower ho (by have h1 := U7.out; have h2 := GQ.out; first | omega | (simp; omega)))
       have R21 := Lib.hid hr
       have N21 := Lib.hid (N20.out.drew.touch hg GL.out)
       have Z7 := Lib.hid (Row.grown UG.out.drew hg (by have h1 := GL.out; have h2 := HKB.out; have h3 := GX.out; have h4 := GQ.out; simp; omega))
       have acK := Lib.hid (Row.grown ZR.out.drew hg (by have h1 := GL.out; have h2 := HKB.out; have h3 := GX.out; have h4 := GQ.out; simp; omega))
       have ZW := Lib.hid (Row.grown XP.out.drew hg (by have h1 := GL.out; have h2 := HKB.out; have h3 := GX.out; have h4 := GQ.out; simp; omega))
       have ajs := Lib.hid (Own.touch XJ.out.drew hg (by have h1 := GL.out; omega))
       have aji := Lib.hid (Own.touch acd.out.drew hg (by have h1 := GL.out; omega))
       have ajr := Lib.hid (Own.touch acj.out.drew hg (by have h1 := GL.out; omega))
       have U21 : Hid (ws.heap.size ≤ U9.heap.size) := Lib.hid (by have h1 := hg.size; have h2 := U7.out; first | omega | (simp at h1; omega))
       clear ho hr hg
       go_wp2_with fail
       clear hHeld
       have hHeld := KT.out _ N21.out Z7.out ZW.out
       refine hK.out _ _ (fun _ => hHeld) ?_
       clear hK K
       try simp only [Act.put, List.setIfInBounds_toArray, List.set_cons_zero, List.set_cons_succ]
       refine Until.one (i := 7) (o := _) (by kernel_rfl) rfl (fun K hK => ?_)
       go_simp
       refine (T41.out _ ajs.out).mono ?_
       rintro e w22 ⟨v, rfl, ho, hb⟩
       obtain ⟨At2, ct2, rfl, _, _⟩ := Own.reads ho
       have ajj : Hid (Own w22 (w.heap.size + 4) (.slice At2 tk.length ct2) tk) := Lib.hid (Own.lower ho (by have h1 := U21.out; have h2 := GQ.out; first | omega | (have h3 := U7.out; omega) | (have h3 := U7.out; simp; omega)))
       have R22 := Lib.hid (Row.below R21.out hb R21.out.lt)
       have N22 := Lib.hid (N21.out.below hb)
       have Z5 := Lib.hid (Row.below Z7.out hb Z7.out.lt)
       have acJ := Lib.hid (Row.below acK.out hb acK.out.lt)
       have ZV := Lib.hid (Row.below ZW.out hb ZW.out.lt)
       have ajh := Lib.hid (aji.out.below hb)
       have ajq := Lib.hid (ajr.out.below hb)
       have ajk := Lib.hid (ajl.out.below hb)
       have U22 : Hid (ws.heap.size ≤ w22.heap.size) := Lib.hid (by have h1 := hb.size; have h2 := U21.out; first | omega | (simp at h1; omega))
       clear ho hb
       go_wp2_with fail
       clear hHeld
       have hHeld := KT.out _ N22.out Z5.out ZV.out
       refine hK.out _ _ (fun _ => hHeld) ?_
       clear hK K
       try simp only [Act.put, List.setIfInBounds_toArray, List.set_cons_zero, List.set_cons_succ]
       refine Until.one (i := 8) (o := _) (by kernel_rfl) rfl (fun K hK => ?_)
       go_simp
       refine (M46.out _ _ _ _ _ ajk.out ajj.out).mono ?_
       rintro e w23 ⟨v, rfl, ho, hb⟩
       obtain ⟨Ak2, ck2, rfl, _, _⟩ := Own.reads ho
       have aja : Hid (Own w23 (w.heap.size + 4) (.slice Ak2 kk.length ck2) kk) := Lib.hid (Own.lower ho (by have h1 := U22.out; have h2 := GQ.out; first | omega | (have h3 := U7.out; omega) | (have h3 := U7.out; simp; omega)))
       have R23 := Lib.hid (Row.below R22.out hb R22.out.lt)
       have N23 := Lib.hid (N22.out.below hb)
       have acU := Lib.hid (Row.below Z5.out hb Z5.out.lt)
       have ajE := Lib.hid (Row.below acJ.out hb acJ.out.lt)
       have acR := Lib.hid (Row.below ZV.out hb ZV.out.lt)
       have ajg := Lib.hid (ajh.out.below hb)
       have ajp := Lib.hid (ajq.out.below hb)
       have U23 : Hid (ws.heap.size ≤ w23.heap.size) := Lib.hid (by have h1 := hb.size; have h2 := U22.out; first | omega | (simp at h1; omega))
       clear ho hb
       go_wp2_with fail
       clear hHeld
       have hHeld := KT.out _ N23.out acU.out acR.out
       refine hK.out _ _ (fun _ => hHeld) ?_
       clear hK K
       try simp only [Act.put, List.setIfInBounds_toArray, List.set_cons_zero, List.set_cons_succ]
       refine Until.take (i := 9) (oi := _) (v := ?u7) rfl (by kernel_rfl) (by kernel_rfl) (by kernel_rfl) (by kernel_rfl) (by kernel_rfl) (fun _ _ _ h => h) (Or.inl ⟨by rfl, ?hu7⟩) hHeld ?_
       case hu7 =>
        intro w' hSw
        (try dsimp only at hSw)
        simp only [List.getElem_toArray, List.getElem_cons_succ, List.getElem_cons_zero]
        go_simp
        (try with_reducible rfl)
       change Until _ _ _ _ _ _ _ _ (Act.put _ (some 100) _) _
       simp only [Act.put, List.setIfInBounds_toArray, List.set_cons_zero, List.set_cons_succ]
       refine Until.take (i := 10) (oi := _) (v := ?u8) rfl (by kernel_rfl) (by kernel_rfl) (by kernel_rfl) (by kernel_rfl) (by kernel_rfl) (fun _ _ _ h => h) (Or.inl ⟨by rfl, ?hu8⟩) hHeld ?_
       case hu8 =>
        intro w' hSw
        (try dsimp only at hSw)
        simp only [List.getElem_toArray, List.getElem_cons_succ, List.getElem_cons_zero]
        go_simp
        (try with_reducible rfl)
       change Until _ _ _ _ _ _ _ _ (Act.put _ (some 101) _) _
       simp only [Act.put, List.setIfInBounds_toArray, List.set_cons_zero, List.set_cons_succ]
       refine Until.take (i := 11) (oi := _) (v := ?u9) rfl (by kernel_rfl) (by kernel_rfl) (by kernel_rfl) (by kernel_rfl) (by kernel_rfl) (fun _ _ _ h => h) (Or.inl ⟨by rfl, ?hu9⟩) hHeld ?_
       case hu9 =>
        intro w' hSw
        (try dsimp only at hSw)
        simp only [List.getElem_toArray, List.getElem_cons_succ, List.getElem_cons_zero]
        go_simp
        (try with_reducible rfl)
       change Until _ _ _ _ _ _ _ _ (Act.put _ (some 102) _) _
       simp only [Act.put, List.setIfInBounds_toArray, List.set_cons_zero, List.set_cons_succ]
       refine Until.one (i := 12) (o := _) (by kernel_rfl) rfl (fun K hK => ?_)
       go_simp
       refine (xJ g (s || b1 || b2 || b3 || b4 || b5 || b6 || b7 || b8) b9 n n 0 Ak2 kk.length ck2 _ R23.out).mono ?_
       rintro e YP ⟨rfl, hr, hg⟩
       have R24 := Lib.hid hr
       have N24 := Lib.hid (N23.out.touch hg GL.out)
       have Z4 := Lib.hid (Row.grown acU.out hg (by have h1 := GL.out; have h2 := HKB.out; have h3 := GX.out; have h4 := GQ.out; simp; omega))
       have acI := Lib.hid (Row.grown ajE.out hg (by have h1 := GL.out; have h2 := HKB.out; have h3 := GX.out; have h4 := GQ.out; simp; omega))
       have ZU := Lib.hid (Row.grown acR.out hg (by have h1 := GL.out; have h2 := HKB.out; have h3 := GX.out; have h4 := GQ.out; simp; omega))
       have ajf := Lib.hid (Own.touch ajg.out hg (by have h1 := GL.out; omega))
       have ajo := Lib.hid (Own.touch ajp.out hg (by have h1 := GL.out; omega))
       have ai_ := Lib.hid (Own.touch aja.out hg (by have h1 := GL.out; omega))
       have U24 : Hid (ws.heap.size ≤ YP.heap.size) := Lib.hid (by have h1 := hg.size; have h2 := U23.out; first | omega | (simp at h1; omega))
       clear hr hg
       go_wp2_with fail
       clear hHeld
       have hHeld := KT.out _ N24.out Z4.out ZU.out
       refine hK.out _ _ (fun _ => hHeld) ?_
       clear hK K
       try simp only [Act.put, List.setIfInBounds_toArray, List.set_cons_zero, List.set_cons_succ]
       refine Until.one (i := 13) (o := _) (by kernel_rfl) rfl (fun K hK => ?_)
       go_simp
       refine (adp.out _ _ _ ajo.out ai_.out).mono ?_
       rintro e w25 ⟨v, rfl, ho, hb⟩
       obtain ⟨ML, MG, rfl, _, _⟩ := Own.reads ho
       have ajn : Hid (Own w25 (w.heap.size + 4) (.slice ML p2.length MG) p2) := Lib.hid (Own.lower ho (by have h1 := U24.out; have h2 := GQ.out; first | omega | (have h3 := U7.out; omega) | (have h3 := U7.out; simp; omega)))
       have ajw := Lib.hid ho.row.lt
       have R25 := Lib.hid (Row.below R24.out hb R24.out.lt)
       have N25 := Lib.hid (N24.out.below hb)
       have acT := Lib.hid (Row.below Z4.out hb Z4.out.lt)
       have ajD := Lib.hid (Row.below acI.out hb acI.out.lt)
       have acQ := Lib.hid (Row.below ZU.out hb ZU.out.lt)
       have aje := Lib.hid (ajf.out.below hb)
       have U25 : Hid (ws.heap.size ≤ w25.heap.size) := Lib.hid (by have h1 := hb.size; have h2 := U24.out; first | omega | (simp at h1; omega))
       clear ho hb
       go_wp2_with fail
       clear hHeld
       have hHeld := KT.out _ N25.out acT.out acQ.out
       refine hK.out _ _ (fun _ => hHeld) ?_
       clear hK K
       try simp only [Act.put, List.setIfInBounds_toArray, List.set_cons_zero, List.set_cons_succ]
       refine Until.take (i := 14) (oi := _) (v := ?u10) rfl (by kernel_rfl) (by kernel_rfl) (by kernel_rfl) (by kernel_rfl) (by kernel_rfl) (fun _ _ _ h => h) (Or.inl ⟨by rfl, ?ah1⟩) hHeld ?_
       case ah1 =>
        intro w' hSw
        (try dsimp only at hSw)
        simp only [List.getElem_toArray, List.getElem_cons_succ, List.getElem_cons_zero]
        go_simp
        (try with_reducible rfl)
       change Until _ _ _ _ _ _ _ _ (Act.put _ (some 105) _) _
       simp only [Act.put, List.setIfInBounds_toArray, List.set_cons_zero, List.set_cons_succ]
       refine Until.take (i := 15) (oi := _) (v := ?u11) rfl (by kernel_rfl) (by kernel_rfl) (by kernel_rfl) (by kernel_rfl) (by kernel_rfl) (fun _ _ _ h => h) (Or.inl ⟨by rfl, ?ah0⟩) hHeld ?_
       case ah0 =>
        intro w' hSw
        (try dsimp only at hSw)
        simp only [List.getElem_toArray, List.getElem_cons_succ, List.getElem_cons_zero]
        go_simp
        (try with_reducible rfl)
       change Until _ _ _ _ _ _ _ _ (Act.put _ (some 106) _) _
       simp only [Act.put, List.setIfInBounds_toArray, List.set_cons_zero, List.set_cons_succ]
       refine Until.take (i := 16) (oi := _) (v := ?u12) rfl (by kernel_rfl) (by kernel_rfl) (by kernel_rfl) (by kernel_rfl) (by kernel_rfl) (fun _ _ _ h => h) (Or.inl ⟨by rfl, ?ahZ⟩) hHeld ?_
       case ahZ =>
        intro w' hSw
        (try dsimp only at hSw)
        simp only [List.getElem_toArray, List.getElem_cons_succ, List.getElem_cons_zero]
        go_simp
        (try with_reducible rfl)
       change Until _ _ _ _ _ _ _ _ (Act.put _ (some 107) _) _
       simp only [Act.put, List.setIfInBounds_toArray, List.set_cons_zero, List.set_cons_succ]
       refine Until.one (i := 17) (o := _) (by kernel_rfl) rfl (fun K hK => ?_)
       go_simp
       refine (xJ g (s || b1 || b2 || b3 || b4 || b5 || b6 || b7 || b8 || b9) b10 n n 0 ML p2.length MG _ R25.out).mono ?_
       rintro e X8 ⟨rfl, hr, hg⟩
       have R26 := Lib.hid hr
       have N26 := Lib.hid (N25.out.touch hg GL.out)
       have ajH := Lib.hid (Row.grown acT.out hg (by have h1 := GL.out; have h2 := HKB.out; have h3 := GX.out; have h4 := GQ.out; simp; omega))
       have ajC := Lib.hid (Row.grown ajD.out hg (by have h1 := GL.out; have h2 := HKB.out; have h3 := GX.out; have h4 := GQ.out; simp; omega))
       have XO := Lib.hid (Row.grown acQ.out hg (by have h1 := GL.out; have h2 := HKB.out; have h3 := GX.out; have h4 := GQ.out; simp; omega))
       have ajd := Lib.hid (Own.touch aje.out hg (by have h1 := GL.out; omega))
       have ajm := Lib.hid (Own.touch ajn.out hg (by have h1 := GL.out; omega))
       have U26 : Hid (ws.heap.size ≤ X8.heap.size) := Lib.hid (by have h1 := hg.size; have h2 := U25.out; first | omega | (simp at h1; omega))
       have kc := XO.out.cell
       have kf := XO.out.free
       clear hr hg
       go_wp2_with fail
       clear hHeld
       have hHeld := KT.out _ N26.out ajH.out XO.out
       refine hK.out _ _ (fun _ => hHeld) ?_
       clear hK K
       try simp only [Act.put, List.setIfInBounds_toArray, List.set_cons_zero, List.set_cons_succ]
       refine Until.one (i := 18) (o := _) (by kernel_rfl) rfl (fun K hK => ?_)
       go_simp
       refine hK.out _ _ (fun h => Bool.noConfusion (show true = false from h)) ?_
       clear hK K hHeld
       try simp only [Act.put, List.setIfInBounds_toArray, List.set_cons_zero, List.set_cons_succ]
       refine Until.done (by kernel_rfl) ?_ _
       refine NoPanic.normal ?_
       have N27 := Lib.hid (N26.out.gy (C := w7.heap.size) (by have h1 := GQ.out; simpa using h1) (I n) (I n) (.slice ML p2.length MG))
       have XL : Hid (Row (gy X8 w7.heap.size (I n) (I n) (.slice ML p2.length MG)) kx 26 #[I n, I 1, .slice Ax x.length dx]) := Lib.hid (ajC.out.CU HXQ.out)
       have XN := Lib.hid (XO.out.gy (I n) (I n) (.slice ML p2.length MG))
       have ZP := Lib.hid (Own.yE ajd.out HXO.out (I n) (I n) (.slice ML p2.length MG))
       have aci := Lib.hid (Own.yE ajm.out (C := w7.heap.size) (fun q hq => by have h1 := (ajw.out q hq).1; have h2 := U24.out; have h3 := U7.out; omega) (I n) (I n) (.slice ML p2.length MG))
       have R27 := Lib.hid (R26.out.CU (C := w7.heap.size) (by have h1 := GL.out; have h2 := GQ.out; omega) (a := I n) (b := I n) (c := .slice ML p2.length MG))
       go_wp2_with fail
       change Code.wp Try.prog _ _ _ (gy X8 w7.heap.size (I n) (I n) (.slice ML p2.length MG))
       have UW : Hid (ws.heap.size ≤ (gy X8 w7.heap.size (I n) (I n) (.slice ML p2.length MG)).heap.size) := Lib.hid (by have h1 := U26.out; simpa using h1)
       obtain ⟨X7, aaR⟩ : ∃ X7, gy X8 w7.heap.size (I n) (I n) (.slice ML p2.length MG) = X7 := ⟨_, rfl⟩
       rw [aaR] at N27 XL XN ZP aci R27 UW ⊢
       clear aaR kc kf
       have KU : Hid (∀ w', Row w' kx 26 #[I n, I 1, .slice Ax x.length dx] → Row w' w7.heap.size 26 #[I n, I n, .slice ML p2.length MG] → (∀ o, w'.cell? ⟨kx, o, none⟩ = #[I n, I 1, .slice Ax x.length dx][o]?) ∧ (∀ o, w'.cell? ⟨w7.heap.size, o, none⟩ = #[I n, I n, .slice ML p2.length MG][o]?)) := Lib.hid (fun w' h1 h2 => ⟨h1.cell, h2.cell⟩)
       have G15 := Lib.hid (fun w' (o : Own w' (w.heap.size + 4) (.slice ML p2.length MG) p2) => F8 n ML MG p2 w' HH.out.2 (by rw [← HT2.out.ep2]; exact upto_length) (Own.rd o).1 (Own.rd o).2)
       rw [HT2.out.eP] at G15
       go_region_held3 (fun w' => (∀ o, w'.cell? ⟨kx, o, none⟩ = #[I n, I 1, .slice Ax x.length dx][o]?) ∧ (∀ o, w'.cell? ⟨w7.heap.size, o, none⟩ = #[I n, I n, .slice ML p2.length MG][o]?))
        (first | with_reducible exact KU.out _ acH.out acP.out | with_reducible exact KU.out _ XL.out.drew XN.out.drew | exact KU.out _ (Row.TS acH.out (C := w.heap.size + 1 + 1 + 1) (by have h1 := GX.out; omega) _ _ _ _ _ _) (Row.TS acP.out (C := w.heap.size + 1 + 1 + 1) (by have h1 := GQ.out; omega) _ _ _ _ _ _))
        (first
          | (go_at_call 15
             refine (G15.out _ aci.out.drew).mono ?_
             rintro e w28 ⟨Ag, cg, rfl, ho, hb⟩
             have ajt := Lib.hid ho
             have N28 := Lib.hid (N27.out.drew.below hb)
             have acH := Lib.hid (Row.below XL.out.drew hb XL.out.lt)
             have acP := Lib.hid (Row.below XN.out.drew hb XN.out.lt)
             have ajc := Lib.hid (ZP.out.drew.below hb)
             have R28 := Lib.hid (Row.below R27.out.drew hb R27.out.lt)
             have ajv := Lib.hid ho.row.lt
             have OXB : Hid (∀ q, (Value.slice Ax x.length dx).ownBlock = some q → q < X7.heap.size) := Lib.hid (fun q hq => (ZP.out.row.lt q hq).2)
             have x3 := N28.out.r3.cell
             have g3 := N28.out.r3.free
             clear ho hb))
       go_wp2
       have zg := GL.out
       have z7 := GQ.out
       have zu := U7.out
       have zw := UW.out
       have zd : X7.drew.heap.size = X7.heap.size := rfl
       refine bodyPost_ret (ahN rfl rfl (Row.oO N28.out.r3 _ _ _ _ _ _)) rfl ⟨_, _, _, _, rfl, ?_, ?_, ?_, Row.TS R28.out (by omega) _ _ _ _ _ _, TN N28.out.gr (by omega) _ _ _ _ _ _⟩
       · exact (Own.oO ajc.out (by omega) _ _ _ _ _ _).lower (by omega)
       · exact (Own.oO ajt.out (by omega) _ _ _ _ _ _).lower (by omega)
       · intro q hq e
         have h1 := OXB.out q hq
         have h2 := (ajv.out q e).1
         omega)
      clear ab5
      have UT : Hid (w.heap.size + 4 ≤ wt.heap.size ∧ kb < wt.heap.size ∧ kx < wt.heap.size ∧ bk < wt.heap.size ∧ w6.heap.size < wt.heap.size) := Lib.hid ⟨by have h1 := Sr.out.rows.le Sr.out.gr.size; simpa using h1, Ee.out.lt, JY.out.lt, (JW.out.row.lt bk rfl).2, Ed.out.lt⟩
      have UX : Hid (∀ q, (Value.slice Ax x.length dx).ownBlock = some q → q < wt.heap.size) := Lib.hid (fun q hq => (R_.out.row.lt q hq).2)
      have A46 := Lib.hid (fun w' (h : w.grownBy w' (some g)) (o : Own w' (w.heap.size + 4) (.slice (some ⟨bk, 0, none⟩) k.length ck) k) => Ep n 1 n (some ⟨bk, 0, none⟩) A3 ck c3 k lh w' HH.out.2 (by omega) HH.out.2 Aq.out HHL.out (Own.rd o).1 (TH.out _ h))
      rw [HT2.out.ekh, HT2.out.eb5] at A46
      have A71 := Lib.hid (fun A' c' w' (o : Own w' (w.heap.size + 4) (.slice Ae (rq n).length ce) (rq n)) (o' : Own w' (w.heap.size + 4) (.slice A' kh.length c') kh) hc' => Vo n n Ae A' ce c' (rq n) kh w' HH.out.2 HH.out.2 (by unfold rq; rw [xB]; simp) (by rw [← HT2.out.ekh]; exact yu _ _ _ _ _) (Own.rd o).1 (Own.rd o').1 (Own.rd o).2 hc')
      rw [HT2.out.eik, HT2.out.eb6] at A71
      simp only [eo] at A46
      have KS : Hid (∀ w', Sg w g [(75, #[.pointer (some ⟨g, 0, none⟩)]), (28, #[I n, I 1, .slice A1 lx.length c1, I n, I n, .slice A2 lp.length c2]), (26, #[I 1, I n, .slice A3 lh.length c3]), (28, #[I 0, I 0, .slice none 0 0, I 0, I 0, .slice none 0 0])] w' → Row w' kb 26 #[I n, I 1, .slice (some ⟨bk, 0, none⟩) k.length ck] → Row w' w6.heap.size 26 #[I n, I n, .slice Ae (rq n).length ce] → ((∀ o, w'.cell? ⟨w.heap.size, o, none⟩ = #[.pointer (some ⟨g, 0, none⟩)][o]?) ∧ (∀ o, w'.cell? ⟨w.heap.size + 1, o, none⟩ = #[I n, I 1, .slice A1 lx.length c1, I n, I n, .slice A2 lp.length c2][o]?) ∧ (∀ o, w'.cell? ⟨w.heap.size + 1 + 1, o, none⟩ = #[I 1, I n, .slice A3 lh.length c3][o]?)) ∧ (∀ o, w'.cell? ⟨kb, o, none⟩ = #[I n, I 1, .slice (some ⟨bk, 0, none⟩) k.length ck][o]?) ∧ (∀ o, w'.cell? ⟨w6.heap.size, o, none⟩ = #[I n, I n, .slice Ae (rq n).length ce][o]?)) := Lib.hid (fun w' h h1 h2 => ⟨⟨h.r0.cell, h.r1.cell, h.r2.cell⟩, h1.cell, h2.cell⟩)
      go_region_held3 (fun w' => ((∀ o, w'.cell? ⟨w.heap.size, o, none⟩ = #[.pointer (some ⟨g, 0, none⟩)][o]?) ∧ (∀ o, w'.cell? ⟨w.heap.size + 1, o, none⟩ = #[I n, I 1, .slice A1 lx.length c1, I n, I n, .slice A2 lp.length c2][o]?) ∧ (∀ o, w'.cell? ⟨w.heap.size + 1 + 1, o, none⟩ = #[I 1, I n, .slice A3 lh.length c3][o]?)) ∧ (∀ o, w'.cell? ⟨kb, o, none⟩ = #[I n, I 1, .slice (some ⟨bk, 0, none⟩) k.length ck][o]?) ∧ (∀ o, w'.cell? ⟨w6.heap.size, o, none⟩ = #[I n, I n, .slice Ae (rq n).length ce][o]?))
       (first | with_reducible exact KS.out _ N14.out UH.out ZZ.out | with_reducible exact KS.out _ (N14.out.alloc _) (UH.out.alloc _) (ZZ.out.alloc _) | with_reducible exact KS.out _ N13.out XT.out XQ.out | with_reducible exact KS.out _ (N13.out.alloc _) (XT.out.alloc _) (XQ.out.alloc _) | with_reducible exact KS.out _ N12.out Sz.out Sv.out | with_reducible exact KS.out _ (N12.out.alloc _) (Sz.out.alloc _) (Sv.out.alloc _) | with_reducible exact KS.out _ N11.out XU.out XR.out | with_reducible exact KS.out _ (N11.out.alloc _) (XU.out.alloc _) (XR.out.alloc _) | with_reducible exact KS.out _ (Sr.out.drew) (Ee.out.drew) (Ed.out.drew) | with_reducible exact KS.out _ (Sr.out.drew.alloc _) (Ee.out.drew.alloc _) (Ed.out.drew.alloc _) | with_reducible exact KS.out _ ((Sr.out.alloc _).drew) ((Ee.out.alloc _).drew) ((Ed.out.alloc _).drew) | exact KS.out _ (N14.out.gy (by have h1 := UT.out; have h2 := XH.out; have h3 := Yx.out; have h4 := ZH.out; have h5 := U14.out; have h6 := GE.out; simp; omega) _ _ _) (UH.out.CU (by have h1 := UT.out; have h2 := XH.out; have h3 := Yx.out; have h4 := ZH.out; have h5 := U14.out; omega)) (ZZ.out.CU (by have h1 := UT.out; have h2 := XH.out; have h3 := Yx.out; have h4 := ZH.out; have h5 := U14.out; omega)))
       (first
         | (go_at_call 45
            first
             | (with_reducible refine (xJ g (s || b1 || b2 || b3 || b4 || b5) b6 n n 0 Ai ik.length di _ R13.out).mono ?_)
             | (with_reducible refine (xJ g (s || b1 || b2 || b3 || b4 || b5) b6 n n 0 Ai ik.length di _ (R13.out.alloc _)).mono ?_)
            rintro e U6 ⟨rfl, hr, hg⟩
            have R14 := Lib.hid hr
            have N14 := Lib.hid (by first | exact N13.out.touch hg GL.out | exact (N13.out.alloc _).touch hg GL.out)
            have UH := Lib.hid (by first | exact Row.grown (XT.out) hg (by have h1 := GL.out; have h2 := HKB.out; have h3 := GX.out; have h4 := GE.out; simp; omega) | exact Row.grown ((XT.out.alloc _)) hg (by have h1 := GL.out; have h2 := HKB.out; have h3 := GX.out; have h4 := GE.out; simp; omega))
            have acM := Lib.hid (by first | exact Row.grown (acN.out) hg (by have h1 := GL.out; have h2 := HKB.out; have h3 := GX.out; have h4 := GE.out; simp; omega) | exact Row.grown ((acN.out.alloc _)) hg (by have h1 := GL.out; have h2 := HKB.out; have h3 := GX.out; have h4 := GE.out; simp; omega))
            have ZZ := Lib.hid (by first | exact Row.grown (XQ.out) hg (by have h1 := GL.out; have h2 := HKB.out; have h3 := GX.out; have h4 := GE.out; simp; omega) | exact Row.grown ((XQ.out.alloc _)) hg (by have h1 := GL.out; have h2 := HKB.out; have h3 := GX.out; have h4 := GE.out; simp; omega))
            have acm := Lib.hid (by first | exact Own.touch (acn.out) hg (by have h1 := GL.out; omega) | exact Own.touch ((acn.out.alloc _)) hg (by have h1 := GL.out; omega))
            have ace := Lib.hid (by first | exact Own.touch (acf.out) hg (by have h1 := GL.out; omega) | exact Own.touch ((acf.out.alloc _)) hg (by have h1 := GL.out; omega))
            have acr := Lib.hid (by first | exact Own.touch (acs.out) hg (by have h1 := GL.out; omega) | exact Own.touch ((acs.out.alloc _)) hg (by have h1 := GL.out; omega))
            have U14 : Hid (wt.heap.size ≤ U6.heap.size ∧ SC.heap.size ≤ U6.heap.size) := Lib.hid (by have h1 := hg.size; have h2 := ZH.out; first | omega | (simp at h1; omega))
            first
             | (have Su := Lib.hid (Row.grown acS.out hg (by have h1 := GL.out; have h4 := GE.out; have h5 := UT.out; have h6 := ZH.out; have h7 := Yx.out; have h8 := XH.out; simp; omega))
                have kc := Su.out.cell
                have kf := Su.out.free)
             | (have Su : Hid (Row U6 SC.heap.size 26 #[I 0, I 0, .slice none 0 0]) := Lib.hid (Row.grown (Row.new SC 26 #[I 0, I 0, .slice none 0 0]) hg (by have h1 := GL.out; have h4 := GE.out; have h5 := UT.out; have h6 := ZH.out; have h7 := Yx.out; have h8 := XH.out; simp; omega))
                have kc := Su.out.cell
                have kf := Su.out.free)
             | skip
            clear hr hg)
         | (go_at_call 71
            first
             | (with_reducible refine (A71.out _ _ _ acw.out acu.out adi.out).mono ?_)
             | (with_reducible refine (A71.out _ _ _ (acw.out.alloc _) (acu.out.alloc _) adi.out).mono ?_)
            rintro e SC ⟨v, rfl, ho, hb⟩
            obtain ⟨Ai, di, rfl, _, _⟩ := Own.reads ho
            have acs : Hid (Own SC (w.heap.size + 4) (.slice Ai ik.length di) ik) := Lib.hid (Own.lower ho (by have h1 := UT.out; have h4 := GE.out; have h5 := Yx.out; first | omega | (simp; omega)))
            have ajx := Lib.hid ho.row.lt
            have N13 := Lib.hid (by first | exact N12.out.below hb | exact (N12.out.alloc _).below hb)
            have XT := Lib.hid (by first | exact Row.below (Sz.out) hb (Sz.out).lt | exact Row.below ((Sz.out.alloc _)) hb ((Sz.out.alloc _)).lt)
            have acN := Lib.hid (by first | exact Row.below (XM.out) hb (XM.out).lt | exact Row.below ((XM.out.alloc _)) hb ((XM.out.alloc _)).lt)
            have XQ := Lib.hid (by first | exact Row.below (Sv.out) hb (Sv.out).lt | exact Row.below ((Sv.out.alloc _)) hb ((Sv.out.alloc _)).lt)
            have acn := Lib.hid (by first | exact aco.out.below hb | exact (aco.out.alloc _).below hb)
            have acf := Lib.hid (by first | exact acg.out.below hb | exact (acg.out.alloc _).below hb)
            have R13 := Lib.hid (by first | exact Row.below (R12.out) hb (R12.out).lt | exact Row.below ((R12.out.alloc _)) hb ((R12.out.alloc _)).lt)
            have ZH : Hid (wt.heap.size ≤ SC.heap.size ∧ w12.heap.size ≤ SC.heap.size) := Lib.hid (by have h1 := hb.size; have h2 := Yx.out; first | omega | (simp at h1; omega))
            first
             | (have acS := Lib.hid (Row.below UF.out hb UF.out.lt))
             | (have acS : Hid (Row SC w12.heap.size 26 #[I 0, I 0, .slice none 0 0]) := Lib.hid (Row.below (Row.new w12 26 #[I 0, I 0, .slice none 0 0]) hb (by simp)))
             | skip
            clear hb ho)
         | (go_at_call 45
            first
             | (with_reducible refine (xJ g (s || b1 || b2 || b3 || b4) b5 n n 0 Ah kh.length dh _ R11.out).mono ?_)
             | (with_reducible refine (xJ g (s || b1 || b2 || b3 || b4) b5 n n 0 Ah kh.length dh _ (R11.out.alloc _)).mono ?_)
            rintro e w12 ⟨rfl, hr, hg⟩
            have R12 := Lib.hid hr
            have N12 := Lib.hid (by first | exact N11.out.touch hg GL.out | exact (N11.out.alloc _).touch hg GL.out)
            have Sz := Lib.hid (by first | exact Row.grown (XU.out) hg (by have h1 := GL.out; have h2 := HKB.out; have h3 := GX.out; have h4 := GE.out; simp; omega) | exact Row.grown ((XU.out.alloc _)) hg (by have h1 := GL.out; have h2 := HKB.out; have h3 := GX.out; have h4 := GE.out; simp; omega))
            have XM := Lib.hid (by first | exact Row.grown (acO.out) hg (by have h1 := GL.out; have h2 := HKB.out; have h3 := GX.out; have h4 := GE.out; simp; omega) | exact Row.grown ((acO.out.alloc _)) hg (by have h1 := GL.out; have h2 := HKB.out; have h3 := GX.out; have h4 := GE.out; simp; omega))
            have Sv := Lib.hid (by first | exact Row.grown (XR.out) hg (by have h1 := GL.out; have h2 := HKB.out; have h3 := GX.out; have h4 := GE.out; simp; omega) | exact Row.grown ((XR.out.alloc _)) hg (by have h1 := GL.out; have h2 := HKB.out; have h3 := GX.out; have h4 := GE.out; simp; omega))
            have aco := Lib.hid (by first | exact Own.touch (acp.out) hg (by have h1 := GL.out; omega) | exact Own.touch ((acp.out.alloc _)) hg (by have h1 := GL.out; omega))
            have acg := Lib.hid (by first | exact Own.touch (ach.out) hg (by have h1 := GL.out; omega) | exact Own.touch ((ach.out.alloc _)) hg (by have h1 := GL.out; omega))
            have acw := Lib.hid (by first | exact Own.touch (acy.out) hg (by have h1 := GL.out; omega) | exact Own.touch ((acy.out.alloc _)) hg (by have h1 := GL.out; omega))
            have acu := Lib.hid (by first | exact Own.touch (acv.out) hg (by have h1 := GL.out; omega) | exact Own.touch ((acv.out.alloc _)) hg (by have h1 := GL.out; omega))
            have Yx : Hid (wt.heap.size ≤ w12.heap.size ∧ wY.heap.size ≤ w12.heap.size) := Lib.hid (by have h1 := hg.size; have h2 := XH.out; first | omega | (simp at h1; omega))
            first
             | (have UF := Lib.hid (Row.grown ZX.out hg (by have h1 := GL.out; have h4 := GE.out; have h5 := UT.out; have h6 := XH.out; simp; omega)))
             | (have UF : Hid (Row w12 wY.heap.size 26 #[I 0, I 0, .slice none 0 0]) := Lib.hid (Row.grown (Row.new wY 26 #[I 0, I 0, .slice none 0 0]) hg (by have h1 := GL.out; have h4 := GE.out; have h5 := UT.out; have h6 := XH.out; simp; omega)))
             | skip
            clear hr hg)
         | (go_at_call 46
            first
             | (with_reducible refine (A46.out _ Sr.out.drew.gr JW.out.drew).mono ?_)
             | (with_reducible refine (A46.out _ (Sr.out.drew.alloc _).gr (JW.out.drew.alloc _)).mono ?_)
             | (with_reducible refine (A46.out _ (Sr.out.alloc _).drew.gr (JW.out.alloc _).drew).mono ?_)
            rintro e wY ⟨v, rfl, ho, hb⟩
            obtain ⟨Ah, dh, rfl, hch, rah⟩ := Own.reads ho
            have adi := Lib.hid hch
            have acv : Hid (Own wY (w.heap.size + 4) (.slice Ah kh.length dh) kh) := Lib.hid (Own.lower ho (by have h1 := UT.out; have h4 := GE.out; first | omega | (simp; omega)))
            have N11 := Lib.hid (by first | exact Sr.out.drew.below hb | exact (Sr.out.drew.alloc _).below hb | exact (Sr.out.alloc _).drew.below hb)
            have XU := Lib.hid (by first | exact Row.below (Ee.out.drew) hb (Ee.out.drew).lt | exact Row.below ((Ee.out.drew.alloc _)) hb ((Ee.out.drew.alloc _)).lt | exact Row.below ((Ee.out.alloc _).drew) hb ((Ee.out.alloc _).drew).lt)
            have acO := Lib.hid (by first | exact Row.below (JY.out.drew) hb (JY.out.drew).lt | exact Row.below ((JY.out.drew.alloc _)) hb ((JY.out.drew.alloc _)).lt | exact Row.below ((JY.out.alloc _).drew) hb ((JY.out.alloc _).drew).lt)
            have XR := Lib.hid (by first | exact Row.below (Ed.out.drew) hb (Ed.out.drew).lt | exact Row.below ((Ed.out.drew.alloc _)) hb ((Ed.out.drew.alloc _)).lt | exact Row.below ((Ed.out.alloc _).drew) hb ((Ed.out.alloc _).drew).lt)
            have acp := Lib.hid (by first | exact JW.out.drew.below hb | exact (JW.out.drew.alloc _).below hb | exact (JW.out.alloc _).drew.below hb)
            have ach := Lib.hid (by first | exact R_.out.drew.below hb | exact (R_.out.drew.alloc _).below hb | exact (R_.out.alloc _).drew.below hb)
            have acy := Lib.hid (by first | exact UD.out.drew.below hb | exact (UD.out.drew.alloc _).below hb | exact (UD.out.alloc _).drew.below hb)
            have R11 := Lib.hid (by first | exact Row.below (R10.out.drew) hb (R10.out.drew).lt | exact Row.below ((R10.out.drew.alloc _)) hb ((R10.out.drew.alloc _)).lt | exact Row.below ((R10.out.alloc _).drew) hb ((R10.out.alloc _).drew).lt)
            have XH : Hid (wt.heap.size ≤ wY.heap.size ∧ wt.heap.size ≤ wY.heap.size) := Lib.hid (by have h1 := hb.size; first | omega | (simp at h1; omega))
            first
             | (have ZX : Hid (Row wY wt.heap.size 26 #[I 0, I 0, .slice none 0 0]) := Lib.hid (Row.below (Row.new wt.drew 26 #[I 0, I 0, .slice none 0 0]) hb (by simp)))
             | (have ZX : Hid (Row wY wt.heap.size 26 #[I 0, I 0, .slice none 0 0]) := Lib.hid (Row.below (Row.new wt 26 #[I 0, I 0, .slice none 0 0]).drew hb (by simp)))
             | skip
            clear hb ho hch rah))
      all_goals
       show K10 _ _
       have z0 := UT.out
       have z1 := XH.out
       have z2 := Yx.out
       have z3 := ZH.out
       have z4 := U14.out
       have zg := GL.out
       have ze := GE.out
       first
        | (refine UC.out _ _ _ _ _ _ _ _ _ _ _ _ _ _ _ _ _ _ _ _ _ _ _ _ _ _ _ _ _ _ _ _ _ _ _ _ _ _ _ _ _ _ _ _ _ _ _ _ _ _ _ _ _ _ _ _ _ _ _ _ _ _ _ _ _ _ _ _ _ _ _ _ (N14.out.alloc _) (UH.out.alloc _) (acm.out.alloc _) (acM.out.alloc _) (ace.out.alloc _) (Row.new _ _ _) (acr.out.alloc _) (R14.out.alloc _) (by omega))
        | (refine UC.out _ _ _ _ _ _ _ _ _ _ _ _ _ _ _ _ _ _ _ _ _ _ _ _ _ _ _ _ _ _ _ _ _ _ _ _ _ _ _ _ _ _ _ _ _ _ _ _ _ _ _ _ _ _ _ _ _ _ _ _ _ _ _ _ _ _ _ _ _ _ _ _ (N14.out.gy (by simp; omega) _ _ _) (UH.out.CU (by omega)) (Own.yE acm.out (fun q hq => ?_) _ _ _) (acM.out.CU (by omega)) (Own.yE ace.out (fun q hq => ?_) _ _ _) (Su.out.gy _ _ _) (Own.yE acr.out (fun q hq => ?_) _ _ _) (R14.out.CU (by omega)) (by omega)
           · injection hq with hq
             dsimp only at hq
             omega
           · have h1 := UX.out q hq
             omega
           · have h1 := ajx.out q hq
             first | omega | (simp at h1; omega) | (have h2 := ZX.out.lt; omega) | (have h2 := UF.out.lt; omega) | (simp at h1; have h2 := UF.out.lt; omega)))
     clear aK8
     have U0 : Hid (w.heap.size + 4 ≤ wr.heap.size ∧ kb < wr.heap.size ∧ bk < wr.heap.size) := Lib.hid ⟨by have h1 := N5.out.rows.le N5.out.gr.size; simpa using h1, MK.out.lt, (OK.out.row.lt bk rfl).2⟩
     have S68 := Lib.hid (fun w' (o : Own w' (w.heap.size + 4) (.slice (some ⟨bk, 0, none⟩) k.length ck) k) rk rp rg => AZ g kb w.heap.size n (s || b1 || b2) (some ⟨bk, 0, none⟩) ck k y w' HH.out.2 Aq.out (Own.rd o).1 (Own.rd o).2 rk rp rg)
     rw [HT2.out.esy, HT2.out.eb3] at S68
     have A47 := Lib.hid (fun A' c' w' (h : w.grownBy w' (some g)) (ha : Rd w' A' sy) hc => OY n 1 A1 A' c1 c' lx sy w' HH.out.2 (by omega) HX.out (by rw [← HT2.out.esy]; exact upto_length) (TX.out _ h) ha CX.out hc)
     rw [HT2.out.ex, HT2.out.eb4] at A47
     simp only [eo] at A47
     go_region_held3 (fun w' => (∀ o, w'.cell? ⟨w.heap.size, o, none⟩ = #[.pointer (some ⟨g, 0, none⟩)][o]?) ∧ (∀ o, w'.cell? ⟨w.heap.size + 1, o, none⟩ = #[I n, I 1, .slice A1 lx.length c1, I n, I n, .slice A2 lp.length c2][o]?) ∧ (∀ o, w'.cell? ⟨w.heap.size + 1 + 1, o, none⟩ = #[I 1, I n, .slice A3 lh.length c3][o]?))
      (first | with_reducible exact KK.out _ M4.out | with_reducible exact KK.out _ (M4.out.alloc _) | with_reducible exact KK.out _ M3.out | with_reducible exact KK.out _ (M3.out.alloc _) | with_reducible exact KK.out _ M2.out | with_reducible exact KK.out _ (M2.out.alloc _) | with_reducible exact KK.out _ N5.out.drew | with_reducible exact KK.out _ (N5.out.drew.alloc _) | with_reducible exact KK.out _ (N5.out.alloc _).drew | exact KK.out _ (M4.out.gy (by have := U0.out; have := U2.out; have := U3.out; have := U4.out; simp; omega) _ _ _))
      (first
        | (go_at_call 45
           first
            | (with_reducible refine (xJ g (s || b1 || b2 || b3) b4 n 1 0 Ax x.length dx _ R3.out).mono ?_)
            | (with_reducible refine (xJ g (s || b1 || b2 || b3) b4 n 1 0 Ax x.length dx _ (R3.out.alloc _)).mono ?_)
           rintro e w4 ⟨rfl, hr4, hg4⟩
           have R4 := Lib.hid hr4
           have M4 := Lib.hid (by first | exact M3.out.touch hg4 GL.out | exact (M3.out.alloc _).touch hg4 GL.out)
           have KM4 := Lib.hid (by first | exact Row.grown (KM3.out) hg4 (by have h1 := GL.out; have h2 := HKB.out; simp; omega) | exact Row.grown ((KM3.out.alloc _)) hg4 (by have h1 := GL.out; have h2 := HKB.out; simp; omega))
           have OK4 := Lib.hid (by first | exact Own.touch (OK3.out) hg4 (by have h1 := GL.out; omega) | exact Own.touch ((OK3.out.alloc _)) hg4 (by have h1 := GL.out; omega))
           have OX4 := Lib.hid (by first | exact Own.touch (OX3.out) hg4 (by have h1 := GL.out; omega) | exact Own.touch ((OX3.out.alloc _)) hg4 (by have h1 := GL.out; omega))
           have U4 : Hid (w3.heap.size ≤ w4.heap.size) := Lib.hid (by have h1 := hg4.size; first | omega | (simp at h1; omega))
           first
            | (have XB4 := Lib.hid (Row.grown XB3.out hg4 (by have h1 := GL.out; have h2 := U0.out; have h3 := U2.out; simp; omega))
               have kc := XB4.out.cell
               have kf := XB4.out.free)
            | (have XB4 : Hid (Row w4 w3.heap.size 26 #[I 0, I 0, .slice none 0 0]) := Lib.hid (Row.grown (Row.new w3 26 #[I 0, I 0, .slice none 0 0]) hg4 (by have h1 := GL.out; have h2 := U0.out; have h3 := U2.out; have h4 := U3.out; simp; omega))
               have kc := XB4.out.cell
               have kf := XB4.out.free)
            | skip
           clear hr4 hg4)
        | (go_at_call 47
           first
            | (with_reducible refine (A47.out _ _ _ M2.out.gr RA.out CS.out).mono ?_)
            | (with_reducible refine (A47.out _ _ _ (M2.out.alloc _).gr (RA.out.below ((Below.refl _ _).alloc (Nat.le_refl _) _)) CS.out).mono ?_)
           rintro e w3 ⟨v, rfl, ho, hb⟩
           obtain ⟨Ax, dx, rfl, _, _⟩ := Own.reads ho
           have OX3 : Hid (Own w3 (w.heap.size + 4) (.slice Ax x.length dx) x) := Lib.hid (Own.lower ho (by have h1 := U2.out; have h2 := U0.out; first | omega | (simp; omega)))
           have OB3 := Lib.hid ho.row.lt
           have M3 := Lib.hid (by first | exact M2.out.below hb | exact (M2.out.alloc _).below hb)
           have KM3 := Lib.hid (by first | exact Row.below (KM2.out) hb (KM2.out).lt | exact Row.below ((KM2.out.alloc _)) hb ((KM2.out.alloc _)).lt)
           have OK3 := Lib.hid (by first | exact OK2.out.below hb | exact (OK2.out.alloc _).below hb)
           have R3 := Lib.hid (by first | exact Row.below (R2.out) hb (R2.out).lt | exact Row.below ((R2.out.alloc _)) hb ((R2.out.alloc _)).lt)
           have U3 : Hid (w2.heap.size ≤ w3.heap.size) := Lib.hid (by have h1 := hb.size; first | omega | (simp at h1; omega))
           first
            | (have XB3 := Lib.hid (Row.below XB2.out hb XB2.out.lt))
            | (have XB3 : Hid (Row w3 w2.heap.size 26 #[I 0, I 0, .slice none 0 0]) := Lib.hid (Row.below (Row.new w2 26 #[I 0, I 0, .slice none 0 0]) hb (by simp)))
            | skip
           clear hb ho)
        | (go_at_call 68
           first
            | (with_reducible refine (S68.out _ OK.out.drew MK.out.drew N5.out.drew.r0 R5.out.drew).mono ?_)
            | (with_reducible refine (S68.out _ (OK.out.drew.alloc _) (MK.out.drew.alloc _) (N5.out.drew.alloc _).r0 (R5.out.drew.alloc _)).mono ?_)
            | (with_reducible refine (S68.out _ (OK.out.alloc _).drew (MK.out.alloc _).drew (N5.out.alloc _).drew.r0 (R5.out.alloc _).drew).mono ?_)
           rintro e w2 ⟨As, cs, rfl, ho, hr, hg2⟩
           have RA := Lib.hid (Own.rd ho).1
           have CS := Lib.hid (Own.rd ho).2
           have R2 := Lib.hid hr
           have M2 := Lib.hid (by first | exact N5.out.drew.touch hg2 GL.out | exact (N5.out.drew.alloc _).touch hg2 GL.out | exact (N5.out.alloc _).drew.touch hg2 GL.out)
           have KM2 := Lib.hid (by first | exact Row.grown (MK.out.drew) hg2 (by have h1 := GL.out; have h2 := HKB.out; simp; omega) | exact Row.grown ((MK.out.drew.alloc _)) hg2 (by have h1 := GL.out; have h2 := HKB.out; simp; omega) | exact Row.grown ((MK.out.alloc _).drew) hg2 (by have h1 := GL.out; have h2 := HKB.out; simp; omega))
           have OK2 := Lib.hid (by first | exact Own.touch (OK.out.drew) hg2 (by have h1 := GL.out; omega) | exact Own.touch ((OK.out.drew.alloc _)) hg2 (by have h1 := GL.out; omega) | exact Own.touch ((OK.out.alloc _).drew) hg2 (by have h1 := GL.out; omega))
           have U2 : Hid (wr.heap.size ≤ w2.heap.size) := Lib.hid (by have h1 := hg2.size; first | omega | (simp at h1; omega))
           first
            | (have XB2 : Hid (Row w2 wr.heap.size 26 #[I 0, I 0, .slice none 0 0]) := Lib.hid (Row.grown (Row.new wr.drew 26 #[I 0, I 0, .slice none 0 0]) hg2 (by have h1 := GL.out; have h2 := U0.out; simp; omega)))
            | (have XB2 : Hid (Row w2 wr.heap.size 26 #[I 0, I 0, .slice none 0 0]) := Lib.hid (Row.grown (Row.new wr 26 #[I 0, I 0, .slice none 0 0]).drew hg2 (by have h1 := GL.out; have h2 := U0.out; simp; omega)))
            | skip
           clear hr hg2 ho))
     all_goals
      show K8 _ _
      have z0 := U0.out
      have z2 := U2.out
      have z3 := U3.out
      have z4 := U4.out
      have zg := GL.out
      first
       | (refine YB.out _ _ _ _ _ _ _ _ _ _ _ _ _ _ _ _ _ _ _ _ _ _ _ _ _ _ _ _ _ _ _ _ _ _ _ _ _ _ _ _ _ _ _ _ _ _ _ _ (M4.out.alloc _) (KM4.out.alloc _) (OK4.out.alloc _) (Row.new _ _ _) (OX4.out.alloc _) (R4.out.alloc _) (by omega) (fun q hq => ?_)
          have h1 := (OX4.out.row.lt q hq).2
          omega)
       | (refine YB.out _ _ _ _ _ _ _ _ _ _ _ _ _ _ _ _ _ _ _ _ _ _ _ _ _ _ _ _ _ _ _ _ _ _ _ _ _ _ _ _ _ _ _ _ _ _ _ _ (M4.out.gy (by simp; omega) _ _ _) (KM4.out.CU (by omega)) (Own.yE OK4.out (fun q hq => ?_) _ _ _) (XB4.out.gy _ _ _) (Own.yE OX4.out (fun q hq => ?_) _ _ _) (R4.out.CU (by omega)) (by omega) (fun q hq => ?_)
          · injection hq with hq
            dsimp only at hq
            omega
          all_goals
           have h1 := OB3.out q hq
           first | omega | (simp at h1; omega) | (have h2 := XB2.out.lt; omega))
   have hlt : (j : Int) < k0.length := by omega
   have hj0 : (0 : Int) ≤ j := by omega
   have hjlt : j < k0.length := by omega
   have HJ := Lib.hid hjlt
   have STEP : Hid (j + 1 ≤ k0.length ∧ k0.length - (j + 1) < k0.length - j) := Lib.hid (by omega)
   have hw64 : IntKind.i64.wrap ((j : Int) + 1) = (j : Int) + 1 := by have := HKL.out; simp [IntKind.wrap, IntKind.bits, IntKind.signed]; omega
   have hq := O5.out.cellAt j (by omega)
   rw [List.getElem?_map, LJ sv k0 j (by omega)] at hq
   have hset : Hid ((wK sv k0 j).set j (H9 (k0.getD j 0) sv).1 = wK sv k0 (j + 1)) := Lib.hid (Rx sv k0 j (by omega))
   have hsb : Hid (Gh sv k0 (j + 1) = (Gh sv k0 j || (H9 (k0.getD j 0) sv).2)) := Lib.hid (Ry sv k0 j (by omega))
   have DV := Lib.hid (fun w => Rw (k0.getD j 0) sv w)
   obtain ⟨q, eq⟩ : ∃ q, k0.getD j 0 = q := ⟨_, rfl⟩
   rw [eq] at hq hset hsb DV
   obtain ⟨d, ed⟩ : ∃ d, H9 q sv = d := ⟨_, rfl⟩
   rw [ed] at hset hsb DV
   obtain ⟨d1, d2⟩ := d
   dsimp only at hset hsb DV
   have cq : wr.cell? ⟨bk, j, none⟩ = some (I q) := hq
   have CE : Hid (((wK sv k0 j).map I)[j]? = some (I q)) := Lib.hid (by rw [List.getElem?_map, LJ sv k0 j hjlt, eq]; rfl)
   clear hq eq ed hj hjk hjlt
   have K5 : Hid (∀ w', Sg w g [(75, #[.pointer (some ⟨g, 0, none⟩)]), (28, #[I n, I 1, .slice A1 lx.length c1, I n, I n, .slice A2 lp.length c2]), (26, #[I 1, I n, .slice A3 lh.length c3]), (28, #[I 0, I 0, .slice none 0 0, I 0, I 0, .slice none 0 0])] w' → Row w' kb 26 #[I n, I 1, .slice (some ⟨bk, 0, none⟩) k0.length ck] → (∀ o, w'.cell? ⟨kb, o, none⟩ = #[I n, I 1, .slice (some ⟨bk, 0, none⟩) k0.length ck][o]?) ∧ (∀ o, w'.cell? ⟨w.heap.size, o, none⟩ = #[.pointer (some ⟨g, 0, none⟩)][o]?)) := Lib.hid (fun w' h h' => ⟨h'.cell, h.r0.cell⟩)
   go_wp2_with fail
   go_region_held3 (fun w' => (∀ o, w'.cell? ⟨kb, o, none⟩ = #[I n, I 1, .slice (some ⟨bk, 0, none⟩) k0.length ck][o]?) ∧ (∀ o, w'.cell? ⟨w.heap.size, o, none⟩ = #[.pointer (some ⟨g, 0, none⟩)][o]?))
    (first | with_reducible exact K5.out _ N7.out KB7.out | with_reducible exact K5.out _ N6.out KB6.out | with_reducible exact K5.out _ N5.out.drew MK.out.drew | exact K5.out _ (N7.out.set (p := ⟨bk, j, none⟩) HBK.out _) (KB7.out.far (p := ⟨bk, j, none⟩) HNE.out.symm _))
    (first
      | (go_at_call 34
         refine (KF g (s || b1 || Gh sv k0 j) d2 d1 _ R6.out).mono ?_
         rintro e w7 ⟨rfl, hr7, hg7⟩
         have R7 := Lib.hid hr7
         have N7 := Lib.hid (N6.out.touch hg7 GL.out)
         have KB7 := Lib.hid (KB6.out.grown hg7 (by have := GL.out; have := HKB.out; simp; omega))
         have O7 := Lib.hid (wI O6.out (fun q hq => hg7.block q (O6.out.lt q hq).2 (fun e => by have h1 := (O6.out.lt q hq).1; have h2 := GL.out; injection e with e; omega)))
         have c7 : w7.cell? ⟨bk, j, none⟩ = some (I q) := by
          have h := O7.out.cellAt j (by have := HJ.out; omega)
          rw [h]
          exact CE.out
         have f7 := O7.out.frozenAt j
         clear hr7 hg7)
      | (go_at_call 67
         refine (DV.out _).mono ?_
         rintro e w6 ⟨rfl, hb⟩
         have N6 := Lib.hid (N5.out.drew.below hb)
         have KB6 := Lib.hid (MK.out.drew.below hb MK.out.lt)
         have O6 := Lib.hid (wI O5.out.drew (fun q hq => hb.block q (O5.out.lt q hq).2))
         have R6 := Lib.hid (R5.out.drew.below hb R5.out.lt)
         clear hb))
   have O8 := Lib.hid (O7.out.stored j (I d1)).1
   go_wp2
   go_roundw
   case rel => exact ⟨j + 1, STEP.out.1, by go_num, N7.out.set (p := ⟨bk, j, none⟩) HBK.out _, KB7.out.far (p := ⟨bk, j, none⟩) HNE.out.symm _, by have := O8.out; rw [← hset.out, List.map_set]; exact this, by rw [hsb.out, ← Bool.or_assoc]; exact R7.out.far (p := ⟨bk, j, none⟩) (by have := GL.out; have := HBK.out; dsimp only; omega) _⟩
   case measure =>
    have h := STEP.out.2
    show k0.length - ((j : Int) + 1).toNat < k0.length - ((j : Int)).toNat
    rw [show ((j : Int) + 1).toNat = j + 1 by omega, show ((j : Int)).toNat = j by omega]
    exact h)
 clear aK1
 go_region_held3 (fun w' => (∀ o, w'.cell? ⟨w.heap.size, o, none⟩ = #[.pointer (some ⟨g, 0, none⟩)][o]?) ∧ (∀ o, w'.cell? ⟨w.heap.size + 1, o, none⟩ = #[I n, I 1, .slice A1 lx.length c1, I n, I n, .slice A2 lp.length c2][o]?) ∧ (∀ o, w'.cell? ⟨w.heap.size + 1 + 1, o, none⟩ = #[I 1, I n, .slice A3 lh.length c3][o]?))
  (first | with_reducible exact KK.out _ N4.out | with_reducible exact KK.out _ (N4.out.alloc _) | with_reducible exact KK.out _ N3.out | with_reducible exact KK.out _ (N3.out.alloc _) | with_reducible exact KK.out _ N2.out | with_reducible exact KK.out _ (N2.out.alloc _) | with_reducible exact KK.out _ N.out.drew | with_reducible exact KK.out _ (N.out.drew.alloc _) | with_reducible exact KK.out _ (N.out.alloc _).drew | with_reducible exact KK.out _ N.out | with_reducible exact KK.out _ (N.out.alloc _) | exact KK.out _ (N4.out.gy (by have := S4.out; have := SZ.out; have := S2.out; have := S3.out; simp; omega) _ _ _))
  (first
   | (go_at_call 45
      first
       | (with_reducible refine (xJ g s b1 n 1 0 Ak k0.length ck _ RG3.out).mono ?_)
       | (with_reducible refine (xJ g s b1 n 1 0 Ak k0.length ck _ (RG3.out.alloc _)).mono ?_)
      rintro e w4 ⟨rfl, hr4, hg4⟩
      have R4 := Lib.hid hr4
      have O4 := Lib.hid (by first | exact Own.touch O3.out hg4 (by have := GL.out; omega) | exact Own.touch (O3.out.alloc _) hg4 (by have := GL.out; omega))
      have N4 := Lib.hid (by first | exact N3.out.touch hg4 GL.out | exact (N3.out.alloc _).touch hg4 GL.out)
      have S4 : Hid (w.heap.size + 4 ≤ w4.heap.size ∧ w3.heap.size ≤ w4.heap.size) := Lib.hid (by have h1 := hg4.size; have h2 := S3.out; first | omega | (simp at h1; omega))
      first
       | (have KB4 := Lib.hid (Row.grown KB3.out hg4 (by have := GL.out; have := S2.out; have := SZ.out; simp; omega))
          have kc := KB4.out.cell
          have kf := KB4.out.free)
       | (have KB4 : Hid (Row w4 w3.heap.size 26 #[I 0, I 0, .slice none 0 0]) := Lib.hid (Row.grown (Row.new w3 26 #[I 0, I 0, .slice none 0 0]) hg4 (by have := GL.out; have := S3.out; simp; omega))
          have kc := KB4.out.cell
          have kf := KB4.out.free)
       | skip
      clear hr4 hg4)
   | (go_at_call 46
      first
       | (with_reducible refine (HM.out At ct _ N2.out.gr RA.out).mono ?_)
       | (with_reducible refine (HM.out At ct _ (N2.out.alloc _).gr (RA.out.below ((Below.refl _ _).alloc (Nat.le_refl _) _))).mono ?_)
      rintro e w3 ⟨v, rfl, ho, hb⟩
      obtain ⟨Ak, ck, rfl, _, _⟩ := Own.reads ho
      have O3 : Hid (Own w3 (w.heap.size + 4) (.slice Ak k0.length ck) k0) := Lib.hid (Own.lower ho (by have := S2.out; first | omega | (simp; omega)))
      have N3 := Lib.hid (by first | exact N2.out.below hb | exact (N2.out.alloc _).below hb)
      have RG3 := Lib.hid (by first | exact Row.below (RG2.out) hb (RG2.out).lt | exact Row.below ((RG2.out.alloc _)) hb ((RG2.out.alloc _)).lt)
      have S3 : Hid (w.heap.size + 4 ≤ w3.heap.size) := Lib.hid (by have h1 := hb.size; have h2 := S2.out; first | omega | (simp at h1; omega))
      first
       | (have KB3 := Lib.hid (Row.below KB2.out hb KB2.out.lt))
       | (have KB3 : Hid (Row w3 w2.heap.size 26 #[I 0, I 0, .slice none 0 0]) := Lib.hid (Row.below (Row.new w2 26 #[I 0, I 0, .slice none 0 0]) hb (by simp)))
       | skip
      have OB3 := Lib.hid ho.row.lt
      clear hb ho)
   | (go_at_call 41
      first
       | (with_reducible refine (HT.out _ N.out.drew.gr).mono ?_)
       | (with_reducible refine (HT.out _ (N.out.drew.alloc _).gr).mono ?_)
       | (with_reducible refine (HT.out _ (N.out.alloc _).drew.gr).mono ?_)
      rintro e w2 ⟨v, rfl, ho, hb⟩
      obtain ⟨At, ct, rfl, _, ra⟩ := Own.reads ho
      have RA := Lib.hid ra
      have N2 := Lib.hid (by first | exact N.out.drew.below hb | exact (N.out.drew.alloc _).below hb | exact (N.out.alloc _).drew.below hb)
      have RG2 := Lib.hid (by first | exact Row.below (RG.out.drew) hb (RG.out.drew).lt | exact Row.below ((RG.out.drew.alloc _)) hb ((RG.out.drew.alloc _)).lt | exact Row.below ((RG.out.alloc _).drew) hb ((RG.out.alloc _).drew).lt)
      have S2 : Hid (w.heap.size + 4 ≤ w2.heap.size) := Lib.hid (by have h1 := hb.size; have h2 := SZ.out; first | omega | (simp at h1; omega))
      first
       | (have KB2 : Hid (Row w2 wr.heap.size 26 #[I 0, I 0, .slice none 0 0]) := Lib.hid (Row.below (Row.new wr.drew 26 #[I 0, I 0, .slice none 0 0]) hb (by simp)))
       | (have KB2 : Hid (Row w2 wr.heap.size 26 #[I 0, I 0, .slice none 0 0]) := Lib.hid (Row.below (Row.new wr 26 #[I 0, I 0, .slice none 0 0]).drew hb (by simp)))
       | skip
      clear hb ra ho))
 all_goals
  show K1 _ _
  have z0 := SZ.out
  have z2 := S2.out
  have z3 := S3.out
  have z4 := S4.out
  have zg := GL.out
  first
   | (refine YC.out _ _ _ _ _ _ _ _ _ _ _ _ _ _ (N4.out.alloc _) (Row.new _ _ _) (O4.out.alloc _) (R4.out.alloc _) (by omega) (fun q hq => ?_)
      have h1 := (O4.out.row.lt q hq).2
      omega)
   | (refine YC.out _ _ _ _ _ _ _ _ _ _ _ _ _ _ (N4.out.gy (by simp; omega) _ _ _) (KB4.out.gy _ _ _) (Own.yE O4.out (fun q hq => ?_) _ _ _) (R4.out.CU (by omega)) (by omega) (fun q hq => ?_)
      all_goals
       have h1 := OB3.out q hq
       first | omega | (simp at h1; omega) | (have h2 := KB2.out.lt; omega))
end Go.Proofs.Ytninmcmajbfccaa.PR

namespace Go.Proofs.Ytninmcmajbfccaa.PR
open Go.RowKit Go.Proofs.Ytninmcmajbfccaa.PQ Go.Proofs.aH.bK Go.Proofs.aH.dG Go.Proofs.aH.dJ Go.Proofs.Ytninmcmajbfccaa.KK
set_option linter.unusedVariables false
set_option linter.unusedSimpArgs false
def tK0 (n : Nat) (lp lh : List Int) : List Int := mulL n n 1 lp (AY 1 n lh)
def tK (n : Nat) (lp lh : List Int) (sv : Int) : List Int := (tK0 n lp lh).map (fun q => (H9 q sv).1)
def tX (n : Nat) (lx lp lh : List Int) (y sv : Int) : List Int := mV oC n 1 lx (oW n 1 (tK n lp lh sv) y)
def tI (n : Nat) (lp lh : List Int) (sv : Int) : List Int := mV sJ n n (rq n) (mulL n 1 n (tK n lp lh sv) lh)
def tKK (n : Nat) (lp lh : List Int) (sv r : Int) : List Int := mulL n 1 n (oW n 1 (tK n lp lh sv) r) (AY n 1 (tK n lp lh sv))
def tP (n : Nat) (lp lh : List Int) (sv r : Int) : List Int := DK n (mV oC n n (rZ n n (tI n lp lh sv) lp) (tKK n lp lh sv r))
def tB (n : Nat) (lx lp lh : List Int) (y sv r : Int) (s : Bool) : Bool :=
 s || Ad n n 1 lp (AY 1 n lh) || (tK0 n lp lh).any (fun q => (H9 q sv).2) || scaleB n 1 (tK n lp lh sv) y || oP oC n 1 lx (oW n 1 (tK n lp lh sv) y) || Ad n 1 n (tK n lp lh sv) lh || oP sJ n n (rq n) (mulL n 1 n (tK n lp lh sv) lh) || yK n n (tI n lp lh sv) lp || scaleB n 1 (tK n lp lh sv) r || Ad n 1 n (oW n 1 (tK n lp lh sv) r) (AY n 1 (tK n lp lh sv)) || oP oC n n (rZ n n (tI n lp lh sv) lp) (tKK n lp lh sv r)
theorem SE (n : Nat) (lx lp lh : List Int) (s : Bool) (y sv r : Int) : Yy n lx lp lh s y sv r (AY 1 n lh) (tK0 n lp lh) (tK n lp lh sv) (oW n 1 (tK n lp lh sv) y) (tX n lx lp lh y sv) (mulL n 1 n (tK n lp lh sv) lh) (tI n lp lh sv) (rZ n n (tI n lp lh sv) lp) (oW n 1 (tK n lp lh sv) r) (AY n 1 (tK n lp lh sv)) (tKK n lp lh sv r) (mV oC n n (rZ n n (tI n lp lh sv) lp) (tKK n lp lh sv r)) (tP n lp lh sv r)
 (Ad n n 1 lp (AY 1 n lh)) ((tK0 n lp lh).any (fun q => (H9 q sv).2)) (scaleB n 1 (tK n lp lh sv) y) (oP oC n 1 lx (oW n 1 (tK n lp lh sv) y)) (Ad n 1 n (tK n lp lh sv) lh) (oP sJ n n (rq n) (mulL n 1 n (tK n lp lh sv) lh)) (yK n n (tI n lp lh sv) lp) (scaleB n 1 (tK n lp lh sv) r) (Ad n 1 n (oW n 1 (tK n lp lh sv) r) (AY n 1 (tK n lp lh sv))) (oP oC n n (rZ n n (tI n lp lh sv) lp) (tKK n lp lh sv r)) :=
 ⟨rfl, rfl, rfl, rfl, rfl, rfl, rfl, rfl, rfl, rfl, rfl, rfl, rfl, rfl, rfl, rfl, rfl, rfl, rfl, rfl, rfl, rfl, rfl⟩
end Go.Proofs.Ytninmcmajbfccaa.PR

