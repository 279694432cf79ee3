import Derived.Test.YtninmcmajbfccaaZ14
/- Joined by a program of this session's own (wip/pack.py) out of its texts; the parts PQ, PR, PS were laid by its own program (wip/print-patch.py over the kit's print) out of the translation; Lean checks all. -/
/- Layer 5: a track behind a measured number: the walk. -/
namespace Go.Proofs.Ytninmcmajbfccaa.PR
open Go.RowKit Go.Proofs.Ytninmcmajbfccaa.PQ Go.Proofs.YtninmcmajbfccaaW.PrintWords Go.Proofs.YtninmcmajbfccaaW.PrintLast Go.Proofs.YtninmcmajbfccaaW.PrintMore Go.Proofs.Ytninmcmajbfccaa.KK
set_option linter.unusedVariables false
set_option linter.unusedSimpArgs false
theorem Own.grown {w w' : World} {base : Nat} {v : Value} {l : List Int} {r : Option Nat} (h : Own w base v l) (hg : w.grownBy w' r) (hr : ∀ k, r = some k → k < base) : Own w' base v l :=
  Own.of_row (own_move h.row fun k hk => hg.block k (h.row.lt k hk).2 (fun e => by have := (h.row.lt k hk).1; have := hr k e.symm; omega))
theorem Sg.fill3 {w w' : World} {g : Nat} {L : List (TypeId × Array Value)} (h : Sg w g L w') {C : Nat} (hC : w.heap.size + L.length ≤ C) (a b c : Value) : Sg w g L (fill3 w' C a b c) :=
  ⟨h.rows.imp fun k t cs _ hk r => r.far3 (by omega), gr_fill3 h.gr (by omega) a b c⟩
theorem Own.fill3' {w : World} {base C : Nat} {v : Value} {l : List Int} (h : Own w base v l) (hne : ∀ q, v.ownBlock = some q → q ≠ C) (a b c : Value) : Own (fill3 w C a b c) base v l :=
  Own.of_row (own_move h.row fun k hk => ((Below.heap_setCell _ _ c k (hne k hk)).trans (Below.heap_setCell _ _ b k (hne k hk))).trans (Below.heap_setCell w ⟨C, 0, none⟩ a k (hne k hk)))
theorem Sg.set {w w' : World} {g : Nat} {L : List (TypeId × Array Value)} (h : Sg w g L w') {p : Addr} (hC : w.heap.size + L.length ≤ p.block) (u : Value) : Sg w g L (w'.setCell p u) :=
  ⟨h.rows.imp fun k t cs _ hk r => r.far (by omega) u, gr_set h.gr (by omega) u⟩
theorem Own.form {w : World} {base : Nat} {A : Option Addr} {c : Nat} {l : List Int} (h : Own w base (.slice A l.length c) l) (hp : 0 < l.length) : ∃ b, A = some ⟨b, 0, none⟩ ∧ base ≤ b := by
  rcases h.row.2 with ⟨_, h0⟩ | ⟨b, cap, cur, he, hb, _⟩
  · omega
  · injection he with e1 _ _
    exact ⟨b, e1, hb⟩
theorem _root_.Go.Proofs.Ytninmcmajbfccaa.KK.Own.drew {w : World} {base : Nat} {v : Value} {l : List Int} (h : KK.Own w base v l) : KK.Own w.drew base v l := h.below (Below.refl _ _).drew
theorem Own.rd {w : World} {base : Nat} {A : Option Addr} {c : Nat} {l : List Int} (h : Own w base (.slice A l.length c) l) : Rd w A l ∧ l.length ≤ c := by
  obtain ⟨A', c', he, hc, hr⟩ := Own.reads h
  injection he with e1 _ e3
  subst e1 e3
  exact ⟨hr, hc⟩
theorem diagL_length (l : List Int) : (diagL l).length = l.length * l.length := upto_length
def divTo (sv : Int) (k0 : List Int) (j : Nat) : List Int := (k0.take j).map (fun q => (dvs q sv).1) ++ k0.drop j
def divB (sv : Int) (k0 : List Int) (j : Nat) : Bool := (k0.take j).any (fun q => (dvs q sv).2)
theorem divTo_length (sv : Int) (k0 : List Int) (j : Nat) (hj : j ≤ k0.length) : (divTo sv k0 j).length = k0.length := by simp [divTo]; omega
theorem divTo_at (sv : Int) (k0 : List Int) (j : Nat) (hj : j < k0.length) : (divTo sv k0 j)[j]? = some (k0.getD j 0) := by
  unfold divTo
  rw [List.getElem?_append_right (by simp; omega)]
  simp only [List.length_map, List.length_take, List.getElem?_drop]
  rw [show min j k0.length = j by omega, Nat.sub_self, Nat.add_zero]
  exact getD_of hj
theorem divTo_set (sv : Int) (k0 : List Int) (j : Nat) (hj : j < k0.length) : (divTo sv k0 j).set j (dvs (k0.getD j 0) sv).1 = divTo sv k0 (j + 1) := by
  unfold divTo
  rw [List.set_append_right _ _ (by simp; omega)]
  simp only [List.length_map, List.length_take]
  rw [show min j k0.length = j by omega, Nat.sub_self, List.take_add_one, getD_of hj, List.map_append, List.append_assoc]
  congr 1
  have hd : k0.drop j = k0.getD j 0 :: k0.drop (j + 1) := by
    rw [List.drop_eq_getElem_cons hj]
    congr 1
    rw [List.getD_eq_getElem?_getD, List.getElem?_eq_getElem hj]; rfl
  rw [hd]
  simp
theorem divB_succ (sv : Int) (k0 : List Int) (j : Nat) (hj : j < k0.length) : divB sv k0 (j + 1) = (divB sv k0 j || (dvs (k0.getD j 0) sv).2) := by
  unfold divB
  rw [List.take_add_one, getD_of hj, List.any_append]
  simp
abbrev fill6 (w : World) (C : Nat) (a b c d e f : Value) : World := (((((w.setCell ⟨C, 0, none⟩ a).setCell ⟨C, 1, none⟩ b).setCell ⟨C, 2, none⟩ c).setCell ⟨C, 3, none⟩ d).setCell ⟨C, 4, none⟩ e).setCell ⟨C, 5, none⟩ f
theorem Row.fill6 {w : World} {B : Nat} {t : TypeId} {a' b' c' d' e' f' : Value} (h : Row w B t #[a', b', c', d', e', f']) (a b c d e f : Value) : Row (fill6 w B a b c d e f) B t #[a, b, c, d, e, f] := by
  simpa using (((((h.set 0 a).set 1 b).set 2 c).set 3 d).set 4 e).set 5 f
theorem Row.far6 {w : World} {B C : Nat} {t : TypeId} {cs : Array Value} (h : Row w B t cs) (hne : B ≠ C) (a b c d e f : Value) : Row (PR.fill6 w C a b c d e f) B t cs :=
  (((((h.far (p := ⟨C, 0, none⟩) hne a).far (p := ⟨C, 1, none⟩) hne b).far (p := ⟨C, 2, none⟩) hne c).far (p := ⟨C, 3, none⟩) hne d).far (p := ⟨C, 4, none⟩) hne e).far (p := ⟨C, 5, none⟩) hne f
theorem gr_fill6 {w w' : World} {r : Option Nat} (h : w.grownBy w' r) {C : Nat} (hp : w.heap.size ≤ C) (a b c d e f : Value) : w.grownBy (PR.fill6 w' C a b c d e f) r :=
  gr_set (gr_set (gr_set (gr_set (gr_set (gr_set h (p := ⟨C, 0, none⟩) hp a) (p := ⟨C, 1, none⟩) hp b) (p := ⟨C, 2, none⟩) hp c) (p := ⟨C, 3, none⟩) hp d) (p := ⟨C, 4, none⟩) hp e) (p := ⟨C, 5, none⟩) hp f
theorem Own.fill6 {w : World} {base C : Nat} {v : Value} {l : List Int} (h : Own w base v l) (hp : C < base) (a b c d e f : Value) : Own (PR.fill6 w C a b c d e f) base v l :=
  (((((h.far (p := ⟨C, 0, none⟩) hp a).far (p := ⟨C, 1, none⟩) hp b).far (p := ⟨C, 2, none⟩) hp c).far (p := ⟨C, 3, none⟩) hp d).far (p := ⟨C, 4, none⟩) hp e).far (p := ⟨C, 5, none⟩) hp f
theorem res6 {w : World} {B : Nat} {a b c d e f : Value} {fn : Func} {k : Nat} {tmps : Array Value} (h : fn.results = #[.cell k 28]) (hk : tmps.getD k undef = .pointer (some ⟨B, 0, none⟩)) (R : Row w B 28 #[a, b, c, d, e, f]) :
    (results fn tmps).run Try.prog w = .ok (.agg #[a, b, c, d, e, f]) w := by
  have c := R.cell
  have hk' : tmps[k]?.getD undef = .pointer (some ⟨B, 0, none⟩) := by simpa using hk
  simp only [results, h]
  simp [go_sem, hk', c]
structure Track (n : Nat) (lx lp lh : List Int) (s : Bool) (y sv r : Int) (ht k0 k sy x kh ik p1 sr tk kk p2 P : List Int) (b1 b2 b3 b4 b5 b6 b7 b8 b9 b10 : Bool) : Prop where
  eht : trL 1 n lh = ht
  ek0 : mulL n n 1 lp ht = k0
  eb1 : mulB n n 1 lp ht = b1
  ek : k0.map (fun q => (dvs q sv).1) = k
  eb2 : k0.any (fun q => (dvs q sv).2) = b2
  esy : scaleL n 1 k y = sy
  eb3 : scaleB n 1 k y = b3
  ex : eachL addZ n 1 lx sy = x
  eb4 : eachB addZ n 1 lx sy = b4
  ekh : mulL n 1 n k lh = kh
  eb5 : mulB n 1 n k lh = b5
  eik : eachL subZ n n (eyeL n) kh = ik
  eb6 : eachB subZ n n (eyeL n) kh = b6
  ep1 : betweenL n n ik lp = p1
  eb7 : betweenB n n ik lp = b7
  esr : scaleL n 1 k r = sr
  eb8 : scaleB n 1 k r = b8
  etk : trL n 1 k = tk
  ekk : mulL n 1 n sr tk = kk
  eb9 : mulB n 1 n sr tk = b9
  ep2 : eachL addZ n n p1 kk = p2
  eb10 : eachB addZ n n p1 kk = b10
  eP : goodL n p2 = P
set_option maxRecDepth 100000 in
set_option maxHeartbeats 20000000 in
theorem taken_calls (w0 w : World) (g n : Nat) (s : Bool) (y sv r : Int) (A1 A2 A3 : Option Addr) (c1 c2 c3 : Nat) (lx lp lh : List Int) (ht k0 k sy x kh ik p1 sr tk kk p2 P : List Int) (b1 b2 b3 b4 b5 b6 b7 b8 b9 b10 : Bool)
    (h1 : 1 ≤ n) (h8 : n ≤ 8) (hx : lx.length = n * 1) (hp : lp.length = n * n) (hh : lh.length = 1 * n) (T : Track n lx lp lh s y sv r ht k0 k sy x kh ik p1 sr tk kk p2 P b1 b2 b3 b4 b5 b6 b7 b8 b9 b10)
    (R : Row w g 77 #[.bool s]) (hg : w0.heap.size ≤ g) (hB : Below w0.heap.size w0 w) (rx : Rd w A1 lx) (cx : lx.length ≤ c1) (fx : ∀ ad, A1 = some ad → 0 < lx.length → ad.block ≠ g) (rp : Rd w A2 lp) (cp : lp.length ≤ c2) (fp : ∀ ad, A2 = some ad → 0 < lp.length → ad.block ≠ g) (rh : Rd w A3 lh) (ch : lh.length ≤ c3) (fh : ∀ ad, A3 = some ad → 0 < lh.length → ad.block ≠ g) :
    Calls Try.prog 36 #[.pointer (some ⟨g, 0, none⟩), .agg #[I n, I 1, .slice A1 lx.length c1, I n, I n, .slice A2 lp.length c2], .agg #[I 1, I n, .slice A3 lh.length c3], I y, I sv, I r] w fun e w' => ∃ Ax dx Ap dp, e = .returned (.agg #[I n, I 1, .slice Ax x.length dx, I n, I n, .slice Ap P.length dp]) ∧ Own w' w.heap.size (.slice Ax x.length dx) x ∧ Own w' w.heap.size (.slice Ap P.length dp) P ∧ (∀ k, (Value.slice Ax x.length dx).ownBlock = some k → (Value.slice Ap P.length dp).ownBlock ≠ some k) ∧ Row w' g 77 #[.bool (s || b1 || b2 || b3 || b4 || b5 || b6 || b7 || b8 || b9 || b10)] ∧ w.grownBy w' (some g) := by
  have hgl := R.lt
  have N : Hid (Sg w g [(75, #[.pointer (some ⟨g, 0, none⟩)]), (28, #[I n, I 1, .slice A1 lx.length c1, I n, I n, .slice A2 lp.length c2]), (26, #[I 1, I n, .slice A3 lh.length c3]), (28, #[I 0, I 0, .slice none 0 0, I 0, I 0, .slice none 0 0])] ((((w.alloc (.cells #[.pointer (some ⟨g, 0, none⟩)] 75)).alloc (.cells #[I n, I 1, .slice A1 lx.length c1, I n, I n, .slice A2 lp.length c2] 28)).alloc (.cells #[I 1, I n, .slice A3 lh.length c3] 26)).alloc (.cells #[I 0, I 0, .slice none 0 0, I 0, I 0, .slice none 0 0] 28))) := Lib.hid (Sg.of (((((Scene.none w).push (by simp) _ _).push (by simp) _ _).push (by simp) _ _).push (by simp) _ _))
  have RG := Lib.hid ((((R.alloc (.cells #[.pointer (some ⟨g, 0, none⟩)] 75)).alloc (.cells #[I n, I 1, .slice A1 lx.length c1, I n, I n, .slice A2 lp.length c2] 28)).alloc (.cells #[I 1, I n, .slice A3 lh.length c3] 26)).alloc (.cells #[I 0, I 0, .slice none 0 0, I 0, I 0, .slice none 0 0] 28))
  have hlt : ht.length = n * 1 := by rw [← T.eht, trL_length]
  have HT := Lib.hid (fun w' (h : w.grownBy w' (some g)) => trans_calls 1 n A3 c3 lh w' (by omega) h8 hh (rh.touch h fh))
  rw [T.eht] at HT
  have HM := Lib.hid (fun At ct w' (h : w.grownBy w' (some g)) (ha : Rd w' At ht) => mat_mul n n 1 A2 At c2 ct lp ht w' h8 h8 (by omega) hp hlt (rp.touch h fp) ha)
  rw [T.ek0, T.eb1] at HM
  have eo : ((1 : Nat) : Int) = 1 := rfl
  simp only [eo] at HT HM
  have KK : Hid (∀ w', Sg w g [(75, #[.pointer (some ⟨g, 0, none⟩)]), (28, #[I n, I 1, .slice A1 lx.length c1, I n, I n, .slice A2 lp.length c2]), (26, #[I 1, I n, .slice A3 lh.length c3]), (28, #[I 0, I 0, .slice none 0 0, I 0, I 0, .slice none 0 0])] w' → (∀ o, w'.cell? ⟨w.heap.size, o, none⟩ = #[.pointer (some ⟨g, 0, none⟩)][o]?) ∧ (∀ o, w'.cell? ⟨w.heap.size + 1, o, none⟩ = #[I n, I 1, .slice A1 lx.length c1, I n, I n, .slice A2 lp.length c2][o]?) ∧ (∀ o, w'.cell? ⟨w.heap.size + 1 + 1, o, none⟩ = #[I 1, I n, .slice A3 lh.length c3][o]?)) := Lib.hid (fun w' h => ⟨h.r0.cell, h.r1.cell, h.r2.cell⟩)
  have GL := Lib.hid hgl
  have HK0 : Hid (k0.length = n * 1) := Lib.hid (by rw [← T.ek0, mulL_length])
  have HH := Lib.hid (And.intro h1 h8)
  have HT2 := Lib.hid T
  have TX := Lib.hid (fun w' (h : w.grownBy w' (some g)) => rx.touch h fx)
  have CX := Lib.hid cx
  have HX := Lib.hid hx
  have TP := Lib.hid (fun w' (h : w.grownBy w' (some g)) => rp.touch h fp)
  have CP := Lib.hid cp
  have FP := Lib.hid fp
  have HP := Lib.hid hp
  have TH := Lib.hid (fun w' (h : w.grownBy w' (some g)) => rh.touch h fh)
  have HHL := Lib.hid hh
  have HG0 := Lib.hid hg
  have HB0 := Lib.hid hB
  clear hgl hlt R hg hB rx cx fx rp cp fp rh ch fh h1 h8 hx hp hh T
  have y0 := N.out.r0.cell
  have y1 := N.out.r1.cell
  have y2 := N.out.r2.cell
  have SZ : Hid (((((w.alloc (.cells #[.pointer (some ⟨g, 0, none⟩)] 75)).alloc (.cells #[I n, I 1, .slice A1 lx.length c1, I n, I n, .slice A2 lp.length c2] 28)).alloc (.cells #[I 1, I n, .slice A3 lh.length c3] 26)).alloc (.cells #[I 0, I 0, .slice none 0 0, I 0, I 0, .slice none 0 0] 28)).heap.size = w.heap.size + 4) := Lib.hid (by simp)
  go_enter Try.func36, Try.ntmps36
  go_wp2_with fail
  rename_i K1 aK1
  obtain ⟨wr, hwr⟩ : ∃ wr, ((((w.alloc (.cells #[.pointer (some ⟨g, 0, none⟩)] 75)).alloc (.cells #[I n, I 1, .slice A1 lx.length c1, I n, I n, .slice A2 lp.length c2] 28)).alloc (.cells #[I 1, I n, .slice A3 lh.length c3] 26)).alloc (.cells #[I 0, I 0, .slice none 0 0, I 0, I 0, .slice none 0 0] 28)) = wr := ⟨_, rfl⟩
  rw [hwr] at N RG y0 y1 y2 SZ
  change Code.wp Try.prog _ _ _ ((((w.alloc (.cells #[.pointer (some ⟨g, 0, none⟩)] 75)).alloc (.cells #[I n, I 1, .slice A1 lx.length c1, I n, I n, .slice A2 lp.length c2] 28)).alloc (.cells #[I 1, I n, .slice A3 lh.length c3] 26)).alloc (.cells #[I 0, I 0, .slice none 0 0, I 0, I 0, .slice none 0 0] 28))
  rw [hwr]
  clear hwr
  have REST1 : Hid (∀ (kb : Nat) (w5 : World) (Ak : Option Addr) (ck : Nat) (v22 v23 v24 v25 v26 v27 v28 v29 v30 v31 : Value), Sg w g [(75, #[.pointer (some ⟨g, 0, none⟩)]), (28, #[I n, I 1, .slice A1 lx.length c1, I n, I n, .slice A2 lp.length c2]), (26, #[I 1, I n, .slice A3 lh.length c3]), (28, #[I 0, I 0, .slice none 0 0, I 0, I 0, .slice none 0 0])] w5 → Row w5 kb 26 #[I n, I 1, .slice Ak k0.length ck] → Own w5 (w.heap.size + 4) (.slice Ak k0.length ck) k0 → Row w5 g 77 #[.bool (s || b1)] → w.heap.size + 4 ≤ kb → (∀ q, (Value.slice Ak k0.length ck).ownBlock = some q → q ≠ kb) → K1 { tmps := #[.pointer (some ⟨g, 0, none⟩), .agg #[I n, I 1, .slice A1 lx.length c1, I n, I n, .slice A2 lp.length c2], .agg #[I 1, I n, .slice A3 lh.length c3], I y, I sv, I r, .pointer (some ⟨w.heap.size, 0, none⟩), .pointer (some ⟨w.heap.size + 1, 0, none⟩), .pointer (some ⟨w.heap.size + 1 + 1, 0, none⟩), undef, undef, undef, .pointer (some ⟨w.heap.size + 1 + 1 + 1, 0, none⟩), .pointer (some ⟨kb, 0, none⟩), undef, undef, undef, undef, undef, undef, undef, undef, v22, v23, v24, v25, v26, v27, v28, v29, v30, v31, undef, undef, undef, undef, undef, undef, undef, undef, undef, undef, undef, undef, undef, undef, undef, undef, undef, undef, undef, undef, undef, undef, undef, undef, undef, undef, undef, undef, undef, undef, undef, undef, undef, undef, undef, undef, undef, undef, undef, undef, undef, undef, undef, undef, undef, undef, undef, undef, undef, undef, undef, undef, undef, undef, undef, undef, undef, undef, undef, undef, undef, undef, undef, undef, undef, undef, undef, undef, undef, undef, undef, undef, undef, undef, undef, undef, undef, undef, undef, undef, undef], defers := [] } w5) := Lib.hid (by
    as_aux_lemma =>
    intro kb w5 Ak ck v22 v23 v24 v25 v26 v27 v28 v29 v30 v31 hN hkb hO hR hge hne
    refine aK1 _ _ ?_
    have hpos : 0 < k0.length := by have := HK0.out; have := HH.out.1; omega
    obtain ⟨bk, rfl, hbk⟩ := Own.form hO hpos
    have hkl : k0.length ≤ 8 := by have := HK0.out; have := HH.out.2; omega
    have HNE : Hid (bk ≠ kb) := Lib.hid (hne bk rfl)
    have HBK := Lib.hid hbk
    have HKB := Lib.hid hge
    have HKL := Lib.hid hkl
    have HPS := Lib.hid hpos
    have O0 : Hid (w5.ownsRow (w.heap.size + 4) 22 1 (.slice (some ⟨bk, 0, none⟩) k0.length ck) k0.length ((divTo sv k0 0).map I)) := Lib.hid (by have := hO.row; simpa [divTo] using this)
    have N5 := Lib.hid hN
    have KB5 := Lib.hid hkb
    have R5 : Hid (Row w5 g 77 #[.bool (s || b1 || divB sv k0 0)]) := Lib.hid (by simpa [divB] using hR)
    have x0 := hkb.cell
    clear hN hkb hO hR hge hne hbk hkl hpos y0 y1 y2 N RG
    go_wp2_with fail
    go_loopw [35] (fun jj wr => ∃ j : Nat, j ≤ k0.length ∧ jj = .int .i64 j ∧ Hid (Sg w g [(75, #[.pointer (some ⟨g, 0, none⟩)]), (28, #[I n, I 1, .slice A1 lx.length c1, I n, I n, .slice A2 lp.length c2]), (26, #[I 1, I n, .slice A3 lh.length c3]), (28, #[I 0, I 0, .slice none 0 0, I 0, I 0, .slice none 0 0])] wr) ∧ Hid (Row wr kb 26 #[I n, I 1, .slice (some ⟨bk, 0, none⟩) k0.length ck]) ∧ Hid (wr.ownsRow (w.heap.size + 4) 22 1 (.slice (some ⟨bk, 0, none⟩) k0.length ck) k0.length ((divTo sv k0 j).map I)) ∧ Hid (Row wr g 77 #[.bool (s || b1 || divB sv k0 j)])) (fun jj _ => k0.length - (intOf jj).toNat)
    case atStart => exact ⟨0, by omega, rfl, N5, KB5, O0, R5⟩
    case round =>
      clear x0 N5 KB5 O0 R5
      obtain ⟨j, hj, rfl, N5, KB5, O5, R5⟩ := hrel
      have x0 := KB5.out.cell
      have x1 := N5.out.r0.cell
      by_cases hjk : j = k0.length
      · subst hjk
        have ek : divTo sv k0 k0.length = k := by rw [← HT2.out.ek]; unfold divTo; rw [List.take_length, List.drop_length, List.append_nil]
        have ekl : k0.length = k.length := by rw [← HT2.out.ek]; simp
        have eb : divB sv k0 k0.length = b2 := by rw [← HT2.out.eb2]; unfold divB; rw [List.take_length]
        rw [ek] at O5
        rw [eb] at R5
        have OK : Hid (Own wr (w.heap.size + 4) (.slice (some ⟨bk, 0, none⟩) k.length ck) k) := Lib.hid (Own.of_row (by rw [← ekl]; exact O5.out))
        have HK1 : Hid (k.length = n * 1) := Lib.hid (by rw [← ekl]; exact HK0.out)
        have y1 := N5.out.r1.cell
        have y2 := N5.out.r2.cell
        clear ek eb O5 hj
        go_wp2_with fail
        rename_i K8 aK8
        rw [ekl] at KB5 x0
        have REST8 : Hid (∀ (kx : Nat) (w5 : World) (Ax : Option Addr) (dx : Nat) (v14 v15 v22 v23 v24 v25 v26 v27 v28 v29 v30 v31 v32 v33 v34 v35 v36 v37 v38 v39 v40 v41 v42 v43 v44 v45 v46 v47 v48 v49 v50 v51 v52 v53 v54 v55 v56 v57 v58 v59 v60 v61 v62 v63 : Value), Sg w g [(75, #[.pointer (some ⟨g, 0, none⟩)]), (28, #[I n, I 1, .slice A1 lx.length c1, I n, I n, .slice A2 lp.length c2]), (26, #[I 1, I n, .slice A3 lh.length c3]), (28, #[I 0, I 0, .slice none 0 0, I 0, I 0, .slice none 0 0])] w5 → Row w5 kb 26 #[I n, I 1, .slice (some ⟨bk, 0, none⟩) k.length ck] → Own w5 (w.heap.size + 4) (.slice (some ⟨bk, 0, none⟩) k.length ck) k → Row w5 kx 26 #[I n, I 1, .slice Ax x.length dx] → Own w5 (w.heap.size + 4) (.slice Ax x.length dx) x → Row w5 g 77 #[.bool (s || b1 || b2 || b3 || b4)] → w.heap.size + 4 ≤ kx → (∀ q, (Value.slice Ax x.length dx).ownBlock = some q → q ≠ kx) → K8 { tmps := #[.pointer (some ⟨g, 0, none⟩), .agg #[I n, I 1, .slice A1 lx.length c1, I n, I n, .slice A2 lp.length c2], .agg #[I 1, I n, .slice A3 lh.length c3], I y, I sv, I r, .pointer (some ⟨w.heap.size, 0, none⟩), .pointer (some ⟨w.heap.size + 1, 0, none⟩), .pointer (some ⟨w.heap.size + 1 + 1, 0, none⟩), undef, undef, undef, .pointer (some ⟨w.heap.size + 1 + 1 + 1, 0, none⟩), .pointer (some ⟨kb, 0, none⟩), v14, v15, .func (.func 68) #[] #[.pointer (some ⟨kb, 0, none⟩), .pointer (some ⟨w.heap.size, 0, none⟩)], .pointer (some ⟨kx, 0, none⟩), undef, undef, undef, undef, v22, v23, v24, v25, v26, v27, v28, v29, v30, v31, v32, v33, v34, v35, v36, v37, v38, v39, v40, v41, v42, v43, v44, v45, v46, v47, v48, v49, v50, v51, v52, v53, v54, v55, v56, v57, v58, v59, v60, v61, v62, v63, undef, undef, undef, undef, undef, undef, undef, undef, undef, undef, undef, undef, undef, undef, undef, undef, undef, undef, undef, undef, undef, undef, undef, undef, undef, undef, undef, undef, undef, undef, undef, undef, undef, undef, undef, undef, undef, undef, undef, undef, undef, undef, undef, undef, undef, undef, undef, undef, undef], defers := [] } w5) := Lib.hid (by
          as_aux_lemma =>
          intro kx w5 Ax dx v14 v15 v22 v23 v24 v25 v26 v27 v28 v29 v30 v31 v32 v33 v34 v35 v36 v37 v38 v39 v40 v41 v42 v43 v44 v45 v46 v47 v48 v49 v50 v51 v52 v53 v54 v55 v56 v57 v58 v59 v60 v61 v62 v63 hN hkb hK hkx hX hR hge hne
          refine aK8 _ _ ?_
          have N9 := Lib.hid hN
          have KB9 := Lib.hid hkb
          have OK9 := Lib.hid hK
          have KX9 := Lib.hid hkx
          have OX9 := Lib.hid hX
          have R9 := Lib.hid hR
          have GX := Lib.hid hge
          have y1 := hN.r1.cell
          clear hN hkb hK hkx hX hR hge hne x0 x1 y2 N5 KB5 OK R5
          go_wp2_with fail
          refine (eye_calls n _ HH.out.1 HH.out.2).mono ?_
          rintro e w6 ⟨v, rfl, ho, hb⟩
          obtain ⟨Ae, ce, rfl, _, _⟩ := Own.reads ho
          have N10 := Lib.hid ((N9.out.below hb).alloc (.cells #[I n, I n, .slice Ae (eyeL n).length ce] 26))
          have KB10 := Lib.hid ((KB9.out.below hb KB9.out.lt).alloc (.cells #[I n, I n, .slice Ae (eyeL n).length ce] 26))
          have KX10 := Lib.hid ((KX9.out.below hb KX9.out.lt).alloc (.cells #[I n, I n, .slice Ae (eyeL n).length ce] 26))
          have OK10 := Lib.hid ((OK9.out.below hb).alloc (.cells #[I n, I n, .slice Ae (eyeL n).length ce] 26))
          have OX10 := Lib.hid ((OX9.out.below hb).alloc (.cells #[I n, I n, .slice Ae (eyeL n).length ce] 26))
          have R10 := Lib.hid ((R9.out.below hb R9.out.lt).alloc (.cells #[I n, I n, .slice Ae (eyeL n).length ce] 26))
          have OE10 : Hid (Own (w6.alloc (.cells #[I n, I n, .slice Ae (eyeL n).length ce] 26)) (w.heap.size + 4) (.slice Ae (eyeL n).length ce) (eyeL n)) := Lib.hid (Own.lower (ho.alloc _) (by have h1 := N9.out.rows.le N9.out.gr.size; simpa using h1))
          have KE10 := Lib.hid (Row.new w6 26 #[I n, I n, .slice Ae (eyeL n).length ce])
          have GE : Hid (w.heap.size + 4 ≤ w6.heap.size) := Lib.hid (by have h1 := N9.out.rows.le N9.out.gr.size; have h2 := hb.size; simp at h1; omega)
          clear ho hb y1
          go_wp2_with fail
          rename_i K10 aK10
          obtain ⟨wt, hwt⟩ : ∃ wt, w6.alloc (.cells #[I n, I n, .slice Ae (eyeL n).length ce] 26) = wt := ⟨_, rfl⟩
          rw [hwt] at N10 KB10 KX10 OK10 OX10 R10 OE10 KE10
          change Code.wp Try.prog _ _ _ (w6.alloc (.cells #[I n, I n, .slice Ae (eyeL n).length ce] 26))
          rw [hwt]
          clear hwt
          clear N9 KB9 OK9 KX9 OX9 R9
          have REST10 : Hid (∀ (kp : Nat) (w5 : World) (Ai : Option Addr) (di : Nat) (v14 v15 v18 v19 v22 v23 v24 v25 v26 v27 v28 v29 v30 v31 v32 v33 v34 v35 v36 v37 v38 v39 v40 v41 v42 v43 v44 v45 v46 v47 v48 v49 v50 v51 v52 v53 v54 v55 v56 v57 v58 v59 v60 v61 v62 v63 v64 v65 v66 v67 v68 v69 v70 v71 v72 v73 v74 v75 v76 v77 v78 v79 v80 v81 v82 v83 v84 v85 : Value), Sg w g [(75, #[.pointer (some ⟨g, 0, none⟩)]), (28, #[I n, I 1, .slice A1 lx.length c1, I n, I n, .slice A2 lp.length c2]), (26, #[I 1, I n, .slice A3 lh.length c3]), (28, #[I 0, I 0, .slice none 0 0, I 0, I 0, .slice none 0 0])] w5 → Row w5 kb 26 #[I n, I 1, .slice (some ⟨bk, 0, none⟩) k.length ck] → Own w5 (w.heap.size + 4) (.slice (some ⟨bk, 0, none⟩) k.length ck) k → Row w5 kx 26 #[I n, I 1, .slice Ax x.length dx] → Own w5 (w.heap.size + 4) (.slice Ax x.length dx) x → Row w5 kp 26 #[I n, I n, .slice Ai ik.length di] → Own w5 (w.heap.size + 4) (.slice Ai ik.length di) ik → Row w5 g 77 #[.bool (s || b1 || b2 || b3 || b4 || b5 || b6)] → w.heap.size + 4 ≤ kp → K10 { tmps := #[.pointer (some ⟨g, 0, none⟩), .agg #[I n, I 1, .slice A1 lx.length c1, I n, I n, .slice A2 lp.length c2], .agg #[I 1, I n, .slice A3 lh.length c3], I y, I sv, I r, .pointer (some ⟨w.heap.size, 0, none⟩), .pointer (some ⟨w.heap.size + 1, 0, none⟩), .pointer (some ⟨w.heap.size + 1 + 1, 0, none⟩), undef, undef, undef, .pointer (some ⟨w.heap.size + 1 + 1 + 1, 0, none⟩), .pointer (some ⟨kb, 0, none⟩), v14, v15, .func (.func 68) #[] #[.pointer (some ⟨kb, 0, none⟩), .pointer (some ⟨w.heap.size, 0, none⟩)], .pointer (some ⟨kx, 0, none⟩), v18, v19, .pointer (some ⟨kp, 0, none⟩), undef, v22, v23, v24, v25, v26, v27, v28, v29, v30, v31, v32, v33, v34, v35, v36, v37, v38, v39, v40, v41, v42, v43, v44, v45, v46, v47, v48, v49, v50, v51, v52, v53, v54, v55, v56, v57, v58, v59, v60, v61, v62, v63, v64, v65, v66, v67, v68, v69, v70, v71, v72, v73, v74, v75, v76, v77, v78, v79, v80, v81, v82, v83, v84, v85, undef, undef, undef, undef, undef, undef, undef, undef, undef, undef, undef, undef, undef, undef, undef, undef, undef, undef, undef, undef, undef, undef, undef, undef, undef, undef, undef], defers := [] } w5) := Lib.hid (by
            as_aux_lemma =>
            intro kp w5 Ai di v14 v15 v18 v19 v22 v23 v24 v25 v26 v27 v28 v29 v30 v31 v32 v33 v34 v35 v36 v37 v38 v39 v40 v41 v42 v43 v44 v45 v46 v47 v48 v49 v50 v51 v52 v53 v54 v55 v56 v57 v58 v59 v60 v61 v62 v63 v64 v65 v66 v67 v68 v69 v70 v71 v72 v73 v74 v75 v76 v77 v78 v79 v80 v81 v82 v83 v84 v85 hN hkb hK hkx hX hkp hI hR hge
            refine aK10 _ _ ?_
            have hIf : ∀ ad, Ai = some ad → 0 < ik.length → ad.block ≠ g := fun ad e _ => by
              subst e
              have h1 := (hI.row.lt ad.block rfl).1
              have h2 := GL.out
              omega
            have B48 := Lib.hid (between48 w0 w5 g (s || b1 || b2 || b3 || b4 || b5 || b6) n n Ai di ik n n A2 c2 lp n n p1 (s || b1 || b2 || b3 || b4 || b5 || b6 || b7) hR HG0.out (below_of HB0.out HG0.out hN.gr) (Own.rd hI).1 (Own.rd hI).2 hIf (TP.out _ hN.gr) CP.out FP.out (by rw [between_some _ n n ik lp HH.out.2 HH.out.2 (by rw [← HT2.out.eik]; exact upto_length) HP.out, HT2.out.ep1, HT2.out.eb7]))
            have N19 := Lib.hid hN
            have KB19 := Lib.hid hkb
            have OK19 := Lib.hid hK
            have KX19 := Lib.hid hkx
            have OX19 := Lib.hid hX
            have x0 := hN.r0.cell
            have x1 := hN.r1.cell
            have x4 := hkp.cell
            clear hN hkb hK hkx hX hkp hI hR hge hIf N10 KB10 KX10 OK10 OX10 R10 OE10 KE10
            go_wp2_with fail
            refine B48.out.mono ?_
            rintro e w7 ⟨Ap, dp, rfl, ho, hr, hg⟩
            have N20 := Lib.hid ((N19.out.touch hg GL.out).alloc (.cells #[I n, I n, .slice Ap p1.length dp] 26))
            have KB20 := Lib.hid ((Row.grown KB19.out hg (by have h1 := GL.out; have h2 := HKB.out; simp; omega)).alloc (.cells #[I n, I n, .slice Ap p1.length dp] 26))
            have KX20 := Lib.hid ((Row.grown KX19.out hg (by have h1 := GL.out; have h2 := GX.out; simp; omega)).alloc (.cells #[I n, I n, .slice Ap p1.length dp] 26))
            have OK20 := Lib.hid ((Own.touch OK19.out hg (by have h1 := GL.out; omega)).alloc (.cells #[I n, I n, .slice Ap p1.length dp] 26))
            have OX20 := Lib.hid ((Own.touch OX19.out hg (by have h1 := GL.out; omega)).alloc (.cells #[I n, I n, .slice Ap p1.length dp] 26))
            have OP20 : Hid (Own (w7.alloc (.cells #[I n, I n, .slice Ap p1.length dp] 26)) (w.heap.size + 4) (.slice Ap p1.length dp) p1) := Lib.hid (Own.lower (ho.alloc _) (by have h1 := N19.out.rows.le N19.out.gr.size; simpa using h1))
            have KQ20 := Lib.hid (Row.new w7 26 #[I n, I n, .slice Ap p1.length dp])
            have R20 := Lib.hid (Row.alloc hr (.cells #[I n, I n, .slice Ap p1.length dp] 26))
            have GQ : Hid (w.heap.size + 4 ≤ w7.heap.size) := Lib.hid (by have h1 := N19.out.rows.le N19.out.gr.size; have h2 := hg.size; simp at h1; omega)
            have KX20b : Hid (kx < w7.heap.size) := Lib.hid (Row.grown KX19.out hg (by have h1 := GL.out; have h2 := GX.out; simp; omega)).lt
            have HXO : Hid (∀ q, (Value.slice Ax x.length dx).ownBlock = some q → q ≠ w7.heap.size) := Lib.hid (fun q hq => by have h1 := ((Own.touch OX19.out hg (by have h1 := GL.out; omega)).row.lt q hq).2; omega)
            clear ho hr hg x0 x1 x4 N19 KB19 OK19 KX19 OX19
            go_wp2_with fail
            obtain ⟨ws, hws⟩ : ∃ ws, w7.alloc (.cells #[I n, I n, .slice Ap p1.length dp] 26) = ws := ⟨_, rfl⟩
            rw [hws] at N20 KB20 KX20 OK20 OX20 OP20 KQ20 R20
            change Code.wp Try.prog _ _ _ (w7.alloc (.cells #[I n, I n, .slice Ap p1.length dp] 26))
            rw [hws]
            clear hws
            have U20 : Hid (w7.heap.size < ws.heap.size) := Lib.hid KQ20.out.lt
            have UB : Hid (kb < ws.heap.size ∧ kx < ws.heap.size ∧ bk < ws.heap.size) := Lib.hid ⟨KB20.out.lt, KX20.out.lt, (OK20.out.row.lt bk rfl).2⟩
            have HXQ : Hid (kx ≠ w7.heap.size) := Lib.hid (by have h1 := KX20b.out; omega)
            have KT : Hid (∀ w', Sg w g [(75, #[.pointer (some ⟨g, 0, none⟩)]), (28, #[I n, I 1, .slice A1 lx.length c1, I n, I n, .slice A2 lp.length c2]), (26, #[I 1, I n, .slice A3 lh.length c3]), (28, #[I 0, I 0, .slice none 0 0, I 0, I 0, .slice none 0 0])] w' → Row w' kb 26 #[I n, I 1, .slice (some ⟨bk, 0, none⟩) k.length ck] → Row w' w7.heap.size 26 #[I n, I n, .slice Ap p1.length dp] → ((∀ o, w'.cell? ⟨w.heap.size, o, none⟩ = #[.pointer (some ⟨g, 0, none⟩)][o]?) ∧ (∀ o, w'.cell? ⟨w.heap.size + 1, o, none⟩ = #[I n, I 1, .slice A1 lx.length c1, I n, I n, .slice A2 lp.length c2][o]?) ∧ (∀ o, w'.cell? ⟨w.heap.size + 1 + 1, o, none⟩ = #[I 1, I n, .slice A3 lh.length c3][o]?)) ∧ (∀ o, w'.cell? ⟨kb, o, none⟩ = #[I n, I 1, .slice (some ⟨bk, 0, none⟩) k.length ck][o]?) ∧ (∀ o, w'.cell? ⟨w7.heap.size, o, none⟩ = #[I n, I n, .slice Ap p1.length dp][o]?)) := Lib.hid (fun w' h h1 h2 => ⟨⟨h.r0.cell, h.r1.cell, h.r2.cell⟩, h1.cell, h2.cell⟩)
            have S68r := Lib.hid (fun w' (o : Own w' (w.heap.size + 4) (.slice (some ⟨bk, 0, none⟩) k.length ck) k) rk rp rg => scaled_calls g kb w.heap.size n (s || b1 || b2 || b3 || b4 || b5 || b6 || b7) (some ⟨bk, 0, none⟩) ck k r w' HH.out.2 HK1.out (Own.rd o).1 (Own.rd o).2 rk rp rg)
            rw [HT2.out.esr, HT2.out.eb8] at S68r
            have T41 := Lib.hid (fun w' (o : Own w' (w.heap.size + 4) (.slice (some ⟨bk, 0, none⟩) k.length ck) k) => trans_calls n 1 (some ⟨bk, 0, none⟩) ck k w' HH.out.2 (by omega) HK1.out (Own.rd o).1)
            rw [HT2.out.etk] at T41
            have M46 := Lib.hid (fun Aa ca Ab cb w' (o : Own w' (w.heap.size + 4) (.slice Aa sr.length ca) sr) (o' : Own w' (w.heap.size + 4) (.slice Ab tk.length cb) tk) => mat_mul n 1 n Aa Ab ca cb sr tk w' HH.out.2 (by omega) HH.out.2 (by rw [← HT2.out.esr]; exact upto_length) (by rw [← HT2.out.etk]; exact upto_length) (Own.rd o).1 (Own.rd o').1)
            rw [HT2.out.ekk, HT2.out.eb9] at M46
            have A47n := Lib.hid (fun Ab cb w' (o : Own w' (w.heap.size + 4) (.slice Ap p1.length dp) p1) (o' : Own w' (w.heap.size + 4) (.slice Ab kk.length cb) kk) => mat_add n n Ap Ab dp cb p1 kk w' HH.out.2 HH.out.2 (by rw [← HT2.out.ep1]; exact upto_length) (by rw [← HT2.out.ekk]; exact upto_length) (Own.rd o).1 (Own.rd o').1 (Own.rd o).2 (Own.rd o').2)
            rw [HT2.out.ep2, HT2.out.eb10] at A47n
            simp only [eo] at S68r T41 M46
            refine region_until (S := (fun w' => ((∀ o, w'.cell? ⟨w.heap.size, o, none⟩ = #[.pointer (some ⟨g, 0, none⟩)][o]?) ∧ (∀ o, w'.cell? ⟨w.heap.size + 1, o, none⟩ = #[I n, I 1, .slice A1 lx.length c1, I n, I n, .slice A2 lp.length c2][o]?) ∧ (∀ o, w'.cell? ⟨w.heap.size + 1 + 1, o, none⟩ = #[I 1, I n, .slice A3 lh.length c3][o]?)) ∧ (∀ o, w'.cell? ⟨kb, o, none⟩ = #[I n, I 1, .slice (some ⟨bk, 0, none⟩) k.length ck][o]?) ∧ (∀ o, w'.cell? ⟨w7.heap.size, o, none⟩ = #[I n, I n, .slice Ap p1.length dp][o]?))) 18 (by kernel_rfl) (KT.out _ N20.out.drew KB20.out.drew KQ20.out.drew) (fun hHeld => ?_)
            refine Until.take (i := 0) (oi := _) (v := ?u1) rfl (by kernel_rfl) (by kernel_rfl) (by kernel_rfl) (by kernel_rfl) (by kernel_rfl) (fun _ _ _ h => h) (Or.inl ⟨by rfl, ?hu1⟩) hHeld ?_
            case hu1 =>
              intro w' hSw
              (try dsimp only at hSw)
              simp only [List.getElem_toArray, List.getElem_cons_succ, List.getElem_cons_zero]
              go_simp
              (try with_reducible rfl)
            change Until _ _ _ _ _ _ _ _ (Act.put _ (some 91) _) _
            simp only [Act.put, List.setIfInBounds_toArray, List.set_cons_zero, List.set_cons_succ]
            refine Until.take (i := 1) (oi := _) (v := ?u2) rfl (by kernel_rfl) (by kernel_rfl) (by kernel_rfl) (by kernel_rfl) (by kernel_rfl) (fun _ _ _ h => h) (Or.inl ⟨by rfl, ?hu2⟩) hHeld ?_
            case hu2 =>
              intro w' hSw
              (try dsimp only at hSw)
              simp only [List.getElem_toArray, List.getElem_cons_succ, List.getElem_cons_zero]
              go_simp
              (try with_reducible rfl)
            change Until _ _ _ _ _ _ _ _ (Act.put _ (some 92) _) _
            simp only [Act.put, List.setIfInBounds_toArray, List.set_cons_zero, List.set_cons_succ]
            refine Until.take (i := 2) (oi := _) (v := ?u3) rfl (by kernel_rfl) (by kernel_rfl) (by kernel_rfl) (by kernel_rfl) (by kernel_rfl) (fun _ _ _ h => h) (Or.inl ⟨by rfl, ?hu3⟩) hHeld ?_
            case hu3 =>
              intro w' hSw
              (try dsimp only at hSw)
              simp only [List.getElem_toArray, List.getElem_cons_succ, List.getElem_cons_zero]
              go_simp
              (try with_reducible rfl)
            change Until _ _ _ _ _ _ _ _ (Act.put _ (some 93) _) _
            simp only [Act.put, List.setIfInBounds_toArray, List.set_cons_zero, List.set_cons_succ]
            refine Until.take (i := 3) (oi := _) (v := ?u4) rfl (by kernel_rfl) (by kernel_rfl) (by kernel_rfl) (by kernel_rfl) (by kernel_rfl) (fun _ _ _ h => h) (Or.inl ⟨by rfl, ?hu4⟩) hHeld ?_
            case hu4 =>
              intro w' hSw
              (try dsimp only at hSw)
              simp only [List.getElem_toArray, List.getElem_cons_succ, List.getElem_cons_zero]
              go_simp
              (try with_reducible rfl)
            change Until _ _ _ _ _ _ _ _ (Act.put _ (some 94) _) _
            simp only [Act.put, List.setIfInBounds_toArray, List.set_cons_zero, List.set_cons_succ]
            refine Until.take (i := 4) (oi := _) (v := ?u5) rfl (by kernel_rfl) (by kernel_rfl) (by kernel_rfl) (by kernel_rfl) (by kernel_rfl) (fun _ _ _ h => h) (Or.inl ⟨by rfl, ?hu5⟩) hHeld ?_
            case hu5 =>
              intro w' hSw
              (try dsimp only at hSw)
              simp only [List.getElem_toArray, List.getElem_cons_succ, List.getElem_cons_zero]
              go_simp
              (try with_reducible rfl)
            change Until _ _ _ _ _ _ _ _ (Act.put _ (some 95) _) _
            simp only [Act.put, List.setIfInBounds_toArray, List.set_cons_zero, List.set_cons_succ]
            refine Until.take (i := 6) (oi := _) (v := ?u6) rfl (by kernel_rfl) (by kernel_rfl) (by kernel_rfl) (by kernel_rfl) (by kernel_rfl) (fun _ _ _ h => h) (Or.inl ⟨by rfl, ?hu6⟩) hHeld ?_
            case hu6 =>
              intro w' hSw
              (try dsimp only at hSw)
              simp only [List.getElem_toArray, List.getElem_cons_succ, List.getElem_cons_zero]
              go_simp
              (try with_reducible rfl)
            change Until _ _ _ _ _ _ _ _ (Act.put _ (some 97) _) _
            simp only [Act.put, List.setIfInBounds_toArray, List.set_cons_zero, List.set_cons_succ]
            refine Until.one (i := 5) (o := _) (by kernel_rfl) rfl (fun K hK => ?_)
            go_simp
            refine (S68r.out _ OK20.out.drew KB20.out.drew N20.out.drew.r0 R20.out.drew).mono ?_
            rintro e w21 ⟨As, cs, rfl, ho, hr, hg⟩
            have OS21 : Hid (Own w21 (w.heap.size + 4) (.slice As sr.length cs) sr) := Lib.hid (Own.lower ho (by have h1 := U20.out; have h2 := GQ.out; first | omega | (simp; omega)))
            have R21 := Lib.hid hr
            have N21 := Lib.hid (N20.out.drew.touch hg GL.out)
            have KB21 := Lib.hid (Row.grown KB20.out.drew hg (by have h1 := GL.out; have h2 := HKB.out; have h3 := GX.out; have h4 := GQ.out; simp; omega))
            have KX21 := Lib.hid (Row.grown KX20.out.drew hg (by have h1 := GL.out; have h2 := HKB.out; have h3 := GX.out; have h4 := GQ.out; simp; omega))
            have KQ21 := Lib.hid (Row.grown KQ20.out.drew hg (by have h1 := GL.out; have h2 := HKB.out; have h3 := GX.out; have h4 := GQ.out; simp; omega))
            have OK21 := Lib.hid (Own.touch OK20.out.drew hg (by have h1 := GL.out; omega))
            have OX21 := Lib.hid (Own.touch OX20.out.drew hg (by have h1 := GL.out; omega))
            have OP21 := Lib.hid (Own.touch OP20.out.drew hg (by have h1 := GL.out; omega))
            have U21 : Hid (ws.heap.size ≤ w21.heap.size) := Lib.hid (by have h1 := hg.size; have h2 := U20.out; first | omega | (simp at h1; omega))
            clear ho hr hg
            go_wp2_with fail
            clear hHeld
            have hHeld := KT.out _ N21.out KB21.out KQ21.out
            refine hK.out _ _ (fun _ => hHeld) ?_
            clear hK K
            try simp only [Act.put, List.setIfInBounds_toArray, List.set_cons_zero, List.set_cons_succ]
            refine Until.one (i := 7) (o := _) (by kernel_rfl) rfl (fun K hK => ?_)
            go_simp
            refine (T41.out _ OK21.out).mono ?_
            rintro e w22 ⟨v, rfl, ho, hb⟩
            obtain ⟨At2, ct2, rfl, _, _⟩ := Own.reads ho
            have OT22 : Hid (Own w22 (w.heap.size + 4) (.slice At2 tk.length ct2) tk) := Lib.hid (Own.lower ho (by have h1 := U21.out; have h2 := GQ.out; first | omega | (have h3 := U20.out; omega) | (have h3 := U20.out; simp; omega)))
            have R22 := Lib.hid (Row.below R21.out hb R21.out.lt)
            have N22 := Lib.hid (N21.out.below hb)
            have KB22 := Lib.hid (Row.below KB21.out hb KB21.out.lt)
            have KX22 := Lib.hid (Row.below KX21.out hb KX21.out.lt)
            have KQ22 := Lib.hid (Row.below KQ21.out hb KQ21.out.lt)
            have OX22 := Lib.hid (OX21.out.below hb)
            have OP22 := Lib.hid (OP21.out.below hb)
            have OS22 := Lib.hid (OS21.out.below hb)
            have U22 : Hid (ws.heap.size ≤ w22.heap.size) := Lib.hid (by have h1 := hb.size; have h2 := U21.out; first | omega | (simp at h1; omega))
            clear ho hb
            go_wp2_with fail
            clear hHeld
            have hHeld := KT.out _ N22.out KB22.out KQ22.out
            refine hK.out _ _ (fun _ => hHeld) ?_
            clear hK K
            try simp only [Act.put, List.setIfInBounds_toArray, List.set_cons_zero, List.set_cons_succ]
            refine Until.one (i := 8) (o := _) (by kernel_rfl) rfl (fun K hK => ?_)
            go_simp
            refine (M46.out _ _ _ _ _ OS22.out OT22.out).mono ?_
            rintro e w23 ⟨v, rfl, ho, hb⟩
            obtain ⟨Ak2, ck2, rfl, _, _⟩ := Own.reads ho
            have OZ23 : Hid (Own w23 (w.heap.size + 4) (.slice Ak2 kk.length ck2) kk) := Lib.hid (Own.lower ho (by have h1 := U22.out; have h2 := GQ.out; first | omega | (have h3 := U20.out; omega) | (have h3 := U20.out; simp; omega)))
            have R23 := Lib.hid (Row.below R22.out hb R22.out.lt)
            have N23 := Lib.hid (N22.out.below hb)
            have KB23 := Lib.hid (Row.below KB22.out hb KB22.out.lt)
            have KX23 := Lib.hid (Row.below KX22.out hb KX22.out.lt)
            have KQ23 := Lib.hid (Row.below KQ22.out hb KQ22.out.lt)
            have OX23 := Lib.hid (OX22.out.below hb)
            have OP23 := Lib.hid (OP22.out.below hb)
            have U23 : Hid (ws.heap.size ≤ w23.heap.size) := Lib.hid (by have h1 := hb.size; have h2 := U22.out; first | omega | (simp at h1; omega))
            clear ho hb
            go_wp2_with fail
            clear hHeld
            have hHeld := KT.out _ N23.out KB23.out KQ23.out
            refine hK.out _ _ (fun _ => hHeld) ?_
            clear hK K
            try simp only [Act.put, List.setIfInBounds_toArray, List.set_cons_zero, List.set_cons_succ]
            refine Until.take (i := 9) (oi := _) (v := ?u7) rfl (by kernel_rfl) (by kernel_rfl) (by kernel_rfl) (by kernel_rfl) (by kernel_rfl) (fun _ _ _ h => h) (Or.inl ⟨by rfl, ?hu7⟩) hHeld ?_
            case hu7 =>
              intro w' hSw
              (try dsimp only at hSw)
              simp only [List.getElem_toArray, List.getElem_cons_succ, List.getElem_cons_zero]
              go_simp
              (try with_reducible rfl)
            change Until _ _ _ _ _ _ _ _ (Act.put _ (some 100) _) _
            simp only [Act.put, List.setIfInBounds_toArray, List.set_cons_zero, List.set_cons_succ]
            refine Until.take (i := 10) (oi := _) (v := ?u8) rfl (by kernel_rfl) (by kernel_rfl) (by kernel_rfl) (by kernel_rfl) (by kernel_rfl) (fun _ _ _ h => h) (Or.inl ⟨by rfl, ?hu8⟩) hHeld ?_
            case hu8 =>
              intro w' hSw
              (try dsimp only at hSw)
              simp only [List.getElem_toArray, List.getElem_cons_succ, List.getElem_cons_zero]
              go_simp
              (try with_reducible rfl)
            change Until _ _ _ _ _ _ _ _ (Act.put _ (some 101) _) _
            simp only [Act.put, List.setIfInBounds_toArray, List.set_cons_zero, List.set_cons_succ]
            refine Until.take (i := 11) (oi := _) (v := ?u9) rfl (by kernel_rfl) (by kernel_rfl) (by kernel_rfl) (by kernel_rfl) (by kernel_rfl) (fun _ _ _ h => h) (Or.inl ⟨by rfl, ?hu9⟩) hHeld ?_
            case hu9 =>
              intro w' hSw
              (try dsimp only at hSw)
              simp only [List.getElem_toArray, List.getElem_cons_succ, List.getElem_cons_zero]
              go_simp
              (try with_reducible rfl)
            change Until _ _ _ _ _ _ _ _ (Act.put _ (some 102) _) _
            simp only [Act.put, List.setIfInBounds_toArray, List.set_cons_zero, List.set_cons_succ]
            refine Until.one (i := 12) (o := _) (by kernel_rfl) rfl (fun K hK => ?_)
            go_simp
            refine (mat45 g (s || b1 || b2 || b3 || b4 || b5 || b6 || b7 || b8) b9 n n 0 Ak2 kk.length ck2 _ R23.out).mono ?_
            rintro e w24 ⟨rfl, hr, hg⟩
            have R24 := Lib.hid hr
            have N24 := Lib.hid (N23.out.touch hg GL.out)
            have KB24 := Lib.hid (Row.grown KB23.out hg (by have h1 := GL.out; have h2 := HKB.out; have h3 := GX.out; have h4 := GQ.out; simp; omega))
            have KX24 := Lib.hid (Row.grown KX23.out hg (by have h1 := GL.out; have h2 := HKB.out; have h3 := GX.out; have h4 := GQ.out; simp; omega))
            have KQ24 := Lib.hid (Row.grown KQ23.out hg (by have h1 := GL.out; have h2 := HKB.out; have h3 := GX.out; have h4 := GQ.out; simp; omega))
            have OX24 := Lib.hid (Own.touch OX23.out hg (by have h1 := GL.out; omega))
            have OP24 := Lib.hid (Own.touch OP23.out hg (by have h1 := GL.out; omega))
            have OZ24 := Lib.hid (Own.touch OZ23.out hg (by have h1 := GL.out; omega))
            have U24 : Hid (ws.heap.size ≤ w24.heap.size) := Lib.hid (by have h1 := hg.size; have h2 := U23.out; first | omega | (simp at h1; omega))
            clear hr hg
            go_wp2_with fail
            clear hHeld
            have hHeld := KT.out _ N24.out KB24.out KQ24.out
            refine hK.out _ _ (fun _ => hHeld) ?_
            clear hK K
            try simp only [Act.put, List.setIfInBounds_toArray, List.set_cons_zero, List.set_cons_succ]
            refine Until.one (i := 13) (o := _) (by kernel_rfl) rfl (fun K hK => ?_)
            go_simp
            refine (A47n.out _ _ _ OP24.out OZ24.out).mono ?_
            rintro e w25 ⟨v, rfl, ho, hb⟩
            obtain ⟨A2p, c2p, rfl, _, _⟩ := Own.reads ho
            have OQ25 : Hid (Own w25 (w.heap.size + 4) (.slice A2p p2.length c2p) p2) := Lib.hid (Own.lower ho (by have h1 := U24.out; have h2 := GQ.out; first | omega | (have h3 := U20.out; omega) | (have h3 := U20.out; simp; omega)))
            have OB25 := Lib.hid ho.row.lt
            have R25 := Lib.hid (Row.below R24.out hb R24.out.lt)
            have N25 := Lib.hid (N24.out.below hb)
            have KB25 := Lib.hid (Row.below KB24.out hb KB24.out.lt)
            have KX25 := Lib.hid (Row.below KX24.out hb KX24.out.lt)
            have KQ25 := Lib.hid (Row.below KQ24.out hb KQ24.out.lt)
            have OX25 := Lib.hid (OX24.out.below hb)
            have U25 : Hid (ws.heap.size ≤ w25.heap.size) := Lib.hid (by have h1 := hb.size; have h2 := U24.out; first | omega | (simp at h1; omega))
            clear ho hb
            go_wp2_with fail
            clear hHeld
            have hHeld := KT.out _ N25.out KB25.out KQ25.out
            refine hK.out _ _ (fun _ => hHeld) ?_
            clear hK K
            try simp only [Act.put, List.setIfInBounds_toArray, List.set_cons_zero, List.set_cons_succ]
            refine Until.take (i := 14) (oi := _) (v := ?u10) rfl (by kernel_rfl) (by kernel_rfl) (by kernel_rfl) (by kernel_rfl) (by kernel_rfl) (fun _ _ _ h => h) (Or.inl ⟨by rfl, ?hu10⟩) hHeld ?_
            case hu10 =>
              intro w' hSw
              (try dsimp only at hSw)
              simp only [List.getElem_toArray, List.getElem_cons_succ, List.getElem_cons_zero]
              go_simp
              (try with_reducible rfl)
            change Until _ _ _ _ _ _ _ _ (Act.put _ (some 105) _) _
            simp only [Act.put, List.setIfInBounds_toArray, List.set_cons_zero, List.set_cons_succ]
            refine Until.take (i := 15) (oi := _) (v := ?u11) rfl (by kernel_rfl) (by kernel_rfl) (by kernel_rfl) (by kernel_rfl) (by kernel_rfl) (fun _ _ _ h => h) (Or.inl ⟨by rfl, ?hu11⟩) hHeld ?_
            case hu11 =>
              intro w' hSw
              (try dsimp only at hSw)
              simp only [List.getElem_toArray, List.getElem_cons_succ, List.getElem_cons_zero]
              go_simp
              (try with_reducible rfl)
            change Until _ _ _ _ _ _ _ _ (Act.put _ (some 106) _) _
            simp only [Act.put, List.setIfInBounds_toArray, List.set_cons_zero, List.set_cons_succ]
            refine Until.take (i := 16) (oi := _) (v := ?u12) rfl (by kernel_rfl) (by kernel_rfl) (by kernel_rfl) (by kernel_rfl) (by kernel_rfl) (fun _ _ _ h => h) (Or.inl ⟨by rfl, ?hu12⟩) hHeld ?_
            case hu12 =>
              intro w' hSw
              (try dsimp only at hSw)
              simp only [List.getElem_toArray, List.getElem_cons_succ, List.getElem_cons_zero]
              go_simp
              (try with_reducible rfl)
            change Until _ _ _ _ _ _ _ _ (Act.put _ (some 107) _) _
            simp only [Act.put, List.setIfInBounds_toArray, List.set_cons_zero, List.set_cons_succ]
            refine Until.one (i := 17) (o := _) (by kernel_rfl) rfl (fun K hK => ?_)
            go_simp
            refine (mat45 g (s || b1 || b2 || b3 || b4 || b5 || b6 || b7 || b8 || b9) b10 n n 0 A2p p2.length c2p _ R25.out).mono ?_
            rintro e w26 ⟨rfl, hr, hg⟩
            have R26 := Lib.hid hr
            have N26 := Lib.hid (N25.out.touch hg GL.out)
            have KB26 := Lib.hid (Row.grown KB25.out hg (by have h1 := GL.out; have h2 := HKB.out; have h3 := GX.out; have h4 := GQ.out; simp; omega))
            have KX26 := Lib.hid (Row.grown KX25.out hg (by have h1 := GL.out; have h2 := HKB.out; have h3 := GX.out; have h4 := GQ.out; simp; omega))
            have KQ26 := Lib.hid (Row.grown KQ25.out hg (by have h1 := GL.out; have h2 := HKB.out; have h3 := GX.out; have h4 := GQ.out; simp; omega))
            have OX26 := Lib.hid (Own.touch OX25.out hg (by have h1 := GL.out; omega))
            have OQ26 := Lib.hid (Own.touch OQ25.out hg (by have h1 := GL.out; omega))
            have U26 : Hid (ws.heap.size ≤ w26.heap.size) := Lib.hid (by have h1 := hg.size; have h2 := U25.out; first | omega | (simp at h1; omega))
            have kc := KQ26.out.cell
            have kf := KQ26.out.free
            clear hr hg
            go_wp2_with fail
            clear hHeld
            have hHeld := KT.out _ N26.out KB26.out KQ26.out
            refine hK.out _ _ (fun _ => hHeld) ?_
            clear hK K
            try simp only [Act.put, List.setIfInBounds_toArray, List.set_cons_zero, List.set_cons_succ]
            refine Until.one (i := 18) (o := _) (by kernel_rfl) rfl (fun K hK => ?_)
            go_simp
            refine hK.out _ _ (fun h => Bool.noConfusion (show true = false from h)) ?_
            clear hK K hHeld
            try simp only [Act.put, List.setIfInBounds_toArray, List.set_cons_zero, List.set_cons_succ]
            refine Until.done (by kernel_rfl) ?_ _
            refine NoPanic.normal ?_
            have N27 := Lib.hid (N26.out.fill3 (C := w7.heap.size) (by have h1 := GQ.out; simpa using h1) (I n) (I n) (.slice A2p p2.length c2p))
            have KX27 : Hid (Row (fill3 w26 w7.heap.size (I n) (I n) (.slice A2p p2.length c2p)) kx 26 #[I n, I 1, .slice Ax x.length dx]) := Lib.hid (KX26.out.far3 HXQ.out)
            have KQ27 := Lib.hid (KQ26.out.fill3 (I n) (I n) (.slice A2p p2.length c2p))
            have OX27 := Lib.hid (Own.fill3' OX26.out HXO.out (I n) (I n) (.slice A2p p2.length c2p))
            have OQ27 := Lib.hid (Own.fill3' OQ26.out (C := w7.heap.size) (fun q hq => by have h1 := (OB25.out q hq).1; have h2 := U24.out; have h3 := U20.out; omega) (I n) (I n) (.slice A2p p2.length c2p))
            have R27 := Lib.hid (R26.out.far3 (C := w7.heap.size) (by have h1 := GL.out; have h2 := GQ.out; omega) (a := I n) (b := I n) (c := .slice A2p p2.length c2p))
            go_wp2_with fail
            change Code.wp Try.prog _ _ _ (fill3 w26 w7.heap.size (I n) (I n) (.slice A2p p2.length c2p))
            have UW : Hid (ws.heap.size ≤ (fill3 w26 w7.heap.size (I n) (I n) (.slice A2p p2.length c2p)).heap.size) := Lib.hid (by have h1 := U26.out; simpa using h1)
            obtain ⟨w27, hw27⟩ : ∃ w27, fill3 w26 w7.heap.size (I n) (I n) (.slice A2p p2.length c2p) = w27 := ⟨_, rfl⟩
            rw [hw27] at N27 KX27 KQ27 OX27 OQ27 R27 UW ⊢
            clear hw27 kc kf
            have KU : Hid (∀ w', Row w' kx 26 #[I n, I 1, .slice Ax x.length dx] → Row w' w7.heap.size 26 #[I n, I n, .slice A2p p2.length c2p] → (∀ o, w'.cell? ⟨kx, o, none⟩ = #[I n, I 1, .slice Ax x.length dx][o]?) ∧ (∀ o, w'.cell? ⟨w7.heap.size, o, none⟩ = #[I n, I n, .slice A2p p2.length c2p][o]?)) := Lib.hid (fun w' h1 h2 => ⟨h1.cell, h2.cell⟩)
            have G15 := Lib.hid (fun w' (o : Own w' (w.heap.size + 4) (.slice A2p p2.length c2p) p2) => good_calls n A2p c2p p2 w' HH.out.2 (by rw [← HT2.out.ep2]; exact upto_length) (Own.rd o).1 (Own.rd o).2)
            rw [HT2.out.eP] at G15
            go_region_held3 (fun w' => (∀ o, w'.cell? ⟨kx, o, none⟩ = #[I n, I 1, .slice Ax x.length dx][o]?) ∧ (∀ o, w'.cell? ⟨w7.heap.size, o, none⟩ = #[I n, I n, .slice A2p p2.length c2p][o]?))
              (first | with_reducible exact KU.out _ KX28.out KQ28.out | with_reducible exact KU.out _ KX27.out.drew KQ27.out.drew | exact KU.out _ (Row.far6 KX28.out (C := w.heap.size + 1 + 1 + 1) (by have h1 := GX.out; omega) _ _ _ _ _ _) (Row.far6 KQ28.out (C := w.heap.size + 1 + 1 + 1) (by have h1 := GQ.out; omega) _ _ _ _ _ _))
              (first
                | (go_at_call 15
                   refine (G15.out _ OQ27.out.drew).mono ?_
                   rintro e w28 ⟨Ag, cg, rfl, ho, hb⟩
                   have OG28 := Lib.hid ho
                   have N28 := Lib.hid (N27.out.drew.below hb)
                   have KX28 := Lib.hid (Row.below KX27.out.drew hb KX27.out.lt)
                   have KQ28 := Lib.hid (Row.below KQ27.out.drew hb KQ27.out.lt)
                   have OX28 := Lib.hid (OX27.out.drew.below hb)
                   have R28 := Lib.hid (Row.below R27.out.drew hb R27.out.lt)
                   have OB28 := Lib.hid ho.row.lt
                   have OXB : Hid (∀ q, (Value.slice Ax x.length dx).ownBlock = some q → q < w27.heap.size) := Lib.hid (fun q hq => (OX27.out.row.lt q hq).2)
                   have x3 := N28.out.r3.cell
                   have g3 := N28.out.r3.free
                   clear ho hb))
            go_wp2
            have zg := GL.out
            have z7 := GQ.out
            have zu := U20.out
            have zw := UW.out
            have zd : w27.drew.heap.size = w27.heap.size := rfl
            refine bodyPost_ret (res6 rfl rfl (Row.fill6 N28.out.r3 _ _ _ _ _ _)) rfl ⟨_, _, _, _, rfl, ?_, ?_, ?_, Row.far6 R28.out (by omega) _ _ _ _ _ _, gr_fill6 N28.out.gr (by omega) _ _ _ _ _ _⟩
            · exact (Own.fill6 OX28.out (by omega) _ _ _ _ _ _).lower (by omega)
            · exact (Own.fill6 OG28.out (by omega) _ _ _ _ _ _).lower (by omega)
            · intro q hq e
              have h1 := OXB.out q hq
              have h2 := (OB28.out q e).1
              omega)
          clear aK10
          have UT : Hid (w.heap.size + 4 ≤ wt.heap.size ∧ kb < wt.heap.size ∧ kx < wt.heap.size ∧ bk < wt.heap.size ∧ w6.heap.size < wt.heap.size) := Lib.hid ⟨by have h1 := N10.out.rows.le N10.out.gr.size; simpa using h1, KB10.out.lt, KX10.out.lt, (OK10.out.row.lt bk rfl).2, KE10.out.lt⟩
          have UX : Hid (∀ q, (Value.slice Ax x.length dx).ownBlock = some q → q < wt.heap.size) := Lib.hid (fun q hq => (OX10.out.row.lt q hq).2)
          have A46 := Lib.hid (fun w' (h : w.grownBy w' (some g)) (o : Own w' (w.heap.size + 4) (.slice (some ⟨bk, 0, none⟩) k.length ck) k) => mat_mul n 1 n (some ⟨bk, 0, none⟩) A3 ck c3 k lh w' HH.out.2 (by omega) HH.out.2 HK1.out HHL.out (Own.rd o).1 (TH.out _ h))
          rw [HT2.out.ekh, HT2.out.eb5] at A46
          have A71 := Lib.hid (fun A' c' w' (o : Own w' (w.heap.size + 4) (.slice Ae (eyeL n).length ce) (eyeL n)) (o' : Own w' (w.heap.size + 4) (.slice A' kh.length c') kh) hc' => mat_sub n n Ae A' ce c' (eyeL n) kh w' HH.out.2 HH.out.2 (by unfold eyeL; rw [diagL_length]; simp) (by rw [← HT2.out.ekh]; exact mulL_length _ _ _ _ _) (Own.rd o).1 (Own.rd o').1 (Own.rd o).2 hc')
          rw [HT2.out.eik, HT2.out.eb6] at A71
          simp only [eo] at A46
          have KS : Hid (∀ w', Sg w g [(75, #[.pointer (some ⟨g, 0, none⟩)]), (28, #[I n, I 1, .slice A1 lx.length c1, I n, I n, .slice A2 lp.length c2]), (26, #[I 1, I n, .slice A3 lh.length c3]), (28, #[I 0, I 0, .slice none 0 0, I 0, I 0, .slice none 0 0])] w' → Row w' kb 26 #[I n, I 1, .slice (some ⟨bk, 0, none⟩) k.length ck] → Row w' w6.heap.size 26 #[I n, I n, .slice Ae (eyeL n).length ce] → ((∀ o, w'.cell? ⟨w.heap.size, o, none⟩ = #[.pointer (some ⟨g, 0, none⟩)][o]?) ∧ (∀ o, w'.cell? ⟨w.heap.size + 1, o, none⟩ = #[I n, I 1, .slice A1 lx.length c1, I n, I n, .slice A2 lp.length c2][o]?) ∧ (∀ o, w'.cell? ⟨w.heap.size + 1 + 1, o, none⟩ = #[I 1, I n, .slice A3 lh.length c3][o]?)) ∧ (∀ o, w'.cell? ⟨kb, o, none⟩ = #[I n, I 1, .slice (some ⟨bk, 0, none⟩) k.length ck][o]?) ∧ (∀ o, w'.cell? ⟨w6.heap.size, o, none⟩ = #[I n, I n, .slice Ae (eyeL n).length ce][o]?)) := Lib.hid (fun w' h h1 h2 => ⟨⟨h.r0.cell, h.r1.cell, h.r2.cell⟩, h1.cell, h2.cell⟩)
          go_region_held3 (fun w' => ((∀ o, w'.cell? ⟨w.heap.size, o, none⟩ = #[.pointer (some ⟨g, 0, none⟩)][o]?) ∧ (∀ o, w'.cell? ⟨w.heap.size + 1, o, none⟩ = #[I n, I 1, .slice A1 lx.length c1, I n, I n, .slice A2 lp.length c2][o]?) ∧ (∀ o, w'.cell? ⟨w.heap.size + 1 + 1, o, none⟩ = #[I 1, I n, .slice A3 lh.length c3][o]?)) ∧ (∀ o, w'.cell? ⟨kb, o, none⟩ = #[I n, I 1, .slice (some ⟨bk, 0, none⟩) k.length ck][o]?) ∧ (∀ o, w'.cell? ⟨w6.heap.size, o, none⟩ = #[I n, I n, .slice Ae (eyeL n).length ce][o]?))
            (first | with_reducible exact KS.out _ N14.out KB14.out KE14.out | with_reducible exact KS.out _ (N14.out.alloc _) (KB14.out.alloc _) (KE14.out.alloc _) | with_reducible exact KS.out _ N13.out KB13.out KE13.out | with_reducible exact KS.out _ (N13.out.alloc _) (KB13.out.alloc _) (KE13.out.alloc _) | with_reducible exact KS.out _ N12.out KB12.out KE12.out | with_reducible exact KS.out _ (N12.out.alloc _) (KB12.out.alloc _) (KE12.out.alloc _) | with_reducible exact KS.out _ N11.out KB11.out KE11.out | with_reducible exact KS.out _ (N11.out.alloc _) (KB11.out.alloc _) (KE11.out.alloc _) | with_reducible exact KS.out _ (N10.out.drew) (KB10.out.drew) (KE10.out.drew) | with_reducible exact KS.out _ (N10.out.drew.alloc _) (KB10.out.drew.alloc _) (KE10.out.drew.alloc _) | with_reducible exact KS.out _ ((N10.out.alloc _).drew) ((KB10.out.alloc _).drew) ((KE10.out.alloc _).drew) | exact KS.out _ (N14.out.fill3 (by have h1 := UT.out; have h2 := U11.out; have h3 := U12.out; have h4 := U13.out; have h5 := U14.out; have h6 := GE.out; simp; omega) _ _ _) (KB14.out.far3 (by have h1 := UT.out; have h2 := U11.out; have h3 := U12.out; have h4 := U13.out; have h5 := U14.out; omega)) (KE14.out.far3 (by have h1 := UT.out; have h2 := U11.out; have h3 := U12.out; have h4 := U13.out; have h5 := U14.out; omega)))
            (first
              | (go_at_call 45
                 first
                   | (with_reducible refine (mat45 g (s || b1 || b2 || b3 || b4 || b5) b6 n n 0 Ai ik.length di _ R13.out).mono ?_)
                   | (with_reducible refine (mat45 g (s || b1 || b2 || b3 || b4 || b5) b6 n n 0 Ai ik.length di _ (R13.out.alloc _)).mono ?_)
                 rintro e w14 ⟨rfl, hr, hg⟩
                 have R14 := Lib.hid hr
                 have N14 := Lib.hid (by first | exact N13.out.touch hg GL.out | exact (N13.out.alloc _).touch hg GL.out)
                 have KB14 := Lib.hid (by first | exact Row.grown (KB13.out) hg (by have h1 := GL.out; have h2 := HKB.out; have h3 := GX.out; have h4 := GE.out; simp; omega) | exact Row.grown ((KB13.out.alloc _)) hg (by have h1 := GL.out; have h2 := HKB.out; have h3 := GX.out; have h4 := GE.out; simp; omega))
                 have KX14 := Lib.hid (by first | exact Row.grown (KX13.out) hg (by have h1 := GL.out; have h2 := HKB.out; have h3 := GX.out; have h4 := GE.out; simp; omega) | exact Row.grown ((KX13.out.alloc _)) hg (by have h1 := GL.out; have h2 := HKB.out; have h3 := GX.out; have h4 := GE.out; simp; omega))
                 have KE14 := Lib.hid (by first | exact Row.grown (KE13.out) hg (by have h1 := GL.out; have h2 := HKB.out; have h3 := GX.out; have h4 := GE.out; simp; omega) | exact Row.grown ((KE13.out.alloc _)) hg (by have h1 := GL.out; have h2 := HKB.out; have h3 := GX.out; have h4 := GE.out; simp; omega))
                 have OK14 := Lib.hid (by first | exact Own.touch (OK13.out) hg (by have h1 := GL.out; omega) | exact Own.touch ((OK13.out.alloc _)) hg (by have h1 := GL.out; omega))
                 have OX14 := Lib.hid (by first | exact Own.touch (OX13.out) hg (by have h1 := GL.out; omega) | exact Own.touch ((OX13.out.alloc _)) hg (by have h1 := GL.out; omega))
                 have OI14 := Lib.hid (by first | exact Own.touch (OI13.out) hg (by have h1 := GL.out; omega) | exact Own.touch ((OI13.out.alloc _)) hg (by have h1 := GL.out; omega))
                 have U14 : Hid (wt.heap.size ≤ w14.heap.size ∧ w13.heap.size ≤ w14.heap.size) := Lib.hid (by have h1 := hg.size; have h2 := U13.out; first | omega | (simp at h1; omega))
                 first
                   | (have KP14 := Lib.hid (Row.grown KP13.out hg (by have h1 := GL.out; have h4 := GE.out; have h5 := UT.out; have h6 := U13.out; have h7 := U12.out; have h8 := U11.out; simp; omega))
                      have kc := KP14.out.cell
                      have kf := KP14.out.free)
                   | (have KP14 : Hid (Row w14 w13.heap.size 26 #[I 0, I 0, .slice none 0 0]) := Lib.hid (Row.grown (Row.new w13 26 #[I 0, I 0, .slice none 0 0]) hg (by have h1 := GL.out; have h4 := GE.out; have h5 := UT.out; have h6 := U13.out; have h7 := U12.out; have h8 := U11.out; simp; omega))
                      have kc := KP14.out.cell
                      have kf := KP14.out.free)
                   | skip
                 clear hr hg)
              | (go_at_call 71
                 first
                   | (with_reducible refine (A71.out _ _ _ OE12.out OH12.out CH11.out).mono ?_)
                   | (with_reducible refine (A71.out _ _ _ (OE12.out.alloc _) (OH12.out.alloc _) CH11.out).mono ?_)
                 rintro e w13 ⟨v, rfl, ho, hb⟩
                 obtain ⟨Ai, di, rfl, _, _⟩ := Own.reads ho
                 have OI13 : Hid (Own w13 (w.heap.size + 4) (.slice Ai ik.length di) ik) := Lib.hid (Own.lower ho (by have h1 := UT.out; have h4 := GE.out; have h5 := U12.out; first | omega | (simp; omega)))
                 have OB13 := Lib.hid ho.row.lt
                 have N13 := Lib.hid (by first | exact N12.out.below hb | exact (N12.out.alloc _).below hb)
                 have KB13 := Lib.hid (by first | exact Row.below (KB12.out) hb (KB12.out).lt | exact Row.below ((KB12.out.alloc _)) hb ((KB12.out.alloc _)).lt)
                 have KX13 := Lib.hid (by first | exact Row.below (KX12.out) hb (KX12.out).lt | exact Row.below ((KX12.out.alloc _)) hb ((KX12.out.alloc _)).lt)
                 have KE13 := Lib.hid (by first | exact Row.below (KE12.out) hb (KE12.out).lt | exact Row.below ((KE12.out.alloc _)) hb ((KE12.out.alloc _)).lt)
                 have OK13 := Lib.hid (by first | exact OK12.out.below hb | exact (OK12.out.alloc _).below hb)
                 have OX13 := Lib.hid (by first | exact OX12.out.below hb | exact (OX12.out.alloc _).below hb)
                 have R13 := Lib.hid (by first | exact Row.below (R12.out) hb (R12.out).lt | exact Row.below ((R12.out.alloc _)) hb ((R12.out.alloc _)).lt)
                 have U13 : Hid (wt.heap.size ≤ w13.heap.size ∧ w12.heap.size ≤ w13.heap.size) := Lib.hid (by have h1 := hb.size; have h2 := U12.out; first | omega | (simp at h1; omega))
                 first
                   | (have KP13 := Lib.hid (Row.below KP12.out hb KP12.out.lt))
                   | (have KP13 : Hid (Row w13 w12.heap.size 26 #[I 0, I 0, .slice none 0 0]) := Lib.hid (Row.below (Row.new w12 26 #[I 0, I 0, .slice none 0 0]) hb (by simp)))
                   | skip
                 clear hb ho)
              | (go_at_call 45
                 first
                   | (with_reducible refine (mat45 g (s || b1 || b2 || b3 || b4) b5 n n 0 Ah kh.length dh _ R11.out).mono ?_)
                   | (with_reducible refine (mat45 g (s || b1 || b2 || b3 || b4) b5 n n 0 Ah kh.length dh _ (R11.out.alloc _)).mono ?_)
                 rintro e w12 ⟨rfl, hr, hg⟩
                 have R12 := Lib.hid hr
                 have N12 := Lib.hid (by first | exact N11.out.touch hg GL.out | exact (N11.out.alloc _).touch hg GL.out)
                 have KB12 := Lib.hid (by first | exact Row.grown (KB11.out) hg (by have h1 := GL.out; have h2 := HKB.out; have h3 := GX.out; have h4 := GE.out; simp; omega) | exact Row.grown ((KB11.out.alloc _)) hg (by have h1 := GL.out; have h2 := HKB.out; have h3 := GX.out; have h4 := GE.out; simp; omega))
                 have KX12 := Lib.hid (by first | exact Row.grown (KX11.out) hg (by have h1 := GL.out; have h2 := HKB.out; have h3 := GX.out; have h4 := GE.out; simp; omega) | exact Row.grown ((KX11.out.alloc _)) hg (by have h1 := GL.out; have h2 := HKB.out; have h3 := GX.out; have h4 := GE.out; simp; omega))
                 have KE12 := Lib.hid (by first | exact Row.grown (KE11.out) hg (by have h1 := GL.out; have h2 := HKB.out; have h3 := GX.out; have h4 := GE.out; simp; omega) | exact Row.grown ((KE11.out.alloc _)) hg (by have h1 := GL.out; have h2 := HKB.out; have h3 := GX.out; have h4 := GE.out; simp; omega))
                 have OK12 := Lib.hid (by first | exact Own.touch (OK11.out) hg (by have h1 := GL.out; omega) | exact Own.touch ((OK11.out.alloc _)) hg (by have h1 := GL.out; omega))
                 have OX12 := Lib.hid (by first | exact Own.touch (OX11.out) hg (by have h1 := GL.out; omega) | exact Own.touch ((OX11.out.alloc _)) hg (by have h1 := GL.out; omega))
                 have OE12 := Lib.hid (by first | exact Own.touch (OE11.out) hg (by have h1 := GL.out; omega) | exact Own.touch ((OE11.out.alloc _)) hg (by have h1 := GL.out; omega))
                 have OH12 := Lib.hid (by first | exact Own.touch (OH11.out) hg (by have h1 := GL.out; omega) | exact Own.touch ((OH11.out.alloc _)) hg (by have h1 := GL.out; omega))
                 have U12 : Hid (wt.heap.size ≤ w12.heap.size ∧ w11.heap.size ≤ w12.heap.size) := Lib.hid (by have h1 := hg.size; have h2 := U11.out; first | omega | (simp at h1; omega))
                 first
                   | (have KP12 := Lib.hid (Row.grown KP11.out hg (by have h1 := GL.out; have h4 := GE.out; have h5 := UT.out; have h6 := U11.out; simp; omega)))
                   | (have KP12 : Hid (Row w12 w11.heap.size 26 #[I 0, I 0, .slice none 0 0]) := Lib.hid (Row.grown (Row.new w11 26 #[I 0, I 0, .slice none 0 0]) hg (by have h1 := GL.out; have h4 := GE.out; have h5 := UT.out; have h6 := U11.out; simp; omega)))
                   | skip
                 clear hr hg)
              | (go_at_call 46
                 first
                   | (with_reducible refine (A46.out _ N10.out.drew.gr OK10.out.drew).mono ?_)
                   | (with_reducible refine (A46.out _ (N10.out.drew.alloc _).gr (OK10.out.drew.alloc _)).mono ?_)
                   | (with_reducible refine (A46.out _ (N10.out.alloc _).drew.gr (OK10.out.alloc _).drew).mono ?_)
                 rintro e w11 ⟨v, rfl, ho, hb⟩
                 obtain ⟨Ah, dh, rfl, hch, rah⟩ := Own.reads ho
                 have CH11 := Lib.hid hch
                 have OH11 : Hid (Own w11 (w.heap.size + 4) (.slice Ah kh.length dh) kh) := Lib.hid (Own.lower ho (by have h1 := UT.out; have h4 := GE.out; first | omega | (simp; omega)))
                 have N11 := Lib.hid (by first | exact N10.out.drew.below hb | exact (N10.out.drew.alloc _).below hb | exact (N10.out.alloc _).drew.below hb)
                 have KB11 := Lib.hid (by first | exact Row.below (KB10.out.drew) hb (KB10.out.drew).lt | exact Row.below ((KB10.out.drew.alloc _)) hb ((KB10.out.drew.alloc _)).lt | exact Row.below ((KB10.out.alloc _).drew) hb ((KB10.out.alloc _).drew).lt)
                 have KX11 := Lib.hid (by first | exact Row.below (KX10.out.drew) hb (KX10.out.drew).lt | exact Row.below ((KX10.out.drew.alloc _)) hb ((KX10.out.drew.alloc _)).lt | exact Row.below ((KX10.out.alloc _).drew) hb ((KX10.out.alloc _).drew).lt)
                 have KE11 := Lib.hid (by first | exact Row.below (KE10.out.drew) hb (KE10.out.drew).lt | exact Row.below ((KE10.out.drew.alloc _)) hb ((KE10.out.drew.alloc _)).lt | exact Row.below ((KE10.out.alloc _).drew) hb ((KE10.out.alloc _).drew).lt)
                 have OK11 := Lib.hid (by first | exact OK10.out.drew.below hb | exact (OK10.out.drew.alloc _).below hb | exact (OK10.out.alloc _).drew.below hb)
                 have OX11 := Lib.hid (by first | exact OX10.out.drew.below hb | exact (OX10.out.drew.alloc _).below hb | exact (OX10.out.alloc _).drew.below hb)
                 have OE11 := Lib.hid (by first | exact OE10.out.drew.below hb | exact (OE10.out.drew.alloc _).below hb | exact (OE10.out.alloc _).drew.below hb)
                 have R11 := Lib.hid (by first | exact Row.below (R10.out.drew) hb (R10.out.drew).lt | exact Row.below ((R10.out.drew.alloc _)) hb ((R10.out.drew.alloc _)).lt | exact Row.below ((R10.out.alloc _).drew) hb ((R10.out.alloc _).drew).lt)
                 have U11 : Hid (wt.heap.size ≤ w11.heap.size ∧ wt.heap.size ≤ w11.heap.size) := Lib.hid (by have h1 := hb.size; first | omega | (simp at h1; omega))
                 first
                   | (have KP11 : Hid (Row w11 wt.heap.size 26 #[I 0, I 0, .slice none 0 0]) := Lib.hid (Row.below (Row.new wt.drew 26 #[I 0, I 0, .slice none 0 0]) hb (by simp)))
                   | (have KP11 : Hid (Row w11 wt.heap.size 26 #[I 0, I 0, .slice none 0 0]) := Lib.hid (Row.below (Row.new wt 26 #[I 0, I 0, .slice none 0 0]).drew hb (by simp)))
                   | skip
                 clear hb ho hch rah))
          all_goals
            show K10 _ _
            have z0 := UT.out
            have z1 := U11.out
            have z2 := U12.out
            have z3 := U13.out
            have z4 := U14.out
            have zg := GL.out
            have ze := GE.out
            first
              | (refine REST10.out _ _ _ _ _ _ _ _ _ _ _ _ _ _ _ _ _ _ _ _ _ _ _ _ _ _ _ _ _ _ _ _ _ _ _ _ _ _ _ _ _ _ _ _ _ _ _ _ _ _ _ _ _ _ _ _ _ _ _ _ _ _ _ _ _ _ _ _ _ _ _ _ (N14.out.alloc _) (KB14.out.alloc _) (OK14.out.alloc _) (KX14.out.alloc _) (OX14.out.alloc _) (Row.new _ _ _) (OI14.out.alloc _) (R14.out.alloc _) (by omega))
              | (refine REST10.out _ _ _ _ _ _ _ _ _ _ _ _ _ _ _ _ _ _ _ _ _ _ _ _ _ _ _ _ _ _ _ _ _ _ _ _ _ _ _ _ _ _ _ _ _ _ _ _ _ _ _ _ _ _ _ _ _ _ _ _ _ _ _ _ _ _ _ _ _ _ _ _ (N14.out.fill3 (by simp; omega) _ _ _) (KB14.out.far3 (by omega)) (Own.fill3' OK14.out (fun q hq => ?_) _ _ _) (KX14.out.far3 (by omega)) (Own.fill3' OX14.out (fun q hq => ?_) _ _ _) (KP14.out.fill3 _ _ _) (Own.fill3' OI14.out (fun q hq => ?_) _ _ _) (R14.out.far3 (by omega)) (by omega)
                 · injection hq with hq
                   dsimp only at hq
                   omega
                 · have h1 := UX.out q hq
                   omega
                 · have h1 := OB13.out q hq
                   first | omega | (simp at h1; omega) | (have h2 := KP11.out.lt; omega) | (have h2 := KP12.out.lt; omega) | (simp at h1; have h2 := KP12.out.lt; omega)))
        clear aK8
        have U0 : Hid (w.heap.size + 4 ≤ wr.heap.size ∧ kb < wr.heap.size ∧ bk < wr.heap.size) := Lib.hid ⟨by have h1 := N5.out.rows.le N5.out.gr.size; simpa using h1, KB5.out.lt, (OK.out.row.lt bk rfl).2⟩
        have S68 := Lib.hid (fun w' (o : Own w' (w.heap.size + 4) (.slice (some ⟨bk, 0, none⟩) k.length ck) k) rk rp rg => scaled_calls g kb w.heap.size n (s || b1 || b2) (some ⟨bk, 0, none⟩) ck k y w' HH.out.2 HK1.out (Own.rd o).1 (Own.rd o).2 rk rp rg)
        rw [HT2.out.esy, HT2.out.eb3] at S68
        have A47 := Lib.hid (fun A' c' w' (h : w.grownBy w' (some g)) (ha : Rd w' A' sy) hc => mat_add n 1 A1 A' c1 c' lx sy w' HH.out.2 (by omega) HX.out (by rw [← HT2.out.esy]; exact upto_length) (TX.out _ h) ha CX.out hc)
        rw [HT2.out.ex, HT2.out.eb4] at A47
        simp only [eo] at A47
        go_region_held3 (fun w' => (∀ o, w'.cell? ⟨w.heap.size, o, none⟩ = #[.pointer (some ⟨g, 0, none⟩)][o]?) ∧ (∀ o, w'.cell? ⟨w.heap.size + 1, o, none⟩ = #[I n, I 1, .slice A1 lx.length c1, I n, I n, .slice A2 lp.length c2][o]?) ∧ (∀ o, w'.cell? ⟨w.heap.size + 1 + 1, o, none⟩ = #[I 1, I n, .slice A3 lh.length c3][o]?))
          (first | with_reducible exact KK.out _ M4.out | with_reducible exact KK.out _ (M4.out.alloc _) | with_reducible exact KK.out _ M3.out | with_reducible exact KK.out _ (M3.out.alloc _) | with_reducible exact KK.out _ M2.out | with_reducible exact KK.out _ (M2.out.alloc _) | with_reducible exact KK.out _ N5.out.drew | with_reducible exact KK.out _ (N5.out.drew.alloc _) | with_reducible exact KK.out _ (N5.out.alloc _).drew | exact KK.out _ (M4.out.fill3 (by have := U0.out; have := U2.out; have := U3.out; have := U4.out; simp; omega) _ _ _))
          (first
            | (go_at_call 45
               first
                 | (with_reducible refine (mat45 g (s || b1 || b2 || b3) b4 n 1 0 Ax x.length dx _ R3.out).mono ?_)
                 | (with_reducible refine (mat45 g (s || b1 || b2 || b3) b4 n 1 0 Ax x.length dx _ (R3.out.alloc _)).mono ?_)
               rintro e w4 ⟨rfl, hr4, hg4⟩
               have R4 := Lib.hid hr4
               have M4 := Lib.hid (by first | exact M3.out.touch hg4 GL.out | exact (M3.out.alloc _).touch hg4 GL.out)
               have KM4 := Lib.hid (by first | exact Row.grown (KM3.out) hg4 (by have h1 := GL.out; have h2 := HKB.out; simp; omega) | exact Row.grown ((KM3.out.alloc _)) hg4 (by have h1 := GL.out; have h2 := HKB.out; simp; omega))
               have OK4 := Lib.hid (by first | exact Own.touch (OK3.out) hg4 (by have h1 := GL.out; omega) | exact Own.touch ((OK3.out.alloc _)) hg4 (by have h1 := GL.out; omega))
               have OX4 := Lib.hid (by first | exact Own.touch (OX3.out) hg4 (by have h1 := GL.out; omega) | exact Own.touch ((OX3.out.alloc _)) hg4 (by have h1 := GL.out; omega))
               have U4 : Hid (w3.heap.size ≤ w4.heap.size) := Lib.hid (by have h1 := hg4.size; first | omega | (simp at h1; omega))
               first
                 | (have XB4 := Lib.hid (Row.grown XB3.out hg4 (by have h1 := GL.out; have h2 := U0.out; have h3 := U2.out; simp; omega))
                    have kc := XB4.out.cell
                    have kf := XB4.out.free)
                 | (have XB4 : Hid (Row w4 w3.heap.size 26 #[I 0, I 0, .slice none 0 0]) := Lib.hid (Row.grown (Row.new w3 26 #[I 0, I 0, .slice none 0 0]) hg4 (by have h1 := GL.out; have h2 := U0.out; have h3 := U2.out; have h4 := U3.out; simp; omega))
                    have kc := XB4.out.cell
                    have kf := XB4.out.free)
                 | skip
               clear hr4 hg4)
            | (go_at_call 47
               first
                 | (with_reducible refine (A47.out _ _ _ M2.out.gr RA.out CS.out).mono ?_)
                 | (with_reducible refine (A47.out _ _ _ (M2.out.alloc _).gr (RA.out.below ((Below.refl _ _).alloc (Nat.le_refl _) _)) CS.out).mono ?_)
               rintro e w3 ⟨v, rfl, ho, hb⟩
               obtain ⟨Ax, dx, rfl, _, _⟩ := Own.reads ho
               have OX3 : Hid (Own w3 (w.heap.size + 4) (.slice Ax x.length dx) x) := Lib.hid (Own.lower ho (by have h1 := U2.out; have h2 := U0.out; first | omega | (simp; omega)))
               have OB3 := Lib.hid ho.row.lt
               have M3 := Lib.hid (by first | exact M2.out.below hb | exact (M2.out.alloc _).below hb)
               have KM3 := Lib.hid (by first | exact Row.below (KM2.out) hb (KM2.out).lt | exact Row.below ((KM2.out.alloc _)) hb ((KM2.out.alloc _)).lt)
               have OK3 := Lib.hid (by first | exact OK2.out.below hb | exact (OK2.out.alloc _).below hb)
               have R3 := Lib.hid (by first | exact Row.below (R2.out) hb (R2.out).lt | exact Row.below ((R2.out.alloc _)) hb ((R2.out.alloc _)).lt)
               have U3 : Hid (w2.heap.size ≤ w3.heap.size) := Lib.hid (by have h1 := hb.size; first | omega | (simp at h1; omega))
               first
                 | (have XB3 := Lib.hid (Row.below XB2.out hb XB2.out.lt))
                 | (have XB3 : Hid (Row w3 w2.heap.size 26 #[I 0, I 0, .slice none 0 0]) := Lib.hid (Row.below (Row.new w2 26 #[I 0, I 0, .slice none 0 0]) hb (by simp)))
                 | skip
               clear hb ho)
            | (go_at_call 68
               first
                 | (with_reducible refine (S68.out _ OK.out.drew KB5.out.drew N5.out.drew.r0 R5.out.drew).mono ?_)
                 | (with_reducible refine (S68.out _ (OK.out.drew.alloc _) (KB5.out.drew.alloc _) (N5.out.drew.alloc _).r0 (R5.out.drew.alloc _)).mono ?_)
                 | (with_reducible refine (S68.out _ (OK.out.alloc _).drew (KB5.out.alloc _).drew (N5.out.alloc _).drew.r0 (R5.out.alloc _).drew).mono ?_)
               rintro e w2 ⟨As, cs, rfl, ho, hr, hg2⟩
               have RA := Lib.hid (Own.rd ho).1
               have CS := Lib.hid (Own.rd ho).2
               have R2 := Lib.hid hr
               have M2 := Lib.hid (by first | exact N5.out.drew.touch hg2 GL.out | exact (N5.out.drew.alloc _).touch hg2 GL.out | exact (N5.out.alloc _).drew.touch hg2 GL.out)
               have KM2 := Lib.hid (by first | exact Row.grown (KB5.out.drew) hg2 (by have h1 := GL.out; have h2 := HKB.out; simp; omega) | exact Row.grown ((KB5.out.drew.alloc _)) hg2 (by have h1 := GL.out; have h2 := HKB.out; simp; omega) | exact Row.grown ((KB5.out.alloc _).drew) hg2 (by have h1 := GL.out; have h2 := HKB.out; simp; omega))
               have OK2 := Lib.hid (by first | exact Own.touch (OK.out.drew) hg2 (by have h1 := GL.out; omega) | exact Own.touch ((OK.out.drew.alloc _)) hg2 (by have h1 := GL.out; omega) | exact Own.touch ((OK.out.alloc _).drew) hg2 (by have h1 := GL.out; omega))
               have U2 : Hid (wr.heap.size ≤ w2.heap.size) := Lib.hid (by have h1 := hg2.size; first | omega | (simp at h1; omega))
               first
                 | (have XB2 : Hid (Row w2 wr.heap.size 26 #[I 0, I 0, .slice none 0 0]) := Lib.hid (Row.grown (Row.new wr.drew 26 #[I 0, I 0, .slice none 0 0]) hg2 (by have h1 := GL.out; have h2 := U0.out; simp; omega)))
                 | (have XB2 : Hid (Row w2 wr.heap.size 26 #[I 0, I 0, .slice none 0 0]) := Lib.hid (Row.grown (Row.new wr 26 #[I 0, I 0, .slice none 0 0]).drew hg2 (by have h1 := GL.out; have h2 := U0.out; simp; omega)))
                 | skip
               clear hr hg2 ho))
        all_goals
          show K8 _ _
          have z0 := U0.out
          have z2 := U2.out
          have z3 := U3.out
          have z4 := U4.out
          have zg := GL.out
          first
            | (refine REST8.out _ _ _ _ _ _ _ _ _ _ _ _ _ _ _ _ _ _ _ _ _ _ _ _ _ _ _ _ _ _ _ _ _ _ _ _ _ _ _ _ _ _ _ _ _ _ _ _ (M4.out.alloc _) (KM4.out.alloc _) (OK4.out.alloc _) (Row.new _ _ _) (OX4.out.alloc _) (R4.out.alloc _) (by omega) (fun q hq => ?_)
               have h1 := (OX4.out.row.lt q hq).2
               omega)
            | (refine REST8.out _ _ _ _ _ _ _ _ _ _ _ _ _ _ _ _ _ _ _ _ _ _ _ _ _ _ _ _ _ _ _ _ _ _ _ _ _ _ _ _ _ _ _ _ _ _ _ _ (M4.out.fill3 (by simp; omega) _ _ _) (KM4.out.far3 (by omega)) (Own.fill3' OK4.out (fun q hq => ?_) _ _ _) (XB4.out.fill3 _ _ _) (Own.fill3' OX4.out (fun q hq => ?_) _ _ _) (R4.out.far3 (by omega)) (by omega) (fun q hq => ?_)
               · injection hq with hq
                 dsimp only at hq
                 omega
               all_goals
                 have h1 := OB3.out q hq
                 first | omega | (simp at h1; omega) | (have h2 := XB2.out.lt; omega))
      have hlt : (j : Int) < k0.length := by omega
      have hj0 : (0 : Int) ≤ j := by omega
      have hjlt : j < k0.length := by omega
      have HJ := Lib.hid hjlt
      have STEP : Hid (j + 1 ≤ k0.length ∧ k0.length - (j + 1) < k0.length - j) := Lib.hid (by omega)
      have hw64 : IntKind.i64.wrap ((j : Int) + 1) = (j : Int) + 1 := by have := HKL.out; simp [IntKind.wrap, IntKind.bits, IntKind.signed]; omega
      have hq := O5.out.cellAt j (by omega)
      rw [List.getElem?_map, divTo_at sv k0 j (by omega)] at hq
      have hset : Hid ((divTo sv k0 j).set j (dvs (k0.getD j 0) sv).1 = divTo sv k0 (j + 1)) := Lib.hid (divTo_set sv k0 j (by omega))
      have hsb : Hid (divB sv k0 (j + 1) = (divB sv k0 j || (dvs (k0.getD j 0) sv).2)) := Lib.hid (divB_succ sv k0 j (by omega))
      have DV := Lib.hid (fun w => div_calls (k0.getD j 0) sv w)
      obtain ⟨q, eq⟩ : ∃ q, k0.getD j 0 = q := ⟨_, rfl⟩
      rw [eq] at hq hset hsb DV
      obtain ⟨d, ed⟩ : ∃ d, dvs q sv = d := ⟨_, rfl⟩
      rw [ed] at hset hsb DV
      obtain ⟨d1, d2⟩ := d
      dsimp only at hset hsb DV
      have cq : wr.cell? ⟨bk, j, none⟩ = some (I q) := hq
      have CE : Hid (((divTo sv k0 j).map I)[j]? = some (I q)) := Lib.hid (by rw [List.getElem?_map, divTo_at sv k0 j hjlt, eq]; rfl)
      clear hq eq ed hj hjk hjlt
      have K5 : Hid (∀ w', Sg w g [(75, #[.pointer (some ⟨g, 0, none⟩)]), (28, #[I n, I 1, .slice A1 lx.length c1, I n, I n, .slice A2 lp.length c2]), (26, #[I 1, I n, .slice A3 lh.length c3]), (28, #[I 0, I 0, .slice none 0 0, I 0, I 0, .slice none 0 0])] w' → Row w' kb 26 #[I n, I 1, .slice (some ⟨bk, 0, none⟩) k0.length ck] → (∀ o, w'.cell? ⟨kb, o, none⟩ = #[I n, I 1, .slice (some ⟨bk, 0, none⟩) k0.length ck][o]?) ∧ (∀ o, w'.cell? ⟨w.heap.size, o, none⟩ = #[.pointer (some ⟨g, 0, none⟩)][o]?)) := Lib.hid (fun w' h h' => ⟨h'.cell, h.r0.cell⟩)
      go_wp2_with fail
      go_region_held3 (fun w' => (∀ o, w'.cell? ⟨kb, o, none⟩ = #[I n, I 1, .slice (some ⟨bk, 0, none⟩) k0.length ck][o]?) ∧ (∀ o, w'.cell? ⟨w.heap.size, o, none⟩ = #[.pointer (some ⟨g, 0, none⟩)][o]?))
        (first | with_reducible exact K5.out _ N7.out KB7.out | with_reducible exact K5.out _ N6.out KB6.out | with_reducible exact K5.out _ N5.out.drew KB5.out.drew | exact K5.out _ (N7.out.set (p := ⟨bk, j, none⟩) HBK.out _) (KB7.out.far (p := ⟨bk, j, none⟩) HNE.out.symm _))
        (first
          | (go_at_call 34
             refine (one34 g (s || b1 || divB sv k0 j) d2 d1 _ R6.out).mono ?_
             rintro e w7 ⟨rfl, hr7, hg7⟩
             have R7 := Lib.hid hr7
             have N7 := Lib.hid (N6.out.touch hg7 GL.out)
             have KB7 := Lib.hid (KB6.out.grown hg7 (by have := GL.out; have := HKB.out; simp; omega))
             have O7 := Lib.hid (own_move O6.out (fun q hq => hg7.block q (O6.out.lt q hq).2 (fun e => by have h1 := (O6.out.lt q hq).1; have h2 := GL.out; injection e with e; omega)))
             have c7 : w7.cell? ⟨bk, j, none⟩ = some (I q) := by
               have h := O7.out.cellAt j (by have := HJ.out; omega)
               rw [h]
               exact CE.out
             have f7 := O7.out.frozenAt j
             clear hr7 hg7)
          | (go_at_call 67
             refine (DV.out _).mono ?_
             rintro e w6 ⟨rfl, hb⟩
             have N6 := Lib.hid (N5.out.drew.below hb)
             have KB6 := Lib.hid (KB5.out.drew.below hb KB5.out.lt)
             have O6 := Lib.hid (own_move O5.out.drew (fun q hq => hb.block q (O5.out.lt q hq).2))
             have R6 := Lib.hid (R5.out.drew.below hb R5.out.lt)
             clear hb))
      have O8 := Lib.hid (O7.out.stored j (I d1)).1
      go_wp2
      go_roundw
      case rel => exact ⟨j + 1, STEP.out.1, by go_num, N7.out.set (p := ⟨bk, j, none⟩) HBK.out _, KB7.out.far (p := ⟨bk, j, none⟩) HNE.out.symm _, by have := O8.out; rw [← hset.out, List.map_set]; exact this, by rw [hsb.out, ← Bool.or_assoc]; exact R7.out.far (p := ⟨bk, j, none⟩) (by have := GL.out; have := HBK.out; dsimp only; omega) _⟩
      case measure =>
        have h := STEP.out.2
        show k0.length - ((j : Int) + 1).toNat < k0.length - ((j : Int)).toNat
        rw [show ((j : Int) + 1).toNat = j + 1 by omega, show ((j : Int)).toNat = j by omega]
        exact h)
  clear aK1
  go_region_held3 (fun w' => (∀ o, w'.cell? ⟨w.heap.size, o, none⟩ = #[.pointer (some ⟨g, 0, none⟩)][o]?) ∧ (∀ o, w'.cell? ⟨w.heap.size + 1, o, none⟩ = #[I n, I 1, .slice A1 lx.length c1, I n, I n, .slice A2 lp.length c2][o]?) ∧ (∀ o, w'.cell? ⟨w.heap.size + 1 + 1, o, none⟩ = #[I 1, I n, .slice A3 lh.length c3][o]?))
    (first | with_reducible exact KK.out _ N4.out | with_reducible exact KK.out _ (N4.out.alloc _) | with_reducible exact KK.out _ N3.out | with_reducible exact KK.out _ (N3.out.alloc _) | with_reducible exact KK.out _ N2.out | with_reducible exact KK.out _ (N2.out.alloc _) | with_reducible exact KK.out _ N.out.drew | with_reducible exact KK.out _ (N.out.drew.alloc _) | with_reducible exact KK.out _ (N.out.alloc _).drew | with_reducible exact KK.out _ N.out | with_reducible exact KK.out _ (N.out.alloc _) | exact KK.out _ (N4.out.fill3 (by have := S4.out; have := SZ.out; have := S2.out; have := S3.out; simp; omega) _ _ _))
    (first
     | (go_at_call 45
        first
          | (with_reducible refine (mat45 g s b1 n 1 0 Ak k0.length ck _ RG3.out).mono ?_)
          | (with_reducible refine (mat45 g s b1 n 1 0 Ak k0.length ck _ (RG3.out.alloc _)).mono ?_)
        rintro e w4 ⟨rfl, hr4, hg4⟩
        have R4 := Lib.hid hr4
        have O4 := Lib.hid (by first | exact Own.touch O3.out hg4 (by have := GL.out; omega) | exact Own.touch (O3.out.alloc _) hg4 (by have := GL.out; omega))
        have N4 := Lib.hid (by first | exact N3.out.touch hg4 GL.out | exact (N3.out.alloc _).touch hg4 GL.out)
        have S4 : Hid (w.heap.size + 4 ≤ w4.heap.size ∧ w3.heap.size ≤ w4.heap.size) := Lib.hid (by have h1 := hg4.size; have h2 := S3.out; first | omega | (simp at h1; omega))
        first
          | (have KB4 := Lib.hid (Row.grown KB3.out hg4 (by have := GL.out; have := S2.out; have := SZ.out; simp; omega))
             have kc := KB4.out.cell
             have kf := KB4.out.free)
          | (have KB4 : Hid (Row w4 w3.heap.size 26 #[I 0, I 0, .slice none 0 0]) := Lib.hid (Row.grown (Row.new w3 26 #[I 0, I 0, .slice none 0 0]) hg4 (by have := GL.out; have := S3.out; simp; omega))
             have kc := KB4.out.cell
             have kf := KB4.out.free)
          | skip
        clear hr4 hg4)
     | (go_at_call 46
        first
          | (with_reducible refine (HM.out At ct _ N2.out.gr RA.out).mono ?_)
          | (with_reducible refine (HM.out At ct _ (N2.out.alloc _).gr (RA.out.below ((Below.refl _ _).alloc (Nat.le_refl _) _))).mono ?_)
        rintro e w3 ⟨v, rfl, ho, hb⟩
        obtain ⟨Ak, ck, rfl, _, _⟩ := Own.reads ho
        have O3 : Hid (Own w3 (w.heap.size + 4) (.slice Ak k0.length ck) k0) := Lib.hid (Own.lower ho (by have := S2.out; first | omega | (simp; omega)))
        have N3 := Lib.hid (by first | exact N2.out.below hb | exact (N2.out.alloc _).below hb)
        have RG3 := Lib.hid (by first | exact Row.below (RG2.out) hb (RG2.out).lt | exact Row.below ((RG2.out.alloc _)) hb ((RG2.out.alloc _)).lt)
        have S3 : Hid (w.heap.size + 4 ≤ w3.heap.size) := Lib.hid (by have h1 := hb.size; have h2 := S2.out; first | omega | (simp at h1; omega))
        first
          | (have KB3 := Lib.hid (Row.below KB2.out hb KB2.out.lt))
          | (have KB3 : Hid (Row w3 w2.heap.size 26 #[I 0, I 0, .slice none 0 0]) := Lib.hid (Row.below (Row.new w2 26 #[I 0, I 0, .slice none 0 0]) hb (by simp)))
          | skip
        have OB3 := Lib.hid ho.row.lt
        clear hb ho)
     | (go_at_call 41
        first
          | (with_reducible refine (HT.out _ N.out.drew.gr).mono ?_)
          | (with_reducible refine (HT.out _ (N.out.drew.alloc _).gr).mono ?_)
          | (with_reducible refine (HT.out _ (N.out.alloc _).drew.gr).mono ?_)
        rintro e w2 ⟨v, rfl, ho, hb⟩
        obtain ⟨At, ct, rfl, _, ra⟩ := Own.reads ho
        have RA := Lib.hid ra
        have N2 := Lib.hid (by first | exact N.out.drew.below hb | exact (N.out.drew.alloc _).below hb | exact (N.out.alloc _).drew.below hb)
        have RG2 := Lib.hid (by first | exact Row.below (RG.out.drew) hb (RG.out.drew).lt | exact Row.below ((RG.out.drew.alloc _)) hb ((RG.out.drew.alloc _)).lt | exact Row.below ((RG.out.alloc _).drew) hb ((RG.out.alloc _).drew).lt)
        have S2 : Hid (w.heap.size + 4 ≤ w2.heap.size) := Lib.hid (by have h1 := hb.size; have h2 := SZ.out; first | omega | (simp at h1; omega))
        first
          | (have KB2 : Hid (Row w2 wr.heap.size 26 #[I 0, I 0, .slice none 0 0]) := Lib.hid (Row.below (Row.new wr.drew 26 #[I 0, I 0, .slice none 0 0]) hb (by simp)))
          | (have KB2 : Hid (Row w2 wr.heap.size 26 #[I 0, I 0, .slice none 0 0]) := Lib.hid (Row.below (Row.new wr 26 #[I 0, I 0, .slice none 0 0]).drew hb (by simp)))
          | skip
        clear hb ra ho))
  all_goals
    show K1 _ _
    have z0 := SZ.out
    have z2 := S2.out
    have z3 := S3.out
    have z4 := S4.out
    have zg := GL.out
    first
      | (refine REST1.out _ _ _ _ _ _ _ _ _ _ _ _ _ _ (N4.out.alloc _) (Row.new _ _ _) (O4.out.alloc _) (R4.out.alloc _) (by omega) (fun q hq => ?_)
         have h1 := (O4.out.row.lt q hq).2
         omega)
      | (refine REST1.out _ _ _ _ _ _ _ _ _ _ _ _ _ _ (N4.out.fill3 (by simp; omega) _ _ _) (KB4.out.fill3 _ _ _) (Own.fill3' O4.out (fun q hq => ?_) _ _ _) (R4.out.far3 (by omega)) (by omega) (fun q hq => ?_)
         all_goals
           have h1 := OB3.out q hq
           first | omega | (simp at h1; omega) | (have h2 := KB2.out.lt; omega))
end Go.Proofs.Ytninmcmajbfccaa.PR
