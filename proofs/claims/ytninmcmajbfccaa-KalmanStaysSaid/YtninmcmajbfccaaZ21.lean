import Derived.Test.YtninmcmajbfccaaZ20
import Derived.Test.YtninmcmajbfccaaZ18
/- Joined by a program of this session's own (wip/pack.py) out of its texts; the parts PQ, PR, PS were laid by its own program (wip/print-patch.py over the kit's print) out of the translation; Lean checks all. -/
/- Layer 5: KalmanGates. -/
namespace Go.Proofs.Ytninmcmajbfccaa.PR
open Go.RowKit Go.Proofs.Ytninmcmajbfccaa.PQ Go.Proofs.YtninmcmajbfccaaW.PrintWords Go.Proofs.YtninmcmajbfccaaW.PrintLast Go.Proofs.YtninmcmajbfccaaW.PrintMore Go.Proofs.Ytninmcmajbfccaa.KK
set_option linter.unusedVariables false
set_option linter.unusedSimpArgs false
set_option maxRecDepth 100000 in
set_option maxHeartbeats 8000000 in
theorem gates_walk (r c : Int) (A : Option Addr) (cp : Nat) (x : List Int) (r' c' : Int) (A' : Option Addr) (cp' : Nat) (l : List Int) (hr hc : Int) (Ah : Option Addr) (ch : Nat) (lh : List Int) (R off : Int) (w : World) (hA : Rd w A x) (kA : x.length ≤ cp) (hA' : Rd w A' l) (kA' : l.length ≤ cp') (hH : Rd w Ah lh) (kH : lh.length ≤ ch) :
    Calls Try.prog 7 #[.agg #[I r, I c, .slice A x.length cp, I r', I c', .slice A' l.length cp', I hr, I hc, .slice Ah lh.length ch, I R, I off]] w fun e w' => e = .returned (.bool true) ∧ Below w.heap.size w w' := by
  have N : Hid (Scene w [(51, #[I r, I c, .slice A x.length cp, I r', I c', .slice A' l.length cp', I hr, I hc, .slice Ah lh.length ch, I R, I off]), (28, #[I r, I c, .slice A x.length cp, I r', I c', .slice A' l.length cp']), (26, #[I hr, I hc, .slice Ah lh.length ch])] (((w.alloc (.cells #[I r, I c, .slice A x.length cp, I r', I c', .slice A' l.length cp', I hr, I hc, .slice Ah lh.length ch, I R, I off] 51)).alloc (.cells #[I r, I c, .slice A x.length cp, I r', I c', .slice A' l.length cp'] 28)).alloc (.cells #[I hr, I hc, .slice Ah lh.length ch] 26))) := Lib.hid ((((Scene.none w).push (by simp) _ _).push (by simp) _ _).push (by simp) _ _)
  have HA := Lib.hid hA
  have HC := Lib.hid kA
  have HA' := Lib.hid hA'
  have HC' := Lib.hid kA'
  have HH := Lib.hid hH
  have KH := Lib.hid kH
  clear hA kA hA' kA' hH kH
  go_enter Try.func7, Try.ntmps7
  go_wp2_with fail
  refine (shown_calls _).mono ?_
  rintro e w1 ⟨rfl, hb⟩
  have N1 := Lib.hid (N.out.below hb)
  clear hb N
  have x1 := N1.out.r1.cell
  go_wp2_with fail
  refine (refTrack_calls r c A cp x r' c' A' cp' l _ (HA.out.below N1.out.be) HC.out (HA'.out.below N1.out.be) HC'.out).mono ?_
  rintro e w2 ⟨rfl, hb⟩
  have N2 := Lib.hid (N1.out.below hb)
  clear hb N1 x1
  by_cases h1 : trackP r c x r' c' l
  · rw [decide_eq_true h1]
    have x2 := N2.out.r2.cell
    go_wp2_with fail
    refine (refRight_calls hr hc Ah ch lh _ (HH.out.below N2.out.be) KH.out).mono ?_
    rintro e w3 ⟨rfl, hb⟩
    have N3 := Lib.hid (N2.out.below hb)
    clear hb N2 x2
    have x1 := N3.out.r1.cell
    have x2 := N3.out.r2.cell
    by_cases h2 : rightM hr hc lh = true
    · rw [h2]
      by_cases h3 : hr = 1
      · by_cases h4 : hc = r
        · by_cases h5 : R ≤ 0
          · subst h3 h4
            have e5 : decide (R ≤ 0) = true := decide_eq_true h5
            clear h1 h2 h5
            go_wp2
            go_ret
            exact ⟨rfl, N3.out.be⟩
          · have e5 : decide (R ≤ 0) = false := decide_eq_false h5
            obtain ⟨p1, p2, q1, q2, q3, p6⟩ := h1
            obtain ⟨a1, a2, a3, a4, a5, a6⟩ := rightM_parts p1
            obtain ⟨b1, b2, b3, b4, b5, b6⟩ := rightM_parts p2
            obtain ⟨d1, d2, d3, d4, d5, d6⟩ := rightM_parts h2
            obtain ⟨n, hn⟩ : ∃ n : Nat, r = n := ⟨r.toNat, by omega⟩
            rw [hn] at q2 q3 h4
            subst hn q1 q2 q3 h3 h4
            rw [Int.toNat_natCast] at a5 b5 p6 d5
            have n64 := sq8 (show n ≤ 8 by omega)
            have HN : Hid (1 ≤ n ∧ n ≤ 8) := Lib.hid ⟨by omega, by omega⟩
            have HL : Hid (x.length = n * 1 ∧ l.length = n * n ∧ lh.length = 1 * n ∧ n * n ≤ 64) := Lib.hid ⟨a5, b5, d5, n64⟩
            have HI := Lib.hid (And.intro (inR_of a6) (And.intro (inR_of b6) (inR_of d6)))
            have HR : Hid (0 < R) := Lib.hid (by omega)
            clear p1 p2 p6 a1 a2 a3 a4 a5 a6 b1 b2 b3 b4 b5 b6 d1 d2 d3 d4 d5 d6 n64 h2 h5
            have T24 : Hid (∀ z w', Below w.heap.size w w' → Calls Try.prog 24 #[.agg #[I n, I 1, .slice A x.length cp, I n, I n, .slice A' l.length cp'], .agg #[I 1, I n, .slice Ah lh.length ch], I z, I R] w' fun e w'' => e = .returned (.tuple #[I (iY n x lh z), I (iS n l lh R), .bool (iO n x l lh z R), I 0]) ∧ Below w'.heap.size w' w'') := Lib.hid (fun z w' h => innov_calls n A A' Ah cp cp' ch x l lh z R w' HN.out.2 HL.out.1 HL.out.2.1 HL.out.2.2.1 (HA.out.below h) HC.out (HA'.out.below h) HC'.out (HH.out.below h) KH.out HR.out)
            have T13 : Hid (∀ z gate X P tk fl w', Upd n x l lh z R gate X P tk fl → Below w.heap.size w w' → Calls Try.prog 13 #[.agg #[I n, I 1, .slice A x.length cp, I n, I n, .slice A' l.length cp'], .agg #[I 1, I n, .slice Ah lh.length ch], I z, I R, I gate] w' fun e w'' => ∃ Ax dx Ap dp, e = .returned (.tuple #[.agg #[I n, I 1, .slice Ax X.length dx, I n, I n, .slice Ap P.length dp], .bool tk, .bool fl, I 0]) ∧ Rd w'' Ax X ∧ X.length ≤ dx ∧ Rd w'' Ap P ∧ P.length ≤ dp ∧ Below w'.heap.size w' w'') := Lib.hid (fun z gate X P tk fl w' hu h => upd_all n A A' Ah cp cp' ch x l lh z R gate X P tk fl w' HN.out.1 HN.out.2 HL.out.1 HL.out.2.1 HL.out.2.2.1 (HA.out.below h) HC.out (HA'.out.below h) HC'.out (HH.out.below h) KH.out HR.out hu)
            have SB := Lib.hid (iS_bd n l lh R)
            obtain ⟨y, hy⟩ : ∃ y, iY n x lh 0 = y := ⟨_, rfl⟩
            obtain ⟨s, hs⟩ : ∃ s, iS n l lh R = s := ⟨_, rfl⟩
            obtain ⟨d, hd⟩ : ∃ d, iY n x lh off = d := ⟨_, rfl⟩
            obtain ⟨v, hv⟩ : ∃ v, iY n x lh (-y) = v := ⟨_, rfl⟩
            obtain ⟨X1, P1, tk1, fl1, hu1⟩ := upd_some n x l lh (-y) R 16777216
            obtain ⟨X2, P2, tk2, fl2, hu2⟩ := upd_some n x l lh off R (-16777216)
            have HV := Lib.hid hv
            have HU1 := Lib.hid hu1
            have HU2 := Lib.hid hu2
            clear hv hu1 hu2
            have yb : -70368744177664 ≤ y ∧ y ≤ 70368744177663 := by rw [← hy]; exact iY_bd _ _ _ _
            obtain ⟨yb1, yb2⟩ := yb
            have HY := Lib.hid hy
            have HS := Lib.hid hs
            have HD := Lib.hid hd
            rw [hs] at T24
            clear hy hs hd
            go_wp2_with fail
            refine (T24.out 0 _ N3.out.be).mono ?_
            rw [HY.out]
            rintro e w4 ⟨rfl, hb⟩
            have N4 := Lib.hid (N3.out.below hb)
            clear hb N3 x1 x2
            have x1 := N4.out.r1.cell
            have x2 := N4.out.r2.cell
            go_wp2_with fail
            refine (T13.out (-y) 16777216 X1 P1 tk1 fl1 _ HU1.out N4.out.be).mono ?_
            rintro e w5 ⟨Ax, dx, Ap, dp, rfl, rx, kx, rp, kp, hb⟩
            have N5 := Lib.hid ((N4.out.below hb).alloc (.cells #[I n, I 1, .slice Ax X1.length dx, I n, I n, .slice Ap P1.length dp] 28))
            have UB := Lib.hid (Row.new w5 28 #[I n, I 1, .slice Ax X1.length dx, I n, I n, .slice Ap P1.length dp])
            have RX := Lib.hid (Rd.below rx ((Below.refl _ _).alloc (Nat.le_refl _) (.cells #[I n, I 1, .slice Ax X1.length dx, I n, I n, .slice Ap P1.length dp] 28)))
            have KX := Lib.hid kx
            clear rx kx rp kp hb N4 x1 x2
            have x1 := N5.out.r1.cell
            have x2 := N5.out.r2.cell
            go_wp2_with fail
            refine (T13.out off (-16777216) X2 P2 tk2 fl2 _ HU2.out N5.out.be).mono ?_
            rintro e w6 ⟨Bx, fx, Bp, fp, rfl, rx, kx, rp, kp, hb⟩
            have N6 := Lib.hid ((N5.out.below hb).alloc (.cells #[I n, I 1, .slice Bx X2.length fx, I n, I n, .slice Bp P2.length fp] 28))
            have UB6 := Lib.hid ((UB.out.below hb UB.out.lt).alloc (.cells #[I n, I 1, .slice Bx X2.length fx, I n, I n, .slice Bp P2.length fp] 28))
            have RX6 := Lib.hid (Rd.below (Rd.below RX.out hb) ((Below.refl _ _).alloc (Nat.le_refl _) (.cells #[I n, I 1, .slice Bx X2.length fx, I n, I n, .slice Bp P2.length fp] 28)))
            clear rx kx rp kp hb N5 UB RX x1 x2
            have x1 := N6.out.r1.cell
            have x2 := N6.out.r2.cell
            go_wp2_with fail
            refine (T24.out off _ N6.out.be).mono ?_
            rw [HD.out]
            rintro e w7 ⟨rfl, hb⟩
            have N7 := Lib.hid (N6.out.below hb)
            have UB7 := Lib.hid (UB6.out.below hb UB6.out.lt)
            have RX7 := Lib.hid (Rd.below RX6.out hb)
            clear hb N6 UB6 RX6 x1 x2
            have x1 := N7.out.r1.cell
            have x2 := N7.out.r2.cell
            by_cases k1 : y ≤ -70368744177664
            · have g1 : decide (y ≤ -70368744177664) = true := decide_eq_true k1
              clear k1 yb1 yb2
              go_wp2
              go_ret
              exact ⟨rfl, N7.out.be⟩
            · have g1 : decide (y ≤ -70368744177664) = false := decide_eq_false k1
              by_cases k2 : y ≥ 70368744177663
              · have g2 : decide (y ≥ 70368744177663) = true := decide_eq_true k2
                clear k1 k2 yb1 yb2
                go_wp2
                go_ret
                exact ⟨rfl, N7.out.be⟩
              · have g2 : decide (y ≥ 70368744177663) = false := decide_eq_false k2
                by_cases k3 : s < 16777216
                · have g3 : decide (s < 16777216) = true := decide_eq_true k3
                  clear k1 k2 k3 yb1 yb2
                  go_wp2
                  go_ret
                  exact ⟨rfl, N7.out.be⟩
                · have g3 : decide (s < 16777216) = false := decide_eq_false k3
                  have K3 : Hid (16777216 ≤ s) := Lib.hid (by omega)
                  clear k1 k2 k3
                  go_wp2_with fail
                  refine (T24.out (-y) _ N7.out.be).mono ?_
                  rw [HV.out]
                  rintro e w8 ⟨rfl, hb⟩
                  have N8 := Lib.hid (N7.out.below hb)
                  have UB8 := Lib.hid (UB7.out.below hb UB7.out.lt)
                  have RX8 := Lib.hid (Rd.below RX7.out hb)
                  clear hb N7 UB7 RX7 x1 x2
                  have x1 := N8.out.r1.cell
                  have xu := UB8.out.cell
                  by_cases k4 : v = 0
                  · have t1 := gates_taken n x l lh (-y) R HI.out.1 HL.out.1 (by rw [HV.out]; exact k4) (by rw [HS.out]; exact K3.out) X1 P1 tk1 fl1 HU1.out
                    have t2 := gates_none n x l lh off R (by rw [HS.out]; exact K3.out) X2 P2 tk2 fl2 HU2.out
                    obtain ⟨t1a, t1b⟩ := t1
                    subst t1a t2 t1b k4
                    have T19 := Lib.hid (refSame_calls n 1 Ax dx X1 n 1 A cp X1 w8 RX8.out KX.out (HA.out.below N8.out.be) HC.out (by have := HL.out; have := HN.out; omega))
                    rw [decide_eq_true ⟨rfl, rfl, rfl⟩] at T19
                    by_cases k5 : d = 0
                    · subst k5
                      clear T13 T24 HU1 HU2 HY HS HD HV SB HI HR K3 yb1 yb2
                      go_wp2_with fail
                      refine T19.out.mono ?_
                      rintro e w9 ⟨rfl, hb⟩
                      have B9 := Lib.hid (bgo N8.out.be hb)
                      clear hb x1 xu
                      go_wp2
                      go_ret
                      exact ⟨rfl, B9.out⟩
                    · have g5 : (d == 0) = false := by simpa using k5
                      clear T13 T24 HU1 HU2 HY HS HD HV SB HI HR K3 yb1 yb2 k5
                      go_wp2_with fail
                      refine T19.out.mono ?_
                      rintro e w9 ⟨rfl, hb⟩
                      have B9 := Lib.hid (bgo N8.out.be hb)
                      clear hb x1 xu
                      go_wp2
                      go_ret
                      exact ⟨rfl, B9.out⟩
                  · have g4 : (v != 0) = true := by simpa using k4
                    clear k4 yb1 yb2
                    go_wp2
                    go_ret
                    exact ⟨rfl, N8.out.be⟩
        · have h3' := h3
          subst h3
          have e4 : (hc != r) = true := by simpa using h4
          clear h1 h2 h4
          go_wp2
          go_ret
          exact ⟨rfl, N3.out.be⟩
      · have e3 : (hr != 1) = true := by simpa using h3
        clear h1 h2 h3
        go_wp2
        go_ret
        exact ⟨rfl, N3.out.be⟩
    · have h2' : rightM hr hc lh = false := by simpa using h2
      rw [h2']
      clear h1 h2
      go_wp2
      go_ret
      exact ⟨rfl, N3.out.be⟩
  · rw [decide_eq_false h1]
    clear h1
    go_wp2
    go_ret
    exact ⟨rfl, N2.out.be⟩
end Go.Proofs.Ytninmcmajbfccaa.PR

/- Layer 5: the laws' own arguments. -/
namespace Go.Proofs.Ytninmcmajbfccaa.KK
open Go.ChangeShapes Go.WideShapes Go.ChangeAt Go.RowKit Go.Deep Go.Proofs.YtninmcmajbfccaaW.PrintWords
set_option linter.unusedVariables false
set_option linter.unusedSimpArgs false
theorem k51 : Try.prog.cellsOf 51 = 11 := by kernel_rfl
theorem k57 : Try.prog.cellsOf 57 = 18 := by kernel_rfl
theorem k45 : Try.prog.cellsOf 45 = 14 := by kernel_rfl
theorem k55 : Try.prog.cellsOf 55 = 3 := by kernel_rfl
section
variable {H : Type} {enc : TypeId × Value → H} {W : World} {base : Nat} {sp : Nat → Bool} {held : Bool} {fuel : Nat} {cs : List Value} {x : DataW H × List MemPlace}
theorem len11 {α : Type} {l : List α} (h : l.length = 11) : ∃ a b c d e f g i j k m, l = [a, b, c, d, e, f, g, i, j, k, m] := by
  match l, h with
  | [a, b, c, d, e, f, g, i, j, k, m], _ => exact ⟨a, b, c, d, e, f, g, i, j, k, m, rfl⟩
theorem len14 {α : Type} {l : List α} (h : l.length = 14) : ∃ a b c d e f g i j k m n o p, l = [a, b, c, d, e, f, g, i, j, k, m, n, o, p] := by
  match l, h with
  | [a, b, c, d, e, f, g, i, j, k, m, n, o, p], _ => exact ⟨a, b, c, d, e, f, g, i, j, k, m, n, o, p, rfl⟩
theorem len18 {α : Type} {l : List α} (h : l.length = 18) : ∃ a b c d e f g i j k m n o p q r s t, l = [a, b, c, d, e, f, g, i, j, k, m, n, o, p, q, r, s, t] := by
  match l, h with
  | [a, b, c, d, e, f, g, i, j, k, m, n, o, p, q, r, s, t], _ => exact ⟨a, b, c, d, e, f, g, i, j, k, m, n, o, p, q, r, s, t, rfl⟩
theorem open_gates (h : DataW.trod enc Try.prog W base sp held fuel 51 cs = some x) : ∃ r c A cp l r' c' A' cp' l' hr hc Ah ch lh R off, cs = [I r, I c, .slice A (l : List Int).length cp, I r', I c', .slice A' (l' : List Int).length cp', I hr, I hc, .slice Ah (lh : List Int).length ch, I R, I off] ∧ (l.length ≤ cp ∧ Rd W A l) ∧ (l'.length ≤ cp' ∧ Rd W A' l') ∧ (lh.length ≤ ch ∧ Rd W Ah lh) := by
  obtain ⟨xs, n, _, _, hl, hlen, hf⟩ := DataW.trod_struct Try.underlying51 h
  rw [k51] at hl
  obtain ⟨c0, c1, c2, c3, c4, c5, c6, c7, c8, c9, c10, rfl⟩ := len11 hl
  have hl2 : xs.length = 4 := hlen
  have get : ∀ i (h : i < 4), xs[i]? = some (xs[i]'(by omega)) := fun i h => List.getElem?_eq_getElem (by omega)
  have h0 := (fld hf 0 28 0 6 rfl k28).trans (get 0 (by omega))
  have h1 := (fld hf 1 26 6 3 rfl k26).trans (get 1 (by omega))
  have h2 := (fld hf 2 22 9 1 rfl k22).trans (get 2 (by omega))
  have h3 := (fld hf 3 22 10 1 rfl k22).trans (get 3 (by omega))
  obtain ⟨r, c, A, cp, l, r', c', A', cp', l', e0, p0, p0'⟩ := open_track h0
  obtain ⟨hr, hc, Ah, ch, lh, e1, p1, p1'⟩ := open_mat h1
  obtain ⟨R, e2, _, _⟩ := DataW.trod_int Try.underlying22 h2
  obtain ⟨off, e3, _, _⟩ := DataW.trod_int Try.underlying22 h3
  simp at e0 e1 e2 e3
  obtain ⟨rfl, rfl, rfl, rfl, rfl, rfl⟩ := e0
  obtain ⟨rfl, rfl, rfl⟩ := e1
  subst e2 e3
  exact ⟨_, _, _, _, l, _, _, _, _, l', _, _, _, _, lh, _, _, rfl, p0, p0', ⟨p1, p1'⟩⟩
theorem open_vec3 (h : DataW.trod enc Try.prog W base sp held fuel 55 cs = some x) : ∃ a b c, cs = [I a, I b, I c] := by
  obtain ⟨_, _, _, _, hl, _⟩ := DataW.trod_array Try.underlying55 h
  rw [k55] at hl
  obtain ⟨c0, c1, c2, rfl⟩ := len3 hl
  obtain ⟨y0, y1, y2, m, hx, hy0, hy1, hy2⟩ := trod_array3 Try.underlying55 k22 h
  obtain ⟨x0, e0, _, _⟩ := DataW.trod_int Try.underlying22 hy0
  obtain ⟨x1, e1, _, _⟩ := DataW.trod_int Try.underlying22 hy1
  obtain ⟨x2, e2, _, _⟩ := DataW.trod_int Try.underlying22 hy2
  simp at e0 e1 e2
  subst e0 e1 e2
  exact ⟨_, _, _, rfl⟩
theorem open_stays (h : DataW.trod enc Try.prog W base sp held fuel 57 cs = some x) : ∃ r c A cp l r' c' A' cp' l' fr fc Af cf lf qr qc Aq cq lq hr hc Ah ch lh n0 n1 n2, cs = [I r, I c, .slice A (l : List Int).length cp, I r', I c', .slice A' (l' : List Int).length cp', I fr, I fc, .slice Af (lf : List Int).length cf, I qr, I qc, .slice Aq (lq : List Int).length cq, I hr, I hc, .slice Ah (lh : List Int).length ch, I n0, I n1, I n2] ∧ (l.length ≤ cp ∧ Rd W A l) ∧ (l'.length ≤ cp' ∧ Rd W A' l') ∧ (lf.length ≤ cf ∧ Rd W Af lf) ∧ (lq.length ≤ cq ∧ Rd W Aq lq) ∧ (lh.length ≤ ch ∧ Rd W Ah lh) := by
  obtain ⟨xs, n, _, _, hl, hlen, hf⟩ := DataW.trod_struct Try.underlying57 h
  rw [k57] at hl
  obtain ⟨c0, c1, c2, c3, c4, c5, c6, c7, c8, c9, c10, c11, c12, c13, c14, c15, c16, c17, rfl⟩ := len18 hl
  have hl2 : xs.length = 5 := hlen
  have get : ∀ i (h : i < 5), xs[i]? = some (xs[i]'(by omega)) := fun i h => List.getElem?_eq_getElem (by omega)
  have h0 := (fld hf 0 28 0 6 rfl k28).trans (get 0 (by omega))
  have h1 := (fld hf 1 26 6 3 rfl k26).trans (get 1 (by omega))
  have h2 := (fld hf 2 26 9 3 rfl k26).trans (get 2 (by omega))
  have h3 := (fld hf 3 26 12 3 rfl k26).trans (get 3 (by omega))
  have h4 := (fld hf 4 55 15 3 rfl k55).trans (get 4 (by omega))
  obtain ⟨r, c, A, cp, l, r', c', A', cp', l', e0, p0, p0'⟩ := open_track h0
  obtain ⟨fr, fc, Af, cf, lf, e1, p1, p1'⟩ := open_mat h1
  obtain ⟨qr, qc, Aq, cq, lq, e2, p2, p2'⟩ := open_mat h2
  obtain ⟨hr, hc, Ah, ch, lh, e3, p3, p3'⟩ := open_mat h3
  obtain ⟨n0, n1, n2, e4⟩ := open_vec3 h4
  simp at e0 e1 e2 e3 e4
  obtain ⟨rfl, rfl, rfl, rfl, rfl, rfl⟩ := e0
  obtain ⟨rfl, rfl, rfl⟩ := e1
  obtain ⟨rfl, rfl, rfl⟩ := e2
  obtain ⟨rfl, rfl, rfl⟩ := e3
  obtain ⟨rfl, rfl, rfl⟩ := e4
  exact ⟨_, _, _, _, l, _, _, _, _, l', _, _, _, _, lf, _, _, _, _, lq, _, _, _, _, lh, _, _, _, rfl, p0, p0', ⟨p1, p1'⟩, ⟨p2, p2'⟩, ⟨p3, p3'⟩⟩
theorem open_makes (h : DataW.trod enc Try.prog W base sp held fuel 45 cs = some x) : ∃ Ax cx lx Av cv lv r c A cp l r' c' A' cp' l' ur uc B up u ur' uc' B' up' u', cs = [.slice Ax (lx : List Int).length cx, .slice Av (lv : List Int).length cv, I r, I c, .slice A (l : List Int).length cp, I r', I c', .slice A' (l' : List Int).length cp', I ur, I uc, .slice B (u : List Int).length up, I ur', I uc', .slice B' (u' : List Int).length up'] ∧ (lx.length ≤ cx ∧ Rd W Ax lx) ∧ (lv.length ≤ cv ∧ Rd W Av lv) ∧ (l.length ≤ cp ∧ Rd W A l) ∧ (l'.length ≤ cp' ∧ Rd W A' l') ∧ (u.length ≤ up ∧ Rd W B u) ∧ (u'.length ≤ up' ∧ Rd W B' u') := by
  obtain ⟨xs, n, _, _, hl, hlen, hf⟩ := DataW.trod_struct Try.underlying45 h
  rw [k45] at hl
  obtain ⟨c0, c1, c2, c3, c4, c5, c6, c7, c8, c9, c10, c11, c12, c13, rfl⟩ := len14 hl
  have hl2 : xs.length = 4 := hlen
  have get : ∀ i (h : i < 4), xs[i]? = some (xs[i]'(by omega)) := fun i h => List.getElem?_eq_getElem (by omega)
  have h0 := (fld hf 0 24 0 1 rfl k24).trans (get 0 (by omega))
  have h1 := (fld hf 1 24 1 1 rfl k24).trans (get 1 (by omega))
  have h2 := (fld hf 2 28 2 6 rfl k28).trans (get 2 (by omega))
  have h3 := (fld hf 3 28 8 6 rfl k28).trans (get 3 (by omega))
  obtain ⟨Ax, cx, lx, e0, p0⟩ := open_qs h0
  obtain ⟨Av, cv, lv, e1, p1⟩ := open_qs h1
  obtain ⟨r, c, A, cp, l, r', c', A', cp', l', e2, p2, p2'⟩ := open_track h2
  obtain ⟨ur, uc, B, up, u, ur', uc', B', up', u', e3, p3, p3'⟩ := open_track h3
  simp at e0 e1 e2 e3
  subst e0 e1
  obtain ⟨rfl, rfl, rfl, rfl, rfl, rfl⟩ := e2
  obtain ⟨rfl, rfl, rfl, rfl, rfl, rfl⟩ := e3
  exact ⟨_, _, lx, _, _, lv, _, _, _, _, l, _, _, _, _, l', _, _, _, _, u, _, _, _, _, u', rfl, p0, p1, p2, p2', p3, p3'⟩
end
end Go.Proofs.Ytninmcmajbfccaa.KK

/- Layer 5: Predict of matrices that don't fit; what comes out is right. -/
namespace Go.Proofs.Ytninmcmajbfccaa.PR
open Go.RowKit Go.Proofs.Ytninmcmajbfccaa.PQ Go.Proofs.YtninmcmajbfccaaW.PrintWords Go.Proofs.YtninmcmajbfccaaW.PrintLast Go.Proofs.YtninmcmajbfccaaW.PrintMore Go.Proofs.Ytninmcmajbfccaa.KK
set_option linter.unusedVariables false
set_option linter.unusedSimpArgs false
set_option maxRecDepth 100000 in
set_option maxHeartbeats 8000000 in
theorem pred_bad (n m fr fc qr qc : Int) (A1 A2 A3 A4 : Option Addr) (k1 k2 k3 k4 c1 c2 c3 c4 : Nat) (w : World) (hb : fitB fr fc n = false ∨ (fitB fr fc n = true ∧ fitB qr qc n = false)) :
    Calls Try.prog 25 #[.agg #[I n, I m, .slice A1 k1 c1, I n, I n, .slice A2 k2 c2], .agg #[I fr, I fc, .slice A3 k3 c3], .agg #[I qr, I qc, .slice A4 k4 c4]] w fun e w' => e = .returned (.tuple #[.agg #[I 0, I 0, .slice none 0 0, I 0, I 0, .slice none 0 0], .bool false, I 9]) ∧ Below w.heap.size w w' := by
  have N : Hid (Scene w [(28, #[I n, I m, .slice A1 k1 c1, I n, I n, .slice A2 k2 c2]), (26, #[I fr, I fc, .slice A3 k3 c3]), (26, #[I qr, I qc, .slice A4 k4 c4]), (28, #[I 0, I 0, .slice none 0 0, I 0, I 0, .slice none 0 0]), (3, #[I n])] (((((w.alloc (.cells #[I n, I m, .slice A1 k1 c1, I n, I n, .slice A2 k2 c2] 28)).alloc (.cells #[I fr, I fc, .slice A3 k3 c3] 26)).alloc (.cells #[I qr, I qc, .slice A4 k4 c4] 26)).alloc (.cells #[I 0, I 0, .slice none 0 0, I 0, I 0, .slice none 0 0] 28)).alloc (.cells #[I n] 3))) := Lib.hid ((((((Scene.none w).push (by simp) _ _).push (by simp) _ _).push (by simp) _ _).push (by simp) _ _).push (by simp) _ _)
  have hmf := KK.hmf
  rcases hb with hb | ⟨hb, hb2⟩
  · have HB := Lib.hid hb
    clear hb
    go_enter Try.func25, Try.ntmps25
    go_wp2_with fail
    refine (fits_calls fr fc n A3 k3 c3 _ _ N.out.r4).mono ?_
    rw [HB.out]
    rintro e w1 ⟨rfl, hb⟩
    have N1 := Lib.hid (N.out.below hb)
    clear hb N
    have x3 := N1.out.r3.cell
    have g3 := N1.out.r3.free
    go_wp2
    refine bodyPost_ret (res6tt rfl rfl (Row.fill6 N1.out.r3 _ _ _ _ _ _)) rfl ⟨rfl, ?_⟩
    exact Below.fill6 N1.out.be (by omega) _ _ _ _ _ _
  · have HB := Lib.hid hb
    have HB2 := Lib.hid hb2
    clear hb hb2
    go_enter Try.func25, Try.ntmps25
    go_wp2_with fail
    refine (fits_calls fr fc n A3 k3 c3 _ _ N.out.r4).mono ?_
    rw [HB.out]
    rintro e w1 ⟨rfl, hb⟩
    have N1 := Lib.hid (N.out.below hb)
    clear hb N
    have x2 := N1.out.r2.cell
    go_wp2_with fail
    refine (fits_calls qr qc n A4 k4 c4 _ _ N1.out.r4).mono ?_
    rw [HB2.out]
    rintro e w2 ⟨rfl, hb⟩
    have N2 := Lib.hid (N1.out.below hb)
    clear hb N1 x2
    have x3 := N2.out.r3.cell
    have g3 := N2.out.r3.free
    go_wp2
    refine bodyPost_ret (res6tt rfl rfl (Row.fill6 N2.out.r3 _ _ _ _ _ _)) rfl ⟨rfl, ?_⟩
    exact Below.fill6 N2.out.be (by omega) _ _ _ _ _ _
theorem addZ_ib (a b : Int) : -70368744177664 ≤ (addZ a b).1 ∧ (addZ a b).1 ≤ 70368744177663 := ⟨cl_lo _, cl_hi _⟩
theorem inR_mul (r c1 c2 : Nat) (l m : List Int) : inR (mulL r c1 c2 l m) := by
  unfold mulL
  rw [upto_fl]
  refine inR_fl (fun j _ => ?_)
  cases c1 with
  | zero => simp [dotZ]
  | succ c => exact addZ_ib _ _
theorem inR_add (r c : Nat) (l m : List Int) : inR (eachL addZ r c l m) := by
  unfold eachL
  rw [upto_fl]
  exact inR_fl (fun j _ => addZ_ib _ _)
theorem eachL_length (f : Int → Int → Int × Bool) (r c : Nat) (l m : List Int) : (eachL f r c l m).length = r * c := upto_length
theorem track_out (n : Nat) (X M : List Int) (h1 : 1 ≤ n) (h8 : n ≤ 8) (hx : X.length = n * 1) (ix : inR X) (hm : M.length = n * n) (im : inR M) : trackP n 1 X n n (goodL n M) := by
  rw [goodL_fl n M hm im]
  exact ⟨rightM_of (c := 1) h1 h8 (by omega) (by omega) hx ix, rightM_of h1 h8 h1 h8 fl_length (good_in n M im), rfl, rfl, rfl, by rw [Int.toNat_natCast]; exact good_even n M⟩
/-- Predict, all ways in one -/
theorem predict_any (n : Nat) (fr fc qr qc : Int) (A1 A2 A3 A4 : Option Addr) (c1 c2 c3 c4 : Nat) (lx lp lf lq : List Int) (w : World) (h1 : 1 ≤ n) (h8 : n ≤ 8) (hx : lx.length = n * 1) (hp : lp.length = n * n) (hf : rightM fr fc lf = true) (hq : rightM qr qc lq = true)
    (rx : Rd w A1 lx) (cx : lx.length ≤ c1) (rp : Rd w A2 lp) (cp : lp.length ≤ c2) (rf : Rd w A3 lf) (cf : lf.length ≤ c3) (rq : Rd w A4 lq) (cq : lq.length ≤ c4) :
    Calls Try.prog 25 #[.agg #[I n, I 1, .slice A1 lx.length c1, I n, I n, .slice A2 lp.length c2], .agg #[I fr, I fc, .slice A3 lf.length c3], .agg #[I qr, I qc, .slice A4 lq.length c4]] w fun e w' => ∃ p q Ax X dx p' q' Ap P dp b er, e = .returned (.tuple #[.agg #[I p, I q, .slice Ax (X : List Int).length dx, I p', I q', .slice Ap (P : List Int).length dp], .bool b, I er]) ∧ (er = 0 → trackP p q X p' q' P) ∧ Rd w' Ax X ∧ X.length ≤ dx ∧ Rd w' Ap P ∧ P.length ≤ dp ∧ Below w.heap.size w w' := by
  by_cases h : (fr = n ∧ fc = n) ∧ (qr = n ∧ qc = n)
  · obtain ⟨⟨rfl, rfl⟩, ⟨rfl, rfl⟩⟩ := h
    obtain ⟨_, _, _, _, f5, f6⟩ := rightM_parts hf
    obtain ⟨_, _, _, _, g5, g6⟩ := rightM_parts hq
    rw [Int.toNat_natCast] at f5 g5
    refine (predict_calls n A1 A2 A3 A4 c1 c2 c3 c4 lx lp lf lq _ _ _ _ _ _ _ w h1 h8 hx hp f5 g5 ⟨rfl, rfl, rfl, rfl, rfl, rfl, rfl⟩ rx cx rp cp rf cf rq cq).mono ?_
    rintro e w' ⟨Ax, dx, Ap, dp, rfl, ox, op, _, hb⟩
    refine ⟨_, _, _, _, _, _, _, _, _, _, _, _, rfl, fun _ => ?_, (Own.rd ox).1, (Own.rd ox).2, (Own.rd op).1, (Own.rd op).2, hb⟩
    exact track_out n _ _ h1 h8 (mulL_length _ _ _ _ _) (inR_mul _ _ _ _ _) (eachL_length _ _ _ _ _) (inR_add _ _ _ _)
  · have hb : fitB fr fc n = false ∨ (fitB fr fc n = true ∧ fitB qr qc n = false) := by
      unfold fitB
      by_cases hf : fr = n ∧ fc = n
      · exact .inr ⟨decide_eq_true hf, decide_eq_false (fun hq => h ⟨hf, hq⟩)⟩
      · exact .inl (decide_eq_false hf)
    refine (pred_bad n 1 fr fc qr qc A1 A2 A3 A4 _ _ _ _ c1 c2 c3 c4 w hb).mono ?_
    rintro e w' ⟨rfl, hb⟩
    exact ⟨_, _, _, [], _, _, _, _, [], _, _, _, rfl, (fun h => absurd h (by decide)), Rd.nil _ _, Nat.le_refl _, Rd.nil _ _, Nat.le_refl _, hb⟩
/-- Update, all ways in one -/
theorem update_any (n : Nat) (hr hc : Int) (A1 A2 A3 : Option Addr) (c1 c2 c3 : Nat) (lx lp lh : List Int) (z r gate : Int) (w : World) (ht : trackP n 1 lx n n lp) (hh : rightM hr hc lh = true)
    (rx : Rd w A1 lx) (cx : lx.length ≤ c1) (rp : Rd w A2 lp) (cp : lp.length ≤ c2) (rh : Rd w A3 lh) (ch : lh.length ≤ c3) :
    Calls Try.prog 13 #[.agg #[I n, I 1, .slice A1 lx.length c1, I n, I n, .slice A2 lp.length c2], .agg #[I hr, I hc, .slice A3 lh.length c3], I z, I r, I gate] w fun e w' => ∃ p q Ax X dx p' q' Ap P dp tk fl er, e = .returned (.tuple #[.agg #[I p, I q, .slice Ax (X : List Int).length dx, I p', I q', .slice Ap (P : List Int).length dp], .bool tk, .bool fl, I er]) ∧ (er = 0 → trackP p q X p' q' P ∧ (tk = false → (p = n ∧ q = 1 ∧ X = lx) ∧ (p' = n ∧ q' = n ∧ P = lp))) ∧ Rd w' Ax X ∧ X.length ≤ dx ∧ Rd w' Ap P ∧ P.length ≤ dp ∧ Below w.heap.size w w' := by
  have ht' := ht
  obtain ⟨p1, p2, _, _, _, p6⟩ := ht'
  obtain ⟨a1, a2, a3, a4, a5, a6⟩ := rightM_parts p1
  obtain ⟨b1, b2, b3, b4, b5, b6⟩ := rightM_parts p2
  rw [Int.toNat_natCast] at a5 b5 p6
  by_cases hs : hr = 1 ∧ hc = n
  · obtain ⟨rfl, rfl⟩ := hs
    obtain ⟨_, _, _, _, d5, _⟩ := rightM_parts hh
    rw [Int.toNat_natCast] at d5
    by_cases h0 : 0 < r
    · obtain ⟨X, P, tk, fl, hu⟩ := upd_some n lx lp lh z r gate
      refine (upd_all n A1 A2 A3 c1 c2 c3 lx lp lh z r gate X P tk fl w (by omega) (by omega) a5 b5 d5 rx cx rp cp rh ch h0 hu).mono ?_
      rintro e w' ⟨Ax, dx, Ap, dp, rfl, hx, kx, hp, kp, hb⟩
      refine ⟨_, _, _, _, _, _, _, _, _, _, _, _, _, rfl, fun _ => ?_, hx, kx, hp, kp, hb⟩
      unfold Upd at hu
      split at hu
      · obtain ⟨rfl, rfl, _, _⟩ := hu
        exact ⟨ht, fun _ => ⟨⟨rfl, rfl, rfl⟩, ⟨rfl, rfl, rfl⟩⟩⟩
      · obtain ⟨rfl, rfl, rfl, _⟩ := hu
        refine ⟨?_, fun h => by cases h⟩
        exact track_out n _ _ (by omega) (by omega) (eachL_length _ _ _ _ _) (inR_add _ _ _ _) (eachL_length _ _ _ _ _) (inR_add _ _ _ _)
    · refine (upd_bad n 1 1 n A1 A2 A3 c1 c2 c3 lx lp lh z r gate 1 w (by decide) rx cx rp cp rh ch (may_low n 1 lx lp lh r (by omega))).mono ?_
      rintro e w' ⟨rfl, hb⟩
      exact ⟨_, _, _, [], _, _, _, _, [], _, _, _, _, rfl, (fun h => absurd h (by decide)), Rd.nil _ _, Nat.le_refl _, Rd.nil _ _, Nat.le_refl _, hb⟩
  · refine (upd_bad n 1 hr hc A1 A2 A3 c1 c2 c3 lx lp lh z r gate 9 w (by decide) rx cx rp cp rh ch (may_size n 1 hr hc lx lp lh r hs)).mono ?_
    rintro e w' ⟨rfl, hb⟩
    exact ⟨_, _, _, [], _, _, _, _, [], _, _, _, _, rfl, (fun h => absurd h (by decide)), Rd.nil _ _, Nat.le_refl _, Rd.nil _ _, Nat.le_refl _, hb⟩
end Go.Proofs.Ytninmcmajbfccaa.PR

/- Layer 5: KalmanStays. -/
namespace Go.Proofs.Ytninmcmajbfccaa.PR
open Go.RowKit Go.Proofs.Ytninmcmajbfccaa.PQ Go.Proofs.YtninmcmajbfccaaW.PrintWords Go.Proofs.YtninmcmajbfccaaW.PrintLast Go.Proofs.YtninmcmajbfccaaW.PrintMore Go.Proofs.Ytninmcmajbfccaa.KK
set_option linter.unusedVariables false
set_option linter.unusedSimpArgs false
theorem inD {l : List Int} (n : Nat) (h8 : n ≤ 8) (h : l.length = n * n) : l.length ≤ 1000000 := by have := sq8 h8; omega
set_option maxRecDepth 100000 in
set_option maxHeartbeats 20000000 in
theorem stays_walk (r c : Int) (A : Option Addr) (cp : Nat) (x : List Int) (r' c' : Int) (A' : Option Addr) (cp' : Nat) (l : List Int) (fr fc : Int) (Af : Option Addr) (cf : Nat) (lf : List Int) (qr qc : Int) (Aq : Option Addr) (cq : Nat) (lq : List Int) (hr hc : Int) (Ah : Option Addr) (ch : Nat) (lh : List Int) (n0 n1 n2 : Int) (w : World) (hA : Rd w A x) (kA : x.length ≤ cp) (hA' : Rd w A' l) (kA' : l.length ≤ cp') (hF : Rd w Af lf) (kF : lf.length ≤ cf) (hQ : Rd w Aq lq) (kQ : lq.length ≤ cq) (hH : Rd w Ah lh) (kH : lh.length ≤ ch) :
    Calls Try.prog 8 #[.agg #[I r, I c, .slice A x.length cp, I r', I c', .slice A' l.length cp', I fr, I fc, .slice Af lf.length cf, I qr, I qc, .slice Aq lq.length cq, I hr, I hc, .slice Ah lh.length ch, I n0, I n1, I n2]] w fun e w' => e = .returned (.bool true) ∧ Below w.heap.size w w' := by
  have N : Hid (Scene w [(57, #[I r, I c, .slice A x.length cp, I r', I c', .slice A' l.length cp', I fr, I fc, .slice Af lf.length cf, I qr, I qc, .slice Aq lq.length cq, I hr, I hc, .slice Ah lh.length ch, I n0, I n1, I n2]), (28, #[I r, I c, .slice A x.length cp, I r', I c', .slice A' l.length cp']), (26, #[I fr, I fc, .slice Af lf.length cf]), (26, #[I qr, I qc, .slice Aq lq.length cq]), (26, #[I hr, I hc, .slice Ah lh.length ch]), (55, #[I n0, I n1, I n2])] ((((((w.alloc (.cells #[I r, I c, .slice A x.length cp, I r', I c', .slice A' l.length cp', I fr, I fc, .slice Af lf.length cf, I qr, I qc, .slice Aq lq.length cq, I hr, I hc, .slice Ah lh.length ch, I n0, I n1, I n2] 57)).alloc (.cells #[I r, I c, .slice A x.length cp, I r', I c', .slice A' l.length cp'] 28)).alloc (.cells #[I fr, I fc, .slice Af lf.length cf] 26)).alloc (.cells #[I qr, I qc, .slice Aq lq.length cq] 26)).alloc (.cells #[I hr, I hc, .slice Ah lh.length ch] 26)).alloc (.cells #[I n0, I n1, I n2] 55))) := Lib.hid (((((((Scene.none w).push (by simp) _ _).push (by simp) _ _).push (by simp) _ _).push (by simp) _ _).push (by simp) _ _).push (by simp) _ _)
  have HA := Lib.hid hA
  have HC := Lib.hid kA
  have HA' := Lib.hid hA'
  have HC' := Lib.hid kA'
  have HF := Lib.hid hF
  have KF := Lib.hid kF
  have HQ := Lib.hid hQ
  have KQ := Lib.hid kQ
  have HH := Lib.hid hH
  have KH := Lib.hid kH
  clear hA kA hA' kA' hF kF hQ kQ hH kH
  go_enter Try.func8, Try.ntmps8
  go_wp2_with fail
  refine (shown_calls _).mono ?_
  rintro e w1 ⟨rfl, hb⟩
  have N1 := Lib.hid (N.out.below hb)
  clear hb N
  have x1 := N1.out.r1.cell
  go_wp2_with fail
  refine (refTrack_calls r c A cp x r' c' A' cp' l _ (HA.out.below N1.out.be) HC.out (HA'.out.below N1.out.be) HC'.out).mono ?_
  rintro e w2 ⟨rfl, hb⟩
  have N2 := Lib.hid (N1.out.below hb)
  clear hb N1 x1
  by_cases h1 : trackP r c x r' c' l
  · rw [decide_eq_true h1]
    have x2 := N2.out.r2.cell
    go_wp2_with fail
    refine (refRight_calls fr fc Af cf lf _ (HF.out.below N2.out.be) KF.out).mono ?_
    rintro e w3 ⟨rfl, hb⟩
    have N3 := Lib.hid (N2.out.below hb)
    clear hb N2 x2
    by_cases h2 : rightM fr fc lf = true
    · rw [h2]
      have x3 := N3.out.r3.cell
      go_wp2_with fail
      refine (refRight_calls qr qc Aq cq lq _ (HQ.out.below N3.out.be) KQ.out).mono ?_
      rintro e w4 ⟨rfl, hb⟩
      have N4 := Lib.hid (N3.out.below hb)
      clear hb N3 x3
      by_cases h3 : rightM qr qc lq = true
      · rw [h3]
        have x4 := N4.out.r4.cell
        go_wp2_with fail
        refine (refRight_calls hr hc Ah ch lh _ (HH.out.below N4.out.be) KH.out).mono ?_
        rintro e w5 ⟨rfl, hb⟩
        have N5 := Lib.hid (N4.out.below hb)
        clear hb N4 x4
        by_cases h4 : rightM hr hc lh = true
        · rw [h4]
          have h1' := h1
          obtain ⟨p1, p2, q1, q2, q3, p6⟩ := h1
          obtain ⟨a1, a2, a3, a4, a5, a6⟩ := rightM_parts p1
          obtain ⟨b1, b2, b3, b4, b5, b6⟩ := rightM_parts p2
          obtain ⟨n, hn⟩ : ∃ n : Nat, r = n := ⟨r.toNat, by omega⟩
          rw [hn] at q2 q3
          subst hn q1 q2 q3
          rw [Int.toNat_natCast] at a5 b5 p6
          have n64 := sq8 (show n ≤ 8 by omega)
          have HN : Hid (1 ≤ n ∧ n ≤ 8) := Lib.hid ⟨by omega, by omega⟩
          have HL : Hid (x.length = n * 1 ∧ l.length = n * n ∧ n * n ≤ 64) := Lib.hid ⟨a5, b5, n64⟩
          have HT := Lib.hid h1'
          have TP := Lib.hid (fun w' (h : Below w.heap.size w w') => predict_any n fr fc qr qc A A' Af Aq cp cp' cf cq x l lf lq w' HN.out.1 HN.out.2 HL.out.1 HL.out.2.1 h2 h3 (HA.out.below h) HC.out (HA'.out.below h) HC'.out (HF.out.below h) KF.out (HQ.out.below h) KQ.out)
          have TU := Lib.hid (fun w' (h : Below w.heap.size w w') => update_any n hr hc A A' Ah cp cp' ch x l lh n0 n1 n2 w' HT.out h4 (HA.out.below h) HC.out (HA'.out.below h) HC'.out (HH.out.below h) KH.out)
          clear h1' p1 p2 p6 a1 a2 a3 a4 a5 a6 b1 b2 b3 b4 b5 b6 n64 h2 h3 h4
          have x1 := N5.out.r1.cell
          have x2 := N5.out.r2.cell
          have x3 := N5.out.r3.cell
          go_wp2_with fail
          refine (TP.out _ N5.out.be).mono ?_
          rintro e w6 ⟨p, q, Ax, X, dx, p', q', Ap, P, dp, b, er, rfl, ht, rx, kx, rp, kp, hb⟩
          have N6 := Lib.hid ((N5.out.below hb).alloc (.cells #[I p, I q, .slice Ax X.length dx, I p', I q', .slice Ap P.length dp] 28))
          have PB := Lib.hid (Row.new w6 28 #[I p, I q, .slice Ax X.length dx, I p', I q', .slice Ap P.length dp])
          have RX := Lib.hid (Rd.below rx ((Below.refl _ _).alloc (Nat.le_refl _) (.cells #[I p, I q, .slice Ax X.length dx, I p', I q', .slice Ap P.length dp] 28)))
          have RP := Lib.hid (Rd.below rp ((Below.refl _ _).alloc (Nat.le_refl _) (.cells #[I p, I q, .slice Ax X.length dx, I p', I q', .slice Ap P.length dp] 28)))
          have KX := Lib.hid kx
          have KP := Lib.hid kp
          have HP := Lib.hid ht
          clear hb rx rp kx kp ht N5 x1 x2 x3 TP
          have x1 := N6.out.r1.cell
          have x4 := N6.out.r4.cell
          have x5 := N6.out.r5.cell
          go_wp2_with fail
          refine (TU.out _ N6.out.be).mono ?_
          rintro e w7 ⟨s, u, Bx, Y, fx, s', u', Bp, S, fp, tk, fl, er2, rfl, ht, rx, kx, rp, kp, hb⟩
          have N7 := Lib.hid ((N6.out.below hb).alloc (.cells #[I s, I u, .slice Bx Y.length fx, I s', I u', .slice Bp S.length fp] 28))
          have PB7 := Lib.hid ((PB.out.below hb PB.out.lt).alloc (.cells #[I s, I u, .slice Bx Y.length fx, I s', I u', .slice Bp S.length fp] 28))
          have RX7 := Lib.hid (Rd.below (RX.out.below hb) ((Below.refl _ _).alloc (Nat.le_refl _) (.cells #[I s, I u, .slice Bx Y.length fx, I s', I u', .slice Bp S.length fp] 28)))
          have RP7 := Lib.hid (Rd.below (RP.out.below hb) ((Below.refl _ _).alloc (Nat.le_refl _) (.cells #[I s, I u, .slice Bx Y.length fx, I s', I u', .slice Bp S.length fp] 28)))
          have UB7 := Lib.hid (Row.new w7 28 #[I s, I u, .slice Bx Y.length fx, I s', I u', .slice Bp S.length fp])
          have RY := Lib.hid (Rd.below rx ((Below.refl _ _).alloc (Nat.le_refl _) (.cells #[I s, I u, .slice Bx Y.length fx, I s', I u', .slice Bp S.length fp] 28)))
          have RS := Lib.hid (Rd.below rp ((Below.refl _ _).alloc (Nat.le_refl _) (.cells #[I s, I u, .slice Bx Y.length fx, I s', I u', .slice Bp S.length fp] 28)))
          have KY := Lib.hid kx
          have KS := Lib.hid kp
          have HU := Lib.hid ht
          clear hb rx rp kx kp ht N6 x1 x4 x5 TU PB RX RP
          obtain ⟨w8, hw8⟩ : ∃ w8, w7.alloc (.cells #[I s, I u, .slice Bx Y.length fx, I s', I u', .slice Bp S.length fp] 28) = w8 := ⟨_, rfl⟩
          rw [hw8] at N7 PB7 RX7 RP7 UB7 RY RS
          have W8 := Lib.hid hw8
          clear hw8
          have T18 : Hid (∀ w', Below w8.heap.size w8 w' → Calls Try.prog 18 #[.agg #[I n, I 1, .slice A x.length cp, I n, I n, .slice A' l.length cp']] w' fun e w'' => e = .returned (.bool true) ∧ Below w'.heap.size w' w'') := Lib.hid (fun w' h => by
            have hw := bgo N7.out.be h
            have hh := ownTrack_yes n A cp x A' cp' l w' (HA.out.below hw) HC.out (HA'.out.below hw) HC'.out HT.out
            exact hh)
          have T17a : Hid (er = 0 → ∀ w', Below w8.heap.size w8 w' → Calls Try.prog 17 #[.agg #[I p, I q, .slice Ax X.length dx, I p', I q', .slice Ap P.length dp]] w' fun e w'' => e = .returned (.bool true) ∧ Below w'.heap.size w' w'') := Lib.hid (fun he w' h => by
            have hh := refTrack_calls p q Ax dx X p' q' Ap dp P w' (RX7.out.below h) KX.out (RP7.out.below h) KP.out
            rw [decide_eq_true (HP.out he)] at hh
            exact hh)
          have T17b : Hid (er2 = 0 → ∀ w', Below w8.heap.size w8 w' → Calls Try.prog 17 #[.agg #[I s, I u, .slice Bx Y.length fx, I s', I u', .slice Bp S.length fp]] w' fun e w'' => e = .returned (.bool true) ∧ Below w'.heap.size w' w'') := Lib.hid (fun he w' h => by
            have hh := refTrack_calls s u Bx fx Y s' u' Bp fp S w' (RY.out.below h) KY.out (RS.out.below h) KS.out
            rw [decide_eq_true (HU.out he).1] at hh
            exact hh)
          have T21 : Hid (er2 = 0 → tk = false → ∀ w', Below w8.heap.size w8 w' → Calls Try.prog 21 #[.agg #[I s, I u, .slice Bx Y.length fx, I s', I u', .slice Bp S.length fp], .agg #[I n, I 1, .slice A x.length cp, I n, I n, .slice A' l.length cp']] w' fun e w'' => e = .returned (.bool true) ∧ Below w'.heap.size w' w'') := Lib.hid (fun he hk w' h => by
            have hw := bgo N7.out.be h
            have hsame := (HU.out he).2 hk
            have hY : Y = x := hsame.1.2.2
            have hS : S = l := hsame.2.2.2
            have hh := trackSame_calls s u s' u' n 1 n n Bx Bp A A' fx fp cp cp' Y S x l w' (RY.out.below h) KY.out (RS.out.below h) KS.out (HA.out.below hw) HC.out (HA'.out.below hw) HC'.out (by rw [hY]; have := HL.out; have := HN.out; omega) (by rw [hS]; have := HL.out; omega)
            rw [decide_eq_true hsame] at hh
            exact hh)
          have KK8 : Hid (∀ w', Below w8.heap.size w8 w' → (∀ o, w'.cell? ⟨w.heap.size + 1, o, none⟩ = #[I n, I 1, .slice A x.length cp, I n, I n, .slice A' l.length cp'][o]?) ∧ (∀ o, w'.cell? ⟨w6.heap.size, o, none⟩ = #[I p, I q, .slice Ax X.length dx, I p', I q', .slice Ap P.length dp][o]?) ∧ (∀ o, w'.cell? ⟨w7.heap.size, o, none⟩ = #[I s, I u, .slice Bx Y.length fx, I s', I u', .slice Bp S.length fp][o]?)) := Lib.hid (fun w' h => ⟨(N7.out.r1.below h N7.out.r1.lt).cell, (PB7.out.below h PB7.out.lt).cell, (UB7.out.below h UB7.out.lt).cell⟩)
          have W := Lib.hid N7.out.be
          have BN := Lib.hid (Below.refl w8.heap.size w8)
          clear N7 PB7 UB7 RX7 RP7 RY RS KX KP KY KS HP HU HT HL HN HA HA' HC HC' HF HQ HH KF KQ KH
          obtain ⟨x1, xa, xb⟩ := KK8.out w8 BN.out
          have hwp := W8.out
          clear W8
          subst hwp
          by_cases e1 : er = 0
          · subst e1
            have T17x := Lib.hid (T17a.out rfl)
            clear T17a
            go_wp2_with fail
            refine (T17x.out _ BN.out).mono ?_
            rintro e w9 ⟨rfl, hb⟩
            have BN := Lib.hid (bgo BN.out hb)
            clear hb x1 xa xb
            obtain ⟨x1, xa, xb⟩ := KK8.out w9 BN.out
            by_cases e2 : er2 = 0
            · subst e2
              have T17y := Lib.hid (T17b.out rfl)
              have T21x := Lib.hid (T21.out rfl)
              clear T17b T21
              go_wp2_with fail
              refine (T17y.out _ BN.out).mono ?_
              rintro e w10 ⟨rfl, hb⟩
              have BN := Lib.hid (bgo BN.out hb)
              clear hb x1 xa xb
              obtain ⟨x1, xa, xb⟩ := KK8.out w10 BN.out
              cases tk with
              | true =>
                clear T21x
                go_wp2_with fail
                refine (T18.out _ BN.out).mono ?_
                rintro e w11 ⟨rfl, hb⟩
                have BN := Lib.hid (bgo BN.out hb)
                clear hb x1 xa xb
                obtain ⟨x1, xa, xb⟩ := KK8.out w11 BN.out
                go_wp2
                go_ret
                exact ⟨rfl, bgo W.out BN.out⟩
              | false =>
                have T21y := Lib.hid (T21x.out rfl)
                clear T21x
                go_wp2_with fail
                refine (T21y.out _ BN.out).mono ?_
                rintro e w11 ⟨rfl, hb⟩
                have BN := Lib.hid (bgo BN.out hb)
                clear hb x1 xa xb
                obtain ⟨x1, xa, xb⟩ := KK8.out w11 BN.out
                go_wp2_with fail
                refine (T18.out _ BN.out).mono ?_
                rintro e w12 ⟨rfl, hb⟩
                have BN := Lib.hid (bgo BN.out hb)
                clear hb x1 xa xb
                obtain ⟨x1, xa, xb⟩ := KK8.out w12 BN.out
                go_wp2
                go_ret
                exact ⟨rfl, bgo W.out BN.out⟩
            · have g2 : (er2 == 0) = false := by simpa using e2
              have g2' : (er2 != 0) = true := by simpa using e2
              clear e2 T17b T21
              go_wp2_with fail
              refine (T18.out _ BN.out).mono ?_
              rintro e w10 ⟨rfl, hb⟩
              have BN := Lib.hid (bgo BN.out hb)
              clear hb x1 xa xb
              obtain ⟨x1, xa, xb⟩ := KK8.out w10 BN.out
              go_wp2
              go_ret
              exact ⟨rfl, bgo W.out BN.out⟩
          · have g1 : (er == 0) = false := by simpa using e1
            clear e1 T17a
            by_cases e2 : er2 = 0
            · subst e2
              have T17y := Lib.hid (T17b.out rfl)
              have T21x := Lib.hid (T21.out rfl)
              clear T17b T21
              go_wp2_with fail
              refine (T17y.out _ BN.out).mono ?_
              rintro e w10 ⟨rfl, hb⟩
              have BN := Lib.hid (bgo BN.out hb)
              clear hb x1 xa xb
              obtain ⟨x1, xa, xb⟩ := KK8.out w10 BN.out
              cases tk with
              | true =>
                clear T21x
                go_wp2_with fail
                refine (T18.out _ BN.out).mono ?_
                rintro e w11 ⟨rfl, hb⟩
                have BN := Lib.hid (bgo BN.out hb)
                clear hb x1 xa xb
                obtain ⟨x1, xa, xb⟩ := KK8.out w11 BN.out
                go_wp2
                go_ret
                exact ⟨rfl, bgo W.out BN.out⟩
              | false =>
                have T21y := Lib.hid (T21x.out rfl)
                clear T21x
                go_wp2_with fail
                refine (T21y.out _ BN.out).mono ?_
                rintro e w11 ⟨rfl, hb⟩
                have BN := Lib.hid (bgo BN.out hb)
                clear hb x1 xa xb
                obtain ⟨x1, xa, xb⟩ := KK8.out w11 BN.out
                go_wp2_with fail
                refine (T18.out _ BN.out).mono ?_
                rintro e w12 ⟨rfl, hb⟩
                have BN := Lib.hid (bgo BN.out hb)
                clear hb x1 xa xb
                obtain ⟨x1, xa, xb⟩ := KK8.out w12 BN.out
                go_wp2
                go_ret
                exact ⟨rfl, bgo W.out BN.out⟩
            · have g2 : (er2 == 0) = false := by simpa using e2
              have g2' : (er2 != 0) = true := by simpa using e2
              clear e2 T17b T21
              go_wp2_with fail
              refine (T18.out _ BN.out).mono ?_
              rintro e w10 ⟨rfl, hb⟩
              have BN := Lib.hid (bgo BN.out hb)
              clear hb x1 xa xb
              obtain ⟨x1, xa, xb⟩ := KK8.out w10 BN.out
              go_wp2
              go_ret
              exact ⟨rfl, bgo W.out BN.out⟩
        · have h4' : rightM hr hc lh = false := by simpa using h4
          rw [h4']
          clear h1 h2 h3 h4
          go_wp2
          go_ret
          exact ⟨rfl, N5.out.be⟩
      · have h3' : rightM qr qc lq = false := by simpa using h3
        rw [h3']
        clear h1 h2 h3
        go_wp2
        go_ret
        exact ⟨rfl, N4.out.be⟩
    · have h2' : rightM fr fc lf = false := by simpa using h2
      rw [h2']
      clear h1 h2
      go_wp2
      go_ret
      exact ⟨rfl, N3.out.be⟩
  · rw [decide_eq_false h1]
    clear h1
    go_wp2
    go_ret
    exact ⟨rfl, N2.out.be⟩
end Go.Proofs.Ytninmcmajbfccaa.PR
