import Derived.Test.YtninmcmajbfccaaZ16
import Derived.Test.YtninmcmajbfccaaZ9
import Derived.Test.YtninmcmajbfccaaZ10
/- Joined by a program of this session's own (wip/pack.py) out of its texts; the parts PQ, PR, PS were laid by its own program (wip/print-patch.py over the kit's print) out of the translation; Lean checks all. -/
/- Layer 5: a right track is told to be right. -/
namespace Go.Proofs.Ytninmcmajbfccaa.PR
open Go.RowKit Go.Proofs.Ytninmcmajbfccaa.PQ Go.Proofs.YtninmcmajbfccaaW.PrintWords Go.Proofs.YtninmcmajbfccaaW.PrintLast Go.Proofs.YtninmcmajbfccaaW.PrintMore Go.Proofs.Ytninmcmajbfccaa.KK
set_option linter.unusedVariables false
set_option linter.unusedSimpArgs false
set_option maxRecDepth 100000 in
set_option maxHeartbeats 8000000 in
theorem ownTrack_yes (n : Nat) (A : Option Addr) (cp : Nat) (x : List Int) (A' : Option Addr) (cp' : Nat) (l : List Int) (w : World) (hA : Rd w A x) (kA : x.length ≤ cp) (hA' : Rd w A' l) (kA' : l.length ≤ cp') (ht : trackP n 1 x n n l) :
    Calls Try.prog 18 #[.agg #[I n, I 1, .slice A x.length cp, I n, I n, .slice A' l.length cp']] w fun e w' => e = .returned (.bool true) ∧ Below w.heap.size w w' := by
  obtain ⟨p1, p2, _, _, _, p6⟩ := ht
  obtain ⟨a1, a2, _, _, a5, _⟩ := rightM_parts p1
  obtain ⟨_, _, _, _, b5, _⟩ := rightM_parts p2
  rw [Int.toNat_natCast] at a5 b5 p6
  have h8 : n ≤ 8 := by omega
  have h1 : 1 ≤ n := by omega
  have n64 := sq8 h8
  obtain ⟨b, off, hAe, _, hcells⟩ := hA'.cells (by have := Nat.mul_le_mul h1 h1; omega)
  subst hAe
  have et : l = trL n n l := ((tr_even n l b5).2 p6).1
  have hd := ((tr_even n l b5).2 p6).2
  have N : Hid (Scene w [(28, #[I n, I 1, .slice A x.length cp, I n, I n, .slice (some ⟨b, off, none⟩) l.length cp'])] (w.alloc (.cells #[I n, I 1, .slice A x.length cp, I n, I n, .slice (some ⟨b, off, none⟩) l.length cp'] 28))) := Lib.hid ((Scene.none w).push (by simp) _ _)
  obtain ⟨wr, hwr⟩ : ∃ wr, w.alloc (.cells #[I n, I 1, .slice A x.length cp, I n, I n, .slice (some ⟨b, off, none⟩) l.length cp'] 28) = wr := ⟨_, rfl⟩
  have NR : Hid (Scene w [(28, #[I n, I 1, .slice A x.length cp, I n, I n, .slice (some ⟨b, off, none⟩) l.length cp'])] wr) := Lib.hid (by rw [← hwr]; exact N.out)
  have T39 : Hid (∀ w', Below wr.heap.size wr w' → Calls Try.prog 39 #[.agg #[I n, I 1, .slice A x.length cp]] w' fun e w'' => e = .returned (.bool true) ∧ Below w'.heap.size w' w'') := Lib.hid (fun w' h => by
    have hh := right_calls n 1 A cp x w' (hA.below (bgo NR.out.be h))
    rw [p1] at hh
    exact hh)
  have T39b : Hid (∀ w', Below wr.heap.size wr w' → Calls Try.prog 39 #[.agg #[I n, I n, .slice (some ⟨b, off, none⟩) l.length cp']] w' fun e w'' => e = .returned (.bool true) ∧ Below w'.heap.size w' w'') := Lib.hid (fun w' h => by
    have hh := right_calls n n (some ⟨b, off, none⟩) cp' l w' (hA'.below (bgo NR.out.be h))
    rw [p2] at hh
    exact hh)
  have T41 : Hid (∀ w', Below wr.heap.size wr w' → Calls Try.prog 41 #[.agg #[I n, I n, .slice (some ⟨b, off, none⟩) l.length cp']] w' fun e w'' => ∃ Q dq, e = .returned (.agg #[I n, I n, .slice Q l.length dq]) ∧ Own w'' w'.heap.size (.slice Q l.length dq) l ∧ Below w'.heap.size w' w'') := Lib.hid (fun w' h => by
    have hh := trans_calls n n (some ⟨b, off, none⟩) cp' l w' h8 h8 b5 (hA'.below (bgo NR.out.be h))
    refine hh.mono ?_
    rintro e w'' ⟨v, rfl, ho, hb⟩
    rw [← et] at ho
    obtain ⟨Q, dq, rfl, _, _⟩ := Own.reads ho
    exact ⟨Q, dq, rfl, ho, hb⟩)
  have T40 : Hid (∀ w' Q dq, Below wr.heap.size wr w' → Rd w' Q l → l.length ≤ dq → Calls Try.prog 40 #[.agg #[I n, I n, .slice (some ⟨b, off, none⟩) l.length cp'], .agg #[I n, I n, .slice Q l.length dq]] w' fun e w'' => e = .returned (.bool true) ∧ Below w'.heap.size w' w'') := Lib.hid (fun w' Q dq h hq dq' => by
    have e1 := mat_same_ev n n n n l l (by omega)
    rw [decide_eq_true ⟨rfl, rfl, rfl⟩] at e1
    obtain ⟨k, hk⟩ := e1.rounds
    exact mat_Same.calls k n n (some ⟨b, off, none⟩) cp' l n n Q dq l _ w' (hA'.below (bgo NR.out.be h)) kA' hq dq' hk)
  have KK : Hid (∀ w', Below wr.heap.size wr w' → (∀ o, w'.cell? ⟨w.heap.size, o, none⟩ = #[I n, I 1, .slice A x.length cp, I n, I n, .slice (some ⟨b, off, none⟩) l.length cp'][o]?) ∧ True) := Lib.hid (fun w' h => ⟨(NR.out.r0.below h NR.out.r0.lt).cell, trivial⟩)
  have CL : Hid (∀ w' (k : Nat), Below wr.heap.size wr w' → k < n → w'.cell? ⟨b, off + (k * n + k), none⟩ = some (I (l.getD (k * n + k) 0)) ∧ 0 ≤ l.getD (k * n + k) 0) := Lib.hid (fun w' k h hk => by
    have hlt := idx_lt hk hk
    have hb := (bgo NR.out.be h)
    refine ⟨?_, hd k hk (by omega)⟩
    have hc := hcells (k * n + k) _ (getD_of (by omega))
    have := hb.cell (p := ⟨b, off + (k * n + k), none⟩) (by have := cell_lt hc; exact this)
    rw [this]
    exact hc)
  have LN : Hid (l.length = n * n ∧ n ≤ 8) := Lib.hid ⟨b5, h8⟩
  have BN := Lib.hid (Below.refl wr.heap.size wr)
  clear p1 p2 p6 a1 a2 a5 b5 h8 h1 n64 et hd hA kA hA' kA' hcells
  have HW := Lib.hid hwr
  clear hwr
  have x0 := N.out.r0.cell
  go_enter Try.func18, Try.ntmps18
  go_wp2_with fail
  change Code.wp Try.prog _ _ _ (w.alloc (.cells #[I n, I 1, .slice A x.length cp, I n, I n, .slice (some ⟨b, off, none⟩) l.length cp'] 28))
  rw [HW.out]
  clear HW N x0
  go_region_held3 (fun w' => (∀ o, w'.cell? ⟨w.heap.size, o, none⟩ = #[I n, I 1, .slice A x.length cp, I n, I n, .slice (some ⟨b, off, none⟩) l.length cp'][o]?) ∧ True)
    (first | with_reducible exact KK.out _ BN.out | with_reducible exact KK.out _ (bal BN.out _) | with_reducible exact KK.out _ (bdr BN.out) | with_reducible exact KK.out _ (bal (bdr BN.out) _) | with_reducible exact KK.out _ (bdr (bal BN.out _)))
    (first
        | (go_at_call 40
           first
             | ((with_reducible refine (T40.out _ _ _ (BN.out) RQ.out DQ.out).mono ?_)
                rintro e w4 ⟨rfl, hb⟩
                have RQ := Lib.hid (Rd.below RQ.out hb)
                have BN := Lib.hid (bgo (BN.out) hb)
                have zw4 := BN.out.size
                clear hb))
        | (go_at_call 41
           first
             | ((with_reducible refine (T41.out _ (BN.out)).mono ?_)
                rintro e w3 ⟨Q, dq, rfl, ho, hb⟩
                have RQ := Lib.hid (Own.rd ho).1
                have DQ := Lib.hid (Own.rd ho).2
                have BN := Lib.hid (bgo (BN.out) hb)
                have zw3 := BN.out.size
                clear hb ho))
        | (go_at_call 39
           first
             | ((with_reducible refine (T39b.out _ (BN.out)).mono ?_)
                rintro e w2 ⟨rfl, hb⟩
                have BN := Lib.hid (bgo (BN.out) hb)
                have zw2 := BN.out.size
                clear hb))
        | (go_at_call 39
           first
             | ((with_reducible refine (T39.out _ (bdr BN.out)).mono ?_)
                rintro e w1 ⟨rfl, hb⟩
                have BN := Lib.hid (bgo (bdr BN.out) hb)
                have zw1 := BN.out.size
                clear hb)))
  have x0 := (KK.out _ BN.out).1
  have BE := Lib.hid (bgo NR.out.be BN.out)
  have CM := Lib.hid (fun k (h : k < n) => CL.out w4 k BN.out h)
  clear T39 T39b T40 T41 KK CL NR BN RQ DQ zw1 zw2 zw3 zw4
  go_wp2_with fail
  go_loop [48] (fun u => ∃ k : Nat, k ≤ n ∧ u = .int .i64 k) (fun u => n - (intOf u).toNat)
  case atStart => exact ⟨0, Nat.zero_le _, rfl⟩
  case round =>
    obtain ⟨k, hk, rfl⟩ := hrel
    by_cases hlt : k < n
    · obtain ⟨c1, c2⟩ := CM.out k hlt
      have hln := LN.out
      have n64 := sq8 hln.2
      have hlk := idx_lt hlt hlt
      obtain ⟨q, hq⟩ : ∃ q, l.getD (k * n + k) 0 = q := ⟨_, rfl⟩
      rw [hq] at c1 c2
      have e1 : decide (q < 0) = false := decide_eq_false (by omega)
      obtain ⟨p, hp⟩ : ∃ p : Nat, k * n = p := ⟨_, rfl⟩
      have hp2 : (k : Int) * (n : Int) = (p : Int) := by rw [← hp]; push_cast; rfl
      rw [hp] at c1 hlk
      have hw1 : IntKind.i64.wrap ((k : Int) * (n : Int)) = (p : Int) := by rw [hp2]; simp [IntKind.wrap, IntKind.bits, IntKind.signed]; omega
      have hw2 : IntKind.i64.wrap ((p : Int) + (k : Int)) = ((p + k : Nat) : Int) := by simp [IntKind.wrap, IntKind.bits, IntKind.signed]; omega
      obtain ⟨j, hj⟩ : ∃ j : Nat, p + k = j := ⟨_, rfl⟩
      rw [hj] at c1 hlk hw2
      have hj0 : (0 : Int) ≤ (j : Int) := by omega
      have hj1 : (j : Int) < l.length := by omega
      have hk8 : k + 1 ≤ 8 := by omega
      have HK : Hid (k + 1 ≤ n ∧ n ≤ 8) := Lib.hid ⟨by omega, by omega⟩
      clear hq hp hp2 hj hln n64 hlk c2 CM LN
      go_wp2
      go_round
      case rel => exact ⟨k + 1, HK.out.1, by go_num⟩
      case measure => simp [intOf]; omega
    · go_wp2
      go_ret
      exact ⟨rfl, BE.out⟩
end Go.Proofs.Ytninmcmajbfccaa.PR

/- Layer 5: what is in bounds; what is right. -/
namespace Go.Proofs.Ytninmcmajbfccaa.PR
open Go.RowKit Go.Proofs.Ytninmcmajbfccaa.PQ Go.Proofs.YtninmcmajbfccaaW.PrintWords Go.Proofs.YtninmcmajbfccaaW.PrintLast Go.Proofs.YtninmcmajbfccaaW.PrintMore Go.Proofs.Ytninmcmajbfccaa.KK
set_option linter.unusedVariables false
set_option linter.unusedSimpArgs false
theorem inR_of {l : List Int} (h : l.any oddQ = false) : inR l := fun j => by
  by_cases hj : j < l.length
  · have h1 := List.any_eq_false.1 h (l.getD j 0) (by rw [List.getD_eq_getElem?_getD, List.getElem?_eq_getElem hj]; exact List.getElem_mem hj)
    unfold oddQ at h1
    simp only [Bool.or_eq_true, decide_eq_true_eq, not_or, Bool.not_eq_true] at h1
    omega
  · rw [List.getD_eq_getElem?_getD, List.getElem?_eq_none (by omega)]
    simp
theorem any_of {l : List Int} (h : inR l) : l.any oddQ = false := by
  rw [List.any_eq_false]
  intro a ha
  obtain ⟨j, hj, rfl⟩ := List.getElem_of_mem ha
  have := h j
  rw [List.getD_eq_getElem?_getD, List.getElem?_eq_getElem hj] at this
  simp at this
  unfold oddQ
  simp
  omega
theorem rightM_of {r c : Nat} {l : List Int} (h1 : 1 ≤ r) (h2 : r ≤ 8) (h3 : 1 ≤ c) (h4 : c ≤ 8) (hl : l.length = r * c) (h : inR l) : rightM r c l = true := by
  have b1 : r * c ≤ 8 * 8 := Nat.mul_le_mul h2 h4
  have e : wrap64 ((r : Int) * (c : Int)) = ((r * c : Nat) : Int) := by
    have e : (r : Int) * (c : Int) = ((r * c : Nat) : Int) := by push_cast; rfl
    rw [e, w64 (by omega) (by omega)]
  unfold rightM
  rw [any_of h, e, hl]
  simp
  omega
end Go.Proofs.Ytninmcmajbfccaa.PR

/- Layer 5: a new track. -/
namespace Go.Proofs.Ytninmcmajbfccaa.PR
open Go.RowKit Go.Proofs.Ytninmcmajbfccaa.PQ Go.Proofs.YtninmcmajbfccaaW.PrintWords Go.Proofs.YtninmcmajbfccaaW.PrintLast Go.Proofs.YtninmcmajbfccaaW.PrintMore Go.Proofs.Ytninmcmajbfccaa.KK
set_option linter.unusedVariables false
set_option linter.unusedSimpArgs false
theorem res6t {w : World} {B : Nat} {a b c d e f : Value} {fn : Func} {k i : Nat} {tmps : Array Value} (h : fn.results = #[.cell k 28, .tmp i]) (hk : tmps.getD k undef = .pointer (some ⟨B, 0, none⟩)) (R : Row w B 28 #[a, b, c, d, e, f]) :
    (results fn tmps).run Try.prog w = .ok (.tuple #[.agg #[a, b, c, d, e, f], tmps.getD i undef]) w := by
  have c := R.cell
  have hk' : tmps[k]?.getD undef = .pointer (some ⟨B, 0, none⟩) := by simpa using hk
  simp only [results, h]
  simp [go_sem, hk', c]
def newP (x v : List Int) : Prop := x.length = v.length ∧ 1 ≤ v.length ∧ v.length ≤ 8 ∧ inR x ∧ inR v ∧ ∀ j, 0 ≤ v.getD j 0
theorem diagL_fl (l : List Int) : diagL l = fl (l.length * l.length) (fun j => if j / l.length = j % l.length then l.getD (j / l.length) 0 else 0) := by
  unfold diagL
  rw [upto_fl]
theorem diag_in (l : List Int) (h : inR l) : inR (diagL l) := by
  rw [diagL_fl]
  refine inR_fl (fun m _ => ?_)
  split
  · exact h _
  · omega
theorem diag_even (l : List Int) (h : ∀ j, 0 ≤ l.getD j 0) : evenP l.length (diagL l) := by
  intro m hm
  rw [diagL_fl, fl_getD hm, fl_getD (ac_lt hm)]
  constructor
  · by_cases e : m / l.length = m % l.length
    · rw [if_pos e, if_pos ((ac_d hm).2 e), ac_diag hm e]
    · rw [if_neg e, if_neg (fun h => e ((ac_d hm).1 h))]
  · intro e
    rw [if_pos e]
    exact h _
theorem new_track {x v : List Int} (h : newP x v) : trackP (v.length : Int) 1 x v.length v.length (diagL v) := by
  obtain ⟨hl, h1, h8, hx, hv, h0⟩ := h
  refine ⟨rightM_of (c := 1) h1 h8 (by omega) (by omega) (by omega) hx, rightM_of h1 h8 h1 h8 (diagL_length v) (diag_in v hv), rfl, rfl, rfl, ?_⟩
  rw [Int.toNat_natCast]
  exact diag_even v h0
set_option maxRecDepth 100000 in
set_option maxHeartbeats 8000000 in
theorem new_raw (n : Nat) (A1 A2 : Option Addr) (c1 c2 : Nat) (x v : List Int) (w : World) (rx : Rd w A1 x) (rv : Rd w A2 v) (h : newP x v) (ex : x.length = n) (ev : v.length = n) :
    Calls Try.prog 12 #[.slice A1 n c1, .slice A2 n c2] w fun e w' => ∃ Ax dx Ap dp, e = .returned (.tuple #[.agg #[I n, I 1, .slice Ax n dx, I n, I n, .slice Ap (diagL v).length dp], I 0]) ∧ Rd w' Ax x ∧ n ≤ dx ∧ Rd w' Ap (diagL v) ∧ (diagL v).length ≤ dp ∧ Below w.heap.size w w' := by
  have N : Hid (Scene w [(28, #[I 0, I 0, .slice none 0 0, I 0, I 0, .slice none 0 0])] (w.alloc (.cells #[I 0, I 0, .slice none 0 0, I 0, I 0, .slice none 0 0] 28))) := Lib.hid ((Scene.none w).push (by simp) _ _)
  have HT : Hid (trackP (n : Int) 1 x n n (diagL v)) := Lib.hid (by have := new_track h; rwa [ev] at this)
  obtain ⟨hl, h1, h8, hx, hv, h0⟩ := h
  have EX := Lib.hid ex
  have HC : Hid (∀ w', Rd w' A1 x → Calls Try.prog 31 #[.slice A1 n c1] w' fun e w'' => ∃ C dc, e = .returned (.slice C n dc) ∧ n ≤ dc ∧ Own w'' w'.heap.size (.slice C x.length dc) x ∧ Below w'.heap.size w' w'') := Lib.hid (fun w' h => by
    have hh := clone_calls A1 c1 x w' h (by omega) (fun e => by
      obtain ⟨b, off, e2, _⟩ := Rd.cells h (by omega)
      rw [e] at e2
      cases e2)
    rw [ex] at hh
    refine hh.mono ?_
    rintro e w'' ⟨v', rfl, ho, hb⟩
    obtain ⟨C, dc, rfl, hc, _⟩ := Own.reads ho
    rw [ex] at hc
    exact ⟨C, dc, by rw [ex], hc, ho, hb⟩)
  have HD : Hid (∀ w', Rd w' A2 v → Calls Try.prog 30 #[.slice A2 n c2] w' fun e w'' => ∃ v', e = .returned (.tuple #[.agg #[I n, I n, v'], I 0]) ∧ Own w'' w'.heap.size v' (diagL v) ∧ Below w'.heap.size w' w'') := Lib.hid (fun w' h => by
    have hh := diag_good A2 c2 v w' h h1 h8 (PR.any_of hv)
    rw [ev] at hh
    exact hh)
  have RX := Lib.hid rx
  have RV := Lib.hid rv
  clear rx rv hl h1 h8 hx hv h0 ex ev
  go_enter Try.func12, Try.ntmps12
  go_wp2_with fail
  refine (HD.out _ (RV.out.below N.out.be)).mono ?_
  rintro e w1 ⟨v', rfl, ho, hb⟩
  obtain ⟨D, dd, rfl, _, _⟩ := Own.reads ho
  have N1 := Lib.hid ((N.out.below hb).alloc (.cells #[I n, I n, .slice D (diagL v).length dd] 26))
  have PB := Lib.hid (Row.new w1 26 #[I n, I n, .slice D (diagL v).length dd])
  have DO : Hid (Own (w1.alloc (.cells #[I n, I n, .slice D (diagL v).length dd] 26)) (w.heap.size + 1) (.slice D (diagL v).length dd) (diagL v)) := Lib.hid (Own.lower (Own.alloc ho _) (by simp))
  have DC := Lib.hid (Own.rd ho).2
  clear ho hb N HD RV
  go_wp2_with fail
  rename_i K2 aK2
  generalize w1.alloc (.cells #[I n, I n, .slice D (diagL v).length dd] 26) = wr at N1 PB DO ⊢
  generalize w1.heap.size = pb at PB ⊢
  have KK2 : Hid (∀ w', Below wr.heap.size wr w' → (∀ o, w'.cell? ⟨pb, o, none⟩ = #[I n, I n, .slice D (diagL v).length dd][o]?) ∧ True) := Lib.hid (fun w' h => ⟨(PB.out.below h PB.out.lt).cell, trivial⟩)
  have T31 := Lib.hid (fun w' (h : Below wr.heap.size wr w') => HC.out w' (RX.out.below (bgo N1.out.be h)))
  have BN := Lib.hid (Below.refl wr.heap.size wr)
  clear HC RX
  have REST : Hid (∀ (tb : Nat) (w3 : World) (C : Option Addr) (dc : Nat), Below wr.heap.size wr w3 → Row w3 tb 28 #[I n, I 1, .slice C n dc, I n, I n, .slice D (diagL v).length dd] → Own w3 (w.heap.size + 1) (.slice C x.length dc) x → n ≤ dc → wr.heap.size ≤ tb → K2 { tmps := #[Value.slice A1 n c1, Value.slice A2 n c2, undef, undef, Value.pointer (some ⟨w.heap.size, 0, none⟩), I 0, Value.pointer (some ⟨pb, 0, none⟩), I 0, Value.pointer (some ⟨tb, 0, none⟩), Value.tuple #[Value.agg #[I n, I n, Value.slice D (diagL v).length dd], I 0], Value.slice A2 n c2, Value.tuple #[Value.agg #[I n, I n, Value.slice D (diagL v).length dd], I 0], Value.agg #[I n, I n, Value.slice D (diagL v).length dd], I 0, Value.slice A1 n c1, I n, Value.slice A1 n c1, Value.slice C n dc, Value.agg #[I n, I 1, Value.slice C n dc], Value.agg #[I n, I n, Value.slice D (diagL v).length dd], Value.agg #[I n, I 1, Value.slice C n dc, I n, I n, Value.slice D (diagL v).length dd], undef, undef, undef, undef, undef, undef, undef, undef, undef], defers := [] } w3) := Lib.hid (by
    intro tb w3 C dc hB hT hx kx htb
    refine aK2 _ _ ?_
    have N3 := Lib.hid (N1.out.below hB)
    have TB := Lib.hid hT
    have RC := Lib.hid hx
    have KC := Lib.hid kx
    have DO3 := Lib.hid (DO.out.below hB)
    have ZB : Hid (w.heap.size + 1 ≤ wr.heap.size ∧ wr.heap.size ≤ tb) := Lib.hid ⟨by have h := N1.out.rows.le N1.out.be.size; simpa using h, htb⟩
    have T18 : Hid (Calls Try.prog 18 #[.agg #[I n, I 1, .slice C n dc, I n, I n, .slice D (diagL v).length dd]] w3 fun e w' => e = .returned (.bool true) ∧ Below w3.heap.size w3 w') := Lib.hid (by
      have hh := ownTrack_yes n C dc x D dd (diagL v) w3 (Own.rd hx).1 (by rw [EX.out]; exact kx) (Own.rd DO3.out).1 DC.out HT.out
      rw [EX.out] at hh
      exact hh)
    clear hB hT hx kx htb T31 KK2 BN N1 PB DO aK2
    have xt := TB.out.cell
    go_wp2_with fail
    refine T18.out.mono ?_
    rintro e w4 ⟨rfl, hb⟩
    have N4 := Lib.hid (N3.out.below hb)
    have T4 := Lib.hid (TB.out.below hb TB.out.lt)
    have RC4 := Lib.hid (RC.out.below hb)
    have DO4 := Lib.hid (DO3.out.below hb)
    clear hb xt N3 TB RC DO3 T18
    have xt := T4.out.cell
    have x0 := N4.out.r0.cell
    have g0 := N4.out.r0.free
    have zz := ZB.out
    have hne : tb ≠ w.heap.size := by omega
    have t0 := N4.out.r0.lt
    go_wp2
    refine bodyPost_ret (res6t rfl rfl (Row.fill6 N4.out.r0 _ _ _ _ _ _)) rfl ⟨_, _, _, _, rfl, ?_, KC.out, ?_, DC.out, ?_⟩
    · exact (Own.rd (Own.fill6 RC4.out (by omega) _ _ _ _ _ _)).1
    · exact (Own.rd (Own.fill6 DO4.out (by omega) _ _ _ _ _ _)).1
    · exact Below.fill6 N4.out.be (Nat.le_refl _) _ _ _ _ _ _)
  go_region_held3 (fun w' => (∀ o, w'.cell? ⟨pb, o, none⟩ = #[I n, I n, .slice D (diagL v).length dd][o]?) ∧ True)
    (first | with_reducible exact KK2.out _ BN.out | with_reducible exact KK2.out _ (bal BN.out _) | with_reducible exact KK2.out _ (bdr BN.out) | with_reducible exact KK2.out _ (bal (bdr BN.out) _) | with_reducible exact KK2.out _ (bdr (bal BN.out _)) | ((with_reducible refine KK2.out _ (Below.fill6 BN.out ?_ _ _ _ _ _ _)); first | omega | (simp; omega)))
    (first
        | (go_at_call 31
           first
             | ((with_reducible refine (T31.out _ (bdr BN.out)).mono ?_)
                rintro e w2 ⟨C, dc, rfl, hc, ho, hb⟩
                have OC := Lib.hid ho
                have LC := Lib.hid hc
                have BN := Lib.hid (bgo (bdr BN.out) hb)
                have zw2 := BN.out.size
                clear hb ho hc)
             | ((with_reducible refine (T31.out _ (bal (bdr BN.out) _)).mono ?_)
                rintro e w2 ⟨C, dc, rfl, hc, ho, hb⟩
                have OC := Lib.hid ho
                have LC := Lib.hid hc
                have BN := Lib.hid (bgo (bal (bdr BN.out) _) hb)
                have zw2 := BN.out.size
                have TB : Hid (Row w2 wr.heap.size 28 #[I 0, I 0, .slice none 0 0, I 0, I 0, .slice none 0 0]) := Lib.hid (Row.below (Row.new wr.drew 28 #[I 0, I 0, .slice none 0 0, I 0, I 0, .slice none 0 0]) hb (by simp))
                have zt := TB.out.lt
                have kc := TB.out.cell
                have kf := TB.out.free
                clear hb ho hc)
             | ((with_reducible refine (T31.out _ (bdr (bal BN.out _))).mono ?_)
                rintro e w2 ⟨C, dc, rfl, hc, ho, hb⟩
                have OC := Lib.hid ho
                have LC := Lib.hid hc
                have BN := Lib.hid (bgo (bdr (bal BN.out _)) hb)
                have zw2 := BN.out.size
                have TB : Hid (Row w2 wr.heap.size 28 #[I 0, I 0, .slice none 0 0, I 0, I 0, .slice none 0 0]) := Lib.hid (Row.below (Row.drew (Row.new wr 28 #[I 0, I 0, .slice none 0 0, I 0, I 0, .slice none 0 0])) hb (by simp))
                have zt := TB.out.lt
                have kc := TB.out.cell
                have kf := TB.out.free
                clear hb ho hc)))
  all_goals
    show K2 _ _
    first
      | ((with_reducible refine REST.out _ _ _ _ (bal BN.out _) (Row.new _ _ _) (Own.lower (OC.out.alloc _) ?_) LC.out (by omega)); have h := N1.out.rows.le N1.out.be.size; simp at h; first | omega | (simp; omega))
      | ((with_reducible refine REST.out _ _ _ _ (Below.fill6 BN.out ?_ _ _ _ _ _ _) (Row.fill6 TB.out _ _ _ _ _ _) (Own.lower (Own.fill6 OC.out ?_ _ _ _ _ _ _) ?_) LC.out ?_)
         all_goals have h := N1.out.rows.le N1.out.be.size
         all_goals simp at h
         all_goals first | omega | (simp; done) | (simp; omega))
theorem new_calls (A1 A2 : Option Addr) (c1 c2 : Nat) (x v : List Int) (w : World) (rx : Rd w A1 x) (cx : x.length ≤ c1) (rv : Rd w A2 v) (cv : v.length ≤ c2) (h : newP x v) :
    Calls Try.prog 12 #[.slice A1 x.length c1, .slice A2 v.length c2] w fun e w' => ∃ Ax dx Ap dp, e = .returned (.tuple #[.agg #[I x.length, I 1, .slice Ax x.length dx, I v.length, I v.length, .slice Ap (diagL v).length dp], I 0]) ∧ Rd w' Ax x ∧ x.length ≤ dx ∧ Rd w' Ap (diagL v) ∧ (diagL v).length ≤ dp ∧ Below w.heap.size w w' := by
  have hh := new_raw v.length A1 A2 c1 c2 x v w rx rv h h.1 rfl
  rw [h.1]
  exact hh
end Go.Proofs.Ytninmcmajbfccaa.PR

/- Layer 5: the document's example. -/
namespace Go.Proofs.Ytninmcmajbfccaa.PR
open Go.RowKit Go.Proofs.Ytninmcmajbfccaa.PQ Go.Proofs.YtninmcmajbfccaaW.PrintWords Go.Proofs.YtninmcmajbfccaaW.PrintLast Go.Proofs.YtninmcmajbfccaaW.PrintMore Go.Proofs.Ytninmcmajbfccaa.KK
set_option linter.unusedVariables false
set_option linter.unusedSimpArgs false
theorem Rd.one {w : World} {b : Nat} {q : Int} {t : TypeId} (h : Row w b t #[I q]) : Rd w (some ⟨b, 0, none⟩) [q] := by
  refine ⟨rfl, by show (1 : Nat) ≤ _; omega, fun _ => ⟨_, rfl, fun j p hj => ?_⟩⟩
  match j, hj with
  | 0, hj =>
    simp at hj
    subst hj
    refine ⟨[I q], rfl, rfl, fun i u hi => ?_⟩
    match i, hi with
    | 0, hi =>
      simp at hi
      subst hi
      have := h.cell 0
      simpa [Addr.add] using this
set_option maxRecDepth 100000 in
set_option maxHeartbeats 8000000 in
theorem shown_calls (w : World) : Calls Try.prog 11 #[] w fun e w' => e = .returned (.bool true) ∧ Below w.heap.size w w' := by
  have hn : newP [0] [16777216] := by
    refine ⟨rfl, by simp, by simp, fun j => ?_, fun j => ?_, fun j => ?_⟩
    all_goals
      match j with
      | 0 => simp
      | j + 1 => simp
  have hm : PQ.kalman_may.f 1000 (1 : Nat) 1 [0] (1 : Nat) (1 : Nat) [16777216] 1 (1 : Nat) [16777216] 16777216 = some 0 := by decide +kernel
  have hi : kalman_work_innov.f false (1 : Nat) 1 [0] (1 : Nat) (1 : Nat) [16777216] 1 (1 : Nat) [16777216] 33554432 16777216 = some (33554432, 33554432, false) := by decide +kernel
  have h2 : mulZ 33554432 33554432 = (67108864, false) := by decide +kernel
  have h3 : mulZ 1677721600 33554432 = (3355443200, false) := by decide +kernel
  have hX : tX 1 [0] [16777216] [16777216] 33554432 33554432 = [16777216] := by decide +kernel
  have hP : tP 1 [16777216] [16777216] 33554432 16777216 = [8388608] := by decide +kernel
  have hB : tB 1 [0] [16777216] [16777216] 33554432 33554432 16777216 (false || false || false) = false := by decide +kernel
  have N : Hid (Scene w [(22, #[I 0]), (22, #[I 16777216])] ((w.alloc (.cells #[I 0] 22)).alloc (.cells #[I 16777216] 22))) := Lib.hid (((Scene.none w).push (by simp) _ _).push (by simp) _ _)
  have HN := Lib.hid hn
  have UPD := Lib.hid (fun A1 A2 A3 c1 c2 c3 w' r1 k1 r2 k2 r3 k3 => upd_taken 1 A1 A2 A3 c1 c2 c3 [0] [16777216] [16777216] 33554432 16777216 1677721600 33554432 33554432 67108864 3355443200 false false false w' (by omega) (by omega) rfl rfl rfl r1 k1 r2 k2 r3 k3 hm hi h2 h3 (by omega) (by omega))
  rw [hX, hP, hB] at UPD
  have eo : ((1 : Nat) : Int) = 1 := rfl
  have el0 : [(0 : Int)].length = 1 := rfl
  have el1 : [(16777216 : Int)].length = 1 := rfl
  have el2 : [(8388608 : Int)].length = 1 := rfl
  simp only [eo, el0, el1, el2] at UPD
  clear hn hm hi h2 h3 hX hP hB
  go_enter Try.func11, Try.ntmps11
  go_wp2_with fail
  refine (new_calls (some ⟨w.heap.size, 0, none⟩) (some ⟨w.heap.size + 1, 0, none⟩) 1 1 [0] [16777216] _ (Rd.one N.out.r0) (by simp) (Rd.one N.out.r1) (by simp) HN.out).mono ?_
  rintro e w1 ⟨A2, c2, A5, c5, rfl, r2, k2, r5, k5, hb⟩
  have ed : diagL [16777216] = [16777216] := rfl
  rw [ed] at r5 k5
  have B1 := Lib.hid (N.out.be.trans (hb.mono N.out.be.size))
  have R2 := Lib.hid r2
  have R5 := Lib.hid r5
  have K2 := Lib.hid k2
  have K5 := Lib.hid k5
  clear hb k2 k5 r2 r5 N ed
  rw [el0] at K2
  rw [el1] at K5
  have hbw : Below w1.heap.size w1 (((w1.alloc (.cells #[I 1, I 1, .slice A2 1 c2, I 1, I 1, .slice A5 1 c5] 28)).alloc (.cells #[I 16777216] 22)).alloc (.cells #[I 1, I 1, .slice (some ⟨w1.heap.size + 1, 0, none⟩) 1 1] 26)) := (((Below.refl _ _).alloc (Nat.le_refl _) _).alloc (by simp) _).alloc (by simp; omega) _
  have HBW := Lib.hid hbw
  have RH : Hid (Row (((w1.alloc (.cells #[I 1, I 1, .slice A2 1 c2, I 1, I 1, .slice A5 1 c5] 28)).alloc (.cells #[I 16777216] 22)).alloc (.cells #[I 1, I 1, .slice (some ⟨w1.heap.size + 1, 0, none⟩) 1 1] 26)) (w1.heap.size + 1) 22 #[I 16777216]) := Lib.hid (by
    have h := Row.new (w1.alloc (.cells #[I 1, I 1, .slice A2 1 c2, I 1, I 1, .slice A5 1 c5] 28)) 22 #[I 16777216]
    have h2 := Row.alloc h (.cells #[I 1, I 1, .slice (some ⟨w1.heap.size + 1, 0, none⟩) 1 1] 26)
    simpa using h2)
  clear hbw
  go_wp2_with fail
  refine (UPD.out A2 A5 (some ⟨w1.heap.size + 1, 0, none⟩) c2 c5 1 _ (Rd.below R2.out HBW.out) K2.out (Rd.below R5.out HBW.out) K5.out (Rd.one RH.out) (by simp)).mono ?_
  rintro e w3 ⟨Ax, dx, Ap, dp, rfl, ox, op, hne, hb⟩
  have B3 := Lib.hid (B1.out.trans ((HBW.out.trans (hb.mono HBW.out.size)).mono B1.out.size))
  obtain ⟨bx, fx, rfl, cx, _⟩ := Own.first (l := [16777216]) ox (by simp)
  obtain ⟨bp, fp, rfl, cp, _⟩ := Own.first (l := [8388608]) op (by simp)
  have cx' : w3.cell? ⟨bx, fx, none⟩ = some (I 16777216) := cx
  have cp' : w3.cell? ⟨bp, fp, none⟩ = some (I 8388608) := cp
  have lx := cell_lt cx'
  have lp := cell_lt cp'
  dsimp only at lx lp
  clear ox op hne hb cx cp UPD R2 R5 RH
  have B4 := Lib.hid (B3.out.alloc B3.out.size (.cells #[I 1, I 1, .slice (some ⟨bx, fx, none⟩) 1 dx, I 1, I 1, .slice (some ⟨bp, fp, none⟩) 1 dp] 28))
  go_wp2
  go_ret
  exact ⟨rfl, B4.out⟩
end Go.Proofs.Ytninmcmajbfccaa.PR

/- Layer 5: the contracts of the document's functions, plainly. -/
namespace Go.Proofs.Ytninmcmajbfccaa.PR
open Go.RowKit Go.Proofs.Ytninmcmajbfccaa.PQ Go.Proofs.YtninmcmajbfccaaW.PrintWords Go.Proofs.YtninmcmajbfccaaW.PrintLast Go.Proofs.YtninmcmajbfccaaW.PrintMore Go.Proofs.Ytninmcmajbfccaa.KK
set_option linter.unusedVariables false
set_option linter.unusedSimpArgs false
/-- No numbers but 0. -/
def zr (n : Nat) : List Int := fl (n * 1) (fun _ => 0)
theorem zr_length (n : Nat) : (zr n).length = n * 1 := fl_length
theorem none_calls (n : Nat) (h8 : n ≤ 8) (w : World) : Calls Try.prog 16 #[I n, I 1] w fun e w' => ∃ A d, e = .returned (.agg #[I n, I 1, .slice A (zr n).length d]) ∧ Own w' w.heap.size (.slice A (zr n).length d) (zr n) ∧ Below w.heap.size w w' := by
  obtain ⟨k, hk⟩ := (none_ev n 1 (n * 1) (by omega) (by rw [w64 (by omega) (by omega)]; push_cast; rfl)).rounds
  refine (alidaderef03_None.calls k n 1 _ _ _ w hk).mono ?_
  rintro e w' ⟨v, rfl, ho, hb⟩
  obtain ⟨A, d, rfl, _, _⟩ := Own.reads ho
  exact ⟨A, d, rfl, ho, hb⟩
theorem refTrack_calls (r c : Int) (A1 : Option Addr) (c1 : Nat) (x : List Int) (r' c' : Int) (A2 : Option Addr) (c2 : Nat) (l : List Int) (w : World) (h1 : Rd w A1 x) (d1 : x.length ≤ c1) (h2 : Rd w A2 l) (d2 : l.length ≤ c2) :
    Calls Try.prog 17 #[.agg #[I r, I c, .slice A1 x.length c1, I r', I c', .slice A2 l.length c2]] w fun e w' => e = .returned (.bool (decide (trackP r c x r' c' l))) ∧ Below w.heap.size w w' := by
  obtain ⟨k, hk⟩ := (ref_right_ev r c x r' c' l).rounds
  exact alidaderef05_Right.calls k r c A1 c1 x r' c' A2 c2 l _ w h1 d1 h2 d2 hk
theorem refSame_calls (r c : Int) (A1 : Option Addr) (c1 : Nat) (x : List Int) (r' c' : Int) (A2 : Option Addr) (c2 : Nat) (l : List Int) (w : World) (h1 : Rd w A1 x) (d1 : x.length ≤ c1) (h2 : Rd w A2 l) (d2 : l.length ≤ c2) (hl : x.length ≤ 1000000) :
    Calls Try.prog 19 #[.agg #[I r, I c, .slice A1 x.length c1], .agg #[I r', I c', .slice A2 l.length c2]] w fun e w' => e = .returned (.bool (decide (r = r' ∧ c = c' ∧ x = l))) ∧ Below w.heap.size w w' := by
  obtain ⟨k, hk⟩ := (same_ev r c r' c' x l hl).rounds
  exact alidaderef03_Same.calls k r c A1 c1 x r' c' A2 c2 l _ w h1 d1 h2 d2 hk
theorem zr_in (n : Nat) : inR (zr n) := inR_fl (fun _ _ => by omega)
theorem good_in (n : Nat) (l : List Int) (h : inR l) : inR (goodF n l) := inR_fl (fun m _ => gQ_in h)
theorem good_track (n : Nat) (l : List Int) (h1 : 1 ≤ n) (h8 : n ≤ 8) (hr : inR l) : trackP n 1 (zr n) n n (goodF n l) :=
  ⟨rightM_of (c := 1) h1 h8 (by omega) (by omega) (zr_length n) (zr_in n), rightM_of h1 h8 h1 h8 fl_length (good_in n l hr), rfl, rfl, rfl, by rw [Int.toNat_natCast]; exact good_even n l⟩
end Go.Proofs.Ytninmcmajbfccaa.PR
