import Derived.Test.YtninmcmajbfccaaZ9
import Derived.Laws.MakeOwn
import Derived.Laws.IdiomCopy
/- Joined by a program of this session's own (wip/pack.py) out of its texts; the parts PQ, PR, PS were laid by its own program (wip/print-patch.py over the kit's print) out of the translation; Lean checks all. -/
/- Layer 3: even matrices; Right; Clone; Diag. -/
namespace Go.Proofs.Ytninmcmajbfccaa.KK
open Go.RowKit Go.Proofs.YtninmcmajbfccaaW.PrintWords Go.Proofs.YtninmcmajbfccaaW.PrintLast Go.Proofs.YtninmcmajbfccaaW.PrintMore
set_option linter.unusedVariables false
set_option linter.unusedSimpArgs false
/-- out of bounds? -/
def oddQ (q : Int) : Bool := decide (q < -70368744177664) || decide (q > 70368744177663)
theorem oddQ_calls (q : Int) (w : World) : Calls Try.prog 75 #[I q] w fun e w' => e = .returned (.bool (oddQ q)) ∧ Below w.heap.size w w' := by
  by_cases h : q < -70368744177664
  · have h0 : decide (q < -70368744177664) = true := decide_eq_true h
    clear h
    go_enter Try.func75, Try.ntmps75
    go_wp2
    go_ret
    exact ⟨by simp [oddQ, h0], Below.refl _ _⟩
  · have h0 : decide (q < -70368744177664) = false := decide_eq_false h
    clear h
    go_enter Try.func75, Try.ntmps75
    go_wp2
    go_ret
    exact ⟨by simp [oddQ, h0], Below.refl _ _⟩
theorem take_any {l : List Int} {j : Nat} {x : Int} (h : l[j]? = some x) (ha : (l.take j).any oddQ = false) (hx : oddQ x = false) : (l.take (j + 1)).any oddQ = false := by
  rw [List.take_add_one, h, List.any_append, ha]
  simp [hx]
theorem any_at {l : List Int} {j : Nat} {x : Int} (h : l[j]? = some x) (hx : oddQ x = true) : l.any oddQ = true :=
  List.any_eq_true.2 ⟨x, List.mem_of_getElem? h, hx⟩
set_option maxRecDepth 100000 in
set_option maxHeartbeats 4000000 in
theorem index_calls (A : Option Addr) (c : Nat) (l : List Int) (w : World) (hw : Rd w A l) (hlen : l.length ≤ 1000000) :
    Calls Try.prog 92 #[.slice A l.length c, .func (.func 75) #[] #[]] w fun e w' => ∃ x, e = .returned (I x) ∧ decide (x ≥ 0) = l.any oddQ ∧ Below w.heap.size w w' := by
  have HW := Lib.hid hw
  have HL := Lib.hid hlen
  clear hw hlen
  go_enter Try.func92, Try.ntmps92
  go_wp2_with fail
  go_loopw [8] (fun i wr => ∃ k : Nat, k ≤ l.length ∧ i = .int .i64 k ∧ Hid ((l.take k).any oddQ = false) ∧ Hid (Below w.heap.size w wr)) (fun i _ => l.length - (intOf i).toNat)
  case atStart => exact ⟨0, by omega, rfl, Lib.hid (by simp), Lib.hid (Below.refl _ _)⟩
  case round =>
    obtain ⟨k, hk, rfl, F, HB⟩ := hrel
    by_cases hkl : k = l.length
    · subst hkl
      go_wp2
      go_ret
      exact ⟨_, rfl, by have := F.out; rw [List.take_length] at this; rw [this]; rfl, HB.out⟩
    have hlt : (k : Int) < l.length := by omega
    have hk0 : (0 : Int) ≤ k := by omega
    have STEP : Hid (k + 1 ≤ l.length ∧ l.length - (k + 1) < l.length - k) := Lib.hid (by omega)
    have hw64 : IntKind.i64.wrap ((k : Int) + 1) = (k : Int) + 1 := by have := HL.out; simp [IntKind.wrap, IntKind.bits, IntKind.signed]; omega
    obtain ⟨b, off, rfl, hb, hc⟩ := (HW.out.below HB.out).cells (by omega)
    obtain ⟨x, hx⟩ : ∃ x, l[k]? = some x := ⟨l[k]'(by omega), List.getElem?_eq_getElem (by omega)⟩
    have c0 := hc k x hx
    have HX := Lib.hid hx
    clear hc hx hk hkl
    go_wp2_with fail
    refine (oddQ_calls x _).mono ?_
    rintro e w2 ⟨rfl, hb2⟩
    have HB2 := Lib.hid (HB.out.trans (hb2.mono HB.out.size))
    clear hb2
    cases hq : oddQ x
    · have HQ := Lib.hid hq
      clear hq
      go_wp2
      go_roundw
      case rel => exact ⟨k + 1, STEP.out.1, by go_num, Lib.hid (take_any HX.out F.out HQ.out), HB2⟩
      case measure =>
        have h := STEP.out.2
        show l.length - ((k : Int) + 1).toNat < l.length - ((k : Int)).toNat
        rw [show ((k : Int) + 1).toNat = k + 1 by omega, show ((k : Int)).toNat = k by omega]
        exact h
    · have HQ := Lib.hid hq
      clear hq
      go_wp2
      go_ret
      exact ⟨_, rfl, by rw [any_at HX.out HQ.out]; simp, HB2.out⟩
theorem contains_calls (A : Option Addr) (c : Nat) (l : List Int) (w : World) (hw : Rd w A l) (hlen : l.length ≤ 1000000) :
    Calls Try.prog 76 #[.slice A l.length c, .func (.func 75) #[] #[]] w fun e w' => e = .returned (.bool (l.any oddQ)) ∧ Below w.heap.size w w' := by
  have H := Lib.hid (index_calls A c l w hw hlen)
  clear hw hlen
  go_enter Try.func76, Try.ntmps76
  go_wp2_with fail
  refine H.out.mono ?_
  rintro e w2 ⟨x, rfl, hx, hb⟩
  have HB := Lib.hid hb
  have HX := Lib.hid hx
  clear hb hx
  go_wp2
  go_ret
  exact ⟨by rw [← HX.out]; rfl, HB.out⟩
/-- which matrices are right -/
def rightM (r c : Int) (l : List Int) : Bool := decide (r ≥ 1) && decide (r ≤ 8) && decide (c ≥ 1) && decide (c ≤ 8) && ((l.length : Int) == wrap64 (r * c)) && !l.any oddQ
set_option maxRecDepth 100000 in
set_option maxHeartbeats 4000000 in
theorem right_calls (r c : Int) (A : Option Addr) (cp : Nat) (l : List Int) (w : World) (hw : Rd w A l) :
    Calls Try.prog 39 #[.agg #[I r, I c, (.slice A l.length cp)]] w fun e w' => e = .returned (.bool (rightM r c l)) ∧ Below w.heap.size w w' := by
  have N : Hid (Scene w [(26, #[I r, I c, (.slice A l.length cp)])] (w.alloc (.cells #[I r, I c, (.slice A l.length cp)] 26))) := Lib.hid ((Scene.none w).push (by simp) _ _)
  have HW := Lib.hid hw
  clear hw
  cases h0 : decide (r ≥ 1)
  · go_enter Try.func39, Try.ntmps39
    go_wp2
    go_ret
    exact ⟨by simp [rightM, *], N.out.be⟩
  cases h1 : decide (r ≤ 8)
  · go_enter Try.func39, Try.ntmps39
    go_wp2
    go_ret
    exact ⟨by simp [rightM, *], N.out.be⟩
  cases h2 : decide (c ≥ 1)
  · go_enter Try.func39, Try.ntmps39
    go_wp2
    go_ret
    exact ⟨by simp [rightM, *], N.out.be⟩
  cases h3 : decide (c ≤ 8)
  · go_enter Try.func39, Try.ntmps39
    go_wp2
    go_ret
    exact ⟨by simp [rightM, *], N.out.be⟩
  cases h4 : ((l.length : Int) == wrap64 (r * c))
  · go_enter Try.func39, Try.ntmps39
    go_wp2
    go_ret
    exact ⟨by simp [rightM, *], N.out.be⟩
  have hlen : l.length ≤ 1000000 := by
    have a0 := of_decide_eq_true h0
    have a1 := of_decide_eq_true h1
    have a2 := of_decide_eq_true h2
    have a3 := of_decide_eq_true h3
    have a4 : (l.length : Int) = wrap64 (r * c) := by simpa using h4
    have b0 : 0 ≤ r * c := Int.mul_nonneg (by omega) (by omega)
    have b1 : r * c ≤ 8 * c := Int.mul_le_mul_of_nonneg_right (by omega) (by omega)
    unfold wrap64 at a4
    omega
  have H := Lib.hid (contains_calls A cp l _ (HW.out.below N.out.be) hlen)
  obtain ⟨b, hb⟩ : ∃ b, l.any oddQ = b := ⟨_, rfl⟩
  have HB := Lib.hid hb
  rw [hb] at H
  clear hb hlen
  go_enter Try.func39, Try.ntmps39
  go_wp2_with fail
  refine H.out.mono ?_
  rintro e w2 ⟨rfl, hb⟩
  have N2 := Lib.hid (N.out.below hb)
  clear hb
  go_wp2
  go_ret
  exact ⟨by simp [rightM, HB.out, *], N2.out.be⟩
theorem Rd.flat {w : World} {ad : Addr} {l : List Int} (h : Rd w (some ad) l) : ∀ j u, (l.map I)[j]? = some u → w.cell? (ad.add j) = some u := by
  intro j u hj
  rw [List.getElem?_map] at hj
  cases hx : l[j]? with
  | none => rw [hx] at hj; cases hj
  | some x =>
    rw [hx] at hj
    injection hj with hj
    subst hj
    have hl : j < l.length := by
      rcases Nat.lt_or_ge j l.length with h | h
      · exact h
      · rw [List.getElem?_eq_none h] at hx; cases hx
    obtain ⟨b, off, e, _, hc⟩ := h.cells (by omega)
    injection e with e
    subst e
    have := hc j x hx
    unfold Addr.add
    by_cases h0 : j = 0
    · subst h0; simpa using this
    · rw [if_neg h0]; exact this
set_option maxRecDepth 100000 in
set_option maxHeartbeats 4000000 in
theorem clone_calls (A : Option Addr) (c : Nat) (l : List Int) (w : World) (hw : Rd w A l) (hlen : l.length ≤ 1000000) (hA : A = none → l.length = 0 ∧ c = 0) :
    Calls Try.prog 31 #[.slice A l.length c] w fun e w' => ∃ v, e = .returned v ∧ Own w' w.heap.size v l ∧ Below w.heap.size w w' := by
  cases A with
  | none =>
    obtain ⟨hl, rfl⟩ := hA rfl
    obtain rfl := List.eq_nil_of_length_eq_zero hl
    have he : ∀ w : World, (binOp .eql 24 (.slice none 0 0) (.slice none 0 0)).run Try.prog w = .ok (.bool true) w := fun _ => rfl
    go_enter Try.func31, Try.ntmps31
    go_wp2
    go_ret
    exact ⟨_, rfl, Own.nil _ _, Below.refl _ _⟩
  | some ad =>
    have HW := Lib.hid hw
    have HL := Lib.hid hlen
    clear hw hlen hA
    go_enter Try.func31, Try.ntmps31
    have he : ∀ w : World, (binOp .eql 24 (.slice (some ad) l.length c) (.slice none 0 0)).run Try.prog w = .ok (.bool false) w := fun _ => rfl
    obtain ⟨i0, hi0, hz0, hz1, hz2⟩ := info_parts q_info
    go_wp2_with (at_builtin
                 refine wpList_append_own_at _ rfl (.tmp 5) (.tmp 6) _ rfl w.heap.size 22 i0 _ 1 8 Try.underlying24 hi0 hz0 hz1 hz2 rfl (by omega) (.slice (some ⟨w.heap.size, 0, none⟩) 0 0) 0 [] rfl ?own ad l.length c (l.map I) rfl (by simp) ?news ?one ?h63 ?hby ?base ?_
                 case own => exact ⟨rfl, .inr ⟨_, 0, #[], rfl, Nat.le_refl _, heap_alloc_new w _, Nat.le_refl _, by simp [maxLen], rfl, rfl⟩⟩
                 case news => exact (HW.out.below ((Below.refl _ _).alloc (Nat.le_refl _) _)).flat
                 case one => (intro u hu; simp at hu; obtain ⟨q, _, rfl⟩ := hu; rfl)
                 case h63 => (have := HL.out; simp only [maxLen]; omega)
                 case hby => (have := HL.out; omega)
                 case base => simp
                 intro v' w' hown hgrow hnil hat)
    go_ret
    exact ⟨v', rfl, Own.of_row (by simpa using hown), ((Below.refl _ _).alloc (Nat.le_refl _) _).grown hgrow (by simp) (by intro k hk; simp [Value.ownBlock] at hk; omega)⟩
def diagL (l : List Int) : List Int := upto l.length (fun i k => if i = k then l.getD i 0 else 0) l.length
theorem enters60 : Enters 60 := enters Try.func60 rfl rfl
set_option maxRecDepth 100000 in
set_option maxHeartbeats 4000000 in
theorem tells_diag (A : Option Addr) (cp g : Nat) (l : List Int) (w : World) (hl : l.length ≤ 8) (hA : Rd w A l) (R : Row w g 24 #[(.slice A l.length cp)]) :
    Tells w 60 #[.pointer (some ⟨g, 0, none⟩)] l.length l.length (fun i k => if i = k then l.getD i 0 else 0) (fun _ _ => false) := by
  intro i k w' hi hk hb
  have R' := R.below hb R.lt
  have x := R'.cell
  show Calls Try.prog 60 #[I i, I k, .pointer (some ⟨g, 0, none⟩)] w' fun e w'' => e = .returned (.tuple #[I (if i = k then l.getD i 0 else 0), .bool false]) ∧ Below w'.heap.size w' w''
  by_cases h : i = k
  · subst h
    rw [if_pos rfl]
    obtain ⟨b, off, rfl, _, hc⟩ := (hA.below hb).cells (by omega)
    have c0 := hc i _ (getD_of hi)
    obtain ⟨y, hy⟩ : ∃ y, l.getD i 0 = y := ⟨_, rfl⟩
    rw [hy] at c0 ⊢
    have e0 : ((i : Int) == (i : Int)) = true := by simp
    have i0 : (0 : Int) ≤ i := by omega
    have i1 : (i : Int) < l.length := by omega
    clear hb hc hy hA hi hk hl R R'
    go_enter Try.func60, Try.ntmps60
    go_wp2
    go_ret2
    exact ⟨rfl, Below.refl _ _⟩
  · rw [if_neg h]
    have e0 : ((i : Int) == (k : Int)) = false := by simp; omega
    clear hb hA hi hk hl R R' h
    go_enter Try.func60, Try.ntmps60
    go_wp2
    go_ret2
    exact ⟨rfl, Below.refl _ _⟩
theorem right_row (l : List Int) (h1 : 1 ≤ l.length) (h8 : l.length ≤ 8) : rightM 1 l.length l = !l.any oddQ := by
  have e : wrap64 (1 * (l.length : Int)) = l.length := by unfold wrap64; omega
  have e1 : decide ((l.length : Int) ≥ 1) = true := decide_eq_true (by omega)
  have e2 : decide ((l.length : Int) ≤ 8) = true := decide_eq_true (by omega)
  simp only [rightM, e, e1, e2]
  simp
theorem res3m {w : World} {B : Nat} {a b c : Value} {fn : Func} {k j : Nat} {tmps : Array Value} (h : fn.results = #[.cell k 26, .tmp j]) (hk : tmps.getD k undef = .pointer (some ⟨B, 0, none⟩)) (R : Row w B 26 #[a, b, c]) :
    (results fn tmps).run Try.prog w = .ok (.tuple #[.agg #[a, b, c], tmps.getD j undef]) w := res3t h hk R
set_option maxRecDepth 100000 in
set_option maxHeartbeats 4000000 in
theorem diag_bad (A : Option Addr) (cp : Nat) (l : List Int) (w : World) (hA : Rd w A l) (h : l.length < 1 ∨ l.length > 8 ∨ l.any oddQ = true) :
    Calls Try.prog 30 #[(.slice A l.length cp)] w fun e w' => e = .returned (.tuple #[.agg #[I 0, I 0, .slice none 0 0], I 1]) ∧ Below w.heap.size w w' := by
  have N : Hid (Scene w [(24, #[(.slice A l.length cp)]), (26, #[I 0, I 0, .slice none 0 0])] ((w.alloc (.cells #[(.slice A l.length cp)] 24)).alloc (.cells #[I 0, I 0, .slice none 0 0] 26))) := Lib.hid (((Scene.none w).push (by simp) _ _).push (by simp) _ _)
  by_cases h1 : l.length < 1
  · have e1 : decide ((l.length : Int) < 1) = true := decide_eq_true (by omega)
    clear h h1 hA
    go_enter Try.func30, Try.ntmps30
    go_wp2
    exact bodyPost_ret (res3t rfl rfl N.out.r1) rfl ⟨rfl, N.out.be⟩
  have e1 : decide ((l.length : Int) < 1) = false := decide_eq_false (by omega)
  by_cases h8 : l.length > 8
  · have e2 : decide ((l.length : Int) > 8) = true := decide_eq_true (by omega)
    clear h h1 h8 hA
    go_enter Try.func30, Try.ntmps30
    go_wp2
    exact bodyPost_ret (res3t rfl rfl N.out.r1) rfl ⟨rfl, N.out.be⟩
  have e2 : decide ((l.length : Int) > 8) = false := decide_eq_false (by omega)
  have ha : l.any oddQ = true := by rcases h with h | h | h <;> first | exact h | omega
  have H := Lib.hid (right_calls 1 l.length A cp l _ (hA.below N.out.be))
  rw [right_row l (by omega) (by omega), ha] at H
  clear h h1 h8 ha hA
  go_enter Try.func30, Try.ntmps30
  go_wp2_with fail
  refine H.out.mono ?_
  rintro e w2 ⟨rfl, hb⟩
  have N2 := Lib.hid (N.out.below hb)
  clear hb
  have x1 := N2.out.r1.cell
  have g1 := N2.out.r1.free
  have t1 := N2.out.r1.lt
  go_wp2
  exact bodyPost_ret (res3t rfl rfl (N2.out.r1.fill3 _ _ _)) rfl ⟨rfl, Below.fill3 N2.out.be (by omega) _ _ _⟩
set_option maxRecDepth 100000 in
set_option maxHeartbeats 4000000 in
theorem diag_good (A : Option Addr) (cp : Nat) (l : List Int) (w : World) (hA : Rd w A l) (h1 : 1 ≤ l.length) (h8 : l.length ≤ 8) (ha : l.any oddQ = false) :
    Calls Try.prog 30 #[(.slice A l.length cp)] w fun e w' => ∃ v, e = .returned (.tuple #[.agg #[I l.length, I l.length, v], I 0]) ∧ Own w' w.heap.size v (diagL l) ∧ Below w.heap.size w w' := by
  have N : Hid (Scene w [(24, #[(.slice A l.length cp)]), (26, #[I 0, I 0, .slice none 0 0])] ((w.alloc (.cells #[(.slice A l.length cp)] 24)).alloc (.cells #[I 0, I 0, .slice none 0 0] 26))) := Lib.hid (((Scene.none w).push (by simp) _ _).push (by simp) _ _)
  have e1 : decide ((l.length : Int) < 1) = false := decide_eq_false (by omega)
  have e2 : decide ((l.length : Int) > 8) = false := decide_eq_false (by omega)
  have H := Lib.hid (right_calls 1 l.length A cp l _ (hA.below N.out.be))
  rw [right_row l (by omega) (by omega), ha] at H
  obtain ⟨L, hL⟩ : ∃ L, diagL l = L := ⟨_, rfl⟩
  have HM := Lib.hid (fun w' (h : Scene w [(24, #[(.slice A l.length cp)]), (26, #[I 0, I 0, .slice none 0 0])] w') => made_to 60 #[.pointer (some ⟨w.heap.size, 0, none⟩)] l.length l.length _ _ w' L false hL (anyTo_false _ _) h8 h8 enters60 (tells_diag A cp w.heap.size l w' h8 (hA.below h.be) h.r0))
  rw [hL]
  clear h1 h8 ha hA hL
  have hmf := hmf
  go_enter Try.func30, Try.ntmps30
  go_wp2_with fail
  refine H.out.mono ?_
  rintro e w2 ⟨rfl, hb⟩
  have N2 := Lib.hid (N.out.below hb)
  clear hb
  go_wp2_with fail
  refine (HM.out _ N2.out).mono ?_
  rintro e w5 ⟨A2, c2, rfl, ho, hb⟩
  have O := Lib.hid ho
  have N5 := Lib.hid (N2.out.below hb)
  have L4 := N2.out.r1.lt
  clear ho hb
  have x1 := N5.out.r1.cell
  have g1 := N5.out.r1.free
  have t1 := N5.out.r1.lt
  go_wp2
  refine bodyPost_ret (res3t rfl rfl ((N5.out.r1.fill3 _ _ _).alloc _)) rfl ⟨_, rfl, ?_, (Below.fill3 N5.out.be (by omega) _ _ _).alloc (by have := N5.out.be.size; simp; omega) _⟩
  exact ((O.out.fill3 (by omega) _ _ _).alloc _).lower (by omega)
end Go.Proofs.Ytninmcmajbfccaa.KK

/- Layer 3: even matrices; one on the diagonal. -/
namespace Go.Proofs.Ytninmcmajbfccaa.KK
open Go.RowKit Go.Proofs.YtninmcmajbfccaaW.PrintWords Go.Proofs.YtninmcmajbfccaaW.PrintLast Go.Proofs.YtninmcmajbfccaaW.PrintMore
set_option linter.unusedVariables false
set_option linter.unusedSimpArgs false
theorem trL_length (r c : Nat) (l : List Int) : (trL r c l).length = c * r := upto_length
def evenL (n : Nat) (l : List Int) : List Int := eachL halfZ n n l (trL n n l)
set_option maxRecDepth 100000 in
set_option maxHeartbeats 4000000 in
theorem even_good (n : Nat) (A : Option Addr) (cp : Nat) (l : List Int) (w : World) (hn : n ≤ 8) (hl : l.length = n * n) (hA : Rd w A l) (hcp : l.length ≤ cp) :
    Calls Try.prog 38 #[.agg #[I n, I n, .slice A l.length cp]] w fun e w' => ∃ v, e = .returned (.tuple #[.agg #[I n, I n, v], .bool (eachB halfZ n n l (trL n n l)), I 0]) ∧ Own w' w.heap.size v (evenL n l) ∧ Below w.heap.size w w' := by
  have N : Hid (Scene w [(26, #[I n, I n, .slice A l.length cp]), (26, #[I 0, I 0, .slice none 0 0])] ((w.alloc (.cells #[I n, I n, .slice A l.length cp] 26)).alloc (.cells #[I 0, I 0, .slice none 0 0] 26))) := Lib.hid (((Scene.none w).push (by simp) _ _).push (by simp) _ _)
  have HA := Lib.hid hA
  have HT := Lib.hid (fun w' h => trans_calls n n A cp l w' hn hn hl h)
  have HE := Lib.hid (fun A' cp' w' h h' hc => each_half n n A A' cp cp' l (trL n n l) w' hn hn hl (trL_length n n l) h h' hcp hc)
  obtain ⟨T, hT⟩ : ∃ T, trL n n l = T := ⟨_, rfl⟩
  rw [hT] at HT HE
  unfold evenL
  rw [hT]
  obtain ⟨L, hL⟩ : ∃ L, eachL halfZ n n l T = L := ⟨_, rfl⟩
  obtain ⟨b, hb⟩ : ∃ b, eachB halfZ n n l T = b := ⟨_, rfl⟩
  rw [hL, hb] at HE
  rw [hL, hb]
  have KK : Hid (∀ w', Scene w [(26, #[I n, I n, .slice A l.length cp]), (26, #[I 0, I 0, .slice none 0 0])] w' → ∀ o, w'.cell? ⟨w.heap.size, o, none⟩ = #[I n, I n, .slice A l.length cp][o]?) := Lib.hid (fun w' h => h.r0.cell)
  clear hn hl hA hcp hT hL hb
  have y0 := N.out.r0.cell
  go_enter Try.func38, Try.ntmps38
  go_wp2_with fail
  go_region_held3 (fun w' => ∀ o, w'.cell? ⟨w.heap.size, o, none⟩ = #[I n, I n, .slice A l.length cp][o]?)
    (first | with_reducible exact KK.out _ N3.out | with_reducible exact KK.out _ N2.out | with_reducible exact KK.out _ N.out.drew | exact (Row.far3 N3.out.r0 (C := w.heap.size + 1) (by simp)).cell)
    (first
      | (go_at_call 72
         refine (HE.out _ _ _ (HA.out.below N2.out.be) RT.out CT.out).mono ?_
         rintro e w3 ⟨A3, c3, rfl, ho, hb⟩
         have O := Lib.hid ho
         have N3 := Lib.hid (N2.out.below hb)
         have L3 := N2.out.r1.lt
         have x1 := N3.out.r1.cell
         have g1 := N3.out.r1.free
         clear hb ho)
      | (go_at_call 41
         refine (HT.out _ (HA.out.below N.out.drew.be)).mono ?_
         rintro e w2 ⟨v, rfl, ho, hb⟩
         obtain ⟨A2, c2, rfl, ht, rt⟩ := ho.reads
         have RT := Lib.hid rt
         have CT := Lib.hid ht
         have N2 := Lib.hid (N.out.drew.below hb)
         clear hb ho rt ht))
  all_goals
    go_wp2
    refine bodyPost_ret (res3tt rfl rfl (N3.out.r1.fill3 _ _ _)) rfl ⟨_, rfl, ?_, Below.fill3 N3.out.be (by omega) _ _ _⟩
    exact (O.out.fill3 (by omega) _ _ _).lower (by omega)
end Go.Proofs.Ytninmcmajbfccaa.KK

/- Layer 3: one on the diagonal. -/
namespace Go.Proofs.Ytninmcmajbfccaa.KK
open Go.RowKit Go.Proofs.YtninmcmajbfccaaW.PrintWords Go.Proofs.YtninmcmajbfccaaW.PrintLast Go.Proofs.YtninmcmajbfccaaW.PrintMore
set_option linter.unusedVariables false
set_option linter.unusedSimpArgs false
def putL : List Value → Nat → List Value → List Value
  | l, _, [] => l
  | l, o, v :: vs => putL (l.set o v) (o + 1) vs
theorem Row.setCells {B : Nat} {t : TypeId} : ∀ (vs : List Value) (o : Nat) (w : World) (arr : Array Value), Row w B t arr → ∃ arr', Row (w.setCells B o vs) B t arr' ∧ arr'.toList = putL arr.toList o vs := by
  intro vs
  induction vs with
  | nil => intro o w arr h; exact ⟨arr, h, rfl⟩
  | cons v vs ih =>
    intro o w arr h
    obtain ⟨arr', h1, h2⟩ := ih (o + 1) _ _ (h.set o v)
    refine ⟨arr', h1, ?_⟩
    rw [h2]
    simp [putL]
theorem setCells_below {B n : Nat} {w0 : World} : ∀ (vs : List Value) (o : Nat) (w : World), Below n w0 w → n ≤ B → Below n w0 (w.setCells B o vs) := by
  intro vs
  induction vs with
  | nil => intro o w h _; exact h
  | cons v vs ih => intro o w h hB; exact ih (o + 1) _ (h.setCell (p := ⟨B, o, none⟩) hB v) hB
theorem putL_rep (a b : Value) : ∀ (k j m : Nat), k ≤ m → putL (List.replicate j a ++ List.replicate m b) j (List.replicate k a) = List.replicate (j + k) a ++ List.replicate (m - k) b := by
  intro k
  induction k with
  | zero => intro j m _; simp [putL]
  | succ k ih =>
    intro j m h
    obtain ⟨m', rfl⟩ : ∃ m', m = m' + 1 := ⟨m - 1, by omega⟩
    show putL ((List.replicate j a ++ List.replicate (m' + 1) b).set j a) (j + 1) (List.replicate k a) = _
    have e : (List.replicate j a ++ List.replicate (m' + 1) b).set j a = List.replicate (j + 1) a ++ List.replicate m' b := by
      rw [List.set_append_right _ _ (by simp)]
      rw [List.length_replicate, Nat.sub_self, List.replicate_succ, List.set_cons_zero, show j + 1 = j + 1 from rfl, List.replicate_succ' (n := j), List.append_assoc]
      rfl
    rw [e, ih (j + 1) m' (by omega), show j + 1 + k = j + (k + 1) by omega, show m' - k = m' + 1 - (k + 1) by omega]
/-- the new row, of which j numbers are laid -/
def Rep (w : World) (B n : Nat) (q : Int) (j : Nat) : Prop := ∃ arr, Row w B 22 arr ∧ arr.toList = List.replicate j (I q) ++ List.replicate (n - j) (I 0)
theorem Rep.cell {w : World} {B n : Nat} {q : Int} {j : Nat} (h : Rep w B n q j) {x : Nat} (hx : x < j) : w.cell? ⟨B, x, none⟩ = some (I q) := by
  obtain ⟨arr, hr, ha⟩ := h
  rw [hr.cell x, ← Array.getElem?_toList, ha, List.getElem?_append_left (by simpa using hx)]
  simp [hx]
theorem Rep.some {w : World} {B n : Nat} {q : Int} {j : Nat} (h : Rep w B n q j) {x : Nat} (hx : x < n) (hj : j ≤ n) : (w.cell? ⟨B, x, none⟩).isSome = true := by
  obtain ⟨arr, hr, ha⟩ := h
  have hs : arr.size = n := by rw [← Array.length_toList, ha]; simp; omega
  rw [hr.cell x, Array.getElem?_eq_getElem (by omega)]
  rfl
theorem Rep.free {w : World} {B n : Nat} {q : Int} {j : Nat} (h : Rep w B n q j) (x : Nat) : w.frozen? ⟨B, x, none⟩ = false := by
  obtain ⟨arr, hr, _⟩ := h
  exact hr.free x
theorem Rep.put {w : World} {B n : Nat} {q : Int} {j k : Nat} (h : Rep w B n q j) (hk : j + k ≤ n) : Rep (w.setCells B j (List.replicate k (I q))) B n q (j + k) := by
  obtain ⟨arr, hr, ha⟩ := h
  obtain ⟨arr', h1, h2⟩ := hr.setCells (List.replicate k (I q)) j
  exact ⟨arr', h1, by rw [h2, ha, putL_rep _ _ _ _ _ (by omega), show n - j - k = n - (j + k) by omega]⟩
theorem Rep.drew {w : World} {B n : Nat} {q : Int} {j : Nat} (h : Rep w B n q j) : Rep w.drew B n q j := h
theorem Rep.own {w : World} {B n base : Nat} {q : Int} (h : Rep w B n q n) (hb : base ≤ B) (hn : n ≤ 1000000) : Own w base (.slice (Option.some ⟨B, 0, none⟩) n n) (List.replicate n q) := by
  obtain ⟨arr, hr, ha⟩ := h
  have hs : arr.size = n := by rw [← Array.length_toList, ha]; simp
  have hl : (List.replicate n q).length = n := by simp
  refine Own.of_row ⟨by rw [hl]; simp, .inr ⟨B, n, arr, by rw [hl], hb, hr, by rw [hl]; omega, by simp only [maxLen]; omega, by rw [hs]; omega, ?_⟩⟩
  rw [hl, Nat.mul_one, ha, Nat.sub_self]
  simp
theorem copy_run (w : World) (ty : TypeId) (B j dLen dCap b sLen sCap k : Nat) (q : Int) (hk : k = Nat.min sLen dLen)
    (hsrc : ∀ x, x < k → w.cell? ⟨b, x, none⟩ = some (I q)) (hc : ∀ x, x < k → (w.cell? ⟨B, j + x, none⟩).isSome = true) (hf : ∀ x, w.frozen? ⟨B, x, none⟩ = false) :
    (Builtin.copy_ #[24, 24] ty #[.slice (some ⟨B, j, none⟩) dLen dCap, .slice (some ⟨b, 0, none⟩) sLen sCap]).run Try.prog w = .ok (I k) (w.setCells B j (List.replicate k (I q))) := by
  have h := run_copy_cells (P := Try.prog) w 24 24 ty 22 B j dLen dCap ⟨b, 0, none⟩ sLen sCap (List.replicate k (I q)) Try.underlying24 (by kernel_rfl) (by simpa using hk)
    (fun x v hx => by
      rw [List.getElem?_replicate] at hx
      split at hx
      · injection hx with hx
        subst hx
        have := hsrc x (by assumption)
        unfold Addr.add
        by_cases h0 : x = 0
        · subst h0; simpa using this
        · rw [if_neg h0]; simpa using this
      · cases hx)
    (fun x hx => hc x (by simpa using hx)) (fun x hx => hf _) (fun v hv => by rw [List.eq_of_mem_replicate hv]; rfl)
  simpa [goInt] using h
theorem wpList_copy (w : World) {ops : Array Oper} {rest : List Oper} {o : Oper} {a : Act} {Q : Exit → Act → World → Prop} (hgd : o.guard = none) (d s : Operand)
    (ho : o.op = .call { callee := .builtin .copy, args := #[d, s], argTypes := #[24, 24] })
    (B j dLen dCap b sLen sCap k : Nat) (q : Int) (hd : a.eval d = .slice (some ⟨B, j, none⟩) dLen dCap) (hs : a.eval s = .slice (some ⟨b, 0, none⟩) sLen sCap) (hk : k = Nat.min sLen dLen)
    (hsrc : ∀ x, x < k → w.cell? ⟨b, x, none⟩ = some (I q)) (hc : ∀ x, x < k → (w.cell? ⟨B, j + x, none⟩).isSome = true) (hf : ∀ x, w.frozen? ⟨B, x, none⟩ = false)
    (h : wpList Try.prog ops Q rest (a.put o.dst (I k)) (w.setCells B j (List.replicate k (I q)))) :
    wpList Try.prog ops Q (o :: rest) a w := by
  refine wpList_plain hgd fun K hK => ?_
  have hrun := copy_run w o.type B j dLen dCap b sLen sCap k q hk hsrc hc hf
  unfold Oper.wp execOp
  simp only [ho, resolve, invoke, builtin, Sem.run_bind, Sem.run_pure, Result.andThen_ok, List.map_toArray, List.map_cons, List.map_nil, hd, hs, hrun]
  exact hK _ _ h
theorem step_copy (w : World) {ops : Array Oper} {o : Oper} {a : Act} {K : Act → World → Prop} {Q : Exit → Act → World → Prop} {E : Prop} (hg : o.guard = none) (d s : Operand)
    (hop : o.op = .call { callee := .builtin .copy, args := #[d, s], argTypes := #[24, 24] })
    (B j dLen dCap b sLen sCap k : Nat) (q : Int) (hd : a.eval d = .slice (some ⟨B, j, none⟩) dLen dCap) (hs : a.eval s = .slice (some ⟨b, 0, none⟩) sLen sCap) (hk : k = Nat.min sLen dLen)
    (hsrc : ∀ x, x < k → w.cell? ⟨b, x, none⟩ = some (I q)) (hc : ∀ x, x < k → (w.cell? ⟨B, j + x, none⟩).isSome = true) (hf : ∀ x, w.frozen? ⟨B, x, none⟩ = false)
    (hK : K (a.put o.dst (I k)) (w.setCells B j (List.replicate k (I q)))) :
    if Region.wanted o (yielded ops a.tmps) = true then Oper.wp Try.prog o a w K Q else E := by
  have hw : Region.wanted o (yielded ops a.tmps) = true := by simp [Region.wanted, hg]
  rw [if_pos hw]
  have hrun := copy_run w o.type B j dLen dCap b sLen sCap k q hk hsrc hc hf
  unfold Oper.wp execOp
  simp only [hop, resolve, invoke, builtin, Sem.run_bind, Sem.run_pure, Result.andThen_ok, List.map_toArray, List.map_cons, List.map_nil, hd, hs, hrun]
  exact hK
theorem made_zero (w : World) (n : Nat) (hn : n ≤ 1000000) : (Instr.makeSlice 24 (.int .i64 n) (.int .i64 n)).run Try.prog w = .ok (.slice (some ⟨w.heap.size, 0, none⟩) n n) (w.alloc (.cells (madeCells #[I 0] n) 22)) := by
  obtain ⟨i0, hi0, hz0, hz1, hz2⟩ := info_parts q_info
  have := run_make (P := Try.prog) w 24 22 i0 (I 0) Try.underlying24 hi0 hz0 .i64 .i64 n n (by omega) (Int.le_refl _) (by rw [hz2]; omega) (by omega)
  rw [hz1] at this
  simpa [Value.cells] using this
theorem made_list (n : Nat) : (madeCells #[I 0] n).toList = List.replicate n (I 0) := by
  unfold madeCells
  apply List.ext_getElem
  · simp
  · intro i h1 h2
    simp at h1 ⊢
    rw [Nat.mod_one]
    rfl
set_option maxRecDepth 100000 in
set_option maxHeartbeats 4000000 in
theorem repeat_calls (b n : Nat) (q : Int) (w : World) (hb : w.cell? ⟨b, 0, none⟩ = some (I q)) (h1 : 1 ≤ n) (h8 : n ≤ 8) :
    Calls Try.prog 90 #[.slice (some ⟨b, 0, none⟩) 1 1, I n] w fun e w' => ∃ A c, e = .returned (.slice A n c) ∧ Own w' w.heap.size (.slice A n c) (List.replicate n q) ∧ Below w.heap.size w w' := by
  have hm : PQ.bits_Mul.f 1 (n : Int) = some ((0 : Int), (n : Int)) := by
    rcases (show n = 1 ∨ n = 2 ∨ n = 3 ∨ n = 4 ∨ n = 5 ∨ n = 6 ∨ n = 7 ∨ n = 8 by omega) with h | h | h | h | h | h | h | h <;> subst h <;> decide +kernel
  have HM := Lib.hid (fun w => PQ.bits_Mul.calls 1 n 0 n w hm)
  have e0 : decide ((n : Int) < 0) = false := decide_eq_false (by omega)
  have e1 : decide ((n : Int) > 9223372036854775807) = false := decide_eq_false (by omega)
  have e2 : IntKind.u64.wrap (n : Int) = n := by simp [IntKind.wrap, IntKind.bits, IntKind.signed]; omega
  have e3 : IntKind.i64.wrap (n : Int) = n := by simp [IntKind.wrap, IntKind.bits, IntKind.signed]; omega
  have H1 := Lib.hid h1
  have H8 := Lib.hid h8
  have HB := Lib.hid hb
  clear hm h1 h8 hb
  go_enter Try.func90, Try.ntmps90
  go_wp2_with fail
  refine (HM.out _).mono ?_
  rintro e w2 ⟨rfl, hd⟩
  have D2 := Lib.hid hd.below
  clear hd
  have hz := made_zero w2 n (by have := H8.out; omega)
  have R0 : Hid (Rep (w2.alloc (.cells (madeCells #[I 0] n) 22)) w2.heap.size n q 0) := Lib.hid ⟨_, Row.new _ _ _, by rw [made_list]; simp⟩
  have B2 : Hid (Below w.heap.size w (w2.alloc (.cells (madeCells #[I 0] n) 22))) := Lib.hid (D2.out.alloc D2.out.size _)
  have S2 : Hid (w.heap.size ≤ w2.heap.size) := Lib.hid D2.out.size
  have hb2 : Hid ((w2.alloc (.cells (madeCells #[I 0] n) 22)).cell? ⟨b, 0, none⟩ = some (I q)) := Lib.hid ((B2.out.cell (p := ⟨b, 0, none⟩) (cell_lt HB.out)).trans HB.out)
  have hx0 : ∀ x, x < 1 → (w2.alloc (.cells (madeCells #[I 0] n) 22)).cell? ⟨b, x, none⟩ = some (I q) := by
    intro x hx
    have : x = 0 := by omega
    subst this
    exact hb2.out
  have hx1 : ∀ x, x < 1 → ((w2.alloc (.cells (madeCells #[I 0] n) 22)).cell? ⟨w2.heap.size, 0 + x, none⟩).isSome = true := by
    intro x hx
    have := H1.out
    exact R0.out.some (by omega) (by omega)
  have hx2 : 1 = Nat.min 1 n := (Nat.min_eq_left H1.out).symm
  have hcp := copy_run (w2.alloc (.cells (madeCells #[I 0] n) 22)) 3 w2.heap.size 0 n n b 1 1 1 q hx2 hx0 hx1 R0.out.free
  clear hx0 hx1 hx2
  have R1 := Lib.hid (R0.out.put (k := 1) (by have := H1.out; omega))
  have B3 := Lib.hid (setCells_below (B := w2.heap.size) (List.replicate 1 (I q)) 0 _ B2.out S2.out)
  obtain ⟨w3, hw3⟩ : ∃ w3, (w2.alloc (.cells (madeCells #[I 0] n) 22)).setCells w2.heap.size 0 (List.replicate 1 (I q)) = w3 := ⟨_, rfl⟩
  rw [hw3] at hcp R1 B3
  clear hw3
  go_wp2_with fail
  clear hcp hz R0 B2 hb2 D2
  go_loopw [8] (fun jj wr => ∃ j : Nat, 1 ≤ j ∧ j ≤ n ∧ jj = .int .i64 j ∧ Hid (Rep wr w2.heap.size n q j) ∧ Hid (Below w.heap.size w wr)) (fun jj _ => n - (intOf jj).toNat)
  case atStart => exact ⟨1, by omega, H1.out, rfl, by simpa using R1, B3⟩
  case round =>
    clear R1 B3
    obtain ⟨j, h1, hj, rfl, R, HB⟩ := hrel
    by_cases hjn : j = n
    · subst hjn
      go_wp2
      go_ret
      exact ⟨_, _, rfl, R.out.own S2.out (by have := H8.out; omega), HB.out⟩
    have hlt : (j : Int) < n := by omega
    have hj0 : (0 : Int) ≤ j := by omega
    have hjle : (j : Int) ≤ n := by omega
    have hne : ¬ n = j := by omega
    obtain ⟨k, hk⟩ : ∃ k, Nat.min j (n - j) = k := ⟨_, rfl⟩
    have hk2 : k ≤ j ∧ k ≤ n - j ∧ 1 ≤ k := by subst hk; exact ⟨Nat.min_le_left _ _, Nat.min_le_right _ _, Nat.le_min.2 ⟨h1, by omega⟩⟩
    have STEP : Hid (1 ≤ j + k ∧ j + k ≤ n ∧ n - (j + k) < n - j) := Lib.hid (by omega)
    have hw64 : IntKind.i64.wrap ((j : Int) + k) = ((j + k : Nat) : Int) := by have := H8.out; simp [IntKind.wrap, IntKind.bits, IntKind.signed]; omega
    have HK := Lib.hid hk
    have HK2 := Lib.hid hk2
    have HJ := Lib.hid (show 1 ≤ j ∧ j < n by omega)
    clear hk hk2 h1 hj hjn
    have hq0 : ∀ x, x < k → wr.drew.cell? ⟨w2.heap.size, x, none⟩ = some (I q) := fun x hx => R.out.drew.cell (by have := HK2.out; omega)
    have hq1 : ∀ x, x < k → (wr.drew.cell? ⟨w2.heap.size, j + x, none⟩).isSome = true := fun x hx => R.out.drew.some (by have := HK2.out; have := HJ.out; omega) (by have := HJ.out; omega)
    have Q0 := Lib.hid hq0
    have Q1 := Lib.hid hq1
    clear hq0 hq1
    go_wp2_with fail
    go_region_held3 (fun w' => True)
      (first | trivial)
      (first
        | (refine step_copy _ rfl (.tmp 41) (.tmp 44) rfl w2.heap.size j (n - j) (n - j) w2.heap.size j n k q rfl rfl HK.out.symm Q0.out Q1.out R.out.drew.free ?_
           have R2 := Lib.hid (R.out.drew.put (k := k) (by have := STEP.out; omega))
           have HB2 := Lib.hid (setCells_below (B := w2.heap.size) (List.replicate k (I q)) j _ HB.out.drew S2.out)
           generalize wr.drew.setCells w2.heap.size j (List.replicate k (I q)) = w4 at R2 HB2 ⊢))
    all_goals
      go_wp2
      go_roundw
      case rel => exact ⟨j + k, STEP.out.1, STEP.out.2.1, by go_num, R2, HB2⟩
      case measure =>
        have h := STEP.out.2.2
        show n - ((j + k : Nat) : Int).toNat < n - ((j : Int)).toNat
        rw [Int.toNat_natCast, Int.toNat_natCast]
        exact h
def eyeL (n : Nat) : List Int := diagL (List.replicate n 16777216)
set_option maxRecDepth 100000 in
set_option maxHeartbeats 4000000 in
theorem eye_calls (n : Nat) (w : World) (h1 : 1 ≤ n) (h8 : n ≤ 8) :
    Calls Try.prog 70 #[I n] w fun e w' => ∃ v, e = .returned (.tuple #[.agg #[I n, I n, v], I 0]) ∧ Own w' w.heap.size v (eyeL n) ∧ Below w.heap.size w w' := by
  have N : Hid (Scene w [(26, #[I 0, I 0, .slice none 0 0]), (22, #[I 16777216])] ((w.alloc (.cells #[I 0, I 0, .slice none 0 0] 26)).alloc (.cells #[I 16777216] 22))) := Lib.hid (((Scene.none w).push (by simp) _ _).push (by simp) _ _)
  have e1 : decide ((n : Int) < 1) = false := decide_eq_false (by omega)
  have e2 : decide ((n : Int) > 8) = false := decide_eq_false (by omega)
  have HR := Lib.hid (repeat_calls (w.heap.size + 1) n 16777216 _ (N.out.r1.cell 0) h1 h8)
  have hany : (List.replicate n (16777216 : Int)).any oddQ = false := by
    rw [List.any_eq_false]
    intro x hx
    rw [List.eq_of_mem_replicate hx]
    decide
  have hlen : (List.replicate n (16777216 : Int)).length = n := by simp
  have HD := Lib.hid (fun A c w' h => diag_good A c (List.replicate n 16777216) w' h (by rw [hlen]; exact h1) (by rw [hlen]; exact h8) hany)
  obtain ⟨L, hL⟩ : ∃ L, eyeL n = L := ⟨_, rfl⟩
  rw [hL]
  unfold eyeL at hL
  rw [hlen, hL] at HD
  clear h1 h8 hany hlen hL
  go_enter Try.func70, Try.ntmps70
  go_wp2_with fail
  refine HR.out.mono ?_
  rintro e w2 ⟨A, c, rfl, ho, hb⟩
  have N2 := Lib.hid (N.out.below hb)
  obtain ⟨A', c', he, _, hr⟩ := ho.reads
  injection he with e1 e2 e3
  subst e1 e3
  have HR2 := Lib.hid hr
  clear hb ho hr e2 HR
  go_wp2_with fail
  refine (HD.out _ _ _ HR2.out).mono ?_
  rintro e w3 ⟨v, rfl, ho, hb⟩
  obtain ⟨A3, c3, rfl, _, _⟩ := ho.reads
  have O := Lib.hid ho
  have N3 := Lib.hid (N2.out.below hb)
  have L2 := N2.out.r1.lt
  clear hb ho
  have x0 := N3.out.r0.cell
  have g0 := N3.out.r0.free
  have t0 := N3.out.r0.lt
  go_wp2
  refine bodyPost_ret (res3t rfl rfl (N3.out.r0.fill3 _ _ _)) rfl ⟨_, rfl, ?_, Below.fill3 N3.out.be (by omega) _ _ _⟩
  exact (O.out.fill3 (by omega) _ _ _).lower (by omega)
end Go.Proofs.Ytninmcmajbfccaa.KK

/- Layer 3: the matrices' contracts, in the print's form. -/
namespace Go.Proofs.Ytninmcmajbfccaa.PQ
open Go.RowKit Go.Proofs.YtninmcmajbfccaaW.PrintWords Go.Proofs.YtninmcmajbfccaaW.PrintLast Go.Proofs.YtninmcmajbfccaaW.PrintMore Go.Proofs.Ytninmcmajbfccaa.KK
set_option linter.unusedVariables false
set_option linter.unusedSimpArgs false
set_option maxRecDepth 100000 in
theorem clone_none (c : Nat) (l : List Int) (w : World) (hl : l.length = 0) :
    Calls Try.prog 31 #[.slice none l.length c] w fun e w' => ∃ v, e = .returned v ∧ Own w' w.heap.size v l ∧ Below w.heap.size w w' := by
  obtain rfl := List.eq_nil_of_length_eq_zero hl
  have he : ∀ w : World, (binOp .eql 24 (.slice none 0 c) (.slice none 0 0)).run Try.prog w = .ok (.bool true) w := fun _ => rfl
  go_enter Try.func31, Try.ntmps31
  go_wp2
  go_ret
  exact ⟨_, rfl, Own.nil _ _, Below.refl _ _⟩
def mat_Right.f (a0_0 : Int) (a0_1 : Int) (l0_2 : List Int) : Option Bool := some (rightM a0_0 a0_1 l0_2)
theorem mat_Right.calls (a0_0 : Int) (a0_1 : Int) (A0_2 : Option Addr) (c0_2 : Nat) (l0_2 : List Int) (r : Bool) (w : World) (hr0_2 : Kd.C (Kd.int .i64) w A0_2 l0_2.length l0_2) (hc0_2 : l0_2.length ≤ c0_2) (h : mat_Right.f a0_0 a0_1 l0_2 = some r) :
    Calls Try.prog 39 #[.agg #[.int .i64 a0_0, .int .i64 a0_1, .slice A0_2 l0_2.length c0_2]] w fun e w' => e = .returned (.bool r) ∧ Below w.heap.size w w' := by
  obtain rfl : rightM a0_0 a0_1 l0_2 = r := by unfold mat_Right.f at h; injection h
  exact right_calls a0_0 a0_1 A0_2 c0_2 l0_2 w hr0_2
theorem nat2 {a b : Int} {n : Nat} (ha : 0 ≤ a) (hb : 0 ≤ b) (h : (n : Int) = a * b) : n = a.toNat * b.toNat := by
  obtain ⟨x, rfl⟩ := Int.eq_ofNat_of_zero_le ha
  obtain ⟨y, rfl⟩ := Int.eq_ofNat_of_zero_le hb
  simp only [Int.toNat_natCast]
  exact_mod_cast h
theorem toInt {a : Int} (ha : 0 ≤ a) : ((a.toNat : Nat) : Int) = a := by omega
def mat_Trans.f (a0_0 : Int) (a0_1 : Int) (l0_2 : List Int) : Option (Int × Int × List Int) := if 0 ≤ a0_0 ∧ a0_0 ≤ 8 ∧ 0 ≤ a0_1 ∧ a0_1 ≤ 8 ∧ (l0_2.length : Int) = a0_0 * a0_1 then some (a0_1, a0_0, trL a0_0.toNat a0_1.toNat l0_2) else none
theorem mat_Trans.calls (a0_0 : Int) (a0_1 : Int) (A0_2 : Option Addr) (c0_2 : Nat) (l0_2 : List Int) (r1 : Int) (r2 : Int) (r3 : List Int) (w : World) (hr0_2 : Kd.C (Kd.int .i64) w A0_2 l0_2.length l0_2) (hc0_2 : l0_2.length ≤ c0_2) (h : mat_Trans.f a0_0 a0_1 l0_2 = some (r1, r2, r3)) :
    Calls Try.prog 41 #[.agg #[.int .i64 a0_0, .int .i64 a0_1, .slice A0_2 l0_2.length c0_2]] w fun e w' => ∃ v2_ : Value, e = .returned (.agg #[.int .i64 r1, .int .i64 r2, v2_]) ∧ Kd.R (Kd.int .i64) 22 w' w.heap.size (fun _ => True) v2_ r3 ∧ Below w.heap.size w w' := by
  unfold mat_Trans.f at h
  split at h
  · rename_i hs
    obtain ⟨s0, s1, s2, s3, s4⟩ := hs
    simp only [Option.some.injEq, Prod.mk.injEq] at h
    obtain ⟨rfl, rfl, rfl⟩ := h
    have := trans_calls a0_0.toNat a0_1.toNat A0_2 c0_2 l0_2 w (by omega) (by omega) (nat2 s0 s2 s4) hr0_2
    rw [toInt s0, toInt s2] at this
    exact this
  · cases h
def mat_Add.f (a0_0 : Int) (a0_1 : Int) (l0_2 : List Int) (a1_0 : Int) (a1_1 : Int) (l1_2 : List Int) : Option (Int × Int × List Int × Bool × Int) :=
  if a0_0 = a1_0 ∧ a0_1 = a1_1 then (if 0 ≤ a0_0 ∧ a0_0 ≤ 8 ∧ 0 ≤ a0_1 ∧ a0_1 ≤ 8 ∧ (l0_2.length : Int) = a0_0 * a0_1 ∧ l1_2.length = l0_2.length then some (a0_0, a0_1, eachL addZ a0_0.toNat a0_1.toNat l0_2 l1_2, eachB addZ a0_0.toNat a0_1.toNat l0_2 l1_2, 0) else none) else some (0, 0, [], false, 9)
theorem mat_Add.calls (a0_0 : Int) (a0_1 : Int) (A0_2 : Option Addr) (c0_2 : Nat) (l0_2 : List Int) (a1_0 : Int) (a1_1 : Int) (A1_2 : Option Addr) (c1_2 : Nat) (l1_2 : List Int) (r1 : Int) (r2 : Int) (r3 : List Int) (r4 : Bool) (r5 : Int) (w : World) (hr0_2 : Kd.C (Kd.int .i64) w A0_2 l0_2.length l0_2) (hc0_2 : l0_2.length ≤ c0_2) (hr1_2 : Kd.C (Kd.int .i64) w A1_2 l1_2.length l1_2) (hc1_2 : l1_2.length ≤ c1_2) (h : mat_Add.f a0_0 a0_1 l0_2 a1_0 a1_1 l1_2 = some (r1, r2, r3, r4, r5)) :
    Calls Try.prog 47 #[.agg #[.int .i64 a0_0, .int .i64 a0_1, .slice A0_2 l0_2.length c0_2], .agg #[.int .i64 a1_0, .int .i64 a1_1, .slice A1_2 l1_2.length c1_2]] w fun e w' => ∃ v2_ : Value, e = .returned (.tuple #[.agg #[.int .i64 r1, .int .i64 r2, v2_], .bool r4, .int .i64 r5]) ∧ Kd.R (Kd.int .i64) 22 w' w.heap.size (fun _ => True) v2_ r3 ∧ Below w.heap.size w w' := by
  unfold mat_Add.f at h
  split at h
  · rename_i he
    obtain ⟨rfl, rfl⟩ := he
    split at h
    · rename_i hs
      obtain ⟨s0, s1, s2, s3, s4, s5⟩ := hs
      simp only [Option.some.injEq, Prod.mk.injEq] at h
      obtain ⟨rfl, rfl, rfl, rfl, rfl⟩ := h
      have := mat_add a0_0.toNat a0_1.toNat A0_2 A1_2 c0_2 c1_2 l0_2 l1_2 w (by omega) (by omega) (nat2 s0 s2 s4) (by rw [s5]; exact nat2 s0 s2 s4) hr0_2 hr1_2 hc0_2 hc1_2
      rw [toInt s0, toInt s2] at this
      exact this
    · cases h
  · rename_i he
    simp only [Option.some.injEq, Prod.mk.injEq] at h
    obtain ⟨rfl, rfl, rfl, rfl, rfl⟩ := h
    refine (mat_add_bad a0_0 a0_1 a1_0 a1_1 A0_2 A1_2 c0_2 c1_2 l0_2 l1_2 w he hr0_2 hr1_2 hc0_2 hc1_2).mono ?_
    rintro e w' ⟨rfl, hb⟩
    exact ⟨_, rfl, Own.nil _ _, hb⟩
def mat_Sub.f (a0_0 : Int) (a0_1 : Int) (l0_2 : List Int) (a1_0 : Int) (a1_1 : Int) (l1_2 : List Int) : Option (Int × Int × List Int × Bool × Int) :=
  if a0_0 = a1_0 ∧ a0_1 = a1_1 then (if 0 ≤ a0_0 ∧ a0_0 ≤ 8 ∧ 0 ≤ a0_1 ∧ a0_1 ≤ 8 ∧ (l0_2.length : Int) = a0_0 * a0_1 ∧ l1_2.length = l0_2.length then some (a0_0, a0_1, eachL subZ a0_0.toNat a0_1.toNat l0_2 l1_2, eachB subZ a0_0.toNat a0_1.toNat l0_2 l1_2, 0) else none) else some (0, 0, [], false, 9)
theorem mat_Sub.calls (a0_0 : Int) (a0_1 : Int) (A0_2 : Option Addr) (c0_2 : Nat) (l0_2 : List Int) (a1_0 : Int) (a1_1 : Int) (A1_2 : Option Addr) (c1_2 : Nat) (l1_2 : List Int) (r1 : Int) (r2 : Int) (r3 : List Int) (r4 : Bool) (r5 : Int) (w : World) (hr0_2 : Kd.C (Kd.int .i64) w A0_2 l0_2.length l0_2) (hc0_2 : l0_2.length ≤ c0_2) (hr1_2 : Kd.C (Kd.int .i64) w A1_2 l1_2.length l1_2) (hc1_2 : l1_2.length ≤ c1_2) (h : mat_Sub.f a0_0 a0_1 l0_2 a1_0 a1_1 l1_2 = some (r1, r2, r3, r4, r5)) :
    Calls Try.prog 71 #[.agg #[.int .i64 a0_0, .int .i64 a0_1, .slice A0_2 l0_2.length c0_2], .agg #[.int .i64 a1_0, .int .i64 a1_1, .slice A1_2 l1_2.length c1_2]] w fun e w' => ∃ v2_ : Value, e = .returned (.tuple #[.agg #[.int .i64 r1, .int .i64 r2, v2_], .bool r4, .int .i64 r5]) ∧ Kd.R (Kd.int .i64) 22 w' w.heap.size (fun _ => True) v2_ r3 ∧ Below w.heap.size w w' := by
  unfold mat_Sub.f at h
  split at h
  · rename_i he
    obtain ⟨rfl, rfl⟩ := he
    split at h
    · rename_i hs
      obtain ⟨s0, s1, s2, s3, s4, s5⟩ := hs
      simp only [Option.some.injEq, Prod.mk.injEq] at h
      obtain ⟨rfl, rfl, rfl, rfl, rfl⟩ := h
      have := mat_sub a0_0.toNat a0_1.toNat A0_2 A1_2 c0_2 c1_2 l0_2 l1_2 w (by omega) (by omega) (nat2 s0 s2 s4) (by rw [s5]; exact nat2 s0 s2 s4) hr0_2 hr1_2 hc0_2 hc1_2
      rw [toInt s0, toInt s2] at this
      exact this
    · cases h
  · rename_i he
    simp only [Option.some.injEq, Prod.mk.injEq] at h
    obtain ⟨rfl, rfl, rfl, rfl, rfl⟩ := h
    refine (mat_sub_bad a0_0 a0_1 a1_0 a1_1 A0_2 A1_2 c0_2 c1_2 l0_2 l1_2 w he hr0_2 hr1_2 hc0_2 hc1_2).mono ?_
    rintro e w' ⟨rfl, hb⟩
    exact ⟨_, rfl, Own.nil _ _, hb⟩
def mat_Mul.f (a0_0 : Int) (a0_1 : Int) (l0_2 : List Int) (a1_0 : Int) (a1_1 : Int) (l1_2 : List Int) : Option (Int × Int × List Int × Bool × Int) :=
  if a0_1 = a1_0 then (if (0 ≤ a0_0 ∧ a0_0 ≤ 8 ∧ 0 ≤ a0_1 ∧ a0_1 ≤ 8 ∧ (l0_2.length : Int) = a0_0 * a0_1) ∧ (0 ≤ a1_0 ∧ a1_0 ≤ 8 ∧ 0 ≤ a1_1 ∧ a1_1 ≤ 8 ∧ (l1_2.length : Int) = a1_0 * a1_1) then some (a0_0, a1_1, mulL a0_0.toNat a0_1.toNat a1_1.toNat l0_2 l1_2, mulB a0_0.toNat a0_1.toNat a1_1.toNat l0_2 l1_2, 0) else none) else some (0, 0, [], false, 9)
theorem mat_Mul.calls (a0_0 : Int) (a0_1 : Int) (A0_2 : Option Addr) (c0_2 : Nat) (l0_2 : List Int) (a1_0 : Int) (a1_1 : Int) (A1_2 : Option Addr) (c1_2 : Nat) (l1_2 : List Int) (r1 : Int) (r2 : Int) (r3 : List Int) (r4 : Bool) (r5 : Int) (w : World) (hr0_2 : Kd.C (Kd.int .i64) w A0_2 l0_2.length l0_2) (hc0_2 : l0_2.length ≤ c0_2) (hr1_2 : Kd.C (Kd.int .i64) w A1_2 l1_2.length l1_2) (hc1_2 : l1_2.length ≤ c1_2) (h : mat_Mul.f a0_0 a0_1 l0_2 a1_0 a1_1 l1_2 = some (r1, r2, r3, r4, r5)) :
    Calls Try.prog 46 #[.agg #[.int .i64 a0_0, .int .i64 a0_1, .slice A0_2 l0_2.length c0_2], .agg #[.int .i64 a1_0, .int .i64 a1_1, .slice A1_2 l1_2.length c1_2]] w fun e w' => ∃ v2_ : Value, e = .returned (.tuple #[.agg #[.int .i64 r1, .int .i64 r2, v2_], .bool r4, .int .i64 r5]) ∧ Kd.R (Kd.int .i64) 22 w' w.heap.size (fun _ => True) v2_ r3 ∧ Below w.heap.size w w' := by
  unfold mat_Mul.f at h
  split at h
  · rename_i he
    subst he
    split at h
    · rename_i hs
      obtain ⟨⟨s0, s1, s2, s3, s4⟩, t0, t1, t2, t3, t4⟩ := hs
      simp only [Option.some.injEq, Prod.mk.injEq] at h
      obtain ⟨rfl, rfl, rfl, rfl, rfl⟩ := h
      have := mat_mul a0_0.toNat a0_1.toNat a1_1.toNat A0_2 A1_2 c0_2 c1_2 l0_2 l1_2 w (by omega) (by omega) (by omega) (nat2 s0 s2 s4) (nat2 t0 t2 t4) hr0_2 hr1_2
      rw [toInt s0, toInt s2, toInt t2] at this
      exact this
    · cases h
  · rename_i he
    simp only [Option.some.injEq, Prod.mk.injEq] at h
    obtain ⟨rfl, rfl, rfl, rfl, rfl⟩ := h
    refine (mat_mul_bad a0_0 a0_1 a1_0 a1_1 A0_2 A1_2 c0_2 c1_2 l0_2 l1_2 w he).mono ?_
    rintro e w' ⟨rfl, hb⟩
    exact ⟨_, rfl, Own.nil _ _, hb⟩
def mat_Scale.f (a0_0 : Int) (a0_1 : Int) (l0_2 : List Int) (a1 : Int) : Option (Int × Int × List Int × Bool) := if 0 ≤ a0_0 ∧ a0_0 ≤ 8 ∧ 0 ≤ a0_1 ∧ a0_1 ≤ 8 ∧ (l0_2.length : Int) = a0_0 * a0_1 then some (a0_0, a0_1, scaleL a0_0.toNat a0_1.toNat l0_2 a1, scaleB a0_0.toNat a0_1.toNat l0_2 a1) else none
theorem mat_Scale.calls (a0_0 : Int) (a0_1 : Int) (A0_2 : Option Addr) (c0_2 : Nat) (l0_2 : List Int) (a1 : Int) (r1 : Int) (r2 : Int) (r3 : List Int) (r4 : Bool) (w : World) (hr0_2 : Kd.C (Kd.int .i64) w A0_2 l0_2.length l0_2) (hc0_2 : l0_2.length ≤ c0_2) (h : mat_Scale.f a0_0 a0_1 l0_2 a1 = some (r1, r2, r3, r4)) :
    Calls Try.prog 69 #[.agg #[.int .i64 a0_0, .int .i64 a0_1, .slice A0_2 l0_2.length c0_2], .int .i64 a1] w fun e w' => ∃ v2_ : Value, e = .returned (.tuple #[.agg #[.int .i64 r1, .int .i64 r2, v2_], .bool r4]) ∧ Kd.R (Kd.int .i64) 22 w' w.heap.size (fun _ => True) v2_ r3 ∧ Below w.heap.size w w' := by
  unfold mat_Scale.f at h
  split at h
  · rename_i hs
    obtain ⟨s0, s1, s2, s3, s4⟩ := hs
    simp only [Option.some.injEq, Prod.mk.injEq] at h
    obtain ⟨rfl, rfl, rfl, rfl⟩ := h
    have := mat_scale a0_0.toNat a0_1.toNat A0_2 c0_2 l0_2 a1 w (by omega) (by omega) (nat2 s0 s2 s4) hr0_2 hc0_2
    rw [toInt s0, toInt s2] at this
    exact this
  · cases h
def mat_Even.f (a0_0 : Int) (a0_1 : Int) (l0_2 : List Int) : Option (Int × Int × List Int × Bool × Int) := if a0_0 = a0_1 ∧ 0 ≤ a0_0 ∧ a0_0 ≤ 8 ∧ 0 ≤ a0_1 ∧ a0_1 ≤ 8 ∧ (l0_2.length : Int) = a0_0 * a0_1 then some (a0_0, a0_1, evenL a0_0.toNat l0_2, eachB halfZ a0_0.toNat a0_0.toNat l0_2 (trL a0_0.toNat a0_0.toNat l0_2), 0) else none
theorem mat_Even.calls (a0_0 : Int) (a0_1 : Int) (A0_2 : Option Addr) (c0_2 : Nat) (l0_2 : List Int) (r1 : Int) (r2 : Int) (r3 : List Int) (r4 : Bool) (r5 : Int) (w : World) (hr0_2 : Kd.C (Kd.int .i64) w A0_2 l0_2.length l0_2) (hc0_2 : l0_2.length ≤ c0_2) (h : mat_Even.f a0_0 a0_1 l0_2 = some (r1, r2, r3, r4, r5)) :
    Calls Try.prog 38 #[.agg #[.int .i64 a0_0, .int .i64 a0_1, .slice A0_2 l0_2.length c0_2]] w fun e w' => ∃ v2_ : Value, e = .returned (.tuple #[.agg #[.int .i64 r1, .int .i64 r2, v2_], .bool r4, .int .i64 r5]) ∧ Kd.R (Kd.int .i64) 22 w' w.heap.size (fun _ => True) v2_ r3 ∧ Below w.heap.size w w' := by
  unfold mat_Even.f at h
  split at h
  · rename_i hs
    obtain ⟨rfl, s0, s1, s2, s3, s4⟩ := hs
    simp only [Option.some.injEq, Prod.mk.injEq] at h
    obtain ⟨rfl, rfl, rfl, rfl, rfl⟩ := h
    have := even_good a0_0.toNat A0_2 c0_2 l0_2 w (by omega) (nat2 s0 s2 s4) hr0_2 hc0_2
    rw [toInt s0] at this
    exact this
  · cases h
def mat_Diag.f (l0 : List Int) : Option (Int × Int × List Int × Int) := if l0.length < 1 ∨ l0.length > 8 ∨ l0.any oddQ = true then some (0, 0, [], 1) else some (l0.length, l0.length, diagL l0, 0)
theorem mat_Diag.calls (A0 : Option Addr) (c0 : Nat) (l0 : List Int) (r1 : Int) (r2 : Int) (r3 : List Int) (r4 : Int) (w : World) (hr0 : Kd.C (Kd.int .i64) w A0 l0.length l0) (hc0 : l0.length ≤ c0) (h : mat_Diag.f l0 = some (r1, r2, r3, r4)) :
    Calls Try.prog 30 #[.slice A0 l0.length c0] w fun e w' => ∃ v2_ : Value, e = .returned (.tuple #[.agg #[.int .i64 r1, .int .i64 r2, v2_], .int .i64 r4]) ∧ Kd.R (Kd.int .i64) 22 w' w.heap.size (fun _ => True) v2_ r3 ∧ Below w.heap.size w w' := by
  unfold mat_Diag.f at h
  split at h
  · rename_i hs
    simp only [Option.some.injEq, Prod.mk.injEq] at h
    obtain ⟨rfl, rfl, rfl, rfl⟩ := h
    refine (diag_bad A0 c0 l0 w hr0 hs).mono ?_
    rintro e w' ⟨rfl, hb⟩
    exact ⟨_, rfl, Own.nil _ _, hb⟩
  · rename_i hs
    simp only [Option.some.injEq, Prod.mk.injEq] at h
    obtain ⟨rfl, rfl, rfl, rfl⟩ := h
    exact diag_good A0 c0 l0 w hr0 (by omega) (by omega) (by simpa using fun e => hs (.inr (.inr e)))
def mat_Eye.f (a0 : Int) : Option (Int × Int × List Int × Int) := if 1 ≤ a0 ∧ a0 ≤ 8 then some (a0, a0, eyeL a0.toNat, 0) else none
theorem mat_Eye.calls (a0 : Int) (r1 : Int) (r2 : Int) (r3 : List Int) (r4 : Int) (w : World) (h : mat_Eye.f a0 = some (r1, r2, r3, r4)) :
    Calls Try.prog 70 #[.int .i64 a0] w fun e w' => ∃ v2_ : Value, e = .returned (.tuple #[.agg #[.int .i64 r1, .int .i64 r2, v2_], .int .i64 r4]) ∧ Kd.R (Kd.int .i64) 22 w' w.heap.size (fun _ => True) v2_ r3 ∧ Below w.heap.size w w' := by
  unfold mat_Eye.f at h
  split at h
  · rename_i hs
    simp only [Option.some.injEq, Prod.mk.injEq] at h
    obtain ⟨rfl, rfl, rfl, rfl⟩ := h
    have := eye_calls a0.toNat w (by omega) (by omega)
    rw [toInt (by omega : 0 ≤ a0)] at this
    exact this
  · cases h
def api_Q_31.f (l0 : List Int) : Option (List Int) := if l0.length ≤ 1000000 then some l0 else none
theorem api_Q_31.calls (A0 : Option Addr) (c0 : Nat) (l0 : List Int) (r : List Int) (w : World) (hr0 : Kd.C (Kd.int .i64) w A0 l0.length l0) (hc0 : l0.length ≤ c0) (h : api_Q_31.f l0 = some r) :
    Calls Try.prog 31 #[.slice A0 l0.length c0] w fun e w' => ∃ v0_ : Value, e = .returned (v0_) ∧ Kd.R (Kd.int .i64) 22 w' w.heap.size (fun _ => True) v0_ r ∧ Below w.heap.size w w' := by
  unfold api_Q_31.f at h
  split at h
  · injection h with h
    subst h
    cases A0 with
    | none =>
      have h0 : l0.length = 0 := by
        rcases Nat.eq_zero_or_pos l0.length with h | h
        · exact h
        · obtain ⟨_, e, _⟩ := hr0.2.2 h; cases e
      exact clone_none c0 l0 w h0
    | some ad => exact clone_calls (some ad) c0 l0 w hr0 (by assumption) (fun e => by cases e)
  · cases h
end Go.Proofs.Ytninmcmajbfccaa.PQ
