import Derived.Test.YtcfobekkchhbbaaGreatX13
import Derived.Test.YtcfobekkchhbbaaGreatX9
/- Joined and thinned by a program of this session's own (wip/pack2.py) out of its texts (wip/ of its repo); parts were laid by its own program (wip/print-patch.py over the kit's print) out of the translation; Lean checks all. -/
set_option maxRecDepth 100000
set_option maxHeartbeats 4000000
namespace Go.Proofs.YtcfobekkchhbbaaGreat.EE
open Go.RowKit Go.Proofs.YtcfobekkchhbbaaGreat.KK Go.Proofs.af.aK Go.Proofs.af.aV Go.Proofs.af.aW
set_option linter.unusedVariables false
set_option linter.unusedSimpArgs false
def ofA (l : List Int) : Nat → Array Value
 | 0 => zE
 | k + 1 => (ofA l k).setIfInBounds k (I (l.getD k 0))
theorem DF (l : List Int) : ∀ k, (ofA l k).size = 29
 | 0 => rfl
 | k + 1 => by rw [ofA, Array.size_setIfInBounds, DF l k]
def sV (l : List Int) (j : Nat) (x : Nat × Nat) : Tg := ⟨3, 1, some ⟨x.1, 0, none⟩, 3, [l.getD (4 + 9 * j) 0, l.getD (4 + 9 * j + 1) 0, l.getD (4 + 9 * j + 2) 0], 3, 3, some ⟨x.2, 0, none⟩, 9,
 [l.getD (4 + 9 * j + 3) 0, l.getD (4 + 9 * j + 4) 0, l.getD (4 + 9 * j + 5) 0, l.getD (4 + 9 * j + 4) 0, l.getD (4 + 9 * j + 6) 0, l.getD (4 + 9 * j + 7) 0, l.getD (4 + 9 * j + 5) 0, l.getD (4 + 9 * j + 7) 0, l.getD (4 + 9 * j + 8) 0]⟩
theorem TQ {α : Type} {l : List α} (h : l.length = 3) : ∃ a b c, l = [a, b, c] := by
 match l, h with
 | [a, b, c], _ => exact ⟨a, b, c, rfl⟩
theorem SE {w : World} {b : Nat} {t : TypeId} {C : Array Value} (h : Row w b t C) (o n : Nat) (hn : o + n ≤ C.size) : w.there b o n := fun j hj => by
 refine ⟨?_, h.free _⟩
 rw [h.cell]
 simp
 omega
def OfT (l : List Int) (j : Nat) (t : Tg) : Prop := t.r = 3 ∧ t.c = 1 ∧ t.x = [l.getD (4 + 9 * j) 0, l.getD (4 + 9 * j + 1) 0, l.getD (4 + 9 * j + 2) 0] ∧ t.r' = 3 ∧ t.c' = 3 ∧
 t.p = [l.getD (4 + 9 * j + 3) 0, l.getD (4 + 9 * j + 4) 0, l.getD (4 + 9 * j + 5) 0, l.getD (4 + 9 * j + 4) 0, l.getD (4 + 9 * j + 6) 0, l.getD (4 + 9 * j + 7) 0, l.getD (4 + 9 * j + 5) 0, l.getD (4 + 9 * j + 7) 0, l.getD (4 + 9 * j + 8) 0]
def r3 (l : List Int) (j : Nat) : Array Value := #[I (l.getD (4 + 9 * j) 0), I (l.getD (4 + 9 * j + 1) 0), I (l.getD (4 + 9 * j + 2) 0)]
def r9 (l : List Int) (j : Nat) : Array Value := #[I (l.getD (4 + 9 * j + 3) 0), I (l.getD (4 + 9 * j + 4) 0), I (l.getD (4 + 9 * j + 5) 0), I (l.getD (4 + 9 * j + 4) 0), I (l.getD (4 + 9 * j + 6) 0), I (l.getD (4 + 9 * j + 7) 0), I (l.getD (4 + 9 * j + 5) 0), I (l.getD (4 + 9 * j + 7) 0), I (l.getD (4 + 9 * j + 8) 0)]
def ax6 (x : Nat × Nat) : Array Value := #[.int .i64 3, .int .i64 1, .slice (some ⟨x.1, 0, none⟩) 3 3, .int .i64 3, .int .i64 3, .slice (some ⟨x.2, 0, none⟩) 9 9]
def Vu (l : List Int) (ax : List (Nat × Nat)) : Array Value := ax.zipIdx.foldl (fun a x => (xY a.toList (4 + x.2 * 6) (ax6 x.1).toList).toArray) (ofA l 4)
theorem VU (l : List Int) (ax : List (Nat × Nat)) (x : Nat × Nat) : Vu l (ax ++ [x]) = (xY (Vu l ax).toList (4 + ax.length * 6) (ax6 x).toList).toArray := by
 simp [Vu, List.zipIdx_append, List.foldl_append]
def Tt (l : List Int) (ax : List (Nat × Nat)) : Nat → Array Value
 | 0 => ((Vu l ax).setIfInBounds 22 (I (l.getD 31 0))).setIfInBounds 23 (I (l.getD 32 0))
 | k + 1 => (Tt l ax k).setIfInBounds (24 + k) (I (l.getD (33 + k) 0))
theorem JP : ∀ (vs : List Value) (l : List Value) (o : Nat), (xY l o vs).length = l.length
 | [], l, o => rfl
 | v :: vs, l, o => by rw [xY, JP vs, List.length_set]
theorem Yr (l : List Int) : ∀ (xs : List ((Nat × Nat) × Nat)) (a : Array Value), a.size = 29 → (xs.foldl (fun a x => (xY a.toList (4 + x.2 * 6) (ax6 x.1).toList).toArray) a).size = 29
 | [], a, h => h
 | x :: xs, a, h => Yr l xs _ (by rw [List.size_toArray, JP, Array.length_toList, h])
theorem DD (l : List Int) (ax : List (Nat × Nat)) : (Vu l ax).size = 29 := Yr l _ _ (DF l 4)
theorem Dz (l : List Int) (ax : List (Nat × Nat)) : ∀ k, (Tt l ax k).size = 29
 | 0 => by rw [Tt, Array.size_setIfInBounds, Array.size_setIfInBounds, DD]
 | k + 1 => by rw [Tt, Array.size_setIfInBounds, Dz l ax k]
def Sj (l : List Int) (n : Nat) (W : World) (ax : List (Nat × Nat)) : Prop := ∀ j x, ax[j]? = some x → (n ≤ x.1 ∧ n ≤ x.2) ∧ Row W x.1 22 (r3 l j) ∧ Row W x.2 22 (r9 l j)
theorem Sj.keep {l : List Int} {n : Nat} {W W' : World} {ax : List (Nat × Nat)} (h : Sj l n W ax) (hk : ∀ g t cs, n ≤ g → Row W g t cs → Row W' g t cs) : Sj l n W' ax := fun j x hx =>
 ⟨(h j x hx).1, hk _ _ _ (h j x hx).1.1 (h j x hx).2.1, hk _ _ _ (h j x hx).1.2 (h j x hx).2.2⟩
theorem Sj.snoc {l : List Int} {n : Nat} {W : World} {ax : List (Nat × Nat)} (h : Sj l n W ax) {x : Nat × Nat} (h1 : n ≤ x.1 ∧ n ≤ x.2) (h2 : Row W x.1 22 (r3 l ax.length)) (h3 : Row W x.2 22 (r9 l ax.length)) : Sj l n W (ax ++ [x]) := fun j y hy => by
 rcases Nat.lt_trichotomy j ax.length with hj | hj | hj
 · rw [List.getElem?_append_left hj] at hy
   exact h j y hy
 · subst hj
   simp at hy
   subst hy; exact ⟨h1, h2, h3⟩
 · rw [List.getElem?_eq_none (by simp; omega)] at hy
   cases hy
structure Lr (l : List Int) (e : Eg) : Prop where
 q0 : e.q0 = l.getD 0 0
 q1 : e.q1 = l.getD 1 0
 q2 : e.q2 = l.getD 2 0
 q3 : e.q3 = l.getD 3 0
 t0 : OfT l 0 e.t0
 t1 : OfT l 1 e.t1
 t2 : OfT l 2 e.t2
 st : e.steps = l.getD 31 0
 co : e.dU = l.getD 32 0
 f0 : e.f0 = l.getD 33 0
 f1 : e.f1 = l.getD 34 0
 f2 : e.f2 = l.getD 35 0
 f3 : e.f3 = l.getD 36 0
 sa : e.sat = (l.getD 37 0 == 1)
 len : l.length = 38
 last : l.getD 37 0 = 0 ∨ l.getD 37 0 = 1
theorem Lr.same {l : List Int} {a b : Eg} (h : Lr l a) (g : Lr l b) : a.ok = b.ok := by
 obtain ⟨t1, t2, t3, t4, t5, t6⟩ := h.t0; obtain ⟨u1, u2, u3, u4, u5, u6⟩ := h.t1; obtain ⟨v1, v2, v3, v4, v5, v6⟩ := h.t2; obtain ⟨p1, p2, p3, p4, p5, p6⟩ := g.t0; obtain ⟨q1, q2, q3, q4, q5, q6⟩ := g.t1; obtain ⟨r1, r2, r3, r4, r5, r6⟩ := g.t2
 have e0 : a.t0.ok = b.t0.ok := by unfold Tg.ok; simp only [t1, t2, t3, t4, t5, t6, p1, p2, p3, p4, p5, p6]
 have e1 : a.t1.ok = b.t1.ok := by unfold Tg.ok; simp only [u1, u2, u3, u4, u5, u6, q1, q2, q3, q4, q5, q6]
 have e2 : a.t2.ok = b.t2.ok := by unfold Tg.ok; simp only [v1, v2, v3, v4, v5, v6, r1, r2, r3, r4, r5, r6]
 unfold Eg.ok Eg.n0 Eg.o4 Eg.t3
 rw [e0, e1, e2, h.q0, h.q1, h.q2, h.q3, h.st, h.co, h.f0, h.f1, h.f2, h.f3, g.q0, g.q1, g.q2, g.q3, g.st, g.co, g.f0, g.f1, g.f2, g.f3]
theorem abp (l : List Int) (xa xb xc : Nat × Nat) (h : l.length = 38) (h1 : l.getD 37 0 = 0 ∨ l.getD 37 0 = 1) : Lr l ⟨l.getD 0 0, l.getD 1 0, l.getD 2 0, l.getD 3 0, sV l 0 xa, sV l 1 xb, sV l 2 xc, l.getD 31 0, l.getD 32 0, l.getD 33 0, l.getD 34 0, l.getD 35 0, l.getD 36 0, l.getD 37 0 == 1⟩ :=
 ⟨rfl, rfl, rfl, rfl, ⟨rfl, rfl, rfl, rfl, rfl, rfl⟩, ⟨rfl, rfl, rfl, rfl, rfl, rfl⟩, ⟨rfl, rfl, rfl, rfl, rfl, rfl⟩, rfl, rfl, rfl, rfl, rfl, rfl, rfl, h, h1⟩
theorem Tn {l : List Int} {n : Nat} {W : World} {xa xb xc : Nat × Nat} (h : Sj l n W [xa, xb, xc]) : ∀ j, j < 3 → xR W ((⟨l.getD 0 0, l.getD 1 0, l.getD 2 0, l.getD 3 0, sV l 0 xa, sV l 1 xb, sV l 2 xc, l.getD 31 0, l.getD 32 0, l.getD 33 0, l.getD 34 0, l.getD 35 0, l.getD 36 0, l.getD 37 0 == 1⟩ : Eg).t j) := by
 have key : ∀ j x, [xa, xb, xc][j]? = some x → xR W (sV l j x) := fun j x hx => by
  obtain ⟨_, r1, r2⟩ := h j x hx; refine ⟨Rd.part r1 (by simp [sV]) (fun i v hv => ?_), by simp [sV], Rd.part r2 (by simp [sV]) (fun i v hv => ?_), by simp [sV]⟩
  · match i, hv with
    | 0, hv => injection hv with hv; subst hv; rfl
    | 1, hv => injection hv with hv; subst hv; rfl
    | 2, hv => injection hv with hv; subst hv; rfl
    | i + 3, hv => simp [sV] at hv
  · match i, hv with
    | 0, hv => injection hv with hv; subst hv; rfl
    | 1, hv => injection hv with hv; subst hv; rfl
    | 2, hv => injection hv with hv; subst hv; rfl
    | 3, hv => injection hv with hv; subst hv; rfl
    | 4, hv => injection hv with hv; subst hv; rfl
    | 5, hv => injection hv with hv; subst hv; rfl
    | 6, hv => injection hv with hv; subst hv; rfl
    | 7, hv => injection hv with hv; subst hv; rfl
    | 8, hv => injection hv with hv; subst hv; rfl
    | i + 9, hv => simp [sV] at hv
 intro j hj
 obtain rfl | rfl | rfl : j = 0 ∨ j = 1 ∨ j = 2 := by omega
 · exact key 0 xa rfl
 · exact key 1 xb rfl
 · exact key 2 xc rfl
theorem abq (l : List Int) (xa xb xc : Nat × Nat) : (Tt l [xa, xb, xc] 4).setIfInBounds 28 (.bool (l.getD 37 0 == 1)) = (⟨l.getD 0 0, l.getD 1 0, l.getD 2 0, l.getD 3 0, sV l 0 xa, sV l 1 xb, sV l 2 xc, l.getD 31 0, l.getD 32 0, l.getD 33 0, l.getD 34 0, l.getD 35 0, l.getD 36 0, l.getD 37 0 == 1⟩ : Eg).R := by kernel_rfl
theorem KF (l : List Int) (A : Option Addr) (c : Nat) (w0 : World) (hl : Rd w0 A l) (ab1 : l.length ≤ 100) : Calls Tryz.prog 17 #[.slice A l.length c] w0 fun x w' => ((∃ e : Eg, x = .returned (.tuple #[.agg e.R, I 0]) ∧ Lr l e ∧ (∀ j, j < 3 → xR w' (e.t j)) ∧ e.ok = true) ∨ (x = .returned (.tuple #[.agg zE, I 2]) ∧ (l.length ≠ 38 ∨ ¬ (l.getD 37 0 = 0 ∨ l.getD 37 0 = 1) ∨ ∀ e : Eg, Lr l e → e.ok = false))) ∧ Below w0.heap.size w0 w' := by
 have HL := Lib.hid hl; have ais := Lib.hid ab1; clear hl ab1
 go_enter Tryz.func17, Tryz.ntmps17
 go_upto_region 1 with fail
 have S1 : Hid (Row ((w0.alloc (.cells #[.slice A l.length c] 46)).alloc (.cells zE 35)) w0.heap.size 46 #[.slice A l.length c] ∧ Row ((w0.alloc (.cells #[.slice A l.length c] 46)).alloc (.cells zE 35)) (w0.heap.size + 1) 35 zE ∧ Below w0.heap.size w0 ((w0.alloc (.cells #[.slice A l.length c] 46)).alloc (.cells zE 35)) ∧ ((w0.alloc (.cells #[.slice A l.length c] 46)).alloc (.cells zE 35)).heap.size = w0.heap.size + 2) := Lib.hid (by
  have h2 := Row.new (w0.alloc (.cells #[.slice A l.length c] 46)) 35 zE; rw [World.size_alloc] at h2; exact ⟨(Row.new w0 46 _).alloc _, h2, ((Below.refl _ _).alloc (Nat.le_refl _) _).alloc (by simp) _, by simp⟩)
 change Code.wp _ _ _ _ ((w0.alloc (.cells #[.slice A l.length c] 46)).alloc (.cells zE 35)); generalize (w0.alloc (.cells #[.slice A l.length c] 46)).alloc (.cells zE 35) = w1 at S1 ⊢; have cb := S1.out.1.cell 0; have Z2 : Hid (∀ w', Row w' (w0.heap.size + 1) 35 zE → w'.rangeAt (w0.heap.size + 1) 0 zE.toList) := Lib.hid (fun w' h => Row.whole h); have i37 : Hid ((Tryz.prog.info? 35).map (·.size) = some zE.size) := Lib.hid (by kernel_rfl); have one : Hid (zE.all (·.oneCell') = true) := Lib.hid (by kernel_rfl); have TZ1 := Lib.hid (Row.there S1.out.2.1)
 by_cases h38 : l.length = 38
 case neg =>
  have d1 : ((l.length : Int) != 38) = true := by rw [bne_iff_ne]; omega
  have TZ := TZ1.out
  go_wp2_with (with_reducible refine wpList_store_mid rfl 35 (.tmp 2) (.tmp 32) rfl (w0.heap.size + 1) 0 zE rfl rfl TZ i37.out one.out ?_)
  have RZ := Row.full S1.out.2.1 zE rfl; exact bodyPost_ret (jZ rfl _ _ (w0.heap.size + 1) zE _ rfl (Row.whole RZ) Tryz.underlying35 rfl (by kernel_rfl)) rfl ⟨.inr ⟨rfl, .inl h38⟩, KK.dI _ _ _ S1.out.2.2.1 (by omega)⟩
 have d1 : ((l.length : Int) != 38) = false := by rw [h38]; rfl
 obtain ⟨b, off, rfl, hb, hcells⟩ := (HL.out.below S1.out.2.2.1).cells (by omega); have hc := hcells 37 (l.getD 37 0) (iw (by omega))
 have g37 : (37 : Int) < (l.length : Int) := by omega
 have H38 := Lib.hid h38
 obtain ⟨q, hq⟩ : ∃ q, l.getD 37 0 = q := ⟨_, rfl⟩
 rw [hq] at hc; have HQ := Lib.hid hq; clear hcells hb h38 hq
 by_cases Wn : q = 0 ∨ q = 1
 case neg =>
  have d2 : (q != 0) = true := by rw [bne_iff_ne]; exact fun e => Wn (.inl e)
  have d3 : (q != 1) = true := by rw [bne_iff_ne]; exact fun e => Wn (.inr e)
  have TZ := TZ1.out
  go_wp2_with (with_reducible refine wpList_store_mid rfl 35 (.tmp 2) (.tmp 32) rfl (w0.heap.size + 1) 0 zE rfl rfl TZ i37.out one.out ?_)
  have RZ := Row.full S1.out.2.1 zE rfl; exact bodyPost_ret (jZ rfl _ _ (w0.heap.size + 1) zE _ rfl (Row.whole RZ) Tryz.underlying35 rfl (by kernel_rfl)) rfl ⟨.inr ⟨rfl, .inr (.inl (by rw [HQ.out]; exact Wn))⟩, KK.dI _ _ _ S1.out.2.2.1 (by omega)⟩
 have HQ1 := Lib.hid Wn
 have SQ : Hid (Sq l (some ⟨b, off, none⟩) c w0 (((w1.alloc (.cells #[I 0] 3)).alloc (.cells zE 35))) 0 (ofA l 0)) := Lib.hid (by
  have r3 := Row.new w1 3 #[I 0]; have r4 := Row.new (w1.alloc (.cells #[I 0] 3)) 35 zE; rw [World.size_alloc, S1.out.2.2.2] at r4; rw [S1.out.2.2.2] at r3; exact ⟨r3.alloc _, (S1.out.1.alloc _).alloc _, r4, (S1.out.2.1.alloc _).alloc _, (S1.out.2.2.1.alloc S1.out.2.2.1.size _).alloc (Nat.le_trans S1.out.2.2.1.size (by simp)) _⟩)
 have sz1 := S1.out.2.2.2
 have E2 : Hid (∃ d2 : Bool, (q != 0) = d2 ∧ (d2 = true → (q != 1) = false)) := Lib.hid (by
  rcases HQ1.out with rfl | rfl
  · exact ⟨false, rfl, fun h => (by cases h)⟩
  · exact ⟨true, rfl, fun _ => rfl⟩)
 obtain ⟨t31, ht⟩ : ∃ t : Nat, t = 0 := ⟨0, rfl⟩
 go_upto_region 1 with fail
 go_cut [31] (fun v wc => v = .bool false ∧ wc = w1)
 case first =>
  rcases HQ1.out with rfl | rfl
  all_goals
   go_wp2_with fail
   go_meet
   exact ⟨rfl, rfl⟩
 case rest =>
 obtain ⟨rfl, rfl⟩ := hcut; have NX : Hid (∀ W k cs y, Sq l (some ⟨b, off, none⟩) c w0 W k cs → l.getD k 0 = y → k < 38 → Calls Tryz.prog 44 #[.pointer (some ⟨w0.heap.size + 2, 0, none⟩), .pointer (some ⟨w0.heap.size, 0, none⟩)] W fun x W' => x = .returned (I y) ∧ Sq l (some ⟨b, off, none⟩) c w0 W' (k + 1) cs ∧ Far (w0.heap.size + 2) W W') := Lib.hid (fun W k cs y S hy hk => by subst hy; exact Nr S HL.out (iw (by have := H38.out; omega)) ais.out); clear E2 ht hc d1 g37 cb Z2
 go_upto_region 6 with fail
 rw [show w0.heap.size + 2 + 1 = w0.heap.size + 3 from rfl]; change Code.wp _ _ _ _ ((wc.alloc (.cells #[I 0] 3)).alloc (.cells zE 35)); generalize ((wc.alloc (.cells #[I 0] 3)).alloc (.cells zE 35)) = w2 at SQ ⊢; clear S1 sz1 TZ1
 go_wp2_with fail
 go_loopw [34] (fun i wr => ∃ k : Nat, k ≤ 4 ∧ i = .int .i64 k ∧ Hid (Sq l (some ⟨b, off, none⟩) c w0 wr k (ofA l k))) (fun i _ => 4 - (intOf i).toNat)
 case atStart => exact ⟨0, by omega, rfl, SQ⟩
 case round =>
  clear SQ; obtain ⟨k, hk, rfl, S⟩ := hrel
  obtain rfl | hlt : k = 4 ∨ k < 4 := by omega
  case inr =>
   have E_ := Lib.hid hlt; have d1 : decide ((k : Int) < 4) = true := decide_eq_true (by omega)
   have g0 : (0 : Int) ≤ (k : Int) := by omega
   have g1 : (k : Int) < 4 := by omega
   clear hk hlt
   go_wp2_with fail
   refine (NX.out _ _ _ _ S.out rfl (by have := E_.out; omega)).mono ?_
   rintro x w3 ⟨rfl, hs, hf⟩; have HS := Lib.hid (hs.set k (I (l.getD k 0)))
   obtain ⟨u, hu⟩ : ∃ u, w3.cell? ⟨w0.heap.size + 3, k, none⟩ = some u := by
    rw [hs.e.cell]; exact ⟨_, Array.getElem?_eq_getElem (by rw [DF]; have := E_.out; omega)⟩
   have fu := hs.e.free k; clear hs hf S
   have hw : IntKind.i64.wrap ((k : Int) + 1) = ((k + 1 : Nat) : Int) := by rw [IntWalk.i64_in _ (by omega)]; omega
   go_wp2
   go_roundw
   case rel => exact ⟨k + 1, E_.out, by first | rfl | (simp [hw]) | (rw [hw]), HS⟩
   case measure =>
    have := E_.out
    simp [intOf, hw]
    omega
  case inl =>
  have SB : Hid (Sq l (some ⟨b, off, none⟩) c w0 wr 4 (Vu l [])) := S; clear S hk
  go_wp2_with fail
  go_loopw [43] (fun i wl => ∃ ax : List (Nat × Nat), ax.length ≤ 3 ∧ i = .int .i64 ax.length ∧ Hid (Sq l (some ⟨b, off, none⟩) c w0 wl (4 + 9 * ax.length) (Vu l ax)) ∧ Hid (Sj l (w0.heap.size + 4) wl ax)) (fun i _ => 3 - (intOf i).toNat)
  case atStart => exact ⟨[], by simp, rfl, SB, Lib.hid (fun j x hx => by simp at hx)⟩
  case round =>
   clear SB; obtain ⟨ax, hk, rfl, S0, A0⟩ := hrel
   obtain ⟨i, hi⟩ : ∃ i, ax.length = i := ⟨_, rfl⟩
   rw [hi] at S0 hk ⊢
   obtain rfl | hlt : i = 3 ∨ i < 3 := by omega
   case inr =>
    have E_ := Lib.hid hlt; have d1 : decide ((i : Int) < 3) = true := decide_eq_true (by omega)
    have g0 : (0 : Int) ≤ (i : Int) := by omega
    have g1 : (i : Int) < 3 := by omega
    have HI := Lib.hid hi; clear hk hlt hi
    obtain ⟨y1, hy1⟩ : ∃ y, l.getD (4 + 9 * i) 0 = y := ⟨_, rfl⟩
    have Y1 := Lib.hid hy1; clear hy1
    go_wp2_with fail
    refine (NX.out _ _ _ _ S0.out Y1.out (by have := E_.out; omega)).mono ?_
    rintro x v1 ⟨rfl, hs, hf⟩; have S1 := Lib.hid hs; have A1 := Lib.hid (A0.out.keep (fun g t cs hg R => hf.row (by omega) R)); clear hs hf S0 A0
    obtain ⟨y2, hy2⟩ : ∃ y, l.getD (4 + 9 * i + 1) 0 = y := ⟨_, rfl⟩
    have Y2 := Lib.hid hy2; clear hy2
    go_wp2_with fail
    refine (NX.out _ _ _ _ S1.out Y2.out (by have := E_.out; omega)).mono ?_
    rintro x v2 ⟨rfl, hs, hf⟩; have S2 := Lib.hid hs; have A2 := Lib.hid (A1.out.keep (fun g t cs hg R => hf.row (by omega) R)); clear hs hf S1 A1
    obtain ⟨y3, hy3⟩ : ∃ y, l.getD (4 + 9 * i + 2) 0 = y := ⟨_, rfl⟩
    have Y3 := Lib.hid hy3; clear hy3
    go_wp2_with fail
    refine (NX.out _ _ _ _ S2.out Y3.out (by have := E_.out; omega)).mono ?_
    rintro x v3 ⟨rfl, hs, hf⟩; have S3 := Lib.hid hs; have A3 := Lib.hid (A2.out.keep (fun g t cs hg R => hf.row (by omega) R)); clear hs hf S2 A2; have BX : Hid (w0.heap.size + 4 ≤ v3.heap.size) := Lib.hid (by have := S3.out.e.lt; omega); have SX := Lib.hid (S3.out.alloc (.cells #[I y1, I y2, I y3] 22)); have AX := Lib.hid (A3.out.keep (fun g t cs hg R => Row.alloc R (.cells #[I y1, I y2, I y3] 22))); have XB := Lib.hid (Row.new v3 22 #[I y1, I y2, I y3]); clear S3 A3
    obtain ⟨y4, hy4⟩ : ∃ y, l.getD (4 + 9 * i + 3) 0 = y := ⟨_, rfl⟩
    have Y4 := Lib.hid hy4; clear hy4
    go_wp2_with fail
    refine (NX.out _ _ _ _ SX.out Y4.out (by have := E_.out; omega)).mono ?_
    rintro x v4 ⟨rfl, hs, hf⟩; have S4 := Lib.hid hs; have A4 := Lib.hid (AX.out.keep (fun g t cs hg R => hf.row (by omega) R)); have X4 := Lib.hid (hf.row (show v3.heap.size ≠ w0.heap.size + 2 by have := BX.out; omega) XB.out); clear hs hf SX AX XB
    obtain ⟨y5, hy5⟩ : ∃ y, l.getD (4 + 9 * i + 4) 0 = y := ⟨_, rfl⟩
    have Y5 := Lib.hid hy5; clear hy5
    go_wp2_with fail
    refine (NX.out _ _ _ _ S4.out Y5.out (by have := E_.out; omega)).mono ?_
    rintro x v5 ⟨rfl, hs, hf⟩; have S5 := Lib.hid hs; have A5 := Lib.hid (A4.out.keep (fun g t cs hg R => hf.row (by omega) R)); have X5 := Lib.hid (hf.row (show v3.heap.size ≠ w0.heap.size + 2 by have := BX.out; omega) X4.out); clear hs hf S4 A4 X4
    obtain ⟨y6, hy6⟩ : ∃ y, l.getD (4 + 9 * i + 5) 0 = y := ⟨_, rfl⟩
    have Y6 := Lib.hid hy6; clear hy6
    go_wp2_with fail
    refine (NX.out _ _ _ _ S5.out Y6.out (by have := E_.out; omega)).mono ?_
    rintro x v6 ⟨rfl, hs, hf⟩; have S6 := Lib.hid hs; have A6 := Lib.hid (A5.out.keep (fun g t cs hg R => hf.row (by omega) R)); have X6 := Lib.hid (hf.row (show v3.heap.size ≠ w0.heap.size + 2 by have := BX.out; omega) X5.out); clear hs hf S5 A5 X5
    obtain ⟨y7, hy7⟩ : ∃ y, l.getD (4 + 9 * i + 6) 0 = y := ⟨_, rfl⟩
    have Y7 := Lib.hid hy7; clear hy7
    go_wp2_with fail
    refine (NX.out _ _ _ _ S6.out Y7.out (by have := E_.out; omega)).mono ?_
    rintro x v7 ⟨rfl, hs, hf⟩; have S7 := Lib.hid hs; have A7 := Lib.hid (A6.out.keep (fun g t cs hg R => hf.row (by omega) R)); have X7 := Lib.hid (hf.row (show v3.heap.size ≠ w0.heap.size + 2 by have := BX.out; omega) X6.out); clear hs hf S6 A6 X6
    obtain ⟨y8, hy8⟩ : ∃ y, l.getD (4 + 9 * i + 7) 0 = y := ⟨_, rfl⟩
    have Y8 := Lib.hid hy8; clear hy8
    go_wp2_with fail
    refine (NX.out _ _ _ _ S7.out Y8.out (by have := E_.out; omega)).mono ?_
    rintro x v8 ⟨rfl, hs, hf⟩; have S8 := Lib.hid hs; have A8 := Lib.hid (A7.out.keep (fun g t cs hg R => hf.row (by omega) R)); have X8 := Lib.hid (hf.row (show v3.heap.size ≠ w0.heap.size + 2 by have := BX.out; omega) X7.out); clear hs hf S7 A7 X7
    obtain ⟨y9, hy9⟩ : ∃ y, l.getD (4 + 9 * i + 8) 0 = y := ⟨_, rfl⟩
    have Y9 := Lib.hid hy9; clear hy9
    go_wp2_with fail
    refine (NX.out _ _ _ _ S8.out Y9.out (by have := E_.out; omega)).mono ?_
    rintro x v9 ⟨rfl, hs, hf⟩; have S9 := Lib.hid hs; have A9 := Lib.hid (A8.out.keep (fun g t cs hg R => hf.row (by omega) R)); have X9 := Lib.hid (hf.row (show v3.heap.size ≠ w0.heap.size + 2 by have := BX.out; omega) X8.out); clear hs hf S8 A8 X8; have BY : Hid (w0.heap.size + 4 ≤ v9.heap.size) := Lib.hid (by have := S9.out.e.lt; omega); have SY := Lib.hid (S9.out.alloc (.cells #[I y4, I y5, I y6, I y5, I y7, I y8, I y6, I y8, I y9] 22)); have AY := Lib.hid (A9.out.keep (fun g t cs hg R => Row.alloc R (.cells #[I y4, I y5, I y6, I y5, I y7, I y8, I y6, I y8, I y9] 22))); have XY := Lib.hid (Row.alloc X9.out (.cells #[I y4, I y5, I y6, I y5, I y7, I y8, I y6, I y8, I y9] 22)); have YB := Lib.hid (Row.new v9 22 #[I y4, I y5, I y6, I y5, I y7, I y8, I y6, I y8, I y9]); clear S9 A9 X9; have TH : Hid (World.there _ (w0.heap.size + 3) (4 + i * 6) (#[.int .i64 3, .int .i64 1, .slice (some ⟨v3.heap.size, 0, none⟩) 3 3, .int .i64 3, .int .i64 3, .slice (some ⟨v9.heap.size, 0, none⟩) 9 9] : Array Value).size) := Lib.hid (SE SY.out.e (4 + i * 6) 6 (by rw [DD]; have := E_.out; omega)); have i33 : Hid ((Tryz.prog.info? 31).map (·.size) = some (#[.int .i64 3, .int .i64 1, .slice (some ⟨v3.heap.size, 0, none⟩) 3 3, .int .i64 3, .int .i64 3, .slice (some ⟨v9.heap.size, 0, none⟩) 9 9] : Array Value).size) := Lib.hid (by kernel_rfl); have o33 : Hid ((#[.int .i64 3, .int .i64 1, .slice (some ⟨v3.heap.size, 0, none⟩) 3 3, .int .i64 3, .int .i64 3, .slice (some ⟨v9.heap.size, 0, none⟩) 9 9] : Array Value).all (·.oneCell') = true) := Lib.hid (by kernel_rfl)
    have hw : IntKind.i64.wrap ((i : Int) + 1) = ((i + 1 : Nat) : Int) := by rw [IntWalk.i64_in _ (by omega)]; omega
    go_wp2_with (with_reducible refine wpList_store_mid rfl 31 (.tmp 81) (.tmp 79) rfl (w0.heap.size + 3) (4 + i * 6) #[.int .i64 3, .int .i64 1, .slice (some ⟨v3.heap.size, 0, none⟩) 3 3, .int .i64 3, .int .i64 3, .slice (some ⟨v9.heap.size, 0, none⟩) 9 9] rfl rfl TH.out i33.out o33.out ?_)
    have SF : Hid (Sq l (some ⟨b, off, none⟩) c w0 ((v9.alloc (.cells #[I y4, I y5, I y6, I y5, I y7, I y8, I y6, I y8, I y9] 22)).setCells (w0.heap.size + 3) (4 + i * 6) (ax6 (v3.heap.size, v9.heap.size)).toList) (4 + 9 * (i + 1)) (Vu l (ax ++ [(v3.heap.size, v9.heap.size)]))) := Lib.hid (by
     have e : 4 + 9 * (i + 1) = 4 + 9 * i + 1 + 1 + 1 + 1 + 1 + 1 + 1 + 1 + 1 := by omega
     rw [e]; exact SY.out.cells (4 + i * 6) _ _ (by rw [VU, HI.out]))
    have AF : Hid (Sj l (w0.heap.size + 4) ((v9.alloc (.cells #[I y4, I y5, I y6, I y5, I y7, I y8, I y6, I y8, I y9] 22)).setCells (w0.heap.size + 3) (4 + i * 6) (ax6 (v3.heap.size, v9.heap.size)).toList) (ax ++ [(v3.heap.size, v9.heap.size)])) := Lib.hid (by
     have K : ∀ g t cs, w0.heap.size + 4 ≤ g → Row (v9.alloc (.cells #[I y4, I y5, I y6, I y5, I y7, I y8, I y6, I y8, I y9] 22)) g t cs → Row ((v9.alloc (.cells #[I y4, I y5, I y6, I y5, I y7, I y8, I y6, I y8, I y9] 22)).setCells (w0.heap.size + 3) (4 + i * 6) (ax6 (v3.heap.size, v9.heap.size)).toList) g t cs := fun g t cs hg R => (OG.fZ _ _ _ _ (by omega)).trans R
     refine (AY.out.keep K).snoc ⟨BX.out, BY.out⟩ ?_ ?_
     · rw [HI.out, show r3 l i = #[I y1, I y2, I y3] by simp only [r3, Y1.out, Y2.out, Y3.out]]
       exact K _ _ _ BX.out XY.out
     · rw [HI.out, show r9 l i = #[I y4, I y5, I y6, I y5, I y7, I y8, I y6, I y8, I y9] by simp only [r9, Y4.out, Y5.out, Y6.out, Y7.out, Y8.out, Y9.out]]
       exact K _ _ _ BY.out YB.out)
    have HF : Hid ((ax ++ [(v3.heap.size, v9.heap.size)]).length = i + 1) := Lib.hid (by simp [HI.out]); clear SY AY XY YB TH i33
    go_roundw
    case rel =>
     have SF2 : Hid (Sq l (some ⟨b, off, none⟩) c w0 _ (4 + 9 * (ax ++ [(v3.heap.size, v9.heap.size)]).length) (Vu l (ax ++ [(v3.heap.size, v9.heap.size)]))) := Lib.hid (by rw [HF.out]; exact SF.out)
     repeat apply Exists.intro
     refine ⟨⟨ax ++ [(v3.heap.size, v9.heap.size)], ?_, ?_, SF2, AF⟩, rfl⟩
     · rw [HF.out]; have := E_.out; omega
     · rw [HF.out]; first | rfl | (simp [hw]) | (rw [hw])
    case measure =>
     have := E_.out
     simp [intOf, hw]
     omega
   case inl =>
    clear hk; obtain ⟨xa, xb, xc, hx3⟩ := TQ hi; subst hx3; clear hi
    obtain ⟨p31, h31⟩ : ∃ y, l.getD 31 0 = y := ⟨_, rfl⟩
    obtain ⟨p32, h32⟩ : ∃ y, l.getD 32 0 = y := ⟨_, rfl⟩
    have P31 := Lib.hid h31; have P32 := Lib.hid h32; clear h31 h32
    go_wp2_with fail
    refine (NX.out _ _ _ _ S0.out P31.out (by decide)).mono ?_
    rintro x v1 ⟨rfl, hs, hf⟩; have S1 := Lib.hid hs; have A1 := Lib.hid (A0.out.keep (fun g t cs hg R => hf.row (by omega) R)); clear hs hf S0 A0
    go_wp2_with fail
    refine (NX.out _ _ _ _ S1.out P32.out (by decide)).mono ?_
    rintro x v2 ⟨rfl, hs, hf⟩; have S2 := Lib.hid hs; have A2 := Lib.hid (A1.out.keep (fun g t cs hg R => hf.row (by omega) R)); clear hs hf S1 A1; have SZ := DD l [xa, xb, xc]; have hce : ∀ i, v2.cell? ⟨w0.heap.size + 3, i, none⟩ = (Vu l [xa, xb, xc])[i]? := S2.out.e.cell
    obtain ⟨u22, Zw⟩ : ∃ u, v2.cell? ⟨w0.heap.size + 3, 22, none⟩ = some u := ⟨_, (hce 22).trans (Array.getElem?_eq_getElem (by rw [SZ]; decide))⟩
    obtain ⟨u23, Zv⟩ : ∃ u, v2.cell? ⟨w0.heap.size + 3, 23, none⟩ = some u := ⟨_, (hce 23).trans (Array.getElem?_eq_getElem (by rw [SZ]; decide))⟩
    have f22 := S2.out.e.free
    have S3 : Hid (Sq l (some ⟨b, off, none⟩) c w0 ((v2.setCell ⟨w0.heap.size + 3, 22, none⟩ (I p31)).setCell ⟨w0.heap.size + 3, 23, none⟩ (I p32)) 33 (Tt l [xa, xb, xc] 0)) := Lib.hid (by
     rw [Tt, P31.out, P32.out]; exact (S2.out.set 22 (I p31)).set 23 (I p32))
    have A3 : Hid (Sj l (w0.heap.size + 4) ((v2.setCell ⟨w0.heap.size + 3, 22, none⟩ (I p31)).setCell ⟨w0.heap.size + 3, 23, none⟩ (I p32)) [xa, xb, xc]) := Lib.hid (A2.out.keep (fun g t cs hg R => Row.far (Row.far R (show g ≠ w0.heap.size + 3 by omega) _) (show g ≠ w0.heap.size + 3 by omega) _)); clear SZ hce S2 A2
    go_upto_region 19 with fail
    generalize (v2.setCell ⟨w0.heap.size + 3, 22, none⟩ (I p31)).setCell ⟨w0.heap.size + 3, 23, none⟩ (I p32) = v3 at S3 A3 ⊢; clear Zw Zv f22
    go_wp2_with fail
    go_loopw [89] (fun i wl => ∃ k : Nat, k ≤ 4 ∧ i = .int .i64 k ∧ Hid (Sq l (some ⟨b, off, none⟩) c w0 wl (33 + k) (Tt l [xa, xb, xc] k)) ∧ Hid (Sj l (w0.heap.size + 4) wl [xa, xb, xc])) (fun i _ => 4 - (intOf i).toNat)
    case atStart => exact ⟨0, by omega, rfl, S3, A3⟩
    case round =>
     clear S3 A3; obtain ⟨k, hk, rfl, S, A⟩ := hrel
     obtain rfl | hlt : k = 4 ∨ k < 4 := by omega
     case inr =>
      have E_ := Lib.hid hlt; have d1 : decide ((k : Int) < 4) = true := decide_eq_true (by omega)
      have g0 : (0 : Int) ≤ (k : Int) := by omega
      have g1 : (k : Int) < 4 := by omega
      clear hk hlt
      obtain ⟨y, hy⟩ : ∃ y, l.getD (33 + k) 0 = y := ⟨_, rfl⟩
      have Y := Lib.hid hy; clear hy
      go_wp2_with fail
      refine (NX.out _ _ _ _ S.out Y.out (by have := E_.out; omega)).mono ?_
      rintro x v4 ⟨rfl, hs, hf⟩; have HS : Hid (Sq l (some ⟨b, off, none⟩) c w0 (v4.setCell ⟨w0.heap.size + 3, 24 + k, none⟩ (I y)) (33 + (k + 1)) (Tt l [xa, xb, xc] (k + 1))) := Lib.hid (by rw [Tt, Y.out]; exact hs.set (24 + k) (I y)); have HA : Hid (Sj l (w0.heap.size + 4) (v4.setCell ⟨w0.heap.size + 3, 24 + k, none⟩ (I y)) [xa, xb, xc]) := Lib.hid ((A.out.keep (fun g t cs hg R => hf.row (by omega) R)).keep (fun g t cs hg R => Row.far R (show g ≠ w0.heap.size + 3 by omega) _))
      obtain ⟨u, hu⟩ : ∃ u, v4.cell? ⟨w0.heap.size + 3, 24 + k, none⟩ = some u := by
       rw [hs.e.cell]; exact ⟨_, Array.getElem?_eq_getElem (by rw [Dz]; have := E_.out; omega)⟩
      have fu := hs.e.free (24 + k); clear hs hf S A
      have hw : IntKind.i64.wrap ((k : Int) + 1) = ((k + 1 : Nat) : Int) := by rw [IntWalk.i64_in _ (by omega)]; omega
      go_wp2
      go_roundw
      case rel => exact ⟨k + 1, E_.out, by first | rfl | (simp [hw]) | (rw [hw]), HS, HA⟩
      case measure =>
       have := E_.out
       simp [intOf, hw]
       omega
     case inl =>
     clear hk
     obtain ⟨y, hy⟩ : ∃ y, l.getD 37 0 = y := ⟨_, rfl⟩
     have Y := Lib.hid hy; clear hy
     go_wp2_with fail
     refine (NX.out _ _ _ _ S.out Y.out (by decide)).mono ?_
     rintro x v4 ⟨rfl, hs, hf⟩; have HS := Lib.hid (hs.set 28 (.bool (y == 1))); have HA : Hid (Sj l (w0.heap.size + 4) (v4.setCell ⟨w0.heap.size + 3, 28, none⟩ (.bool (y == 1))) [xa, xb, xc]) := Lib.hid ((A.out.keep (fun g t cs hg R => hf.row (by omega) R)).keep (fun g t cs hg R => Row.far R (show g ≠ w0.heap.size + 3 by omega) _))
     obtain ⟨u, hu⟩ : ∃ u, v4.cell? ⟨w0.heap.size + 3, 28, none⟩ = some u := by
      rw [hs.e.cell]; exact ⟨_, Array.getElem?_eq_getElem (by rw [Dz]; decide)⟩
     have fu := hs.e.free 28; clear hs hf S A
     go_upto_region 25 with fail
     generalize v4.setCell ⟨w0.heap.size + 3, 28, none⟩ (.bool (y == 1)) = v5 at HS HA ⊢; clear hu fu
     obtain ⟨e, he⟩ : ∃ e : Eg, e = ⟨l.getD 0 0, l.getD 1 0, l.getD 2 0, l.getD 3 0, sV l 0 xa, sV l 1 xb, sV l 2 xc, l.getD 31 0, l.getD 32 0, l.getD 33 0, l.getD 34 0, l.getD 35 0, l.getD 36 0, l.getD 37 0 == 1⟩ := ⟨_, rfl⟩
     have ER : Hid ((Tt l [xa, xb, xc] 4).setIfInBounds 28 (.bool (y == 1)) = e.R) := Lib.hid (by rw [he, ← Y.out]; exact abq l xa xb xc); have OE : Hid (Lr l e) := Lib.hid (by rw [he]; exact abp l xa xb xc H38.out (by rw [HQ.out]; exact HQ1.out)); have RE : Hid (Row v5 (w0.heap.size + 3) 35 e.R) := Lib.hid (by have := HS.out.e; rw [ER.out] at this; exact this); have RT : Hid (∀ j, j < 3 → xR v5 (e.t j)) := Lib.hid (by rw [he]; exact Tn HA.out); have RZ := Lib.hid HS.out.z; have BZ := Lib.hid HS.out.be; have RL := Lib.hid (Row.whole RE.out); have Wh : Hid ((Tryz.prog.info? 35).map (·.size) = some e.R.toList.length) := Lib.hid (by kernel_rfl); have agx : Hid ((Tryz.prog.info? 35).map (·.size) = some e.R.size) := Lib.hid (by kernel_rfl); have agl : Hid (e.R.all (·.oneCell') = true) := Lib.hid (by kernel_rfl); have HE := Lib.hid he; clear HS ER he Y NX HQ HQ1
     go_wp2_with (with_reducible refine OG.dY rfl 35 (.tmp 6) rfl (w0.heap.size + 3) 0 rfl e.R.toList _ RL.out Tryz.underlying35 rfl Wh.out ?_)
     refine (Eu e _ RT.out).mono ?_
     rintro x v6 ⟨rfl, hb⟩; have RZ6 := Lib.hid (RZ.out.below hb RZ.out.lt); have RL6 := Lib.hid (Row.whole (RE.out.below hb RE.out.lt)); have HA6 := Lib.hid (HA.out.keep (fun g t cs hg R => R.below hb R.lt)); have BZ6 : Hid (Below w0.heap.size w0 v6) := Lib.hid (BZ.out.trans (hb.mono BZ.out.size)); clear hb RZ RL RE HA BZ RT
     cases hok : e.ok
     case false =>
      have NO : Hid (∀ e' : Eg, Lr l e' → e'.ok = false) := Lib.hid (fun e' h => (h.same OE.out).trans hok); clear hok; have TZ := Row.there RZ6.out
      go_wp2_with (with_reducible refine wpList_store_mid rfl 35 (.tmp 2) (.tmp 105) rfl (w0.heap.size + 1) 0 zE rfl rfl TZ i37.out one.out ?_)
      have RZ := Row.full RZ6.out zE rfl; exact bodyPost_ret (jZ rfl _ _ (w0.heap.size + 1) zE _ rfl (Row.whole RZ) Tryz.underlying35 rfl (by kernel_rfl)) rfl ⟨.inr ⟨rfl, .inr (.inr NO.out)⟩, KK.dI _ _ _ BZ6.out (by omega)⟩
     case true =>
      have OKK := Lib.hid hok; clear hok; have TH : Hid (v6.there (w0.heap.size + 1) 0 e.R.size) := Lib.hid (show v6.there (w0.heap.size + 1) 0 e.R.size from (Row.there RZ6.out : v6.there (w0.heap.size + 1) 0 zE.size))
      go_wp2_with (first | with_reducible refine OG.dY rfl 35 (.tmp 6) rfl (w0.heap.size + 3) 0 rfl e.R.toList _ RL6.out Tryz.underlying35 rfl Wh.out ?_ | with_reducible refine wpList_store_mid rfl 35 (.tmp 2) (.tmp 106) rfl (w0.heap.size + 1) 0 e.R rfl rfl TH.out agx.out agl.out ?_)
      have RF := Row.full RZ6.out e.R rfl; have HAF := HA6.out.keep (fun g t cs hg R => (OG.fZ e.R.toList 0 v6 g (show g ≠ w0.heap.size + 1 by omega)).trans R); refine bodyPost_ret (jZ rfl _ _ (w0.heap.size + 1) e.R _ rfl (Row.whole RF) Tryz.underlying35 rfl (by kernel_rfl)) rfl ⟨.inl ⟨e, rfl, OE.out, ?_, OKK.out⟩, KK.dI _ _ _ BZ6.out (by omega)⟩
      have HB := Tn HAF; rw [← HE.out] at HB; exact HB
end Go.Proofs.YtcfobekkchhbbaaGreat.EE

namespace Go.Proofs.YtcfobekkchhbbaaGreat.EE
open Go.RowKit Go.Proofs.YtcfobekkchhbbaaGreat.KK Go.Proofs.af.aK Go.Proofs.af.aV Go.Proofs.af.aW
set_option linter.unusedVariables false
set_option linter.unusedSimpArgs false
theorem Zn (w : World) (z D : Array Value) (t : TypeId) (hD : D.size = z.size) :
 Row ((w.alloc (.cells z t)).setCells w.heap.size 0 D.toList) w.heap.size t D ∧ Below w.heap.size w ((w.alloc (.cells z t)).setCells w.heap.size 0 D.toList) :=
 ⟨Row.full (Row.new w t z) D hD, KK.dI _ _ _ ((Below.refl _ _).alloc (Nat.le_refl _) _) (Nat.le_refl _)⟩
def Eg.es (e : Eg) : Es := ⟨e.q0, e.q1, e.q2, e.q3, ⟨e.t0.A, e.t0.cx, e.t0.x, e.t0.B, e.t0.cp, e.t0.p⟩, ⟨e.t1.A, e.t1.cx, e.t1.x, e.t1.B, e.t1.cp, e.t1.p⟩, ⟨e.t2.A, e.t2.cx, e.t2.x, e.t2.B, e.t2.cp, e.t2.p⟩, e.steps, e.dU, e.f0, e.f1, e.f2, e.f3, e.sat⟩
theorem VQ {w : World} {base : Nat} {A : Option Addr} {n c : Nat} {l : List Int} (h : BL w base (.slice A n c) l) : Rd w A l := by
 have h2 : Kd.R (Kd.int .i64) 2 w base (fun _ => True) (.slice A n c) l := Kd.EN (enc := I) h (fun _ _ => trivial); obtain ⟨A', c', e, _, hr⟩ := Kd.zn h2
 injection e with e1 _ _
 subst e1; exact hr
end Go.Proofs.YtcfobekkchhbbaaGreat.EE

namespace Go.Proofs.YtcfobekkchhbbaaGreat.EE
open Go.RowKit Go.Proofs.YtcfobekkchhbbaaGreat.KK
set_option linter.unusedVariables false
set_option linter.unusedSimpArgs false
theorem aac (a : Int) : PQ.mQ (PQ.cl a) := ⟨PQ.uq a, PQ.uu a⟩
theorem CO (a b : Int) : PQ.mQ (iL a b).1 := aac _
theorem upto_all {c : Nat} {q : Nat → Nat → Int} {i : Nat} {p : Int → Prop} (h : ∀ i k, p (q i k)) : ∀ v ∈ upto c q i, p v := fun v hv => by
 simp only [upto, List.mem_flatMap, List.mem_map] at hv; obtain ⟨i, _, k, _, rfl⟩ := hv; exact h i k
theorem Xu (c1 c2 : Nat) (l m : List Int) (i k : Nat) : ∀ j, PQ.mQ (FM c1 c2 l m i k j).1
 | 0 => show PQ.mQ 0 from ⟨by decide, by decide⟩
 | j + 1 => CO _ _
def Vz (n : En) : Prop := ∀ j, j < 3 → ∀ v ∈ n.x j, PQ.mQ v
theorem VL {l : List Int} {p : Int → Prop} (h : ∀ v ∈ l, p v) (k : Nat) {u : Int} (hu : p u) : ∀ v ∈ l.set k u, p v := fun v hv => (List.mem_or_eq_of_mem_set hv).elim (h v) (fun e => e ▸ hu)
theorem KY (c : Cf) (n : En) (y : Nat → Int) : Vz (En.ahead c n y) := fun j hj => by
 obtain rfl | rfl | rfl : j = 0 ∨ j = 1 ∨ j = 2 := by omega
 all_goals exact VL (upto_all fun i k => Xu _ _ _ _ i k _) 1 (CO _ _)
theorem uy.inx {n n' : En} {i k : Nat} {z r gate : Int} (h : uy n i k z r gate n') (hi : i < 3) (hx : Vz n) : Vz n' := by
 obtain ⟨X, P, tk, fl, H, rfl⟩ := h; intro j hj; rw [NL n i k j hj hi]
 split
 · have hU := H.1
   unfold PR.Vx at hU
   split at hU
   · obtain ⟨rfl, _⟩ := hU
     exact hx i hi
   · obtain ⟨rfl, _⟩ := hU
     exact upto_all fun i k => CO _ _
 · exact hx j hj
end Go.Proofs.YtcfobekkchhbbaaGreat.EE

namespace Go.Proofs.YtcfobekkchhbbaaGreat.PR
open Go.RowKit Go.Proofs.YtcfobekkchhbbaaGreat.PQ Go.Proofs.YtcfobekkchhbbaaGreat.KK
set_option linter.unusedVariables false
theorem Il {l : List Int} (h : ∀ v ∈ l, mQ v) : T_ l := fun j => by
 rw [List.getD_eq_getElem?_getD]
 cases hj : l[j]? with
 | none => exact ⟨by decide, by decide⟩
 | some v => exact h v (List.mem_of_getElem? hj)
theorem Em {X M : List Int} (n : Nat) (h1 : 1 ≤ n) (h8 : n ≤ 8) (hx : X.length = n * 1) (ix : ∀ v ∈ X, mQ v) (hm : M.length = n * n) (im : ∀ v ∈ M, mQ v) : dP n 1 X n n (rV n M) := by
 rw [Us n M hm (Il im)]; exact ⟨wL (c := 1) h1 h8 (by omega) (by omega) hx (Il ix), wL h1 h8 h1 h8 jB (TW (fun m _ => ab3 (Il im))), rfl, rfl, rfl, by rw [Int.toNat_natCast]; exact Q4 n M⟩
end Go.Proofs.YtcfobekkchhbbaaGreat.PR
namespace Go.Proofs.YtcfobekkchhbbaaGreat.EE
open Go.RowKit Go.Proofs.YtcfobekkchhbbaaGreat.KK
set_option linter.unusedVariables false
structure XH (n : En) : Prop where
 tr : ∀ j, j < 3 → PR.dP 3 1 (n.x j) 3 3 (n.p j)
 q : PQ.fC (PQ.at4 n.q0 n.q1 n.q2 n.q3) 4 = true
theorem KG (r c : Nat) (l m : List Int) : ∀ v ∈ iZ iL r c l m, PQ.mQ v := upto_all fun i k => CO _ _
theorem Bi.ok {miss : Bool} {dt : Int} {n : En} {g0 g1 g2 a0 a1 a2 : Int} {n1 : En} {y : Nat → Int} (h : Bi miss dt n g0 g1 g2 a0 a1 a2 n1 y) (hq : PQ.fC (PQ.at4 n.q0 n.q1 n.q2 n.q3) 4 = true) : PQ.fC (PQ.at4 n1.q0 n1.q1 n1.q2 n1.q3) 4 = true := by
 rcases h with ⟨_, rfl, _⟩ | ⟨_, _, _, _, _, _, _, _, _, _, _, _, _, _, _, _, _, _, _, _, _, _, _, _, hr, rfl, _⟩
 · exact hq
 · exact hr
theorem U_ (c : Cf) (n : En) (y : Nat → Int) (hq : PQ.fC (PQ.at4 n.q0 n.q1 n.q2 n.q3) 4 = true) : XH (En.ahead c n y) := ⟨fun j hj => by
 have hX := KY c n y j hj
 obtain rfl | rfl | rfl : j = 0 ∨ j = 1 ∨ j = 2 := by omega
 all_goals exact PR.Em 3 (by decide) (by decide) (by simp [En.x, En.ahead, Jq]) hX upto_length (KG _ _ _ _), hq⟩
theorem uy.ok {n n' : En} {i k : Nat} {z r gate : Int} (h : uy n i k z r gate n') (hi : i < 3) (ho : XH n) (hx : Vz n) : XH n' := by
 have hx' := h.inx hi hx; obtain ⟨X, P, tk, fl, H, rfl⟩ := h; refine ⟨fun j hj => ?_, ho.q⟩
 have hXj := hx' j hj; rw [NL n i k j hj hi] at hXj ⊢; rw [Uj n i k j hj hi]
 by_cases hij : i = j
 · subst hij
   rw [if_pos rfl] at hXj; rw [if_pos rfl, if_pos rfl]; have hU := H.1; obtain ⟨_, _, _, hlen, _, _, _⟩ := id H
   unfold PR.Vx at hU
   split at hU
   · obtain ⟨rfl, rfl, _⟩ := hU
     exact ho.tr i hi
   · obtain ⟨rfl, rfl, _⟩ := hU
     exact PR.Em 3 (by decide) (by decide) (by rw [hlen]) hXj upto_length (KG _ _ _ _)
 · rw [if_neg hij, if_neg hij]
   exact ho.tr j hj
theorem ES.ok {c : Cf} {n : En} {s : Sm} {n' : En} (h : ES c n s n') (ho : XH n) (hx : Vz n) : XH n' ∧ Vz n' := by
 cases hm : s.missing
 case true =>
  obtain rfl := h.miss hm; exact ⟨ho, hx⟩
 obtain ⟨m1, gk, h1, h2, h3, h4, h5, h6⟩ := h.go hm
 have B : XH m1 ∧ Vz m1 := by
  cases hb : s.hasB
  · obtain rfl := h2 hb
    exact ⟨ho, hx⟩
  · exact ⟨(h1 hb).ok (by decide) ho hx, (h1 hb).inx (by decide) hx⟩
 cases hg : s.BJ
 · have e1 := h6 hg 0 (by decide)
   have e2 := h6 hg 1 (by decide); have e3 := h6 hg 2 (by decide)
   have : n' = m1 := by rw [← h4, ← h3, e3, e2, e1]
   subst this; exact B
 · have b0 : XH (gk 0) ∧ Vz (gk 0) := by rw [h3]; exact B
   have c1 := (h5 hg 0 (by decide)).ok (by decide) b0.1 b0.2; have d1 := (h5 hg 0 (by decide)).inx (by decide) b0.2; have c2 := (h5 hg 1 (by decide)).ok (by decide) c1 d1; have d2 := (h5 hg 1 (by decide)).inx (by decide) d1; have c3 := (h5 hg 2 (by decide)).ok (by decide) c2 d2; have d3 := (h5 hg 2 (by decide)).inx (by decide) d2; rw [h4] at c3 d3; exact ⟨c3, d3⟩
theorem F8 (s : Bool) (hs : s = true) (bp ba o1 o2 o3 : Nat → Bool) : ∀ k, MC s bp ba o1 o2 o3 k = true
 | 0 => hs
 | k + 1 => by
   unfold MC
   rw [F8 s hs bp ba o1 o2 o3 k]
   simp
theorem Bi.sat {miss : Bool} {dt : Int} {n : En} {g0 g1 g2 a0 a1 a2 : Int} {n1 : En} {y : Nat → Int} (h : Bi miss dt n g0 g1 g2 a0 a1 a2 n1 y) (hs : n.sat = true) : n1.sat = true := by
 rcases h with ⟨_, rfl, _⟩ | ⟨_, _, _, _, _, _, _, _, _, _, _, _, _, _, _, _, _, _, _, _, _, _, _, _, _, rfl, _⟩
 · exact hs
 · simp [hs]
theorem uy.sat {n n' : En} {i k : Nat} {z r gate : Int} (h : uy n i k z r gate n') (hs : n.sat = true) : n'.sat = true := by
 obtain ⟨X, P, tk, fl, _, rfl⟩ := h; show (n.sat || _) = true; rw [hs]; rfl
theorem ES.sat {c : Cf} {n : En} {s : Sm} {n' : En} (h : ES c n s n') (hs : n.sat = true) : n'.sat = true := by
 cases hm : s.missing
 case true =>
  obtain rfl := h.miss hm; exact hs
 obtain ⟨m1, gk, h1, h2, h3, h4, h5, h6⟩ := h.go hm
 have B : m1.sat = true := by
  cases hb : s.hasB
  · obtain rfl := h2 hb
    exact hs
  · exact (h1 hb).sat hs
 cases hg : s.BJ
 · have e1 := h6 hg 0 (by decide)
   have e2 := h6 hg 1 (by decide); have e3 := h6 hg 2 (by decide)
   have : n' = m1 := by rw [← h4, ← h3, e3, e2, e1]
   subst this; exact B
 · have c1 := (h5 hg 0 (by decide)).sat (by rw [h3]; exact B)
   have c2 := (h5 hg 1 (by decide)).sat c1; have c3 := (h5 hg 2 (by decide)).sat c2; rw [h4] at c3; exact c3
theorem LY (c : Cf) (n : En) (s : Sm) (G : Gd n) (hq : PQ.fC (PQ.at4 n.q0 n.q1 n.q2 n.q3) 4 = true) (hb : 0 < c.jC) (hn : 0 < c.nV) : ∃ n', Ox c n s n' ∧ Gd n' ∧ XH n' ∧ Vz n' ∧
 (s.missing = true → n'.q0 = n.q0 ∧ n'.q1 = n.q1 ∧ n'.q2 = n.q2 ∧ n'.q3 = n.q3 ∧ ∀ k, n'.off k = n.off k) ∧ (n.sat = true → n'.sat = true) := by
 obtain ⟨n1, y, T⟩ := LM s.missing c.dt n s.g0 s.g1 s.g2 s.a0 s.a1 s.a2; obtain ⟨n3, H, G3⟩ := NS c s (T.gd G).ahead (n := En.ahead c n1 y); have K := H.ok (U_ c n1 y (T.ok hq)) (KY c n1 y); refine ⟨n3.cnt s.missing, O_ c n s n1 n3 y G hb hn T H G3, G3.cnt _, ⟨K.1.tr, K.1.q⟩, K.2, fun hm => ?_, fun hs => H.sat (F8 _ (by rw [T.sat hs]; rfl) _ _ _ _ _ _)⟩
 obtain rfl := H.miss hm
 rcases T with ⟨_, rfl, _⟩ | ⟨h, _⟩
 · exact ⟨rfl, rfl, rfl, rfl, fun _ => rfl⟩
 · rw [hm] at h
   cases h
end Go.Proofs.YtcfobekkchhbbaaGreat.EE

namespace Go.Proofs.YtcfobekkchhbbaaGreat.EE
open Go.RowKit Go.Proofs.YtcfobekkchhbbaaGreat.PQ Go.Proofs.YtcfobekkchhbbaaGreat.KK Go.Proofs.YtcfobekkchhbbaaGreat.PR
set_option linter.unusedVariables false
set_option linter.unusedSimpArgs false
theorem agq {l : List Int} (h : l.length = 9) : ∃ a b c d e f g i j, l = [a, b, c, d, e, f, g, i, j] := by
 match l, h with
 | [a, b, c, d, e, f, g, i, j], _ => exact ⟨a, b, c, d, e, f, g, i, j, rfl⟩
theorem C9 {x p : List Int} (h : PR.dP 3 1 x 3 3 p) : x.length = 3 ∧ p.length = 9 := by
 obtain ⟨h1, h2, _⟩ := h
 unfold ig at h1 h2
 simp only [Bool.and_eq_true, beq_iff_eq] at h1 h2
 have e1 : wrap64 (3 * 1) = 3 := by unfold wrap64; omega
 have e2 : wrap64 (3 * 3) = 9 := by unfold wrap64; omega
 have a := h1.1.2; have b := h2.1.2; rw [e1] at a; rw [e2] at b; omega
theorem uM {x p : List Int} (h : PR.dP 3 1 x 3 3 p) : (∃ a b c, x = [a, b, c]) ∧ ∃ a b c d f g, p = [a, b, c, b, d, f, c, f, g] := by
 obtain ⟨lx, lp⟩ := C9 h; refine ⟨TQ lx, ?_⟩
 obtain ⟨a, b, c, d, e, f, g, i, j, rfl⟩ := agq lp; have E : AU 3 [a, b, c, d, e, f, g, i, j] := h.2.2.2.2.2; have h1 : b = d := (E 1 (by decide)).1; have h2 : c = g := (E 2 (by decide)).1; have h5 : f = i := (E 5 (by decide)).1; subst h1 h2 h5; exact ⟨a, b, c, e, f, j, rfl⟩
theorem Lr.JU {e : Es} (h : ∀ j, j < 3 → PR.dP 3 1 (e.ax j).x 3 3 (e.ax j).p) : Lr e.words e.fV := by
 obtain ⟨q0, q1, q2, q3, ⟨A0, c0, x0, B0, d0, p0⟩, ⟨A1, c1, x1, B1, d1, p1⟩, ⟨A2, c2, x2, B2, d2, p2⟩, st, co, f0, f1, f2, f3, sat⟩ := e; obtain ⟨⟨a0, a1, a2, rfl⟩, a3, a4, a5, a6, a7, a8, rfl⟩ := uM (show PR.dP 3 1 x0 3 3 p0 from h 0 (by decide)); obtain ⟨⟨b0, b1, b2, rfl⟩, b3, b4, b5, b6, b7, b8, rfl⟩ := uM (show PR.dP 3 1 x1 3 3 p1 from h 1 (by decide)); obtain ⟨⟨c0', c1', c2', rfl⟩, c3, c4, c5, c6, c7, c8, rfl⟩ := uM (show PR.dP 3 1 x2 3 3 p2 from h 2 (by decide))
 cases sat
 · exact ⟨rfl, rfl, rfl, rfl, ⟨rfl, rfl, rfl, rfl, rfl, rfl⟩, ⟨rfl, rfl, rfl, rfl, rfl, rfl⟩, ⟨rfl, rfl, rfl, rfl, rfl, rfl⟩, rfl, rfl, rfl, rfl, rfl, rfl, rfl, rfl, .inl rfl⟩
 · exact ⟨rfl, rfl, rfl, rfl, ⟨rfl, rfl, rfl, rfl, rfl, rfl⟩, ⟨rfl, rfl, rfl, rfl, rfl, rfl⟩, ⟨rfl, rfl, rfl, rfl, rfl, rfl⟩, rfl, rfl, rfl, rfl, rfl, rfl, rfl, rfl, .inr rfl⟩
theorem Lr.VM {l : List Int} {a b : Eg} (h : Lr l a) (g : Lr l b) : a.same b = true := by
 obtain ⟨t1, t2, t3, t4, t5, t6⟩ := h.t0; obtain ⟨u1, u2, u3, u4, u5, u6⟩ := h.t1; obtain ⟨v1, v2, v3, v4, v5, v6⟩ := h.t2; obtain ⟨p1, p2, p3, p4, p5, p6⟩ := g.t0; obtain ⟨q1, q2, q3, q4, q5, q6⟩ := g.t1; obtain ⟨r1, r2, r3, r4, r5, r6⟩ := g.t2
 have e0 : a.t0.same b.t0 = true := by unfold Tg.same; simp only [t1, t2, t3, t4, t5, t6, p1, p2, p3, p4, p5, p6, and_self, decide_true]
 have e1 : a.t1.same b.t1 = true := by unfold Tg.same; simp only [u1, u2, u3, u4, u5, u6, q1, q2, q3, q4, q5, q6, and_self, decide_true]
 have e2 : a.t2.same b.t2 = true := by unfold Tg.same; simp only [v1, v2, v3, v4, v5, v6, r1, r2, r3, r4, r5, r6, and_self, decide_true]
 unfold Eg.same Eg.ts Eg.qs Eg.os
 rw [e0, e1, e2, h.q0, h.q1, h.q2, h.q3, h.st, h.co, h.f0, h.f1, h.f2, h.f3, h.sa, g.q0, g.q1, g.q2, g.q3, g.st, g.co, g.f0, g.f1, g.f2, g.f3, g.sa]; simp only [beq_self_eq_true, Bool.and_self]
theorem abo {e : Es} (G : Gd e.nu) (K : XH e.nu) : e.fV.ok = true := by
 have k0 : PR.dP 3 1 e.t0.x 3 3 e.t0.p := K.tr 0 (by decide); have k1 : PR.dP 3 1 e.t1.x 3 3 e.t1.p := K.tr 1 (by decide); have k2 : PR.dP 3 1 e.t2.x 3 3 e.t2.p := K.tr 2 (by decide)
 have e0 : e.fV.t0.ok = true := by unfold Tg.ok; rw [decide_eq_true (show PR.dP e.fV.t0.r e.fV.t0.c e.fV.t0.x e.fV.t0.r' e.fV.t0.c' e.fV.t0.p from k0), decide_eq_true (show e.fV.t0.r = 3 from rfl)]; rfl
 have e1 : e.fV.t1.ok = true := by unfold Tg.ok; rw [decide_eq_true (show PR.dP e.fV.t1.r e.fV.t1.c e.fV.t1.x e.fV.t1.r' e.fV.t1.c' e.fV.t1.p from k1), decide_eq_true (show e.fV.t1.r = 3 from rfl)]; rfl
 have e2 : e.fV.t2.ok = true := by unfold Tg.ok; rw [decide_eq_true (show PR.dP e.fV.t2.r e.fV.t2.c e.fV.t2.x e.fV.t2.r' e.fV.t2.c' e.fV.t2.p from k2), decide_eq_true (show e.fV.t2.r = 3 from rfl)]; rfl
 have s0 : 0 ≤ e.steps := G.s0; have s1 : e.steps ≤ 1099511627776 := G.s1; have c0 : 0 ≤ e.dU := G.c0; have c1 : e.dU ≤ 1000 := G.c1
 have n0 : e.fV.n0 = false := by
  unfold Eg.n0
  rw [show e.fV.steps = e.steps from rfl, show e.fV.dU = e.dU from rfl]; simp only [Bool.or_eq_false_iff, decide_eq_false_iff_not]; omega
 have bad : ∀ v : Int, 0 ≤ v → v ≤ 1000 → fO v = false := fun v h1 h2 => by
  unfold fO
  simp only [Bool.or_eq_false_iff, decide_eq_false_iff_not]; omega
 have o4 : e.fV.o4 = true := by
  unfold Eg.o4
  rw [show e.fV.f0 = e.f0 from rfl, show e.fV.f1 = e.f1 from rfl, show e.fV.f2 = e.f2 from rfl, show e.fV.f3 = e.f3 from rfl,
   bad e.f0 (G.o0 0 (by decide)) (G.o1 0 (by decide)), bad e.f1 (G.o0 1 (by decide)) (G.o1 1 (by decide)), bad e.f2 (G.o0 2 (by decide)) (G.o1 2 (by decide)), bad e.f3 (G.o0 3 (by decide)) (G.o1 3 (by decide))]
  rfl
 have q : PQ.fC (PQ.at4 e.fV.q0 e.fV.q1 e.fV.q2 e.fV.q3) 4 = true := K.q
 unfold Eg.ok Eg.t3
 rw [n0, o4, e0, e1, e2, q]; rfl
end Go.Proofs.YtcfobekkchhbbaaGreat.EE

namespace Go.Proofs.YtcfobekkchhbbaaGreat.EE
open Go.RowKit Go.Proofs.YtcfobekkchhbbaaGreat.KK Go.Proofs.af.aK Go.Proofs.af.aV Go.Proofs.af.aW
set_option linter.unusedVariables false
set_option linter.unusedSimpArgs false
theorem Dy (e : Es) (h : ∀ j, j < 3 → PR.dP 3 1 (e.ax j).x 3 3 (e.ax j).p) (ok : e.fV.ok = true) (A : Option Addr) (c : Nat) (w : World) (hr : Rd w A e.words) :
 Calls Tryz.prog 17 #[.slice A 38 c] w fun x w' => (∃ g : Eg, x = .returned (.tuple #[.agg g.R, I 0]) ∧ Lr e.words g ∧ (∀ j, j < 3 → xR w' (g.t j))) ∧ Below w.heap.size w w' := by
 have W := Lr.JU h; have h38 := W.len; have hh := KF e.words A c w hr (by omega); rw [h38] at hh; refine hh.mono ?_
 rintro x w' ⟨hx, hb⟩
 rcases hx with ⟨g, rfl, ho, hr, _⟩ | ⟨_, hn⟩
 · exact ⟨⟨g, rfl, ho, hr⟩, hb⟩
 · exfalso
   rcases hn with hn | hn | hn
   · exact hn rfl
   · exact hn W.last
   · have := hn e.fV W
     rw [ok] at this
     cases this
theorem Zb {n : En} (h : Vz n) (hl : ∀ j, j < 3 → (n.x j).length = 3) : PQ.fC (PQ.at4 0 (n.x0.getD 0 0) (n.x1.getD 0 0) (n.x2.getD 0 0)) 4 = true := by
 have g : ∀ l : List Int, l.length = 3 → (∀ v ∈ l, PQ.mQ v) → PQ.inB (l.getD 0 0) = true := fun l h3 ha => by
  obtain ⟨a, b, c, rfl⟩ := TQ h3; have := ha a (by simp)
  unfold PQ.mQ at this
  show PQ.inB a = true
  unfold PQ.inB
  rw [decide_eq_false (by omega), decide_eq_false (by omega)]; rfl
 have h0 := g n.x0 (hl 0 (by decide)) (h 0 (by decide)); have h1 := g n.x1 (hl 1 (by decide)) (h 1 (by decide)); have h2 := g n.x2 (hl 2 (by decide)) (h 2 (by decide)); show ((((true && PQ.inB 0) && PQ.inB (n.x0.getD 0 0)) && PQ.inB (n.x1.getD 0 0)) && PQ.inB (n.x2.getD 0 0)) = true; rw [h0, h1, h2]; rfl
theorem VJ (c : Cf) (e : Eg) (s : Sm) (w : World) (hr : ∀ j, j < 3 → xR w (e.t j)) (hm : c.may = false) :
 Calls Tryz.prog 5 #[.agg c.row, .agg e.R, .agg s.R] w fun x w' => x = .returned (.bool true) ∧ Below w.heap.size w w' := by
 have HM := Lib.hid hm; clear hm; have HR := Lib.hid hr; have L : Hid (aY w [(24, c.row), (35, e.R), (55, s.R)] (((w.alloc (.cells c.row 24)).alloc (.cells e.R 35)).alloc (.cells s.R 55))) := Lib.hid ((((aY.none w).push (by simp) _ _).push (by simp) _ _).push (by simp) _ _); clear hr
 go_enter Tryz.func5, Tryz.ntmps5
 go_upto_region 1 with fail
 generalize ((w.alloc (.cells c.row 24)).alloc (.cells e.R 35)).alloc (.cells s.R 55) = w1 at L ⊢
 go_wp2_with fail
 refine (uQ _).mono ?_
 rintro x w2 ⟨rfl, hb⟩; have L2 := Lib.hid (L.out.below hb); clear hb L; have hc : ∀ i, w2.cell? ⟨w.heap.size, i, none⟩ = c.row[i]? := L2.out.r0.cell
 go_wp2_with fail
 refine (sS c _).mono ?_
 rintro x w3 ⟨rfl, hb⟩; have L3 := Lib.hid (L2.out.below hb); clear hb L2 hc; rw [HM.out]; go_wp2
 go_ret
 exact ⟨rfl, L3.out.be⟩
theorem VI (c : Cf) (e : Eg) (s : Sm) (w : World) (hr : ∀ j, j < 3 → xR w (e.t j)) (hm : c.may = true) (ho : e.ok = false) :
 Calls Tryz.prog 5 #[.agg c.row, .agg e.R, .agg s.R] w fun x w' => x = .returned (.bool true) ∧ Below w.heap.size w w' := by
 have HM := Lib.hid hm; have HO := Lib.hid ho; clear hm ho; have HR := Lib.hid hr; have L : Hid (aY w [(24, c.row), (35, e.R), (55, s.R)] (((w.alloc (.cells c.row 24)).alloc (.cells e.R 35)).alloc (.cells s.R 55))) := Lib.hid ((((aY.none w).push (by simp) _ _).push (by simp) _ _).push (by simp) _ _); clear hr
 go_enter Tryz.func5, Tryz.ntmps5
 go_upto_region 1 with fail
 generalize ((w.alloc (.cells c.row 24)).alloc (.cells e.R 35)).alloc (.cells s.R 55) = w1 at L ⊢
 go_wp2_with fail
 refine (uQ _).mono ?_
 rintro x w2 ⟨rfl, hb⟩; have L2 := Lib.hid (L.out.below hb); clear hb L; have hc : ∀ i, w2.cell? ⟨w.heap.size, i, none⟩ = c.row[i]? := L2.out.r0.cell
 go_wp2_with fail
 refine (sS c _).mono ?_
 rintro x w3 ⟨rfl, hb⟩; have L3 := Lib.hid (L2.out.below hb); clear hb L2 hc; rw [HM.out]; have RL := Lib.hid (Row.whole L3.out.r1); have i37 : Hid ((Tryz.prog.info? 35).map (·.size) = some e.R.toList.length) := Lib.hid (by kernel_rfl)
 go_wp2_with (with_reducible refine OG.dY rfl 35 (.tmp 4) rfl (w.heap.size + 1) 0 rfl e.R.toList _ RL.out Tryz.underlying35 rfl i37.out ?_)
 refine (sU e _ (fun j hj => (HR.out j hj).below L3.out.be)).mono ?_
 rintro x w4 ⟨rfl, hb⟩; have L4 := Lib.hid (L3.out.below hb); clear hb L3 RL; rw [HO.out]; go_wp2
 go_ret
 exact ⟨rfl, L4.out.be⟩
theorem VH (c : Cf) (e : Eg) (s : Sm) (w : World) (hr : ∀ j, j < 3 → xR w (e.t j)) (hm : c.may = true) (ho : e.ok = true) :
 Calls Tryz.prog 5 #[.agg c.row, .agg e.R, .agg s.R] w fun x w' => x = .returned (.bool true) ∧ Below w.heap.size w w' := by
 have HM := Lib.hid hm; have HO := Lib.hid ho; clear hm ho; have HR := Lib.hid hr; have L : Hid (aY w [(24, c.row), (35, e.R), (55, s.R)] (((w.alloc (.cells c.row 24)).alloc (.cells e.R 35)).alloc (.cells s.R 55))) := Lib.hid ((((aY.none w).push (by simp) _ _).push (by simp) _ _).push (by simp) _ _); clear hr
 go_enter Tryz.func5, Tryz.ntmps5
 go_upto_region 1 with fail
 generalize ((w.alloc (.cells c.row 24)).alloc (.cells e.R 35)).alloc (.cells s.R 55) = w1 at L ⊢
 go_wp2_with fail
 refine (uQ _).mono ?_
 rintro x w2 ⟨rfl, hb⟩; have L2 := Lib.hid (L.out.below hb); clear hb L; have hc : ∀ i, w2.cell? ⟨w.heap.size, i, none⟩ = c.row[i]? := L2.out.r0.cell
 go_wp2_with fail
 refine (sS c _).mono ?_
 rintro x w3 ⟨rfl, hb⟩; have L3 := Lib.hid (L2.out.below hb); clear hb L2 hc; rw [HM.out]; have RL := Lib.hid (Row.whole L3.out.r1); have i37 : Hid ((Tryz.prog.info? 35).map (·.size) = some e.R.toList.length) := Lib.hid (by kernel_rfl)
 go_wp2_with (with_reducible refine OG.dY rfl 35 (.tmp 4) rfl (w.heap.size + 1) 0 rfl e.R.toList _ RL.out Tryz.underlying35 rfl i37.out ?_)
 refine (sU e _ (fun j hj => (HR.out j hj).below L3.out.be)).mono ?_
 rintro x w4 ⟨rfl, hb⟩; have L4 := Lib.hid (L3.out.below hb); clear hb L3 RL; rw [HO.out]
 go_upto_region 4 with fail
 obtain ⟨es, hR, hrw, G, ht, hq, hnu⟩ := Eg.good HO.out (fun j hj => (HR.out j hj).below L4.out.be); have MP := VZ HM.out; obtain ⟨n', ST, G', ON, IX, v3, v4⟩ := LY c es.nu s G hq MP.1 MP.2.1; have HST := Lib.hid (ST es w4 rfl hrw); have HV := Lib.hid (And.intro v3 v4); have HK := Lib.hid (And.intro G' (And.intro ON IX)); have HG := Lib.hid G; clear ST v3 v4 ON IX G G' hrw ht hq hnu MP HR HO HM i37; rw [← hR] at L4 ⊢; clear hR; have hc : ∀ i, w4.cell? ⟨w.heap.size, i, none⟩ = c.row[i]? := L4.out.r0.cell; have RE := Lib.hid (Row.whole L4.out.r1); have RS := Lib.hid (Row.whole L4.out.r2); have i37 : Hid ((Tryz.prog.info? 35).map (·.size) = some es.R.toList.length) := Lib.hid (by kernel_rfl); have i46 : Hid ((Tryz.prog.info? 55).map (·.size) = some s.R.toList.length) := Lib.hid (by kernel_rfl)
 go_wp2_with (first | with_reducible refine OG.dY rfl 35 (.tmp 4) rfl (w.heap.size + 1) 0 rfl es.R.toList _ RE.out Tryz.underlying35 rfl i37.out ?_ | with_reducible refine OG.dY rfl 55 (.tmp 5) rfl (w.heap.size + 1 + 1) 0 rfl s.R.toList _ RS.out Tryz.underlying55 rfl i46.out ?_)
 refine HST.out.mono ?_
 rintro x w5 ⟨e', hn, rfl, hra, hb⟩; have RA5 : Hid (∀ j, j < 3 → Rw w5 (e'.ax j)) := Lib.hid (fun j hj => (hra j hj).rw); have L5 := Lib.hid (L4.out.below hb); have HN := Lib.hid hn; clear hb L4 RE RS hc HST hn i37 i46 hra; have YB : Hid (PQ.fC (PQ.at4 0 (n'.x0.getD 0 0) (n'.x1.getD 0 0) (n'.x2.getD 0 0)) 4 = true) := Lib.hid (Zb HK.out.2.2 (fun j hj => HK.out.1.lx j hj)); generalize n'.x0.getD 0 0 = y0 at YB ⊢; generalize n'.x1.getD 0 0 = y1 at YB ⊢; generalize n'.x2.getD 0 0 = y2 at YB ⊢; have TN := Lib.hid (VD w5 #[.int .i64 0, .int .i64 0, .int .i64 0, .int .i64 0, .int .i64 0, .int .i64 0, .slice none 0 0, .int .i64 0, .int .i64 0, .slice none 0 0, .int .i64 0, .int .i64 0, .slice none 0 0, .int .i64 0, .int .i64 0, .slice none 0 0, .int .i64 0, .int .i64 0, .slice none 0 0, .int .i64 0, .int .i64 0, .slice none 0 0, .int .i64 0, .int .i64 0, .int .i64 0, .int .i64 0, .int .i64 0, .int .i64 0, .bool false] #[.int .i64 0, .int .i64 0, .int .i64 0] e'.R #[I y0, I y1, I y2] 35 53 rfl rfl); have TH := Lib.hid (Qh w5 #[.int .i64 0, .int .i64 0, .int .i64 0, .int .i64 0, .int .i64 0, .int .i64 0, .slice none 0 0, .int .i64 0, .int .i64 0, .slice none 0 0, .int .i64 0, .int .i64 0, .slice none 0 0, .int .i64 0, .int .i64 0, .slice none 0 0, .int .i64 0, .int .i64 0, .slice none 0 0, .int .i64 0, .int .i64 0, .slice none 0 0, .int .i64 0, .int .i64 0, .int .i64 0, .int .i64 0, .int .i64 0, .int .i64 0, .bool false] #[.int .i64 0, .int .i64 0, .int .i64 0] e'.R #[I y0, I y1, I y2] 35 53 rfl rfl); have i37 : Hid ((Tryz.prog.info? 35).map (·.size) = some e'.R.size) := Lib.hid (by kernel_rfl); have one : Hid (e'.R.all (·.oneCell') = true) := Lib.hid (by kernel_rfl)
 go_upto_region 5 with (first | with_reducible refine wpList_store_mid rfl 35 (.tmp 8) (.tmp 27) rfl w5.heap.size 0 e'.R rfl rfl TH.out.1 i37.out one.out ?_ | with_reducible refine wpList_store_mid rfl 53 (.tmp 9) (.tmp 28) rfl (w5.heap.size + 1) 0 #[I y0, I y1, I y2] rfl rfl TH.out.2 (by kernel_rfl) (by kernel_rfl) ?_)
 clear TH i37 one; generalize (((w5.alloc (.cells #[.int .i64 0, .int .i64 0, .int .i64 0, .int .i64 0, .int .i64 0, .int .i64 0, .slice none 0 0, .int .i64 0, .int .i64 0, .slice none 0 0, .int .i64 0, .int .i64 0, .slice none 0 0, .int .i64 0, .int .i64 0, .slice none 0 0, .int .i64 0, .int .i64 0, .slice none 0 0, .int .i64 0, .int .i64 0, .slice none 0 0, .int .i64 0, .int .i64 0, .int .i64 0, .int .i64 0, .int .i64 0, .int .i64 0, .bool false] 35)).alloc (.cells #[.int .i64 0, .int .i64 0, .int .i64 0] 53)).setCells w5.heap.size 0 e'.R.toList).setCells (w5.heap.size + 1) 0 #[I y0, I y1, I y2].toList = w6 at TN ⊢; have L6 := Lib.hid (L5.out.below TN.out.2.2); have R8 := Lib.hid TN.out.1; have R9 := Lib.hid TN.out.2.1; have RA6 : Hid (∀ j, j < 3 → Rw w6 (e'.ax j)) := Lib.hid (fun j hj => (RA5.out j hj).below TN.out.2.2); clear TN L5 RA5; generalize w5.heap.size = b8 at R8 R9 ⊢; simp only [Act.put]; have OKE : Hid (e'.fV.ok = true) := Lib.hid (abo (by rw [HN.out]; exact HK.out.1) (by rw [HN.out]; exact HK.out.2.1)); have TR : Hid (∀ j, j < 3 → PR.dP 3 1 (e'.ax j).x 3 3 (e'.ax j).p) := Lib.hid (fun j hj => by rw [FD, Ig, HN.out]; exact HK.out.2.1.tr j hj); have LEN : Hid (∀ j, j < 3 → (e'.ax j).x.length = 3 ∧ (e'.ax j).p.length = 9) := Lib.hid (fun j hj => C9 (TR.out j hj))
 have EV : Hid ((s.missing = true → e'.q0 = es.q0 ∧ e'.q1 = es.q1 ∧ e'.q2 = es.q2 ∧ e'.q3 = es.q3 ∧ e'.f0 = es.f0 ∧ e'.f1 = es.f1 ∧ e'.f2 = es.f2 ∧ e'.f3 = es.f3) ∧ (es.sat = true → e'.sat = true)) := Lib.hid (by
  have h := HV.out; rw [← HN.out] at h; exact ⟨fun hm => ⟨(h.1 hm).1, (h.1 hm).2.1, (h.1 hm).2.2.1, (h.1 hm).2.2.2.1, (h.1 hm).2.2.2.2 0, (h.1 hm).2.2.2.2 1, (h.1 hm).2.2.2.2 2, (h.1 hm).2.2.2.2 3⟩, h.2⟩)
 clear HV HK HN HG
 have REC : Hid (Calls Tryz.prog 11 #[.agg e'.R] w6 fun x w' => x = .returned (.bool true) ∧ Below w6.heap.size w6 w') := Lib.hid (by
  have h := sU e'.fV w6 (C_ RA6.out); rw [OKE.out] at h; exact h)
 have RE := Lib.hid (Row.whole R8.out); have i35 : Hid ((Tryz.prog.info? 35).map (·.size) = some e'.R.toList.length) := Lib.hid (by kernel_rfl)
 go_wp2_with (with_reducible refine OG.dY rfl 35 (.tmp 8) rfl b8 0 rfl e'.R.toList _ RE.out Tryz.underlying35 rfl i35.out ?_)
 refine REC.out.mono ?_
 rintro x w7 ⟨rfl, hb⟩; have L7 := Lib.hid (L6.out.below hb); have R8' := Lib.hid (R8.out.below hb R8.out.lt); have R9' := Lib.hid (R9.out.below hb R9.out.lt); have RA7 : Hid (∀ j, j < 3 → Rw w7 (e'.ax j)) := Lib.hid (fun j hj => (RA6.out j hj).below hb); clear hb L6 R8 R9 RA6 RE REC; have cy : ∀ i, w7.cell? ⟨b8 + 1, i, none⟩ = #[I y0, I y1, I y2][i]? := R9'.out.cell
 go_wp2_with fail
 refine (PQ.uV 0 y0 y1 y2 _).mono ?_
 rintro x w8 ⟨rfl, hb⟩; rw [YB.out]; have L8 := Lib.hid (L7.out.below hb); have R8 := Lib.hid (R8'.out.below hb R8'.out.lt); have RA8 : Hid (∀ j, j < 3 → Rw w8 (e'.ax j)) := Lib.hid (fun j hj => (RA7.out j hj).below hb); clear hb L7 R8' R9' RA7 cy YB
 have WC : Hid (Calls Tryz.prog 20 #[.agg e'.R] w8 fun x w' => ∃ A c, x = .returned (.slice A 38 c) ∧ Rd w' A e'.words ∧ Below w8.heap.size w8 w') := Lib.hid (by
  refine (Au e' w8 RA8.out LEN.out).mono ?_
  rintro x w' ⟨A, c, rfl, ho, hb⟩; exact ⟨A, c, rfl, VQ ho, hb⟩)
 have RE := Lib.hid (Row.whole R8.out)
 go_wp2_with (with_reducible refine OG.dY rfl 35 (.tmp 8) rfl b8 0 rfl e'.R.toList _ RE.out Tryz.underlying35 rfl i35.out ?_)
 refine WC.out.mono ?_
 rintro x w9 ⟨A, c9, rfl, hrd, hb⟩; have L9 := Lib.hid (L8.out.below hb); have R8' := Lib.hid (R8.out.below hb R8.out.lt); have RA9 : Hid (∀ j, j < 3 → Rw w9 (e'.ax j)) := Lib.hid (fun j hj => (RA8.out j hj).below hb); have OC := Lib.hid (Dy e' TR.out OKE.out A c9 w9 hrd); clear hb hrd L8 R8 RA8 RE WC
 go_wp2_with fail
 refine OC.out.mono ?_
 rintro x wa ⟨⟨g, rfl, hof, hrt⟩, hb⟩; have LA := Lib.hid (L9.out.below hb); have R8 := Lib.hid (R8'.out.below hb R8'.out.lt); have RAa : Hid (∀ j, j < 3 → Rw wa (e'.ax j)) := Lib.hid (fun j hj => (RA9.out j hj).below hb); have SAM : Hid (e'.fV.same g = true) := Lib.hid ((Lr.JU TR.out).VM hof); have HRT := Lib.hid hrt; clear hb hof hrt L9 R8' RA9 OC TR OKE i35; have i35 : Hid ((Tryz.prog.info? 35).map (·.size) = some g.R.size) := Lib.hid (by kernel_rfl); have one : Hid (g.R.all (·.oneCell') = true) := Lib.hid (by kernel_rfl); have TN := Lib.hid (Zn wa #[.int .i64 0, .int .i64 0, .int .i64 0, .int .i64 0, .int .i64 0, .int .i64 0, .slice none 0 0, .int .i64 0, .int .i64 0, .slice none 0 0, .int .i64 0, .int .i64 0, .slice none 0 0, .int .i64 0, .int .i64 0, .slice none 0 0, .int .i64 0, .int .i64 0, .slice none 0 0, .int .i64 0, .int .i64 0, .slice none 0 0, .int .i64 0, .int .i64 0, .int .i64 0, .int .i64 0, .int .i64 0, .int .i64 0, .bool false] g.R 35 rfl); have TH : Hid ((wa.alloc (.cells #[.int .i64 0, .int .i64 0, .int .i64 0, .int .i64 0, .int .i64 0, .int .i64 0, .slice none 0 0, .int .i64 0, .int .i64 0, .slice none 0 0, .int .i64 0, .int .i64 0, .slice none 0 0, .int .i64 0, .int .i64 0, .slice none 0 0, .int .i64 0, .int .i64 0, .slice none 0 0, .int .i64 0, .int .i64 0, .slice none 0 0, .int .i64 0, .int .i64 0, .int .i64 0, .int .i64 0, .int .i64 0, .int .i64 0, .bool false] 35)).there wa.heap.size 0 g.R.size) := Lib.hid (show (wa.alloc (.cells #[.int .i64 0, .int .i64 0, .int .i64 0, .int .i64 0, .int .i64 0, .int .i64 0, .slice none 0 0, .int .i64 0, .int .i64 0, .slice none 0 0, .int .i64 0, .int .i64 0, .slice none 0 0, .int .i64 0, .int .i64 0, .slice none 0 0, .int .i64 0, .int .i64 0, .slice none 0 0, .int .i64 0, .int .i64 0, .slice none 0 0, .int .i64 0, .int .i64 0, .int .i64 0, .int .i64 0, .int .i64 0, .int .i64 0, .bool false] 35)).there wa.heap.size 0 (#[.int .i64 0, .int .i64 0, .int .i64 0, .int .i64 0, .int .i64 0, .int .i64 0, .slice none 0 0, .int .i64 0, .int .i64 0, .slice none 0 0, .int .i64 0, .int .i64 0, .slice none 0 0, .int .i64 0, .int .i64 0, .slice none 0 0, .int .i64 0, .int .i64 0, .slice none 0 0, .int .i64 0, .int .i64 0, .slice none 0 0, .int .i64 0, .int .i64 0, .int .i64 0, .int .i64 0, .int .i64 0, .int .i64 0, .bool false] : Array Value).size from Row.there (Row.new wa 35 #[.int .i64 0, .int .i64 0, .int .i64 0, .int .i64 0, .int .i64 0, .int .i64 0, .slice none 0 0, .int .i64 0, .int .i64 0, .slice none 0 0, .int .i64 0, .int .i64 0, .slice none 0 0, .int .i64 0, .int .i64 0, .slice none 0 0, .int .i64 0, .int .i64 0, .slice none 0 0, .int .i64 0, .int .i64 0, .slice none 0 0, .int .i64 0, .int .i64 0, .int .i64 0, .int .i64 0, .int .i64 0, .int .i64 0, .bool false]))
 go_upto_region 8 with (with_reducible refine wpList_store_mid rfl 35 (.tmp 10) (.tmp 47) rfl wa.heap.size 0 g.R rfl rfl TH.out i35.out one.out ?_)
 generalize (wa.alloc (.cells #[.int .i64 0, .int .i64 0, .int .i64 0, .int .i64 0, .int .i64 0, .int .i64 0, .slice none 0 0, .int .i64 0, .int .i64 0, .slice none 0 0, .int .i64 0, .int .i64 0, .slice none 0 0, .int .i64 0, .int .i64 0, .slice none 0 0, .int .i64 0, .int .i64 0, .slice none 0 0, .int .i64 0, .int .i64 0, .slice none 0 0, .int .i64 0, .int .i64 0, .int .i64 0, .int .i64 0, .int .i64 0, .int .i64 0, .bool false] 35)).setCells wa.heap.size 0 g.R.toList = wb at TN ⊢; have LB := Lib.hid (LA.out.below TN.out.2); have R8' := Lib.hid (R8.out.below TN.out.2 R8.out.lt); have R10 := Lib.hid TN.out.1; have RAb : Hid (∀ j, j < 3 → Rw wb (e'.ax j)) := Lib.hid (fun j hj => (RAa.out j hj).below TN.out.2); have RGb : Hid (∀ j, j < 3 → xR wb (g.t j)) := Lib.hid (fun j hj => (HRT.out j hj).below TN.out.2); clear TN TH i35 one LA R8 RAa HRT; generalize wa.heap.size = b10 at R10 ⊢
 try simp only [Act.put]
 have LX : Hid (∀ j, j < 3 → (e'.fV.t j).x.length ≤ 1000000 ∧ (e'.fV.t j).p.length ≤ 1000000) := Lib.hid (fun j hj => by
  have h := LEN.out j hj
  obtain rfl | rfl | rfl : j = 0 ∨ j = 1 ∨ j = 2 := by omega
  all_goals exact ⟨Nat.le_trans (Nat.le_of_eq h.1) (by decide), Nat.le_trans (Nat.le_of_eq h.2) (by decide)⟩)
 have S1 : Hid (Calls Tryz.prog 16 #[.agg e'.R, .agg g.R] wb fun x w' => x = .returned (.bool true) ∧ Below wb.heap.size wb w') := Lib.hid (by
  have h := FI e'.fV g wb (C_ RAb.out) RGb.out LX.out; rw [SAM.out] at h; exact h)
 have RL1 := Lib.hid (Row.whole R8'.out); have YH := Lib.hid (Row.whole R10.out); have i1 : Hid ((Tryz.prog.info? 35).map (·.size) = some e'.R.toList.length) := Lib.hid (by kernel_rfl); have i2 : Hid ((Tryz.prog.info? 35).map (·.size) = some g.R.toList.length) := Lib.hid (by kernel_rfl)
 go_wp2_with (first | with_reducible refine OG.dY rfl 35 (.tmp 8) rfl b8 0 rfl e'.R.toList _ RL1.out Tryz.underlying35 rfl i1.out ?_ | with_reducible refine OG.dY rfl 35 (.tmp 10) rfl b10 0 rfl g.R.toList _ YH.out Tryz.underlying35 rfl i2.out ?_)
 refine S1.out.mono ?_
 rintro x wc ⟨rfl, hb⟩; have LC := Lib.hid (LB.out.below hb); have R8 := Lib.hid (R8'.out.below hb R8'.out.lt); have acV := Lib.hid (R10.out.below hb R10.out.lt)
 have S2 : Hid (Calls Tryz.prog 14 #[.agg e'.R, .agg g.R] wc fun x w' => x = .returned (.bool true) ∧ Below wc.heap.size wc w') := Lib.hid (by
  have h := Fj e'.fV g wc (C_ (fun j hj => (RAb.out j hj).below hb)) (fun j hj => (RGb.out j hj).below hb) LX.out; rw [SAM.out] at h; exact h)
 clear hb S1 RL1 YH LB R8' R10 RAb RGb LX SAM LEN; have RL1 := Lib.hid (Row.whole R8.out); have YH := Lib.hid (Row.whole acV.out)
 go_wp2_with (first | with_reducible refine OG.dY rfl 35 (.tmp 8) rfl b8 0 rfl e'.R.toList _ RL1.out Tryz.underlying35 rfl i1.out ?_ | with_reducible refine OG.dY rfl 35 (.tmp 10) rfl b10 0 rfl g.R.toList _ YH.out Tryz.underlying35 rfl i2.out ?_)
 refine S2.out.mono ?_
 rintro x wd ⟨rfl, hb⟩; have LD := Lib.hid (LC.out.below hb); have R8' := Lib.hid (R8.out.below hb R8.out.lt); clear hb S2 RL1 YH LC R8 acV i1 i2; have cE : ∀ i, wd.cell? ⟨w.heap.size + 1, i, none⟩ = es.row[i]? := LD.out.r1.cell; have cS : ∀ i, wd.cell? ⟨w.heap.size + 1 + 1, i, none⟩ = s.row[i]? := LD.out.r2.cell; have c8 : ∀ i, wd.cell? ⟨b8, i, none⟩ = e'.row[i]? := R8'.out.cell; have E1 : (Op.equalIn 10000 26 (.agg #[.int .i64 e'.q0, .int .i64 e'.q1, .int .i64 e'.q2, .int .i64 e'.q3]) (.agg #[.int .i64 es.q0, .int .i64 es.q1, .int .i64 es.q2, .int .i64 es.q3])).run Tryz.prog wd = .ok (e'.fV.qs es.fV) wd := PQ.ZY e'.q0 e'.q1 e'.q2 e'.q3 es.q0 es.q1 es.q2 es.q3 wd; have E2 : (Op.equalIn 10000 33 (.agg #[.int .i64 e'.f0, .int .i64 e'.f1, .int .i64 e'.f2, .int .i64 e'.f3]) (.agg #[.int .i64 es.f0, .int .i64 es.f1, .int .i64 es.f2, .int .i64 es.f3])).run Tryz.prog wd = .ok (e'.fV.os es.fV) wd := UD e'.f0 e'.f1 e'.f2 e'.f3 es.f0 es.f1 es.f2 es.f3 wd; have Rz := EV.out.2
 have MISS : Hid (s.missing = true → e'.fV.qs es.fV = true ∧ e'.fV.os es.fV = true) := Lib.hid (fun hm => by
  obtain ⟨a, b, c, d, f, g, h, i⟩ := EV.out.1 hm
  constructor
  · show ((e'.q0 == es.q0) && ((e'.q1 == es.q1) && ((e'.q2 == es.q2) && ((e'.q3 == es.q3) && true)))) = true
    rw [a, b, c, d]
    simp
  · show ((e'.f0 == es.f0) && ((e'.f1 == es.f1) && ((e'.f2 == es.f2) && ((e'.f3 == es.f3) && true)))) = true
    rw [f, g, h, i]
    simp)
 generalize e'.fV.qs es.fV = q1 at E1 MISS; generalize e'.fV.os es.fV = q2 at E2 MISS; clear EV
 cases hs : es.sat
 all_goals
  cases hm : s.missing
  · try rw [hs] at Rz
    try have hs' := Rz rfl
    clear Rz E1 E2 MISS; go_wp2
    go_ret
    exact ⟨rfl, LD.out.be⟩
  · obtain ⟨rfl, rfl⟩ := MISS.out hm
    try rw [hs] at Rz
    try have hs' := Rz rfl
    clear Rz MISS; go_wp2
    go_ret
    exact ⟨rfl, LD.out.be⟩
theorem L_ (c : Cf) (e : Eg) (s : Sm) (w : World) (hr : ∀ j, j < 3 → xR w (e.t j)) :
 Calls Tryz.prog 5 #[.agg c.row, .agg e.row, .agg s.row] w fun x w' => x = .returned (.bool true) ∧ Below w.heap.size w w' := by
 cases hm : c.may
 · exact VJ c e s w hr hm
 cases ho : e.ok
 · exact VI c e s w hr hm ho
 · exact VH c e s w hr hm ho
end Go.Proofs.YtcfobekkchhbbaaGreat.EE

namespace Go.Proofs.YtcfobekkchhbbaaGreat.EE
open Go.ChangeShapes Go.WideShapes Go.ChangeAt Go.RowKit Go.Deep Go.Proofs.YtcfobekkchhbbaaGreat.KK Go.Proofs.af.aK
set_option linter.unusedVariables false
set_option linter.unusedSimpArgs false
theorem z22 : Tryz.prog.cellsOf 22 = 1 := by kernel_rfl
theorem z24 : Tryz.prog.cellsOf 24 = 6 := by kernel_rfl
theorem z3 : Tryz.prog.cellsOf 3 = 1 := by kernel_rfl
theorem z4 : Tryz.prog.cellsOf 4 = 1 := by kernel_rfl
theorem z28 : Tryz.prog.cellsOf 26 = 4 := by kernel_rfl
theorem z33 : Tryz.prog.cellsOf 31 = 6 := by kernel_rfl
theorem z34 : Tryz.prog.cellsOf 32 = 18 := by kernel_rfl
theorem z35 : Tryz.prog.cellsOf 33 = 4 := by kernel_rfl
theorem z37 : Tryz.prog.cellsOf 35 = 29 := by kernel_rfl
theorem z42 : Tryz.prog.cellsOf 53 = 3 := by kernel_rfl
theorem z46 : Tryz.prog.cellsOf 55 = 13 := by kernel_rfl
theorem aby {α : Type} {l : List α} (h : l.length = 6) : ∃ c0 c1 c2 c3 c4 c5, l = [c0, c1, c2, c3, c4, c5] := by
 match l, h with
 | [c0, c1, c2, c3, c4, c5], _ => exact ⟨c0, c1, c2, c3, c4, c5, rfl⟩
theorem abz {α : Type} {l : List α} (h : l.length = 4) : ∃ c0 c1 c2 c3, l = [c0, c1, c2, c3] := by
 match l, h with
 | [c0, c1, c2, c3], _ => exact ⟨c0, c1, c2, c3, rfl⟩
theorem Zm {α : Type} {l : List α} (h : l.length = 13) : ∃ c0 c1 c2 c3 c4 c5 c6 c7 c8 c9 c10 c11 c12, l = [c0, c1, c2, c3, c4, c5, c6, c7, c8, c9, c10, c11, c12] := by
 match l, h with
 | [c0, c1, c2, c3, c4, c5, c6, c7, c8, c9, c10, c11, c12], _ => exact ⟨c0, c1, c2, c3, c4, c5, c6, c7, c8, c9, c10, c11, c12, rfl⟩
theorem Zk {α : Type} {l : List α} (h : l.length = 29) : ∃ c0 c1 c2 c3 c4 c5 c6 c7 c8 c9 c10 c11 c12 c13 c14 c15 c16 c17 c18 c19 c20 c21 Jy c23 c24 c25 Jp PI c28, l = [c0, c1, c2, c3, c4, c5, c6, c7, c8, c9, c10, c11, c12, c13, c14, c15, c16, c17, c18, c19, c20, c21, Jy, c23, c24, c25, Jp, PI, c28] := by
 match l, h with
 | [c0, c1, c2, c3, c4, c5, c6, c7, c8, c9, c10, c11, c12, c13, c14, c15, c16, c17, c18, c19, c20, c21, Jy, c23, c24, c25, Jp, PI, c28], _ => exact ⟨c0, c1, c2, c3, c4, c5, c6, c7, c8, c9, c10, c11, c12, c13, c14, c15, c16, c17, c18, c19, c20, c21, Jy, c23, c24, c25, Jp, PI, c28, rfl⟩
theorem Zl {α : Type} {l : List α} (h : l.length = 18) : ∃ c0 c1 c2 c3 c4 c5 c6 c7 c8 c9 c10 c11 c12 c13 c14 c15 c16 c17, l = [c0, c1, c2, c3, c4, c5, c6, c7, c8, c9, c10, c11, c12, c13, c14, c15, c16, c17] := by
 match l, h with
 | [c0, c1, c2, c3, c4, c5, c6, c7, c8, c9, c10, c11, c12, c13, c14, c15, c16, c17], _ => exact ⟨c0, c1, c2, c3, c4, c5, c6, c7, c8, c9, c10, c11, c12, c13, c14, c15, c16, c17, rfl⟩
theorem abA {α : Type} {l : List α} (h : l.length = 3) : ∃ c0 c1 c2, l = [c0, c1, c2] := by
 match l, h with
 | [c0, c1, c2], _ => exact ⟨c0, c1, c2, rfl⟩
section
variable {H : Type} {enc : TypeId × Value → H} {W : World} {base : Nat} {sp : Nat → Bool} {held : Bool} {fuel : Nat} {cs : List Value} {x : DataW H × List MemPlace}
theorem QE (h : DataW.trod enc Tryz.prog W base sp held fuel 24 cs = some x) : ∃ c : Cf, cs = c.row.toList := by
 obtain ⟨xs, n, _, _, hl, hlen, hf⟩ := DataW.trod_struct Tryz.underlying24 h; rw [z24] at hl; obtain ⟨c0, c1, c2, c3, c4, c5, rfl⟩ := aby hl; have hl2 : xs.length = 6 := hlen
 have get : ∀ i (h : i < 6), xs[i]? = some (xs[i]'(by omega)) := fun i h => List.getElem?_eq_getElem (by omega)
 obtain ⟨v0, e0, _, _⟩ := DataW.trod_int Tryz.underlying22 ((CB hf 0 22 0 1 rfl z22).trans (get 0 (by omega))); obtain ⟨v1, e1, _, _⟩ := DataW.trod_int Tryz.underlying22 ((CB hf 1 22 1 1 rfl z22).trans (get 1 (by omega))); obtain ⟨v2, e2, _, _⟩ := DataW.trod_int Tryz.underlying22 ((CB hf 2 22 2 1 rfl z22).trans (get 2 (by omega))); obtain ⟨v3, e3, _, _⟩ := DataW.trod_int Tryz.underlying22 ((CB hf 3 22 3 1 rfl z22).trans (get 3 (by omega))); obtain ⟨v4, e4, _, _⟩ := DataW.trod_int Tryz.underlying22 ((CB hf 4 22 4 1 rfl z22).trans (get 4 (by omega))); obtain ⟨v5, e5, _, _⟩ := DataW.trod_int Tryz.underlying22 ((CB hf 5 22 5 1 rfl z22).trans (get 5 (by omega)))
 simp at e0 e1 e2 e3 e4 e5
 subst e0 e1 e2 e3 e4 e5; exact ⟨⟨v0, v1, v2, v3, v4, v5⟩, rfl⟩
theorem open_ints {n : Nat} {t e : TypeId} (ht : Tryz.prog.underlying t = some (.array n e)) (he : Tryz.prog.underlying e = some (.int .i64)) (hc : Tryz.prog.cellsOf e = 1) (hn : Tryz.prog.cellsOf t = n) (h : DataW.trod enc Tryz.prog W base sp held fuel t cs = some x) :
 cs.length = n ∧ ∀ i, i < n → ∃ q : Int, cs[i]? = some (I q) := by
 obtain ⟨xs, m, _, _, hl, hlen, hf⟩ := DataW.trod_array ht h; rw [hn] at hl; refine ⟨hl, fun i hi => ?_⟩
 have h1 := (hf i hi).trans (List.getElem?_eq_getElem (by omega)); rw [hc, Nat.mul_one] at h1; obtain ⟨q, e1, _, _⟩ := DataW.trod_int he h1; refine ⟨q, ?_⟩
 have h2 : (List.take 1 (List.drop i cs))[0]? = some (I q) := by rw [e1]; rfl
 simpa using h2
theorem Dw (h : DataW.trod enc Tryz.prog W base sp held fuel 53 cs = some x) : ∃ a b c : Int, cs = [I a, I b, I c] := by
 obtain ⟨hl, hk⟩ := open_ints Tryz.underlying53 Tryz.underlying22 z22 z42 h; obtain ⟨c0, c1, c2, rfl⟩ := abA hl; obtain ⟨a, ha⟩ := hk 0 (by decide); obtain ⟨b, hb⟩ := hk 1 (by decide); obtain ⟨c, hc⟩ := hk 2 (by decide)
 simp at ha hb hc
 subst ha hb hc; exact ⟨a, b, c, rfl⟩
theorem Gg {t e : TypeId} (ht : Tryz.prog.underlying t = some (.array 4 e)) (he : Tryz.prog.underlying e = some (.int .i64)) (hc : Tryz.prog.cellsOf e = 1) (hn : Tryz.prog.cellsOf t = 4) (h : DataW.trod enc Tryz.prog W base sp held fuel t cs = some x) : ∃ a b c d : Int, cs = [I a, I b, I c, I d] := by
 obtain ⟨hl, hk⟩ := open_ints ht he hc hn h; obtain ⟨c0, c1, c2, c3, rfl⟩ := abz hl; obtain ⟨a, ha⟩ := hk 0 (by decide); obtain ⟨b, hb⟩ := hk 1 (by decide); obtain ⟨c, hc⟩ := hk 2 (by decide); obtain ⟨d, hd⟩ := hk 3 (by decide)
 simp at ha hb hc hd
 subst ha hb hc hd; exact ⟨a, b, c, d, rfl⟩
theorem JR (h : DataW.trod enc Tryz.prog W base sp held fuel 55 cs = some x) : ∃ s : Sm, cs = s.row.toList := by
 obtain ⟨xs, n, _, _, hl, hlen, hf⟩ := DataW.trod_struct Tryz.underlying55 h; rw [z46] at hl; obtain ⟨c0, c1, c2, c3, c4, c5, c6, c7, c8, c9, c10, c11, c12, rfl⟩ := Zm hl; have hl2 : xs.length = 7 := hlen
 have get : ∀ i (h : i < 7), xs[i]? = some (xs[i]'(by omega)) := fun i h => List.getElem?_eq_getElem (by omega)
 obtain ⟨b0, e0, _⟩ := DataW.trod_bool Tryz.underlying4 ((CB hf 0 4 0 1 rfl z4).trans (get 0 (by omega))); obtain ⟨g0, g1, g2, e1⟩ := Dw ((CB hf 1 53 1 3 rfl z42).trans (get 1 (by omega))); obtain ⟨a0, a1, a2, e2⟩ := Dw ((CB hf 2 53 4 3 rfl z42).trans (get 2 (by omega))); obtain ⟨b1, e3, _⟩ := DataW.trod_bool Tryz.underlying4 ((CB hf 3 4 7 1 rfl z4).trans (get 3 (by omega))); obtain ⟨q, e4, _, _⟩ := DataW.trod_int Tryz.underlying22 ((CB hf 4 22 8 1 rfl z22).trans (get 4 (by omega))); obtain ⟨b2, e5, _⟩ := DataW.trod_bool Tryz.underlying4 ((CB hf 5 4 9 1 rfl z4).trans (get 5 (by omega))); obtain ⟨n0, n1, n2, e6⟩ := Dw ((CB hf 6 53 10 3 rfl z42).trans (get 6 (by omega)))
 simp at e0 e1 e2 e3 e4 e5 e6
 obtain ⟨rfl, rfl, rfl⟩ := e1; obtain ⟨rfl, rfl, rfl⟩ := e2; obtain ⟨rfl, rfl, rfl⟩ := e6; subst e0 e3 e4 e5; exact ⟨⟨b0, g0, g1, g2, a0, a1, a2, b1, q, b2, n0, n1, n2⟩, rfl⟩
theorem Ie (h : DataW.trod enc Tryz.prog W base sp held fuel 31 cs = some x) : ∃ t : Tg, cs = t.row.toList ∧ xR W t := by
 obtain ⟨r, c, A, cp, l, r', c', A', cp', l', rfl, ⟨h1, h2⟩, ⟨h3, h4⟩⟩ := Nl h; exact ⟨⟨r, c, A, cp, l, r', c', A', cp', l'⟩, rfl, h2, h1, h4, h3⟩
theorem QF (h : DataW.trod enc Tryz.prog W base sp held fuel 32 cs = some x) : ∃ t0 t1 t2 : Tg, cs = t0.row.toList ++ (t1.row.toList ++ t2.row.toList) ∧ xR W t0 ∧ xR W t1 ∧ xR W t2 := by
 obtain ⟨xs, m, _, _, hl, hlen, hf⟩ := DataW.trod_array Tryz.underlying32 h; rw [z34] at hl; have h0 := (hf 0 (by decide)).trans (List.getElem?_eq_getElem (by omega)); have h1 := (hf 1 (by decide)).trans (List.getElem?_eq_getElem (by omega)); have h2 := (hf 2 (by decide)).trans (List.getElem?_eq_getElem (by omega)); rw [z33] at h0 h1 h2; obtain ⟨t0, e0, r0⟩ := Ie h0; obtain ⟨t1, e1, r1⟩ := Ie h1; obtain ⟨t2, e2, r2⟩ := Ie h2; refine ⟨t0, t1, t2, ?_, r0, r1, r2⟩
 rw [← e0, ← e1, ← e2]; obtain ⟨c0, c1, c2, c3, c4, c5, c6, c7, c8, c9, c10, c11, c12, c13, c14, c15, c16, c17, rfl⟩ := Zl hl; rfl
theorem Tm (h : DataW.trod enc Tryz.prog W base sp held fuel 35 cs = some x) : ∃ e : Eg, cs = e.row.toList ∧ ∀ j, j < 3 → xR W (e.t j) := by
 obtain ⟨xs, n, _, _, hl, hlen, hf⟩ := DataW.trod_struct Tryz.underlying35 h; rw [z37] at hl; have hl2 : xs.length = 6 := hlen
 have get : ∀ i (h : i < 6), xs[i]? = some (xs[i]'(by omega)) := fun i h => List.getElem?_eq_getElem (by omega)
 obtain ⟨q0, q1, q2, q3, e0⟩ := Gg Tryz.underlying26 Tryz.underlying22 z22 z28 ((CB hf 0 26 0 4 rfl z28).trans (get 0 (by omega))); obtain ⟨t0, t1, t2, e1, r0, r1, r2⟩ := QF ((CB hf 1 32 4 18 rfl z34).trans (get 1 (by omega))); obtain ⟨st, e2, _, _⟩ := DataW.trod_int Tryz.underlying3 ((CB hf 2 3 22 1 rfl z3).trans (get 2 (by omega))); obtain ⟨co, e3, _, _⟩ := DataW.trod_int Tryz.underlying3 ((CB hf 3 3 23 1 rfl z3).trans (get 3 (by omega))); obtain ⟨f0, f1, f2, f3, e4⟩ := Gg Tryz.underlying33 Tryz.underlying3 z3 z35 ((CB hf 4 33 24 4 rfl z35).trans (get 4 (by omega))); obtain ⟨sat, e5, _⟩ := DataW.trod_bool Tryz.underlying4 ((CB hf 5 4 28 1 rfl z4).trans (get 5 (by omega))); refine ⟨⟨q0, q1, q2, q3, t0, t1, t2, st, co, f0, f1, f2, f3, sat⟩, ?_, fun j hj => ?_⟩
 · have : cs = (cs.drop 0).take 4 ++ ((cs.drop 4).take 18 ++ ((cs.drop 22).take 1 ++ ((cs.drop 23).take 1 ++ ((cs.drop 24).take 4 ++ (cs.drop 28).take 1)))) := by
    obtain ⟨c0, c1, c2, c3, c4, c5, c6, c7, c8, c9, c10, c11, c12, c13, c14, c15, c16, c17, c18, c19, c20, c21, Jy, c23, c24, c25, Jp, PI, c28, rfl⟩ := Zk hl; rfl
   rw [this, e0, e1, e2, e3, e4, e5]; rfl
 · obtain rfl | rfl | rfl : j = 0 ∨ j = 1 ∨ j = 2 := by omega
   · exact r0
   · exact r1
   · exact r2
end
end Go.Proofs.YtcfobekkchhbbaaGreat.EE

