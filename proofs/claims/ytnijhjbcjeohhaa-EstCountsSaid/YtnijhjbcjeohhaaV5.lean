import Derived.Test.YtnijhjbcjeohhaaV4
/- Joined and thinned by a program of this session's own (wip/pack2.py) out of its texts (wip/ of its repo); parts were laid by its own program (wip/print-patch.py over the kit's print) out of the translation; Lean checks all. -/
set_option maxRecDepth 100000
set_option maxHeartbeats 4000000
namespace Go.Proofs.Ytnijhjbcjeohhaa.KK
open Go.RowKit Go.Proofs.af.aO Go.Proofs.af.aU Go.Proofs.af.aV
set_option linter.unusedVariables false
set_option linter.unusedSimpArgs false
abbrev bQ (w : World) (C : Nat) (a b c : Value) : World := ((w.setCell ⟨C, 0, none⟩ a).setCell ⟨C, 1, none⟩ b).setCell ⟨C, 2, none⟩ c
section
variable {w w0 : World} {B C : Nat} {t : TypeId} {cs : Array Value} {a b c : Value}
theorem Row.bQ {a' b' c' : Value} (h : Row w B t #[a', b', c']) (a b c : Value) : Row (bQ w B a b c) B t #[a, b, c] := by
 simpa using ((h.set 0 a).set 1 b).set 2 c
theorem Row.oL (h : Row w B t cs) (hne : B ≠ C) : Row (KK.bQ w C a b c) B t cs :=
 ((h.far (p := ⟨C, 0, none⟩) hne a).far (p := ⟨C, 1, none⟩) hne b).far (p := ⟨C, 2, none⟩) hne c
theorem Below.bQ {B : Nat} (h : Below B w0 w) (hC : B ≤ C) (a b c : Value) : Below B w0 (KK.bQ w C a b c) :=
 ((h.setCell (p := ⟨C, 0, none⟩) hC a).setCell (p := ⟨C, 1, none⟩) hC b).setCell (p := ⟨C, 2, none⟩) hC c
theorem Own.far {base : Nat} {v : Value} {l : List Int} (h : Own w base v l) {p : Addr} (hp : p.block < base) (u : Value) : Own (w.setCell p u) base v l :=
 Own.sH (lC h.row fun k hk => Below.heap_setCell w p u k (by have := (h.row.lt k hk).1; omega))
theorem Own.bQ {base : Nat} {v : Value} {l : List Int} (h : Own w base v l) (hp : C < base) (a b c : Value) : Own (KK.bQ w C a b c) base v l :=
 ((h.far (p := ⟨C, 0, none⟩) hp a).far (p := ⟨C, 1, none⟩) hp b).far (p := ⟨C, 2, none⟩) hp c
theorem Own.alloc {base : Nat} {v : Value} {l : List Int} (h : Own w base v l) (o : Obj) : Own (w.alloc o) base v l := h.below ((Below.refl _ _).alloc (Nat.le_refl _) o)
theorem Own.nil (w : World) (base : Nat) : Own w base (.slice none 0 0) [] := Kd.Zp _ _ _ _ _
end
section
variable {w : World} {B : Nat} {a b c : Value} {fn : Func} {k j m : Nat} {tmps : Array Value}
theorem RJ (h : fn.results = #[.cell k 31]) (hk : tmps.getD k undef = .pointer (some ⟨B, 0, none⟩)) (R : Row w B 31 #[a, b, c]) :
 (results fn tmps).run Try.prog w = .ok (.agg #[a, b, c]) w := by
 have c := R.cell
 have hk' : tmps[k]?.getD undef = .pointer (some ⟨B, 0, none⟩) := by simpa using hk
 simp only [results, h]
 simp [go_sem, hk', c]
theorem Lc (h : fn.results = #[.cell k 31, .tmp j]) (hk : tmps.getD k undef = .pointer (some ⟨B, 0, none⟩)) (R : Row w B 31 #[a, b, c]) :
 (results fn tmps).run Try.prog w = .ok (.tuple #[.agg #[a, b, c], tmps.getD j undef]) w := by
 have c := R.cell
 have hk' : tmps[k]?.getD undef = .pointer (some ⟨B, 0, none⟩) := by simpa using hk
 simp only [results, h]
 simp [go_sem, hk', c]
theorem sG (h : fn.results = #[.cell k 31, .tmp j, .tmp m]) (hk : tmps.getD k undef = .pointer (some ⟨B, 0, none⟩)) (R : Row w B 31 #[a, b, c]) :
 (results fn tmps).run Try.prog w = .ok (.tuple #[.agg #[a, b, c], tmps.getD j undef, tmps.getD m undef]) w := by
 have c := R.cell
 have hk' : tmps[k]?.getD undef = .pointer (some ⟨B, 0, none⟩) := by simpa using hk
 simp only [results, h]
 simp [go_sem, hk', c]
end
def upto (c : Nat) (q : Nat → Nat → Int) (i : Nat) : List Int := (List.range i).flatMap fun i => (List.range c).map (q i)
def uf (c : Nat) (o : Nat → Nat → Bool) (i : Nat) : Bool := (List.range i).any fun i => (List.range c).any (o i)
section
variable {c i k : Nat} {q : Nat → Nat → Int} {o : Nat → Nat → Bool}
theorem upto_length : (upto c q i).length = i * c := by
 induction i with
 | zero => simp [upto]
 | succ i ih =>
   unfold upto at ih ⊢
   rw [List.range_succ, List.flatMap_append, List.length_append, ih]
   simp [Nat.succ_mul]
theorem upto_succ : upto c q (i + 1) = upto c q i ++ (List.range c).map (q i) := by
 unfold upto
 rw [List.range_succ, List.flatMap_append]
 simp
theorem Ku : uf c o (i + 1) = (uf c o i || (List.range c).any (o i)) := by
 unfold uf
 rw [List.range_succ, List.any_append]
 simp
theorem PZ : (List.range (k + 1)).map (q i) = (List.range k).map (q i) ++ [q i k] := by
 rw [List.range_succ, List.map_append]; rfl
theorem QT : (List.range (k + 1)).any (o i) = ((List.range k).any (o i) || o i k) := by
 rw [List.range_succ, List.any_append]; simp
end
def Enters (n : Nat) : Prop := ∀ (args : Array Value) (w : World), (callFunc n args).run Try.prog w = .ok (.enter n args) w
theorem enters {n : Nat} {fn : Func} (h : Try.prog.funcs[n]? = some fn) (hn : (fn.name == "runtime.NumGoroutine") = false) (hb : fn.body.isNone = false) : Enters n := fun args w => by
 unfold callFunc
 simp only [Sem.run_bind, go_sem, Result.andThen_ok]
 show Sem.run Try.prog _ w = _
 rw [h]
 simp only [hn, hb, Sem.run_pure]
 rfl
def xx (w : World) (n : Nat) (cap : Array Value) (r c : Nat) (q : Nat → Nat → Int) (o : Nat → Nat → Bool) : Prop :=
 ∀ (i k : Nat) (w' : World), i < r → k < c → Below w.heap.size w w' → Calls Try.prog n (#[I i, I k] ++ cap) w' fun e w'' => e = .returned (.tuple #[I (q i k), .bool (o i k)]) ∧ Below w'.heap.size w' w''
theorem JG (n : Nat) (cap : Array Value) (r c : Nat) (q : Nat → Nat → Int) (o : Nat → Nat → Bool) (w : World) (hr : r ≤ 8) (hc : c ≤ 8) (he : Enters n) (ht : xx w n cap r c q o) :
 Calls Try.prog 82 #[.agg #[I r, I c], .func (.func n) #[] cap] w fun e w' => ∃ v, e = .returned (.tuple #[.agg #[I r, I c, v], .bool (uf c o r)]) ∧ Own w' w.heap.size v (upto c q r) ∧ Below w.heap.size w w' := by
 have HR := Lib.hid hr
 have HC := Lib.hid hc
 have HT := Lib.hid ht
 have HE := Lib.hid he
 clear hr hc ht he
 have N : Hid (aX w [(134, #[I r, I c]), (31, #[I 0, I 0, .slice none 0 0]), (31, #[I r, I c, .slice none 0 0])] (((w.alloc (.cells #[I r, I c] 134)).alloc (.cells #[I 0, I 0, .slice none 0 0] 31)).alloc (.cells #[I r, I c, .slice none 0 0] 31))) := Lib.hid ((((aX.none w).push (by simp) _ _).push (by simp) _ _).push (by simp) _ _)
 go_enter Try.func82, Try.ntmps82
 go_wp2_with fail
 go_loopw [7, 19] (fun od ii wr => ∃ (i : Nat) (b : Bool) (l : List Int) (A : Option Addr) (cp : Nat), i ≤ r ∧ ii = .int .i64 i ∧ od = .bool b ∧ Hid (l = upto c q i ∧ b = uf c o i) ∧ Hid (aX w [(134, #[I r, I c]), (31, #[I 0, I 0, .slice none 0 0]), (31, #[I r, I c, .slice A l.length cp])] wr) ∧ Hid (Own wr (w.heap.size + 3) (.slice A l.length cp) l)) (fun _ ii _ => r - (intOf ii).toNat)
 case atStart => exact ⟨0, false, [], none, 0, by omega, rfl, rfl, Lib.hid ⟨rfl, rfl⟩, N, Lib.hid (Own.nil _ _)⟩
 case round =>
  clear N
  obtain ⟨i, b, l, A, cp, hi, rfl, rfl, E, N, O⟩ := hrel
  have x0 := N.out.r0.cell
  have x2 := N.out.r2.cell
  have t0 := N.out.r0.lt
  have t2 := N.out.r2.lt
  by_cases hir : i = r
  · subst hir
    have x1 := N.out.r1.cell
    have g1 := N.out.r1.free
    have t1 := N.out.r1.lt
    go_wp2
    refine bodyPost_ret (Lc rfl rfl (N.out.r1.bQ _ _ _)) rfl ⟨_, by rw [← E.out.2]; rfl, ?_, Below.bQ N.out.be (by omega) _ _ _⟩
    rw [← E.out.1]
    exact (O.out.bQ (by omega) _ _ _).lower (by omega)
  have hlt : (i : Int) < r := by omega
  have STEP : Hid (i + 1 ≤ r ∧ r - (i + 1) < r - i) := Lib.hid (by omega)
  have hw64 : IntKind.i64.wrap ((i : Int) + 1) = (i : Int) + 1 := by have := HR.out; simp [IntKind.wrap, IntKind.bits, IntKind.signed]; omega
  have HI := Lib.hid (show i < r by omega)
  have HL : Hid (l.length = i * c) := Lib.hid (by rw [E.out.1]; exact upto_length)
  clear hi hir
  go_wp2_with fail
  go_loopw [7, 24] (fun od kk wr => ∃ (k : Nat) (b2 : Bool) (l2 : List Int) (A2 : Option Addr) (c2 : Nat), k ≤ c ∧ kk = .int .i64 k ∧ od = .bool b2 ∧ Hid (l2 = l ++ (List.range k).map (q i) ∧ b2 = (b || (List.range k).any (o i))) ∧ Hid (aX w [(134, #[I r, I c]), (31, #[I 0, I 0, .slice none 0 0]), (31, #[I r, I c, .slice A2 l2.length c2])] wr) ∧ Hid (Own wr (w.heap.size + 3) (.slice A2 l2.length c2) l2)) (fun _ kk _ => c - (intOf kk).toNat)
  case atStart => exact ⟨0, b, l, A, cp, by omega, rfl, rfl, Lib.hid ⟨by simp, by simp⟩, N, O⟩
  case round =>
   clear N O x0 x2 t0 t2
   obtain ⟨k, b2, l2, A2, c2, hk, rfl, rfl, E2, N, O⟩ := hrel
   have x0 := N.out.r0.cell
   have x2 := N.out.r2.cell
   have g2 := N.out.r2.free
   have t0 := N.out.r0.lt
   have t2 := N.out.r2.lt
   by_cases hkc : k = c
   · subst hkc
     go_wp2
     go_roundw
     case rel => exact ⟨i + 1, b2, l2, A2, c2, STEP.out.1, by go_num, rfl, Lib.hid ⟨by rw [upto_succ, ← E.out.1]; exact E2.out.1, by rw [Ku, ← E.out.2]; exact E2.out.2⟩, N, O⟩
     case measure =>
      have h := STEP.out.2
      show r - ((i : Int) + 1).toNat < r - ((i : Int)).toNat
      rw [show ((i : Int) + 1).toNat = i + 1 by omega, show ((i : Int)).toNat = i by omega]
      exact h
   have hlt2 : (k : Int) < c := by omega
   have Vj : Hid (k + 1 ≤ c ∧ c - (k + 1) < c - k) := Lib.hid (by omega)
   have ahx : IntKind.i64.wrap ((k : Int) + 1) = (k : Int) + 1 := by have := HC.out; simp [IntKind.wrap, IntKind.bits, IntKind.signed]; omega
   have HK := Lib.hid (show k < c by omega)
   have HL2 : Hid (l2.length ≤ 1000) := Lib.hid (by rw [E2.out.1, List.length_append, List.length_map, List.length_range, HL.out]; have := HI.out; have := HR.out; have := HC.out; have := HK.out; have : i * c ≤ 7 * 8 := Nat.mul_le_mul (by omega) (by omega); omega)
   clear hk hkc
   go_wp2_with fail
   rw [HE.out _ _, Oper.upon_enter]
   refine (HT.out i k _ HI.out HK.out N.out.be).mono ?_
   rintro e w2 ⟨rfl, hb⟩
   replace N := Lib.hid (N.out.below hb)
   replace O := Lib.hid (O.out.below hb)
   clear hb x0 x2 g2 t0 t2
   obtain ⟨y, hy⟩ : ∃ y, q i k = y := ⟨_, rfl⟩
   obtain ⟨z, hz⟩ : ∃ z, o i k = z := ⟨_, rfl⟩
   rw [hy, hz]
   have HY := Lib.hid hy
   have HZ := Lib.hid hz
   clear hy hz
   have x0 := N.out.r0.cell
   have x2 := N.out.r2.cell
   have g2 := N.out.r2.free
   have t0 := N.out.r0.lt
   have t2 := N.out.r2.lt
   have hB : w.heap.size + 3 ≤ w2.heap.size := by omega
   have ob : Hid (∀ A3 c3, (Value.slice A3 (l2.length + 1) c3).ownBlock = (Value.slice A2 l2.length c2).ownBlock ∨ (Value.slice A3 (l2.length + 1) c3).ownBlock = some w2.heap.size → True) := Lib.hid (fun _ _ _ => trivial)
   cases b2
   all_goals
    go_wp2_with (at_builtin
                 refine Gn _ rfl (.tmp 35) (.tmp 37) rfl (w.heap.size + 3) _ l2 y w2.heap.size rfl rfl ?own ?cell ?base ?len ?_
                 case own => exact O.out.alloc _
                 case cell => exact (Row.new w2 22 #[I y]).cell 0
                 case base => (simp; omega)
                 case len => (have := HL2.out; omega)
                 intro A3 c3 w3 hown hg hat
                 have O3 := Lib.hid hown
                 have N3 := Lib.hid ((N.out.alloc (.cells #[I y] 22)).app hg (fun g h => by have := (O.out.row.lt g h).1; simp; omega))
                 have x2 := N3.out.r2.cell
                 have g2 := N3.out.r2.free
                 have t2 := N3.out.r2.lt
                 clear hown hg hat)
    have N4 := Lib.hid (N3.out.put 2 31 _ N3.out.r2 2 (.slice A3 (l2.length + 1) c3))
    have O4 := Lib.hid (O3.out.far (p := ⟨w.heap.size + 1 + 1, 2, none⟩) (by dsimp only; omega) (.slice A3 (l2.length + 1) c3))
    go_roundw
    case rel => exact ⟨k + 1, _, l2 ++ [y], A3, c3, Vj.out.1, by go_num, rfl, Lib.hid ⟨by rw [PZ, HY.out, ← List.append_assoc, ← E2.out.1], by rw [QT, HZ.out, ← Bool.or_assoc, ← E2.out.2]; simp⟩, by simpa using N4, by simpa using O4⟩
    case measure =>
     have h := Vj.out.2
     show c - ((k : Int) + 1).toNat < c - ((k : Int)).toNat
     rw [show ((k : Int) + 1).toNat = k + 1 by omega, show ((k : Int)).toNat = k by omega]
     exact h
end Go.Proofs.Ytnijhjbcjeohhaa.KK

namespace Go.Proofs.Ytnijhjbcjeohhaa.PQ
open Go.RowKit Go.Proofs.af.aO Go.Proofs.af.aU Go.Proofs.af.aV
theorem dD (n : Int) : IntKind.u64.wrap n = n % 18446744073709551616 := by simp [IntKind.wrap, IntKind.bits, IntKind.signed]
theorem wraps_u64 (n : Int) (h₀ : 0 ≤ n) (h₁ : n < 2 ^ 64) : IntKind.u64.wrap n = n := by rw [dD]; omega
theorem Gq {n : Int} (h0 : -9223372036854775808 ≤ n) (h1 : n ≤ 9223372036854775807) : wrap64 n = n := by unfold wrap64; omega
theorem VM (x : Int) (h0 : 0 ≤ x) (h1 : x < 18446744073709551616) : Go.bits .and .u64 x 16777215 = x % 16777216 :=
 bits_mask .u64 64 (by decide) wraps_u64 24 (by decide) x h0 h1
theorem UO (x : Int) (h0 : 0 ≤ x) (h1 : x < 18446744073709551616) : Go.bits .and .u64 x 1 = x % 2 :=
 bits_mask .u64 64 (by decide) wraps_u64 1 (by decide) x h0 h1
theorem acM (x y : Int) (hx₀ : 0 ≤ x) (hx₁ : x < 1099511627776) (hy₀ : 0 ≤ y) (hy₁ : y < 18446744073709551616) (hy : y % 1099511627776 = 0) : Go.bits .or .u64 x y = y + x := by
 have h := bits_join .u64 64 (by decide) wraps_u64 40 y x hy₀ hy hy₁ hx₀ hx₁ (by omega)
 rw [← h]
 show IntKind.u64.wrap _ = IntKind.u64.wrap _
 rw [BitVec.or_comm]
def cl (a : Int) : Int := if a < -70368744177664 then -70368744177664 else if 70368744177663 < a then 70368744177663 else a
def od (a : Int) : Bool := decide (a < -70368744177664 ∨ 70368744177663 < a)
theorem sZ (a : Int) : -70368744177664 ≤ cl a := by unfold cl; repeat' split <;> omega
theorem tq (a : Int) : cl a ≤ 70368744177663 := by unfold cl; repeat' split <;> omega
theorem qj {a : Int} (h0 : -70368744177664 ≤ a) (h1 : a ≤ 70368744177663) : cl a = a := by unfold cl; repeat' split <;> omega
theorem uS {a : Int} (h0 : -70368744177664 ≤ a) (h1 : a ≤ 70368744177663) : od a = false := by unfold od; simp; omega
theorem uH (a : Int) : ru a = cl a := by unfold ru mn mx cl; repeat' split <;> omega
theorem DI (a : Int) : xZ a = od a := by
 have e : (mn (mx a (-70368744177664)) 70368744177663) = cl a := uH a
 unfold xZ
 rw [e, Bool.eq_iff_iff, bne_iff_ne]
 unfold cl od
 simp only [decide_eq_true_eq]
 repeat' split <;> omega
theorem oZ (a : Int) : bT.f a = some (cl a, od a) := by
 have h1 := uH a
 have h2 := DI a
 unfold ru at h1
 unfold xZ at h2
 unfold bT.f
 rw [h2, h1]
theorem yf (a b : Int) : bK.f a b = some (cl a, cl b, od a || od b) := by
 unfold bK.f
 rw [oZ, oZ]
 simp only [Option.bind_some]
 cases od a <;> simp
def sz (a : Int) : Int := if a < 0 then -a else a
theorem Nl (a : Int) : 0 ≤ sz a := by unfold sz; split <;> omega
theorem K_ (a : Int) : sz (cl a) ≤ 70368744177664 := by have := sZ a; have := tq a; unfold sz; split <;> omega
theorem xI (a : Int) (h0 : -70368744177664 ≤ a) (h1 : a ≤ 70368744177664) : bf.f a = some (sz a) := by
 unfold bf.f sz
 split
 · rw [Gq (by omega) (by omega), dD, Int.emod_eq_of_lt (by omega) (by omega)]
 · rw [dD, Int.emod_eq_of_lt (by omega) (by omega)]
def lw (X : Int) : Int :=
 let l := (X / 16777216) % 18446744073709551616
 if X % 16777216 > 8388608 then (l + 1) % 18446744073709551616 else if X % 16777216 = 8388608 then (if l % 2 = 1 then (l + 1) % 18446744073709551616 else l) else l
def sg (h l : Int) (s : Bool) : Int × Bool :=
 if h = 0 then (if l > 70368744177664 then (cl (if s = true then -70368744177664 else 70368744177664), true) else (cl (if s = true then -l else l), od (if s = true then -l else l))) else (cl (if s = true then -70368744177664 else 70368744177664), true)
theorem zO (h l : Int) (s : Bool) (hl : 0 ≤ l) : aS.f h l s = some (sg h l s) := by
 unfold aS.f sg
 have e1 : oM s 70368744177664 = if s = true then -70368744177664 else 70368744177664 := by unfold oM; cases s <;> simp [wrap64]
 rw [uH, e1]
 split
 · split
   · rfl
   · have e2 : oM s (wrap64 l) = if s = true then -l else l := by
      rw [Gq (by omega) (by omega)]
      unfold oM
      cases s <;> simp
      rw [Gq (by omega) (by omega)]
     rw [e2, uH, DI]
 · rfl
def flag (o : Bool) (p : Int × Bool) : Int × Bool := (p.1, o || p.2)
theorem Du (o : Bool) (p : Int × Bool) : (if o = true then (some (p.1, true)) else (some (p.1, p.2))) = some (flag o p) := by cases o <;> simp [flag]
theorem UN (a b : Int) : pY.f a b = some (flag (od a || od b) (sg (sz (cl a) * sz (cl b) / 309485009821345068724781056) (lw (sz (cl a) * sz (cl b))) ((decide (cl a < 0)) != (decide (cl b < 0))))) := by
 have ha := K_ a
 have hb := K_ b
 have ha0 := Nl (cl a)
 have hb0 := Nl (cl b)
 have hX0 : 0 ≤ sz (cl a) * sz (cl b) := Int.mul_nonneg ha0 hb0
 have hX1 : sz (cl a) * sz (cl b) ≤ 70368744177664 * 70368744177664 := Int.mul_le_mul ha hb hb0 (by omega)
 unfold pY.f
 rw [yf]
 simp only [Option.bind_some]
 have c1 := sZ a
 have c2 := tq a
 have c3 := sZ b
 have c4 := tq b
 rw [xI _ (by omega) (by omega), xI _ (by omega) (by omega)]
 simp only [Option.bind_some]
 unfold bits_Mul64.f
 rw [if_pos ⟨ha0, by omega, hb0, by omega⟩]
 simp only [Option.bind_some]
 generalize ((decide (cl a < 0)) != (decide (cl b < 0))) = s
 generalize (od a || od b) = o
 generalize sz (cl a) * sz (cl b) = X at *
 rw [VM _ (by omega) (by omega), dD (X / _ * _)]
 have e1 : Go.bits .or .u64 (X % 18446744073709551616 / 16777216) (X / 18446744073709551616 * 1099511627776 % 18446744073709551616) = (X / 16777216) % 18446744073709551616 := by
  rw [acM _ _ (by omega) (by omega) (by omega) (by omega) (by omega)]
  omega
 rw [e1, UO _ (by omega) (by omega), dD]
 have e2 : X % 18446744073709551616 % 16777216 = X % 16777216 := by omega
 have e3 : X / 18446744073709551616 / 16777216 = X / 309485009821345068724781056 := by omega
 rw [e2, e3]
 have k0 : 0 ≤ lw X := by unfold lw; simp only []; repeat' split <;> omega
 rw [show (some (flag o (sg (X / 309485009821345068724781056) (lw X) s))) = (aS.f (X / 309485009821345068724781056) (lw X) s).bind fun bt => (if o = true then (some (bt.1, true)) else (some (bt.1, bt.2))) from by
  rw [zO _ _ _ k0]; simp only [Option.bind_some]; rw [Du]]
 unfold lw
 simp only []
 split
 · rfl
 · split
   · split <;> rfl
   · rfl
end Go.Proofs.Ytnijhjbcjeohhaa.PQ

namespace Go.Proofs.Ytnijhjbcjeohhaa.PQ
open Go.RowKit Go.Proofs.af.aO Go.Proofs.af.aU Go.Proofs.af.aV
theorem mask32 (x : Int) (h0 : 0 ≤ x) (h1 : x < 18446744073709551616) : Go.bits .and .u64 x 4294967295 = x % 4294967296 :=
 bits_mask .u64 64 (by decide) wraps_u64 32 (by decide) x h0 h1
section
variable {n1 n0 D U u q r : Int}
theorem Il (hD : D = n1 * 4294967296 + n0) (hp : 0 < D) (e : q * n1 + r = U) (h : q * n0 ≤ 4294967296 * r + u) : q ≤ (U * 4294967296 + u) / D := by
 refine Int.le_ediv_of_mul_le hp ?_
 rw [hD, Int.mul_add, ← Int.mul_assoc]
 omega
theorem uG (hp : 0 < D) (hU : U < D) (hu : u < 4294967296) : (U * 4294967296 + u) / D < 4294967296 := by
 refine Int.ediv_lt_of_lt_mul hp ?_
 omega
theorem Dz (hD : D = n1 * 4294967296 + n0) (hp : 0 < D) (e : q * n1 + r = U) (h : 4294967296 * r + u < q * n0) : (U * 4294967296 + u) / D < q := by
 refine Int.ediv_lt_of_lt_mul hp ?_
 rw [hD, Int.mul_add, ← Int.mul_assoc]
 omega
theorem DD (hD : D = n1 * 4294967296 + n0) (hp : 0 < D) (h0 : 0 ≤ n0) (h0' : n0 < 4294967296) (hu0 : 0 ≤ u) (e : q * n1 + r = U) (hq0 : 1 ≤ q) (hq : q ≤ 4294967297) (h : 4294967296 ≤ r + n1) :
 q - 1 ≤ (U * 4294967296 + u) / D := by
 refine Int.le_ediv_of_mul_le hp ?_
 have h1 : (q - 1) * n0 ≤ 4294967296 * 4294967295 := Int.mul_le_mul (by omega) (by omega) h0 (by omega)
 rw [hD, Int.mul_add, ← Int.mul_assoc, Int.sub_mul q 1 n1]
 omega
theorem yG (hD : D = n1 * 4294967296 + n0) (h1 : 2147483648 ≤ n1) (h0 : 0 ≤ n0) (h0' : n0 < 4294967296) (TL : 0 ≤ U) (hU : U < D) (hu0 : 0 ≤ u) (hu : u < 4294967296) :
 (U * 4294967296 + u) / D ≤ U / n1 ∧ U / n1 ≤ 4294967297 := by
 constructor
 · refine Int.le_ediv_of_mul_le (by omega) ?_
   have hp : 0 < D := by omega
   have h := Int.ediv_mul_le (U * 4294967296 + u) (b := D) (by omega)
   have hq0 : 0 ≤ (U * 4294967296 + u) / D := Int.ediv_nonneg (by omega) (by omega)
   generalize (U * 4294967296 + u) / D = Q at *
   have hn : 0 ≤ Q * n0 := Int.mul_nonneg hq0 h0
   rw [hD, Int.mul_add, ← Int.mul_assoc] at h
   omega
 · have := Int.ediv_lt_of_lt_mul (a := U) (b := 4294967298) (c := n1) (by omega) (by omega)
   omega
end
theorem R_ {a b : Int} (ha0 : 0 ≤ a) (ha : a < 4294967296) (hb0 : 0 ≤ b) (hb : b < 4294967296) : 0 ≤ a * b ∧ a * b < 18446744073709551616 := by
 have h1 : a * b ≤ 4294967295 * 4294967295 := Int.mul_le_mul (by omega) (by omega) hb0 (by omega)
 have h2 := Int.mul_nonneg ha0 hb0
 omega
theorem Ym {n1 n0 D U u : Int} (hD : D = n1 * 4294967296 + n0) (h1 : 2147483648 ≤ n1) (h1' : n1 < 4294967296) (h0 : 0 ≤ n0) (h0' : n0 < 4294967296) (TL : 0 ≤ U) (hU : U < D) (hu0 : 0 ≤ u) (hu : u < 4294967296) (x8 x14 : Int) (res : Int × Int)
 (hres : Ev (fun k => aQ.j2 k D x8 n1 n0 U u x14 ((U * 4294967296 + u) / D)) res) :
 ∀ (d : Nat) (q r : Int), q * n1 + r = U → 0 ≤ r → r < 4294967296 → (U * 4294967296 + u) / D ≤ q → q ≤ 4294967297 → q - (U * 4294967296 + u) / D = d → Ev (fun k => aQ.l0 k D x8 n1 n0 U u x14 q r) res := by
 have hp : 0 < D := by omega
 have hQ0 : 0 ≤ (U * 4294967296 + u) / D := Int.ediv_nonneg (by omega) (by omega)
 have hQt := uG hp hU hu
 have hmore : ∀ (q r : Int), q * n1 + r = U → 0 ≤ r → r < 4294967296 → (U * 4294967296 + u) / D < q → q ≤ 4294967297 →
  (∀ r', (q - 1) * n1 + r' = U → 0 ≤ r' → r' < 4294967296 → Ev (fun k => aQ.l0 k D x8 n1 n0 U u x14 (q - 1) r') res) → Ev (fun k => aQ.j1 k D x8 n1 n0 U u x14 q r true) res := by
  intro q r e hr0 hr hlt hq ih
  have w1 : IntKind.u64.wrap (r + n1) = r + n1 := wraps_u64 _ (by omega) (by omega)
  have w2 : IntKind.u64.wrap (q - 1) = q - 1 := wraps_u64 _ (by omega) (by omega)
  by_cases hb : r + n1 ≥ 4294967296
  · refine Ev.step (f := fun k => aQ.j2 k D x8 n1 n0 U u x14 (q - 1)) ?_ ?_
    · intro k
      simp only [aQ.j1, if_true]
      rw [w1, if_pos hb, w2]
    · have := DD hD hp h0 h0' hu0 e (by omega) hq hb
      rw [show q - 1 = (U * 4294967296 + u) / D by omega]
      exact hres
  · refine Ev.step (f := fun k => aQ.l0 k D x8 n1 n0 U u x14 (q - 1) (r + n1)) ?_ (ih (r + n1) (by rw [Int.sub_mul]; omega) (by omega) (by omega))
    intro k
    simp only [aQ.j1, if_true]
    rw [w1, if_neg hb, w2]
 intro d
 induction d with
 | zero =>
   intro q r e hr0 hr hle hq hd
   have hq' : q = (U * 4294967296 + u) / D := by omega
   have hq4 : q < 4294967296 := by omega
   have hn : ¬ (4294967296 * r + u < q * n0) := fun h => by
    have := Dz hD hp e h
    omega
   have hm := R_ (a := q) (b := n0) (by omega) hq4 h0 h0'
   refine Ev.step (f := fun k => aQ.j1 k D x8 n1 n0 U u x14 q r false) ?_ (Ev.step (f := fun k => aQ.j2 k D x8 n1 n0 U u x14 q) ?_ (by rw [hq']; exact hres))
   · intro k
     simp only [aQ.l0]
     rw [if_neg (by omega), wraps_u64 (q * n0) (by omega) (by omega), wraps_u64 (4294967296 * r) (by omega) (by omega), wraps_u64 (4294967296 * r + u) (by omega) (by omega), decide_eq_false (by omega)]
   · intro k
     simp [aQ.j1]
 | succ d ih =>
   intro q r e hr0 hr hle hq hd
   have hlt : (U * 4294967296 + u) / D < q := by omega
   have hy : q < 4294967296 → 4294967296 * r + u < q * n0 := fun _ => by
    rcases Int.lt_or_le (4294967296 * r + u) (q * n0) with h | h
    · exact h
    · have := Il hD hp e h
      omega
   refine Ev.step (f := fun k => aQ.j1 k D x8 n1 n0 U u x14 q r true) ?_ (hmore q r e hr0 hr hlt hq fun r' e' a b => ih (q - 1) r' e' a b (by omega) (by omega) (by omega))
   intro k
   simp only [aQ.l0]
   by_cases hq4 : q ≥ 4294967296
   · rw [if_pos hq4]
   · have hm := R_ (a := q) (b := n0) (by omega) (by omega) h0 h0'
     have := hy (by omega)
     rw [if_neg hq4, wraps_u64 (q * n0) (by omega) (by omega), wraps_u64 (4294967296 * r) (by omega) (by omega), wraps_u64 (4294967296 * r + u) (by omega) (by omega), decide_eq_true (by omega)]
theorem Yl {n1 n0 D U u : Int} (hD : D = n1 * 4294967296 + n0) (h1 : 2147483648 ≤ n1) (h1' : n1 < 4294967296) (h0 : 0 ≤ n0) (h0' : n0 < 4294967296) (TL : 0 ≤ U) (hU : U < D) (hu0 : 0 ≤ u) (hu : u < 4294967296) (x8 x15 : Int) (h8 : 0 ≤ x8) :
 ∀ (d : Nat) (q r : Int), q * n1 + r = U → 0 ≤ r → r < 4294967296 → (U * 4294967296 + u) / D ≤ q → q ≤ 4294967297 → q - (U * 4294967296 + u) / D = d →
   Ev (fun k => aQ.l1 k D x8 n1 n0 u x15 r U q) (IntKind.u64.wrap (IntKind.u64.wrap (x15 * 4294967296) + (U * 4294967296 + u) / D),
    shr .u64 (IntKind.u64.wrap (IntKind.u64.wrap (IntKind.u64.wrap (U * 4294967296) + u) - IntKind.u64.wrap ((U * 4294967296 + u) / D * D))) x8) := by
 have hp : 0 < D := by omega
 have hQ0 : 0 ≤ (U * 4294967296 + u) / D := Int.ediv_nonneg (by omega) (by omega)
 have hQt := uG hp hU hu
 have hmore : ∀ (res : Int × Int), res = (IntKind.u64.wrap (IntKind.u64.wrap (x15 * 4294967296) + (U * 4294967296 + u) / D), shr .u64 (IntKind.u64.wrap (IntKind.u64.wrap (IntKind.u64.wrap (U * 4294967296) + u) - IntKind.u64.wrap ((U * 4294967296 + u) / D * D))) x8) →
  ∀ (q r : Int), q * n1 + r = U → 0 ≤ r → r < 4294967296 → (U * 4294967296 + u) / D < q → q ≤ 4294967297 →
  (∀ r', (q - 1) * n1 + r' = U → 0 ≤ r' → r' < 4294967296 → Ev (fun k => aQ.l1 k D x8 n1 n0 u x15 r' U (q - 1)) res) → Ev (fun k => aQ.j4 k D x8 n1 n0 u x15 r U q true) res := by
  intro res hres q r e hr0 hr hlt hq ih
  have w1 : IntKind.u64.wrap (r + n1) = r + n1 := wraps_u64 _ (by omega) (by omega)
  have w2 : IntKind.u64.wrap (q - 1) = q - 1 := wraps_u64 _ (by omega) (by omega)
  by_cases hb : r + n1 ≥ 4294967296
  · refine Ev.step (f := fun _ => some res) ?_ (Ev.now _)
    intro k
    have := DD hD hp h0 h0' hu0 e (by omega) hq hb
    have hqe : q - 1 = (U * 4294967296 + u) / D := by omega
    simp only [aQ.j4, if_true]
    rw [w1, if_pos hb, w2, if_pos h8, hqe, hres]
  · refine Ev.step (f := fun k => aQ.l1 k D x8 n1 n0 u x15 (r + n1) U (q - 1)) ?_ (ih (r + n1) (by rw [Int.sub_mul]; omega) (by omega) (by omega))
    intro k
    simp only [aQ.j4, if_true]
    rw [w1, if_neg hb, w2]
 intro d
 induction d with
 | zero =>
   intro q r e hr0 hr hle hq hd
   have hq' : q = (U * 4294967296 + u) / D := by omega
   have hq4 : q < 4294967296 := by omega
   have hn : ¬ (4294967296 * r + u < q * n0) := fun h => by
    have := Dz hD hp e h
    omega
   have hm := R_ (a := q) (b := n0) (by omega) hq4 h0 h0'
   rw [← hq']
   refine Ev.step (f := fun k => aQ.j4 k D x8 n1 n0 u x15 r U q false) ?_ (Ev.step (f := fun _ => some (_, _)) ?_ (Ev.now _))
   · intro k
     simp only [aQ.l1]
     rw [if_neg (by omega), wraps_u64 (q * n0) (by omega) (by omega), wraps_u64 (4294967296 * r) (by omega) (by omega), wraps_u64 (4294967296 * r + u) (by omega) (by omega), decide_eq_false (by omega)]
   · intro k
     simp only [aQ.j4, Bool.false_eq_true, if_false]
     rw [if_pos h8]
 | succ d ih =>
   intro q r e hr0 hr hle hq hd
   have hlt : (U * 4294967296 + u) / D < q := by omega
   have hy : q < 4294967296 → 4294967296 * r + u < q * n0 := fun _ => by
    rcases Int.lt_or_le (4294967296 * r + u) (q * n0) with h | h
    · exact h
    · have := Il hD hp e h
      omega
   refine Ev.step (f := fun k => aQ.j4 k D x8 n1 n0 u x15 r U q true) ?_ (hmore _ rfl q r e hr0 hr hlt hq fun r' e' a b => ih (q - 1) r' e' a b (by omega) (by omega) (by omega))
   intro k
   simp only [aQ.l1]
   by_cases hq4 : q ≥ 4294967296
   · rw [if_pos hq4]
   · have hm := R_ (a := q) (b := n0) (by omega) (by omega) h0 h0'
     have := hy (by omega)
     rw [if_neg hq4, wraps_u64 (q * n0) (by omega) (by omega), wraps_u64 (4294967296 * r) (by omega) (by omega), wraps_u64 (4294967296 * r + u) (by omega) (by omega), decide_eq_true (by omega)]
end Go.Proofs.Ytnijhjbcjeohhaa.PQ

namespace Go.Proofs.Ytnijhjbcjeohhaa.PQ
open Go.RowKit Go.Proofs.af.aO Go.Proofs.af.aU Go.Proofs.af.aV
theorem yC (f : Nat) : Lib.bitLenAux f 0 = 0 := by cases f <;> simp [Lib.bitLenAux]
theorem uV : ∀ (f x : Nat), x < 2 ^ f → x < 2 ^ Lib.bitLenAux f x ∧ (x ≠ 0 → 2 ^ Lib.bitLenAux f x ≤ 2 * x)
 | 0, x, h => by simp at h; subst h; simp [Lib.bitLenAux]
 | f + 1, x, h => by
   by_cases hx : x = 0
   · subst hx
     rw [yC]
     simp
   · obtain ⟨h1, h2⟩ := uV f (x / 2) (by rw [Nat.pow_succ] at h; omega)
     simp only [Lib.bitLenAux, if_neg hx]
     rw [Nat.pow_add]
     generalize hA : 2 ^ Lib.bitLenAux f (x / 2) = A at *
     refine ⟨by omega, fun _ => ?_⟩
     by_cases h0 : x / 2 = 0
     · have : x = 1 := by omega
       subst this
       rw [h0, yC] at hA
       simp at hA
       omega
     · have := h2 h0
       omega
theorem wI (n : Nat) : ((2 ^ n : Nat) : Int) = (2 : Int) ^ n := by simp
theorem VI (y : Int) (h0 : 0 < y) (h1 : y < 18446744073709551616) :
 ∃ s : Nat, s ≤ 63 ∧ bits_LeadingZeros64.f y = some (s : Int) ∧ 9223372036854775808 ≤ y * 2 ^ s ∧ y * 2 ^ s < 18446744073709551616 := by
 obtain ⟨n, rfl⟩ := Int.eq_ofNat_of_zero_le (Int.le_of_lt h0)
 have hb := uV 64 n (by omega)
 have hle : Lib.bitLen n ≤ 64 := Lib.bitLen_le n 64 (by decide) (by omega)
 have hn0 : n ≠ 0 := by omega
 have hb2 := hb.2 hn0
 have hb1 := hb.1
 change n < 2 ^ Lib.bitLen n at hb1
 change 2 ^ Lib.bitLen n ≤ 2 * n at hb2
 have hpos : 1 ≤ Lib.bitLen n := by
  rcases Nat.eq_zero_or_pos (Lib.bitLen n) with h | h
  · rw [h] at hb1
    omega
  · exact h
 have hp : 2 ^ Lib.bitLen n * 2 ^ (64 - Lib.bitLen n) = 18446744073709551616 := by
  rw [← Nat.pow_add, show Lib.bitLen n + (64 - Lib.bitLen n) = 64 by omega]
 have hP : 0 < 2 ^ (64 - Lib.bitLen n) := Nat.two_pow_pos _
 have e1 := Nat.mul_le_mul_right (2 ^ (64 - Lib.bitLen n)) hb2
 have e2 := Nat.mul_lt_mul_of_pos_right hb1 hP
 rw [Nat.mul_assoc] at e1
 refine ⟨64 - Lib.bitLen n, by omega, ?_, ?_, ?_⟩
 · unfold bits_LeadingZeros64.f
   rw [if_pos ⟨by omega, by omega⟩]
   simp
   omega
 · rw [← wI, ← Int.natCast_mul]
   omega
 · rw [← wI, ← Int.natCast_mul]
   omega
theorem Oy (hi lo y : Int) (h0 : 0 ≤ hi) (h1 : hi < y) (hy : y < 18446744073709551616) (hl0 : 0 ≤ lo) (hl1 : lo < 18446744073709551616) (hne : hi ≠ 0) :
 Ev (fun k => aQ.f k hi lo y) ((hi * 18446744073709551616 + lo) / y, (hi * 18446744073709551616 + lo) % y) := by
 obtain ⟨s, hs, hlz, hD1, hD2⟩ := VI y (by omega) hy
 have hP : (0 : Int) < 2 ^ s := by rw [← wI]; have := Nat.two_pow_pos s; omega
 have hR : (0 : Int) < 2 ^ (64 - s) := by rw [← wI]; have := Nat.two_pow_pos (64 - s); omega
 have hPR : (2 : Int) ^ (64 - s) * 2 ^ s = 18446744073709551616 := by
  rw [← Int.pow_add, show 64 - s + s = 64 by omega]; rfl
 have hS : shl .u64 y s = y * 2 ^ s := by
  unfold shl
  rw [show min (s : Int).toNat IntKind.u64.bits = s by simp [IntKind.bits]; omega, dD, Int.emod_eq_of_lt (by omega) (by omega)]
 have hhi : hi * 2 ^ s + 2 ^ s ≤ y * 2 ^ s := by
  have := Int.mul_le_mul_of_nonneg_right (show hi + 1 ≤ y by omega) (Int.le_of_lt hP)
  rw [Int.add_mul] at this
  omega
 have hhi0 : 0 ≤ hi * 2 ^ s := Int.mul_nonneg h0 (Int.le_of_lt hP)
 have hS2 : shl .u64 hi s = hi * 2 ^ s := by
  unfold shl
  rw [show min (s : Int).toNat IntKind.u64.bits = s by simp [IntKind.bits]; omega, dD, Int.emod_eq_of_lt (by omega) (by omega)]
 have hT : IntKind.u64.wrap (64 - (s : Int)) = ((64 - s : Nat) : Int) := by rw [dD]; omega
 have hS3 : shr .u64 lo ((64 - s : Nat) : Int) = lo / 2 ^ (64 - s) := by
  unfold shr
  rw [show min ((64 - s : Nat) : Int).toNat IntKind.u64.bits = 64 - s by simp [IntKind.bits]]
 have ha := Int.mul_ediv_add_emod lo (2 ^ (64 - s))
 have hb0 := Int.emod_nonneg lo (Int.ne_of_gt hR)
 have hb1 := Int.emod_lt_of_pos lo hR
 have ha0 : 0 ≤ lo / 2 ^ (64 - s) := Int.ediv_nonneg hl0 (Int.le_of_lt hR)
 have ha1 : lo / 2 ^ (64 - s) < 2 ^ s := Int.ediv_lt_of_lt_mul hR (by rw [Int.mul_comm, hPR]; exact hl1)
 have hL : lo * 2 ^ s = lo / 2 ^ (64 - s) * 18446744073709551616 + lo % 2 ^ (64 - s) * 2 ^ s := by
  have e : (2 ^ (64 - s) * (lo / 2 ^ (64 - s)) + lo % 2 ^ (64 - s)) * 2 ^ s = lo * 2 ^ s := by rw [ha]
  rw [Int.add_mul, Int.mul_comm (2 ^ (64 - s)) (lo / _), Int.mul_assoc, hPR] at e
  exact e.symm
 have ahB : 0 ≤ lo % 2 ^ (64 - s) * 2 ^ s := Int.mul_nonneg hb0 (Int.le_of_lt hP)
 have ahA : lo % 2 ^ (64 - s) * 2 ^ s < 18446744073709551616 := by
  rw [← hPR]
  exact Int.mul_lt_mul_of_pos_right hb1 hP
 have hS4 : shl .u64 lo s = lo % 2 ^ (64 - s) * 2 ^ s := by
  unfold shl
  rw [show min (s : Int).toNat IntKind.u64.bits = s by simp [IntKind.bits]; omega, dD, hL]
  omega
 have hor : Go.bits .or .u64 (hi * 2 ^ s) (lo / 2 ^ (64 - s)) = hi * 2 ^ s + lo / 2 ^ (64 - s) := by
  refine bits_join .u64 64 (by decide) wraps_u64 s _ _ hhi0 (Int.mul_emod_left _ _) (by omega) ha0 ha1 (by omega)
 have hN : (hi * 18446744073709551616 + lo) * 2 ^ s = (hi * 2 ^ s + lo / 2 ^ (64 - s)) * 18446744073709551616 + lo % 2 ^ (64 - s) * 2 ^ s := by
  rw [Int.add_mul, hL, Int.mul_assoc, Int.mul_comm 18446744073709551616 (2 ^ s), ← Int.mul_assoc, Int.add_mul]
  omega
 have hz : (y * 2 ^ s) / 4294967296 ≠ 0 := by omega
 have hres : ∀ D U L : Int, D = y * 2 ^ s → U = hi * 2 ^ s + lo / 2 ^ (64 - s) → L = lo % 2 ^ (64 - s) * 2 ^ s →
  Ev (fun k => aQ.l0 k D s (D / 4294967296) (D % 4294967296) U (L / 4294967296) (L % 4294967296) (U / (D / 4294967296)) (U - U / (D / 4294967296) * (D / 4294967296)))
   ((hi * 18446744073709551616 + lo) / y, (hi * 18446744073709551616 + lo) % y) := by
  intro D U L eD eU eL
  rw [← eU, ← eL] at hN
  have TL : 0 ≤ U := by omega
  have hUD : U < D := by omega
  have hD : D = D / 4294967296 * 4294967296 + D % 4294967296 := by omega
  have hDB : D < 18446744073709551616 := by omega
  have XR : 0 < D := by omega
  have hr0 := Int.emod_nonneg U (show D / 4294967296 ≠ 0 by omega)
  have hr1 := Int.emod_lt_of_pos U (show 0 < D / 4294967296 by omega)
  have hre := Int.ediv_mul_add_emod U (D / 4294967296)
  have hf := yG (u := L / 4294967296) hD (by omega) (by omega) (by omega) TL hUD (by omega) (by omega)
  refine Ym hD (by omega) (by omega) (by omega) (by omega) TL hUD (by omega) (by omega) s (L % 4294967296) _ ?_ ((U / (D / 4294967296) - (U * 4294967296 + L / 4294967296) / D).toNat) _ _ (by omega) (by omega) (by omega) hf.1 hf.2 (by omega)
  have hm1 := Int.ediv_mul_add_emod (U * 4294967296 + L / 4294967296) D
  have hm2 := Int.emod_nonneg (U * 4294967296 + L / 4294967296) (show D ≠ 0 by omega)
  have hm3 := Int.emod_lt_of_pos (U * 4294967296 + L / 4294967296) XR
  have hq1 := uG XR hUD (show L / 4294967296 < 4294967296 by omega)
  have hq0 : 0 ≤ (U * 4294967296 + L / 4294967296) / D := Int.ediv_nonneg (by omega) (by omega)
  generalize (U * 4294967296 + L / 4294967296) / D = Q1 at *
  generalize hR1 : (U * 4294967296 + L / 4294967296) % D = R1 at *
  have hw : IntKind.u64.wrap (IntKind.u64.wrap (IntKind.u64.wrap (U * 4294967296) + L / 4294967296) - IntKind.u64.wrap (Q1 * D)) = R1 := by
   rw [dD, dD, dD, dD]
   omega
  have ahH := Int.emod_nonneg R1 (show D / 4294967296 ≠ 0 by omega)
  have ahG := Int.emod_lt_of_pos R1 (show 0 < D / 4294967296 by omega)
  have ahE := Int.ediv_mul_add_emod R1 (D / 4294967296)
  have hd1 : IntKind.u64.wrap (Int.tdiv R1 (D / 4294967296)) = R1 / (D / 4294967296) := by
   rw [Int.tdiv_eq_ediv_of_nonneg hm2]
   refine wraps_u64 _ (Int.ediv_nonneg hm2 (by omega)) ?_
   have := Int.ediv_le_self (a := R1) (D / 4294967296) hm2
   omega
  have hf2 := yG (u := L % 4294967296) hD (by omega) (by omega) (by omega) hm2 hm3 (by omega) (by omega)
  refine Ev.step (f := fun k => aQ.l1 k D s (D / 4294967296) (D % 4294967296) (L % 4294967296) Q1 (R1 - R1 / (D / 4294967296) * (D / 4294967296)) R1 (R1 / (D / 4294967296))) ?_ ?_
  · intro k
    simp only [aQ.j2]
    rw [if_neg (by omega), hw, hd1]
    congr 1
    have hmul : R1 / (D / 4294967296) * (D / 4294967296) ≤ R1 := by omega
    have afp : 0 ≤ R1 / (D / 4294967296) * (D / 4294967296) := Int.mul_nonneg (Int.ediv_nonneg hm2 (by omega)) (by omega)
    generalize R1 / (D / 4294967296) * (D / 4294967296) = Z at *
    rw [dD, dD]
    omega
  · have hl := Yl hD (by omega) (by omega) (by omega) (by omega) hm2 hm3 (show 0 ≤ L % 4294967296 by omega) (by omega) s Q1 (by omega) ((R1 / (D / 4294967296) - (R1 * 4294967296 + L % 4294967296) / D).toNat) (R1 / (D / 4294967296)) (R1 - R1 / (D / 4294967296) * (D / 4294967296)) (by omega) (by omega) (by omega) hf2.1 hf2.2 (by omega)
    have hn1 := Int.ediv_mul_add_emod (R1 * 4294967296 + L % 4294967296) D
    have hn2 := Int.emod_nonneg (R1 * 4294967296 + L % 4294967296) (show D ≠ 0 by omega)
    have hn3 := Int.emod_lt_of_pos (R1 * 4294967296 + L % 4294967296) XR
    have hp1 := uG XR hm3 (show L % 4294967296 < 4294967296 by omega)
    have hp0 : 0 ≤ (R1 * 4294967296 + L % 4294967296) / D := Int.ediv_nonneg (by omega) (by omega)
    generalize (R1 * 4294967296 + L % 4294967296) / D = Q0 at *
    generalize (R1 * 4294967296 + L % 4294967296) % D = R0 at *
    have hw2 : IntKind.u64.wrap (IntKind.u64.wrap (IntKind.u64.wrap (R1 * 4294967296) + L % 4294967296) - IntKind.u64.wrap (Q0 * D)) = R0 := by
     rw [dD, dD, dD, dD]
     omega
    have hw3 : IntKind.u64.wrap (IntKind.u64.wrap (Q1 * 4294967296) + Q0) = Q1 * 4294967296 + Q0 := by
     rw [dD, dD]
     omega
    rw [hw2, hw3] at hl
    have hsr : shr .u64 R0 s = R0 / 2 ^ s := by
     unfold shr
     rw [show min (s : Int).toNat IntKind.u64.bits = s by simp [IntKind.bits]; omega]
    rw [hsr] at hl
    have hfin : (hi * 18446744073709551616 + lo) * 2 ^ s = (Q1 * 4294967296 + Q0) * D + R0 := by
     have e : (Q1 * 4294967296 + Q0) * D = Q1 * D * 4294967296 + Q0 * D := by
      rw [Int.add_mul, Int.mul_assoc Q1, Int.mul_comm 4294967296 D, ← Int.mul_assoc]
     rw [hN, e]
     omega
    have hdm := Int.ediv_mul_add_emod (hi * 18446744073709551616 + lo) y
    have adE := Int.emod_nonneg (hi * 18446744073709551616 + lo) (show y ≠ 0 by omega)
    have adD := Int.emod_lt_of_pos (hi * 18446744073709551616 + lo) (show 0 < y by omega)
    generalize hi * 18446744073709551616 + lo = N at *
    have e1 : (N / y) * D + (N % y) * 2 ^ s = (Q1 * 4294967296 + Q0) * D + R0 := by
     rw [← hfin, eD, ← Int.mul_assoc, ← Int.add_mul, hdm]
    have hx0 : 0 ≤ (N % y) * 2 ^ s := Int.mul_nonneg adE (Int.le_of_lt hP)
    have hx1 : (N % y) * 2 ^ s < D := by rw [eD]; exact Int.mul_lt_mul_of_pos_right adD hP
    have f1 : ((N / y) * D + (N % y) * 2 ^ s) / D = N / y := by
     rw [Int.add_comm, Int.add_mul_ediv_right _ _ (Int.ne_of_gt XR), Int.ediv_eq_zero_of_lt hx0 hx1, Int.zero_add]
    have f2 : ((Q1 * 4294967296 + Q0) * D + R0) / D = Q1 * 4294967296 + Q0 := by
     rw [Int.add_comm, Int.add_mul_ediv_right _ _ (Int.ne_of_gt XR), Int.ediv_eq_zero_of_lt hn2 hn3, Int.zero_add]
    have f3 : N / y = Q1 * 4294967296 + Q0 := by rw [← f1, e1, f2]
    rw [f3] at e1
    have f4 : R0 = (N % y) * 2 ^ s := by omega
    rw [f3, show N % y = R0 / 2 ^ s by rw [f4, Int.mul_ediv_cancel _ (Int.ne_of_gt hP)]]
    exact hl
 have hgo := hres _ _ _ rfl rfl rfl
 refine Ev.congr (f := fun k => aQ.l0 k (y * 2 ^ s) s (y * 2 ^ s / 4294967296) (y * 2 ^ s % 4294967296) (hi * 2 ^ s + lo / 2 ^ (64 - s)) (lo % 2 ^ (64 - s) * 2 ^ s / 4294967296) (lo % 2 ^ (64 - s) * 2 ^ s % 4294967296) ((hi * 2 ^ s + lo / 2 ^ (64 - s)) / (y * 2 ^ s / 4294967296)) (hi * 2 ^ s + lo / 2 ^ (64 - s) - (hi * 2 ^ s + lo / 2 ^ (64 - s)) / (y * 2 ^ s / 4294967296) * (y * 2 ^ s / 4294967296))) ?_ hgo
 intro k
 unfold aQ.f
 rw [if_neg (by omega), if_neg (by omega), if_neg hne, hlz]
 simp only [Option.bind_some]
 have hws : IntKind.u64.wrap (s : Int) = s := by rw [dD]; omega
 rw [hws, if_pos (by omega), hT, if_pos (by omega), hS, if_neg hz, hS2, hS3, hor, hS4]
 generalize eU : hi * 2 ^ s + lo / 2 ^ (64 - s) = U
 generalize eL : lo % 2 ^ (64 - s) * 2 ^ s = L at *
 generalize eD : y * 2 ^ s = D at *
 rw [mask32 _ (by omega) (by omega), mask32 _ (by omega) (by omega)]
 have TL : 0 ≤ U := by omega
 have hq0 : 0 ≤ U / (D / 4294967296) := Int.ediv_nonneg TL (by omega)
 have hq1 := Int.ediv_le_self (a := U) (D / 4294967296) TL
 have hc := Int.ediv_mul_add_emod U (D / 4294967296)
 have hr0 := Int.emod_nonneg U (show D / 4294967296 ≠ 0 by omega)
 have hz0 : 0 ≤ U / (D / 4294967296) * (D / 4294967296) := Int.mul_nonneg hq0 (by omega)
 have hd1 : IntKind.u64.wrap (Int.tdiv U (D / 4294967296)) = U / (D / 4294967296) := by
  rw [Int.tdiv_eq_ediv_of_nonneg TL]
  exact wraps_u64 _ hq0 (by omega)
 rw [hd1]
 congr 1
 generalize U / (D / 4294967296) * (D / 4294967296) = Z at *
 rw [dD, dD]
 omega
theorem YR (hi lo y : Int) (h0 : 0 ≤ hi) (h1 : hi < y) (hy : y < 18446744073709551616) (hl0 : 0 ≤ lo) (hl1 : lo < 18446744073709551616) :
 Ev (fun k => aQ.f k hi lo y) ((hi * 18446744073709551616 + lo) / y, (hi * 18446744073709551616 + lo) % y) := by
 by_cases hne : hi = 0
 · refine ⟨0, fun k _ => ?_⟩
   subst hne
   show aQ.f k 0 lo y = _
   unfold aQ.f
   rw [if_neg (by omega), if_neg (by omega), if_pos rfl, Int.zero_mul, Int.zero_add, Int.tdiv_eq_ediv_of_nonneg hl0, Int.tmod_eq_emod_of_nonneg hl0]
   have := Int.ediv_le_self (a := lo) y hl0
   rw [wraps_u64 _ (Int.ediv_nonneg hl0 (by omega)) (by omega)]
 · exact Oy hi lo y h0 h1 hy hl0 hl1 hne
end Go.Proofs.Ytnijhjbcjeohhaa.PQ

namespace Go.Proofs.Ytnijhjbcjeohhaa.PQ
open Go.RowKit Go.Proofs.af.aO Go.Proofs.af.aU Go.Proofs.af.aV
theorem Vd (a b : Int) : p_.f a b = some (cl (cl a + cl b), (od a || od b) || od (cl a + cl b)) := by
 have := sZ a
 have := tq a
 have := sZ b
 have := tq b
 unfold p_.f
 rw [yf]
 simp only [Option.bind_some]
 rw [Gq (by omega) (by omega), oZ]
 simp only [Option.bind_some]
 cases (od a || od b) <;> simp
theorem UK (a b : Int) : pX.f a b = some (cl (cl a - cl b), (od a || od b) || od (cl a - cl b)) := by
 have := sZ a
 have := tq a
 have := sZ b
 have := tq b
 unfold pX.f
 rw [yf]
 simp only [Option.bind_some]
 rw [Gq (by omega) (by omega), oZ]
 simp only [Option.bind_some]
 cases (od a || od b) <;> simp
def rn (N y : Int) : Int := if N % y > y - N % y then (N / y + 1) % 18446744073709551616 else if N % y = y - N % y then (if N / y % 2 = 1 then (N / y + 1) % 18446744073709551616 else N / y) else N / y
def yF (a b : Int) : Int × Bool :=
 if cl b = 0 then (if cl a > 0 then (70368744177663, true) else if cl a < 0 then (-70368744177664, true) else (0, true))
 else if sz (cl a) / 1099511627776 ≥ sz (cl b) then ((sg 1 0 ((decide (cl a < 0)) != (decide (cl b < 0)))).1, true)
 else flag (od a || od b) (sg 0 (rn (sz (cl a) * 16777216) (sz (cl b))) ((decide (cl a < 0)) != (decide (cl b < 0))))
theorem U9 (a b : Int) : Ev (fun k => lu.f k a b) (yF a b) := by
 have c1 := sZ a
 have c2 := tq a
 have c3 := sZ b
 have c4 := tq b
 have ha := K_ a
 have hb := K_ b
 have ha0 := Nl (cl a)
 have hb0 := Nl (cl b)
 have hbz : cl b ≠ 0 → 0 < sz (cl b) := fun h => by unfold sz at *; split at hb0 <;> split <;> omega
 by_cases h0 : cl b = 0
 · refine Ev.congr (f := fun _ => some (yF a b)) ?_ (Ev.now _)
   intro k
   unfold lu.f yF
   rw [yf]
   simp only [Option.bind_some]
   rw [if_pos h0, if_pos h0]
   repeat' split
   all_goals rfl
 · have hy := hbz h0
   by_cases h1 : sz (cl a) / 1099511627776 ≥ sz (cl b)
   · refine Ev.congr (f := fun _ => some (yF a b)) ?_ (Ev.now _)
     intro k
     unfold lu.f yF
     rw [yf]
     simp only [Option.bind_some]
     rw [if_neg h0, if_neg h0, xI _ (by omega) (by omega), xI _ (by omega) (by omega)]
     simp only [Option.bind_some]
     rw [if_pos h1, if_pos h1, zO _ _ _ (by omega)]
     rfl
   · have hdv := YR (sz (cl a) / 1099511627776) (IntKind.u64.wrap (sz (cl a) * 16777216)) (sz (cl b)) (by omega) (by omega) (by omega) (by rw [dD]; omega) (by rw [dD]; omega)
     have hN : sz (cl a) / 1099511627776 * 18446744073709551616 + IntKind.u64.wrap (sz (cl a) * 16777216) = sz (cl a) * 16777216 := by rw [dD]; omega
     rw [hN] at hdv
     obtain ⟨K, hK⟩ := hdv
     refine ⟨K, fun k hk => ?_⟩
     have hk' := hK k hk
     show lu.f k a b = _
     unfold lu.f yF
     rw [yf]
     simp only [Option.bind_some]
     rw [if_neg h0, if_neg h0, xI _ (by omega) (by omega), xI _ (by omega) (by omega)]
     simp only [Option.bind_some]
     rw [if_neg h1, if_neg h1]
     simp only [] at hk'
     rw [hk']
     simp only [Option.bind_some]
     generalize ((decide (cl a < 0)) != (decide (cl b < 0))) = s
     generalize (od a || od b) = o
     have hq0 : 0 ≤ sz (cl a) * 16777216 / sz (cl b) := Int.ediv_nonneg (by omega) (by omega)
     have hq1 : sz (cl a) * 16777216 / sz (cl b) < 18446744073709551616 := Int.ediv_lt_of_lt_mul hy (by omega)
     have hr0 := Int.emod_nonneg (sz (cl a) * 16777216) (show sz (cl b) ≠ 0 by omega)
     have hr1 := Int.emod_lt_of_pos (sz (cl a) * 16777216) hy
     rw [UO _ hq0 hq1, wraps_u64 (sz (cl b) - _) (by omega) (by omega), dD]
     have k0 : 0 ≤ rn (sz (cl a) * 16777216) (sz (cl b)) := by unfold rn; repeat' split <;> omega
     rw [show (some (flag o (sg 0 (rn (sz (cl a) * 16777216) (sz (cl b))) s))) = (aS.f 0 (rn (sz (cl a) * 16777216) (sz (cl b))) s).bind fun bt => (if o = true then (some (bt.1, true)) else (some (bt.1, bt.2))) from by
      rw [zO _ _ _ k0]; simp only [Option.bind_some]; rw [Du]]
     unfold rn
     split
     · rfl
     · split
       · split <;> rfl
       · rfl
theorem Yv (a : Int) : eF.f a = some (decide (-70368744177664 ≤ a ∧ a ≤ 70368744177663)) := by
 unfold eF.f
 by_cases h : a ≥ -70368744177664
 · rw [if_pos h]
   congr 1
   rw [decide_eq_decide]
   omega
 · rw [if_neg h]
   congr 1
   symm
   simp
   omega
def yK : Nat → Int
 | 0 => 0
 | n + 1 => 2 ^ n
theorem Ko (n : Nat) : yK (n + 1) / 2 = yK n := by
 cases n with
 | zero => rfl
 | succ n =>
   show (2 : Int) ^ (n + 1) / 2 = 2 ^ n
   rw [Int.pow_succ]
   omega
theorem Dh (x4 : Bool) (hi lo : Int) (_h0 : 0 ≤ hi) (l0 : 0 ≤ lo) (l1 : lo < 18446744073709551616) : ∀ (n : Nat) (r : Int), n ≤ 36 → 0 ≤ r → r % 2 ^ n = 0 → r + 2 ^ n ≤ 68719476736 →
 r * r ≤ hi * 18446744073709551616 + lo → hi * 18446744073709551616 + lo < (r + 2 ^ n) * (r + 2 ^ n) →
 ∃ R, Ev (fun k => bU.l0 k x4 hi lo r (yK n)) (R, x4) ∧ 0 ≤ R ∧ R ≤ 68719476735 ∧ R * R ≤ hi * 18446744073709551616 + lo ∧ hi * 18446744073709551616 + lo < (R + 1) * (R + 1) := by
 intro n
 induction n with
 | zero =>
   intro r hn hr hm hb hle hlt
   refine ⟨r, Ev.step (f := fun _ => some (r, x4)) ?_ (Ev.now _), hr, by omega, hle, by simpa using hlt⟩
   intro k
   show bU.l0 (k + 1) x4 hi lo r 0 = _
   simp only [bU.l0]
   rw [if_neg (by omega), Gq (by omega) (by omega)]
 | succ n ih =>
   intro r hn hr hm hb hle hlt
   have hp : (0 : Int) < 2 ^ n := by rw [← wI]; have := Nat.two_pow_pos n; omega
   have hps : (2 : Int) ^ (n + 1) = 2 * 2 ^ n := by rw [Int.pow_succ]; omega
   have hor : Go.bits .or .u64 r (2 ^ n) = r + 2 ^ n :=
    bits_join .u64 64 (by decide) wraps_u64 (n + 1) r (2 ^ n) hr hm (by omega) (by omega) (by omega) (by omega)
   have hr1 : r % 2 ^ n = 0 := by
    have : r = 2 ^ (n + 1) * (r / 2 ^ (n + 1)) := by have := Int.mul_ediv_add_emod r (2 ^ (n + 1)); omega
    rw [this, hps, Int.mul_assoc, Int.mul_comm 2, Int.mul_assoc]
    exact Int.mul_emod_right _ _
   have hr2 : (r + 2 ^ n) % 2 ^ n = 0 := by rw [Int.add_emod_right]; exact hr1
   have ahk : 0 ≤ (r + 2 ^ n) * (r + 2 ^ n) := Int.mul_nonneg (by omega) (by omega)
   have ahj : (r + 2 ^ n) * (r + 2 ^ n) ≤ 68719476736 * 68719476736 := Int.mul_le_mul (by omega) (by omega) (by omega) (by omega)
   have YH : bits_Mul64.f (r + 2 ^ n) (r + 2 ^ n) = some ((r + 2 ^ n) * (r + 2 ^ n) / 18446744073709551616, (r + 2 ^ n) * (r + 2 ^ n) % 18446744073709551616) := by
    unfold bits_Mul64.f
    rw [if_pos ⟨by omega, by omega, by omega, by omega⟩]
   have hb2 := Ko n
   have hpos : yK (n + 1) > 0 := hp
   by_cases hc : (r + 2 ^ n) * (r + 2 ^ n) ≤ hi * 18446744073709551616 + lo
   · obtain ⟨R, hE, hrest⟩ := ih (r + 2 ^ n) (by omega) (by omega) hr2 (by omega) hc (by rw [Int.add_assoc, show (2 : Int) ^ n + 2 ^ n = 2 ^ (n + 1) by omega]; exact hlt)
     refine ⟨R, Ev.step (f := fun k => bU.l0 k x4 hi lo (r + 2 ^ n) (yK n)) ?_ hE, hrest⟩
     intro k
     simp only [bU.l0]
     rw [if_pos hpos, hb2, show yK (n + 1) = 2 ^ n from rfl, hor, YH]
     simp only [Option.bind_some]
     generalize (r + 2 ^ n) * (r + 2 ^ n) = Z at *
     split
     · rfl
     · rw [if_pos (by omega), if_pos (by omega)]
   · obtain ⟨R, hE, hrest⟩ := ih r (by omega) hr hr1 (by omega) hle (by omega)
     refine ⟨R, Ev.step (f := fun k => bU.l0 k x4 hi lo r (yK n)) ?_ hE, hrest⟩
     intro k
     simp only [bU.l0]
     rw [if_pos hpos, hb2, show yK (n + 1) = 2 ^ n from rfl, hor, YH]
     simp only [Option.bind_some]
     generalize (r + 2 ^ n) * (r + 2 ^ n) = Z at *
     rw [if_neg (by omega)]
     split
     · rw [if_neg (by omega)]
     · rfl
theorem VB (a : Int) (h0 : 0 ≤ a) (h1 : a ≤ 70368744177663) : ∃ R, Ev (fun k => bU.f k a) (R, false) ∧ 0 ≤ R ∧ R ≤ 68719476735 ∧ R * R ≤ a * 16777216 ∧ a * 16777216 < (R + 1) * (R + 1) := by
 have hN : a / 1099511627776 * 18446744073709551616 + a * 16777216 % 18446744073709551616 = a * 16777216 := by omega
 obtain ⟨R, hE, h⟩ := Dh false (a / 1099511627776) (a * 16777216 % 18446744073709551616) (by omega) (by omega) (by omega) 36 0 (by omega) (by omega) (by decide) (by decide) (by omega)
  (by rw [hN, show ((0 : Int) + 2 ^ 36) * (0 + 2 ^ 36) = 4722366482869645213696 by decide]; omega)
 rw [hN] at h
 refine ⟨R, Ev.congr ?_ hE, h⟩
 intro k
 unfold bU.f
 rw [oZ, qj (by omega) (by omega), uS (by omega) (by omega)]
 simp only [Option.bind_some]
 rw [if_neg (by omega), dD, dD, Int.emod_eq_of_lt (b := 18446744073709551616) h0 (by omega)]
 rfl
end Go.Proofs.Ytnijhjbcjeohhaa.PQ

namespace Go.Proofs.Ytnijhjbcjeohhaa.KK
open Go.RowKit Go.Proofs.af.aO Go.Proofs.af.aU Go.Proofs.af.aV
set_option linter.unusedVariables false
set_option linter.unusedSimpArgs false
def iQ (a b : Int) : Int × Bool := PQ.flag (PQ.od a || PQ.od b) (PQ.sg (PQ.sz (PQ.cl a) * PQ.sz (PQ.cl b) / 309485009821345068724781056) (PQ.lw (PQ.sz (PQ.cl a) * PQ.sz (PQ.cl b))) ((decide (PQ.cl a < 0)) != (decide (PQ.cl b < 0))))
def iw (a b : Int) : Int × Bool := (PQ.cl (PQ.cl a + PQ.cl b), (PQ.od a || PQ.od b) || PQ.od (PQ.cl a + PQ.cl b))
def kQ (a b : Int) : Int × Bool := (PQ.cl (PQ.cl a - PQ.cl b), (PQ.od a || PQ.od b) || PQ.od (PQ.cl a - PQ.cl b))
def lH (a b : Int) : Int × Bool := ((PQ.jh.f (wrap64 (a + b)) 1).getD 0, false)
theorem fH (a b : Int) (w : World) : Calls Try.prog 67 #[I a, I b] w fun e w' => e = .returned (.tuple #[I (iQ a b).1, .bool (iQ a b).2]) ∧ Below w.heap.size w w' := PQ.pY.calls a b _ _ w (PQ.UN a b)
theorem nS (a b : Int) (w : World) : Calls Try.prog 69 #[I a, I b] w fun e w' => e = .returned (.tuple #[I (iw a b).1, .bool (iw a b).2]) ∧ Below w.heap.size w w' := PQ.p_.calls a b _ _ w (PQ.Vd a b)
theorem pW (a b : Int) (w : World) : Calls Try.prog 66 #[I a, I b] w fun e w' => e = .returned (.tuple #[I (kQ a b).1, .bool (kQ a b).2]) ∧ Below w.heap.size w w' := PQ.pX.calls a b _ _ w (PQ.UK a b)
theorem Oj (a : Int) : ∃ h, PQ.jh.f a 1 = some h := by
 have e1 : mn (mx 1 0) 62 = 1 := by decide
 unfold PQ.jh.f
 rw [e1]
 repeat' split
 all_goals first | exact ⟨_, rfl⟩ | omega
theorem JX (a b : Int) (w : World) : Calls Try.prog 123 #[I a, I b] w fun e w' => e = .returned (.tuple #[I (lH a b).1, .bool (lH a b).2]) ∧ Below w.heap.size w w' := by
 obtain ⟨h, hh⟩ := Oj (wrap64 (a + b))
 have HH := Lib.hid (PQ.jh.calls _ 1 h · hh)
 unfold lH
 rw [hh]
 go_enter Try.func123, Try.ntmps123
 go_wp2_with fail
 refine (HH.out _).mono ?_
 rintro e w' ⟨rfl, hb⟩
 have HB := Lib.hid hb
 clear hb
 go_wp2
 go_ret2
 exact ⟨rfl, HB.out⟩
theorem jE {r c i k : Nat} (hk : k < r) (hi : i < c) : k * c + i < r * c := by
 have : (k + 1) * c ≤ r * c := Nat.mul_le_mul_right c hk
 rw [Nat.succ_mul] at this
 omega
theorem Gu (r c : Nat) (A : Option Addr) (cp g : Nat) (l : List Int) (w : World) (hr : r ≤ 8) (hc : c ≤ 8) (hl : l.length = r * c) (hA : Rd w A l) (R : Row w g 31 #[I r, I c, .slice A l.length cp]) :
 xx w 109 #[.pointer (some ⟨g, 0, none⟩)] c r (fun i k => l.getD (k * c + i) 0) (fun _ _ => false) := by
 intro i k w' hi hk hb
 have R' := R.below hb R.lt
 have x := R'.cell
 have hle : r * c ≤ 8 * 8 := Nat.mul_le_mul hr hc
 have HC := Lib.hid (kH r c A cp l k i w' (hA.below hb) (by rw [hl]; exact jE hk hi) (by rw [hl]; omega))
 clear hb R R' hA hr hc hle hl
 show Calls Try.prog 109 #[I i, I k, .pointer (some ⟨g, 0, none⟩)] w' _
 go_enter Try.func109, Try.ntmps109
 go_wp2_with fail
 refine HC.out.mono ?_
 rintro e w2 ⟨rfl, hb⟩
 have HB := Lib.hid hb
 clear hb
 go_wp2
 go_ret2
 exact ⟨rfl, HB.out⟩
theorem qG (n : Nat) (cap : Array Value) (r c : Nat) (q : Nat → Nat → Int) (o : Nat → Nat → Bool) (w : World) (L : List Int) (b : Bool) (hL : upto c q r = L) (hb : uf c o r = b) (hr : r ≤ 8) (hc : c ≤ 8) (he : Enters n) (ht : xx w n cap r c q o) :
 Calls Try.prog 82 #[.agg #[I r, I c], .func (.func n) #[] cap] w fun e w' => ∃ A cp, e = .returned (.tuple #[.agg #[I r, I c, .slice A L.length cp], .bool b]) ∧ Own w' w.heap.size (.slice A L.length cp) L ∧ Below w.heap.size w w' := by
 subst hL hb
 refine (JG n cap r c q o w hr hc he ht).mono ?_
 rintro e w' ⟨v, rfl, ho, hb⟩
 obtain ⟨A, cp, rfl, _, _⟩ := ho.reads
 exact ⟨A, cp, rfl, ho, hb⟩
theorem yL (c r : Nat) : uf c (fun _ _ => false) r = false := by simp [uf]
def yX (r c : Nat) (l : List Int) : List Int := upto r (fun i k => l.getD (k * c + i) 0) c
theorem Qx : Enters 109 := enters Try.func109 rfl rfl
theorem hmf (fn : Fn) (first cap : Array Value) (w : World) : (Instr.makeFunc fn first cap).run Try.prog w = .ok (.func fn first cap) w := rfl
theorem mJ (r c : Nat) (A : Option Addr) (cp : Nat) (l : List Int) (w : World) (hr : r ≤ 8) (hc : c ≤ 8) (hl : l.length = r * c) (hA : Rd w A l) :
 Calls Try.prog 77 #[.agg #[I r, I c, .slice A l.length cp]] w fun e w' => ∃ v, e = .returned (.agg #[I c, I r, v]) ∧ Own w' w.heap.size v (yX r c l) ∧ Below w.heap.size w w' := by
 have N : Hid (aX w [(31, #[I r, I c, .slice A l.length cp]), (31, #[I 0, I 0, .slice none 0 0])] ((w.alloc (.cells #[I r, I c, .slice A l.length cp] 31)).alloc (.cells #[I 0, I 0, .slice none 0 0] 31))) := Lib.hid (((aX.none w).push (by simp) _ _).push (by simp) _ _)
 obtain ⟨L, hL⟩ : ∃ L, yX r c l = L := ⟨_, rfl⟩
 have HM := Lib.hid (qG 109 #[.pointer (some ⟨w.heap.size, 0, none⟩)] c r _ _ _ L false hL (yL _ _) hc hr Qx (Gu r c A cp w.heap.size l _ hr hc hl (hA.below N.out.be) N.out.r0))
 rw [hL]
 clear hr hc hl hA hL
 have hmf := hmf
 go_enter Try.func77, Try.ntmps77
 go_wp2_with fail
 refine HM.out.mono ?_
 rintro e w2 ⟨A2, c2, rfl, ho, hb⟩
 have O := Lib.hid ho
 have N2 := Lib.hid (N.out.below hb)
 clear ho hb N HM
 have x1 := N2.out.r1.cell
 have g1 := N2.out.r1.free
 have t1 := N2.out.r1.lt
 go_wp2
 refine bodyPost_ret (RJ rfl rfl ((N2.out.r1.bQ _ _ _).alloc _)) rfl ⟨_, rfl, ?_, (Below.bQ N2.out.be (by omega) _ _ _).alloc (by have := N2.out.be.size; simp; omega) _⟩
 exact ((O.out.bQ (by simp) _ _ _).alloc _).lower (by simp; omega)
end Go.Proofs.Ytnijhjbcjeohhaa.KK

namespace Go.Proofs.Ytnijhjbcjeohhaa.KK
open Go.RowKit Go.Proofs.af.aO Go.Proofs.af.aU Go.Proofs.af.aV
set_option linter.unusedVariables false
set_option linter.unusedSimpArgs false
def iL (f : Int → Int → Int × Bool) (r c : Nat) (l m : List Int) : List Int := upto c (fun i k => (f (l.getD (i * c + k) 0) (m.getD (i * c + k) 0)).1) r
def jv (f : Int → Int → Int × Bool) (r c : Nat) (l m : List Int) : Bool := uf c (fun i k => (f (l.getD (i * c + k) 0) (m.getD (i * c + k) 0)).2) r
attribute [local go_sem high] PQ.Qr
theorem nY (r c : Int) (A : Option Addr) (l : List Int) (cp : Nat) (w : World) (hA : Rd w A l) (hc : l.length ≤ cp) : Calls Try.prog 107 #[.agg #[I r, I c, .slice A l.length cp]] w fun e w' => e = .returned (.agg #[I r, I c]) ∧ Below w.heap.size w w' :=
 PQ.nC.calls r c A cp l r c w hA hc rfl
theorem BA : Enters 122 := enters Try.func122 rfl rfl
theorem Nj (r c : Nat) (A A' : Option Addr) (cp cp' : Nat) (n g : Nat) (l m : List Int) (w : World) (hr : r ≤ 8) (hc : c ≤ 8) (hl : l.length = r * c) (hm : m.length = r * c) (hA : Rd w A l) (hA' : Rd w A' m)
 (D : Row w n 119 #[.func (.func 69) #[] #[]]) (R : Row w g 31 #[I r, I c, .slice A l.length cp]) (R' : Row w (g + 1) 31 #[I r, I c, .slice A' m.length cp']) (hn : True) :
 xx w 122 #[.pointer (some ⟨n, 0, none⟩), .pointer (some ⟨g, 0, none⟩), .pointer (some ⟨g + 1, 0, none⟩)] r c (fun i k => (iw (l.getD (i * c + k) 0) (m.getD (i * c + k) 0)).1) (fun i k => (iw (l.getD (i * c + k) 0) (m.getD (i * c + k) 0)).2) := by
 intro i k w' hi hk hb
 have D1 := Lib.hid (D.below hb D.lt)
 have R1 := Lib.hid (R.below hb R.lt)
 have R2 := Lib.hid (R'.below hb R'.lt)
 have hle : r * c ≤ 8 * 8 := Nat.mul_le_mul hr hc
 have hlt : i * c + k < r * c := jE hi hk
 have H1 := Lib.hid (fun w' h => kH r c A cp l i k w' h (by rw [hl]; exact hlt) (by rw [hl]; omega))
 have H2 := Lib.hid (fun w' h => kH r c A' cp' m i k w' h (by rw [hm]; exact hlt) (by rw [hm]; omega))
 have A1 := Lib.hid (hA.below hb)
 have A2 := Lib.hid (hA'.below hb)
 obtain ⟨x, hx⟩ : ∃ x, l.getD (i * c + k) 0 = x := ⟨_, rfl⟩
 obtain ⟨y, hy⟩ : ∃ y, m.getD (i * c + k) 0 = y := ⟨_, rfl⟩
 rw [hx] at H1
 rw [hy] at H2
 show Calls Try.prog 122 #[I i, I k, .pointer (some ⟨n, 0, none⟩), .pointer (some ⟨g, 0, none⟩), .pointer (some ⟨g + 1, 0, none⟩)] w' fun e w'' => e = .returned (.tuple #[I (iw (l.getD (i * c + k) 0) (m.getD (i * c + k) 0)).1, .bool (iw (l.getD (i * c + k) 0) (m.getD (i * c + k) 0)).2]) ∧ Below w'.heap.size w' w''
 rw [hx, hy]
 have H3 := Lib.hid (fun w => nS x y w)
 obtain ⟨z, hz⟩ : ∃ z, iw x y = z := ⟨_, rfl⟩
 rw [hz] at H3 ⊢
 obtain ⟨z1, z2⟩ := z
 clear hb R R' D hA hA' hr hc hle hl hm hx hy hz hlt
 have K : Hid (∀ w2, Below w'.heap.size w' w2 → (∀ o, w2.cell? ⟨n, o, none⟩ = #[.func (.func 69) #[] #[]][o]?) ∧ (∀ o, w2.cell? ⟨g, o, none⟩ = #[I r, I c, .slice A l.length cp][o]?) ∧ (∀ o, w2.cell? ⟨g + 1, o, none⟩ = #[I r, I c, .slice A' m.length cp'][o]?)) := Lib.hid (fun w2 hb => ⟨(D1.out.below hb D1.out.lt).cell, (R1.out.below hb R1.out.lt).cell, (R2.out.below hb R2.out.lt).cell⟩)
 have B0 := Lib.hid (Below.refl w'.heap.size w')
 have B1 := Lib.hid B0.out.drew
 have x1 := D1.out.cell
 have x2 := R1.out.cell
 have x3 := R2.out.cell
 clear D1 R1 R2
 go_enter Try.func122, Try.ntmps122
 go_wp2_with fail
 go_region_held3 (fun w2 => (∀ o, w2.cell? ⟨n, o, none⟩ = #[.func (.func 69) #[] #[]][o]?) ∧ (∀ o, w2.cell? ⟨g, o, none⟩ = #[I r, I c, .slice A l.length cp][o]?) ∧ (∀ o, w2.cell? ⟨g + 1, o, none⟩ = #[I r, I c, .slice A' m.length cp'][o]?))
  (first | with_reducible exact K.out _ B4.out | with_reducible exact K.out _ B3.out | with_reducible exact K.out _ B2.out | with_reducible exact K.out _ B1.out | with_reducible exact K.out _ B0.out)
  (first
    | (go_at_call 69
       refine (H3.out _).mono ?_
       rintro e w4 ⟨rfl, hb⟩
       have B4 := Lib.hid (B3.out.trans (hb.mono B3.out.size))
       clear hb)
    | (go_at_call 110
       refine (H2.out _ (A2.out.below B2.out)).mono ?_
       rintro e w3 ⟨rfl, hb⟩
       have B3 := Lib.hid (B2.out.trans (hb.mono B2.out.size))
       clear hb)
    | (go_at_call 110
       refine (H1.out _ (A1.out.below B1.out)).mono ?_
       rintro e w2 ⟨rfl, hb⟩
       have B2 := Lib.hid (B1.out.trans (hb.mono B1.out.size))
       clear hb))
 all_goals
  go_wp2
  go_ret2
  exact ⟨rfl, B4.out⟩
theorem QE (r c : Nat) (A A' : Option Addr) (cp cp' : Nat) (l m : List Int) (w : World) (hr : r ≤ 8) (hc : c ≤ 8) (hl : l.length = r * c) (hm : m.length = r * c) (hA : Rd w A l) (hA' : Rd w A' m) (hcp : l.length ≤ cp) (wY : m.length ≤ cp') :
 Calls Try.prog 115 #[.agg #[I r, I c, (.slice A l.length cp)], .agg #[I r, I c, (.slice A' m.length cp')], .func (.func 69) #[] #[]] w fun e w' => ∃ A2 c2, e = .returned (.tuple #[.agg #[I r, I c, .slice A2 (iL iw r c l m).length c2], .bool (jv iw r c l m), I 0]) ∧ Own w' w.heap.size (.slice A2 (iL iw r c l m).length c2) (iL iw r c l m) ∧ Below w.heap.size w w' := by
 have N : Hid (aX w [(31, #[I r, I c, (.slice A l.length cp)]), (31, #[I r, I c, (.slice A' m.length cp')]), (119, #[.func (.func 69) #[] #[]]), (31, #[I 0, I 0, .slice none 0 0])] ((((w.alloc (.cells #[I r, I c, (.slice A l.length cp)] 31)).alloc (.cells #[I r, I c, (.slice A' m.length cp')] 31)).alloc (.cells #[.func (.func 69) #[] #[]] 119)).alloc (.cells #[I 0, I 0, .slice none 0 0] 31))) := Lib.hid (((((aX.none w).push (by simp) _ _).push (by simp) _ _).push (by simp) _ _).push (by simp) _ _)
 have O1 := Lib.hid (fun w' h => nY r c A l cp w' h hcp)
 have O2 := Lib.hid (fun w' h => nY r c A' m cp' w' h wY)
 have HA := Lib.hid hA
 have HA' := Lib.hid hA'
 obtain ⟨L, hL⟩ : ∃ L, iL iw r c l m = L := ⟨_, rfl⟩
 obtain ⟨b, hb⟩ : ∃ b, jv iw r c l m = b := ⟨_, rfl⟩
 have HM := Lib.hid (fun w' (h : aX w [(31, #[I r, I c, (.slice A l.length cp)]), (31, #[I r, I c, (.slice A' m.length cp')]), (119, #[.func (.func 69) #[] #[]]), (31, #[I 0, I 0, .slice none 0 0])] w') => qG 122 #[.pointer (some ⟨w.heap.size + 1 + 1, 0, none⟩), .pointer (some ⟨w.heap.size, 0, none⟩), .pointer (some ⟨w.heap.size + 1, 0, none⟩)] r c _ _ w' L b hL hb hr hc BA (Nj r c A A' cp cp' _ w.heap.size l m w' hr hc hl hm (hA.below h.be) (hA'.below h.be) h.r2 h.r0 h.r1 trivial))
 rw [hL, hb]
 clear hr hc hl hm hA hA' hcp wY hL hb
 have KK : Hid (∀ w', aX w [(31, #[I r, I c, (.slice A l.length cp)]), (31, #[I r, I c, (.slice A' m.length cp')]), (119, #[.func (.func 69) #[] #[]]), (31, #[I 0, I 0, .slice none 0 0])] w' → (∀ o, w'.cell? ⟨w.heap.size, o, none⟩ = #[I r, I c, (.slice A l.length cp)][o]?) ∧ (∀ o, w'.cell? ⟨w.heap.size + 1, o, none⟩ = #[I r, I c, (.slice A' m.length cp')][o]?)) := Lib.hid (fun w' h => ⟨h.r0.cell, h.r1.cell⟩)
 have y0 := N.out.r0.cell
 have y1 := N.out.r1.cell
 go_enter Try.func115, Try.ntmps115
 go_wp2_with fail
 go_region_held3 (fun w' => (∀ o, w'.cell? ⟨w.heap.size, o, none⟩ = #[I r, I c, (.slice A l.length cp)][o]?) ∧ (∀ o, w'.cell? ⟨w.heap.size + 1, o, none⟩ = #[I r, I c, (.slice A' m.length cp')][o]?))
  (first | with_reducible exact KK.out _ N3.out | with_reducible exact KK.out _ N2.out | with_reducible exact KK.out _ N.out.drew | with_reducible exact KK.out _ N.out)
  (first
    | (go_at_call 107
       refine (O2.out _ (HA'.out.below N2.out.be)).mono ?_
       rintro e w3 ⟨rfl, hb⟩
       have N3 := Lib.hid (N2.out.below hb)
       clear hb)
    | (go_at_call 107
       refine (O1.out _ (HA.out.below N.out.drew.be)).mono ?_
       rintro e w2 ⟨rfl, hb⟩
       have N2 := Lib.hid (N.out.drew.below hb)
       clear hb))
 have x1 := N3.out.r0.cell
 have t1 := N3.out.r0.lt
 have hmf := hmf
 go_wp2_with (go_at_call 107
              refine (O1.out _ (HA.out.below N3.out.be)).mono ?_
              rintro e w4 ⟨rfl, hb⟩
              have N4 := Lib.hid (N3.out.below hb)
              clear hb)
 refine (HM.out _ N4.out).mono ?_
 rintro e w5 ⟨A2, c2, rfl, ho, hb⟩
 have O := Lib.hid ho
 have N5 := Lib.hid (N4.out.below hb)
 have S4 := N4.out.be.size
 have L4 := N4.out.r3.lt
 clear ho hb x1 t1
 have x3 := N5.out.r3.cell
 have g3 := N5.out.r3.free
 have t3 := N5.out.r3.lt
 go_wp2
 refine bodyPost_ret (sG rfl rfl ((N5.out.r3.bQ _ _ _).alloc _)) rfl ⟨_, _, rfl, ?_, (Below.bQ N5.out.be (by omega) _ _ _).alloc (by have := N5.out.be.size; simp; omega) _⟩
 exact ((O.out.bQ (by omega) _ _ _).alloc _).lower (by omega)
theorem Nc (r c : Nat) (A A' : Option Addr) (cp cp' : Nat) (n g : Nat) (l m : List Int) (w : World) (hr : r ≤ 8) (hc : c ≤ 8) (hl : l.length = r * c) (hm : m.length = r * c) (hA : Rd w A l) (hA' : Rd w A' m)
 (D : Row w n 119 #[.func (.func 66) #[] #[]]) (R : Row w g 31 #[I r, I c, .slice A l.length cp]) (R' : Row w (g + 1) 31 #[I r, I c, .slice A' m.length cp']) (hn : True) :
 xx w 122 #[.pointer (some ⟨n, 0, none⟩), .pointer (some ⟨g, 0, none⟩), .pointer (some ⟨g + 1, 0, none⟩)] r c (fun i k => (kQ (l.getD (i * c + k) 0) (m.getD (i * c + k) 0)).1) (fun i k => (kQ (l.getD (i * c + k) 0) (m.getD (i * c + k) 0)).2) := by
 intro i k w' hi hk hb
 have D1 := Lib.hid (D.below hb D.lt)
 have R1 := Lib.hid (R.below hb R.lt)
 have R2 := Lib.hid (R'.below hb R'.lt)
 have hle : r * c ≤ 8 * 8 := Nat.mul_le_mul hr hc
 have hlt : i * c + k < r * c := jE hi hk
 have H1 := Lib.hid (fun w' h => kH r c A cp l i k w' h (by rw [hl]; exact hlt) (by rw [hl]; omega))
 have H2 := Lib.hid (fun w' h => kH r c A' cp' m i k w' h (by rw [hm]; exact hlt) (by rw [hm]; omega))
 have A1 := Lib.hid (hA.below hb)
 have A2 := Lib.hid (hA'.below hb)
 obtain ⟨x, hx⟩ : ∃ x, l.getD (i * c + k) 0 = x := ⟨_, rfl⟩
 obtain ⟨y, hy⟩ : ∃ y, m.getD (i * c + k) 0 = y := ⟨_, rfl⟩
 rw [hx] at H1
 rw [hy] at H2
 show Calls Try.prog 122 #[I i, I k, .pointer (some ⟨n, 0, none⟩), .pointer (some ⟨g, 0, none⟩), .pointer (some ⟨g + 1, 0, none⟩)] w' fun e w'' => e = .returned (.tuple #[I (kQ (l.getD (i * c + k) 0) (m.getD (i * c + k) 0)).1, .bool (kQ (l.getD (i * c + k) 0) (m.getD (i * c + k) 0)).2]) ∧ Below w'.heap.size w' w''
 rw [hx, hy]
 have H3 := Lib.hid (fun w => pW x y w)
 obtain ⟨z, hz⟩ : ∃ z, kQ x y = z := ⟨_, rfl⟩
 rw [hz] at H3 ⊢
 obtain ⟨z1, z2⟩ := z
 clear hb R R' D hA hA' hr hc hle hl hm hx hy hz hlt
 have K : Hid (∀ w2, Below w'.heap.size w' w2 → (∀ o, w2.cell? ⟨n, o, none⟩ = #[.func (.func 66) #[] #[]][o]?) ∧ (∀ o, w2.cell? ⟨g, o, none⟩ = #[I r, I c, .slice A l.length cp][o]?) ∧ (∀ o, w2.cell? ⟨g + 1, o, none⟩ = #[I r, I c, .slice A' m.length cp'][o]?)) := Lib.hid (fun w2 hb => ⟨(D1.out.below hb D1.out.lt).cell, (R1.out.below hb R1.out.lt).cell, (R2.out.below hb R2.out.lt).cell⟩)
 have B0 := Lib.hid (Below.refl w'.heap.size w')
 have B1 := Lib.hid B0.out.drew
 have x1 := D1.out.cell
 have x2 := R1.out.cell
 have x3 := R2.out.cell
 clear D1 R1 R2
 go_enter Try.func122, Try.ntmps122
 go_wp2_with fail
 go_region_held3 (fun w2 => (∀ o, w2.cell? ⟨n, o, none⟩ = #[.func (.func 66) #[] #[]][o]?) ∧ (∀ o, w2.cell? ⟨g, o, none⟩ = #[I r, I c, .slice A l.length cp][o]?) ∧ (∀ o, w2.cell? ⟨g + 1, o, none⟩ = #[I r, I c, .slice A' m.length cp'][o]?))
  (first | with_reducible exact K.out _ B4.out | with_reducible exact K.out _ B3.out | with_reducible exact K.out _ B2.out | with_reducible exact K.out _ B1.out | with_reducible exact K.out _ B0.out)
  (first
    | (go_at_call 66
       refine (H3.out _).mono ?_
       rintro e w4 ⟨rfl, hb⟩
       have B4 := Lib.hid (B3.out.trans (hb.mono B3.out.size))
       clear hb)
    | (go_at_call 110
       refine (H2.out _ (A2.out.below B2.out)).mono ?_
       rintro e w3 ⟨rfl, hb⟩
       have B3 := Lib.hid (B2.out.trans (hb.mono B2.out.size))
       clear hb)
    | (go_at_call 110
       refine (H1.out _ (A1.out.below B1.out)).mono ?_
       rintro e w2 ⟨rfl, hb⟩
       have B2 := Lib.hid (B1.out.trans (hb.mono B1.out.size))
       clear hb))
 all_goals
  go_wp2
  go_ret2
  exact ⟨rfl, B4.out⟩
theorem QD (r c : Nat) (A A' : Option Addr) (cp cp' : Nat) (l m : List Int) (w : World) (hr : r ≤ 8) (hc : c ≤ 8) (hl : l.length = r * c) (hm : m.length = r * c) (hA : Rd w A l) (hA' : Rd w A' m) (hcp : l.length ≤ cp) (wY : m.length ≤ cp') :
 Calls Try.prog 115 #[.agg #[I r, I c, (.slice A l.length cp)], .agg #[I r, I c, (.slice A' m.length cp')], .func (.func 66) #[] #[]] w fun e w' => ∃ A2 c2, e = .returned (.tuple #[.agg #[I r, I c, .slice A2 (iL kQ r c l m).length c2], .bool (jv kQ r c l m), I 0]) ∧ Own w' w.heap.size (.slice A2 (iL kQ r c l m).length c2) (iL kQ r c l m) ∧ Below w.heap.size w w' := by
 have N : Hid (aX w [(31, #[I r, I c, (.slice A l.length cp)]), (31, #[I r, I c, (.slice A' m.length cp')]), (119, #[.func (.func 66) #[] #[]]), (31, #[I 0, I 0, .slice none 0 0])] ((((w.alloc (.cells #[I r, I c, (.slice A l.length cp)] 31)).alloc (.cells #[I r, I c, (.slice A' m.length cp')] 31)).alloc (.cells #[.func (.func 66) #[] #[]] 119)).alloc (.cells #[I 0, I 0, .slice none 0 0] 31))) := Lib.hid (((((aX.none w).push (by simp) _ _).push (by simp) _ _).push (by simp) _ _).push (by simp) _ _)
 have O1 := Lib.hid (fun w' h => nY r c A l cp w' h hcp)
 have O2 := Lib.hid (fun w' h => nY r c A' m cp' w' h wY)
 have HA := Lib.hid hA
 have HA' := Lib.hid hA'
 obtain ⟨L, hL⟩ : ∃ L, iL kQ r c l m = L := ⟨_, rfl⟩
 obtain ⟨b, hb⟩ : ∃ b, jv kQ r c l m = b := ⟨_, rfl⟩
 have HM := Lib.hid (fun w' (h : aX w [(31, #[I r, I c, (.slice A l.length cp)]), (31, #[I r, I c, (.slice A' m.length cp')]), (119, #[.func (.func 66) #[] #[]]), (31, #[I 0, I 0, .slice none 0 0])] w') => qG 122 #[.pointer (some ⟨w.heap.size + 1 + 1, 0, none⟩), .pointer (some ⟨w.heap.size, 0, none⟩), .pointer (some ⟨w.heap.size + 1, 0, none⟩)] r c _ _ w' L b hL hb hr hc BA (Nc r c A A' cp cp' _ w.heap.size l m w' hr hc hl hm (hA.below h.be) (hA'.below h.be) h.r2 h.r0 h.r1 trivial))
 rw [hL, hb]
 clear hr hc hl hm hA hA' hcp wY hL hb
 have KK : Hid (∀ w', aX w [(31, #[I r, I c, (.slice A l.length cp)]), (31, #[I r, I c, (.slice A' m.length cp')]), (119, #[.func (.func 66) #[] #[]]), (31, #[I 0, I 0, .slice none 0 0])] w' → (∀ o, w'.cell? ⟨w.heap.size, o, none⟩ = #[I r, I c, (.slice A l.length cp)][o]?) ∧ (∀ o, w'.cell? ⟨w.heap.size + 1, o, none⟩ = #[I r, I c, (.slice A' m.length cp')][o]?)) := Lib.hid (fun w' h => ⟨h.r0.cell, h.r1.cell⟩)
 have y0 := N.out.r0.cell
 have y1 := N.out.r1.cell
 go_enter Try.func115, Try.ntmps115
 go_wp2_with fail
 go_region_held3 (fun w' => (∀ o, w'.cell? ⟨w.heap.size, o, none⟩ = #[I r, I c, (.slice A l.length cp)][o]?) ∧ (∀ o, w'.cell? ⟨w.heap.size + 1, o, none⟩ = #[I r, I c, (.slice A' m.length cp')][o]?))
  (first | with_reducible exact KK.out _ N3.out | with_reducible exact KK.out _ N2.out | with_reducible exact KK.out _ N.out.drew | with_reducible exact KK.out _ N.out)
  (first
    | (go_at_call 107
       refine (O2.out _ (HA'.out.below N2.out.be)).mono ?_
       rintro e w3 ⟨rfl, hb⟩
       have N3 := Lib.hid (N2.out.below hb)
       clear hb)
    | (go_at_call 107
       refine (O1.out _ (HA.out.below N.out.drew.be)).mono ?_
       rintro e w2 ⟨rfl, hb⟩
       have N2 := Lib.hid (N.out.drew.below hb)
       clear hb))
 have x1 := N3.out.r0.cell
 have t1 := N3.out.r0.lt
 have hmf := hmf
 go_wp2_with (go_at_call 107
              refine (O1.out _ (HA.out.below N3.out.be)).mono ?_
              rintro e w4 ⟨rfl, hb⟩
              have N4 := Lib.hid (N3.out.below hb)
              clear hb)
 refine (HM.out _ N4.out).mono ?_
 rintro e w5 ⟨A2, c2, rfl, ho, hb⟩
 have O := Lib.hid ho
 have N5 := Lib.hid (N4.out.below hb)
 have S4 := N4.out.be.size
 have L4 := N4.out.r3.lt
 clear ho hb x1 t1
 have x3 := N5.out.r3.cell
 have g3 := N5.out.r3.free
 have t3 := N5.out.r3.lt
 go_wp2
 refine bodyPost_ret (sG rfl rfl ((N5.out.r3.bQ _ _ _).alloc _)) rfl ⟨_, _, rfl, ?_, (Below.bQ N5.out.be (by omega) _ _ _).alloc (by have := N5.out.be.size; simp; omega) _⟩
 exact ((O.out.bQ (by omega) _ _ _).alloc _).lower (by omega)
theorem Jf (r c : Nat) (A A' : Option Addr) (cp cp' : Nat) (n g : Nat) (l m : List Int) (w : World) (hr : r ≤ 8) (hc : c ≤ 8) (hl : l.length = r * c) (hm : m.length = r * c) (hA : Rd w A l) (hA' : Rd w A' m)
 (D : Row w n 119 #[.func (.func 123) #[] #[]]) (R : Row w g 31 #[I r, I c, .slice A l.length cp]) (R' : Row w (g + 1) 31 #[I r, I c, .slice A' m.length cp']) (hn : True) :
 xx w 122 #[.pointer (some ⟨n, 0, none⟩), .pointer (some ⟨g, 0, none⟩), .pointer (some ⟨g + 1, 0, none⟩)] r c (fun i k => (lH (l.getD (i * c + k) 0) (m.getD (i * c + k) 0)).1) (fun i k => (lH (l.getD (i * c + k) 0) (m.getD (i * c + k) 0)).2) := by
 intro i k w' hi hk hb
 have D1 := Lib.hid (D.below hb D.lt)
 have R1 := Lib.hid (R.below hb R.lt)
 have R2 := Lib.hid (R'.below hb R'.lt)
 have hle : r * c ≤ 8 * 8 := Nat.mul_le_mul hr hc
 have hlt : i * c + k < r * c := jE hi hk
 have H1 := Lib.hid (fun w' h => kH r c A cp l i k w' h (by rw [hl]; exact hlt) (by rw [hl]; omega))
 have H2 := Lib.hid (fun w' h => kH r c A' cp' m i k w' h (by rw [hm]; exact hlt) (by rw [hm]; omega))
 have A1 := Lib.hid (hA.below hb)
 have A2 := Lib.hid (hA'.below hb)
 obtain ⟨x, hx⟩ : ∃ x, l.getD (i * c + k) 0 = x := ⟨_, rfl⟩
 obtain ⟨y, hy⟩ : ∃ y, m.getD (i * c + k) 0 = y := ⟨_, rfl⟩
 rw [hx] at H1
 rw [hy] at H2
 show Calls Try.prog 122 #[I i, I k, .pointer (some ⟨n, 0, none⟩), .pointer (some ⟨g, 0, none⟩), .pointer (some ⟨g + 1, 0, none⟩)] w' fun e w'' => e = .returned (.tuple #[I (lH (l.getD (i * c + k) 0) (m.getD (i * c + k) 0)).1, .bool (lH (l.getD (i * c + k) 0) (m.getD (i * c + k) 0)).2]) ∧ Below w'.heap.size w' w''
 rw [hx, hy]
 have H3 := Lib.hid (fun w => JX x y w)
 obtain ⟨z, hz⟩ : ∃ z, lH x y = z := ⟨_, rfl⟩
 rw [hz] at H3 ⊢
 obtain ⟨z1, z2⟩ := z
 clear hb R R' D hA hA' hr hc hle hl hm hx hy hz hlt
 have K : Hid (∀ w2, Below w'.heap.size w' w2 → (∀ o, w2.cell? ⟨n, o, none⟩ = #[.func (.func 123) #[] #[]][o]?) ∧ (∀ o, w2.cell? ⟨g, o, none⟩ = #[I r, I c, .slice A l.length cp][o]?) ∧ (∀ o, w2.cell? ⟨g + 1, o, none⟩ = #[I r, I c, .slice A' m.length cp'][o]?)) := Lib.hid (fun w2 hb => ⟨(D1.out.below hb D1.out.lt).cell, (R1.out.below hb R1.out.lt).cell, (R2.out.below hb R2.out.lt).cell⟩)
 have B0 := Lib.hid (Below.refl w'.heap.size w')
 have B1 := Lib.hid B0.out.drew
 have x1 := D1.out.cell
 have x2 := R1.out.cell
 have x3 := R2.out.cell
 clear D1 R1 R2
 go_enter Try.func122, Try.ntmps122
 go_wp2_with fail
 go_region_held3 (fun w2 => (∀ o, w2.cell? ⟨n, o, none⟩ = #[.func (.func 123) #[] #[]][o]?) ∧ (∀ o, w2.cell? ⟨g, o, none⟩ = #[I r, I c, .slice A l.length cp][o]?) ∧ (∀ o, w2.cell? ⟨g + 1, o, none⟩ = #[I r, I c, .slice A' m.length cp'][o]?))
  (first | with_reducible exact K.out _ B4.out | with_reducible exact K.out _ B3.out | with_reducible exact K.out _ B2.out | with_reducible exact K.out _ B1.out | with_reducible exact K.out _ B0.out)
  (first
    | (go_at_call 123
       refine (H3.out _).mono ?_
       rintro e w4 ⟨rfl, hb⟩
       have B4 := Lib.hid (B3.out.trans (hb.mono B3.out.size))
       clear hb)
    | (go_at_call 110
       refine (H2.out _ (A2.out.below B2.out)).mono ?_
       rintro e w3 ⟨rfl, hb⟩
       have B3 := Lib.hid (B2.out.trans (hb.mono B2.out.size))
       clear hb)
    | (go_at_call 110
       refine (H1.out _ (A1.out.below B1.out)).mono ?_
       rintro e w2 ⟨rfl, hb⟩
       have B2 := Lib.hid (B1.out.trans (hb.mono B1.out.size))
       clear hb))
 all_goals
  go_wp2
  go_ret2
  exact ⟨rfl, B4.out⟩
theorem Ou (r c : Nat) (A A' : Option Addr) (cp cp' : Nat) (l m : List Int) (w : World) (hr : r ≤ 8) (hc : c ≤ 8) (hl : l.length = r * c) (hm : m.length = r * c) (hA : Rd w A l) (hA' : Rd w A' m) (hcp : l.length ≤ cp) (wY : m.length ≤ cp') :
 Calls Try.prog 115 #[.agg #[I r, I c, (.slice A l.length cp)], .agg #[I r, I c, (.slice A' m.length cp')], .func (.func 123) #[] #[]] w fun e w' => ∃ A2 c2, e = .returned (.tuple #[.agg #[I r, I c, .slice A2 (iL lH r c l m).length c2], .bool (jv lH r c l m), I 0]) ∧ Own w' w.heap.size (.slice A2 (iL lH r c l m).length c2) (iL lH r c l m) ∧ Below w.heap.size w w' := by
 have N : Hid (aX w [(31, #[I r, I c, (.slice A l.length cp)]), (31, #[I r, I c, (.slice A' m.length cp')]), (119, #[.func (.func 123) #[] #[]]), (31, #[I 0, I 0, .slice none 0 0])] ((((w.alloc (.cells #[I r, I c, (.slice A l.length cp)] 31)).alloc (.cells #[I r, I c, (.slice A' m.length cp')] 31)).alloc (.cells #[.func (.func 123) #[] #[]] 119)).alloc (.cells #[I 0, I 0, .slice none 0 0] 31))) := Lib.hid (((((aX.none w).push (by simp) _ _).push (by simp) _ _).push (by simp) _ _).push (by simp) _ _)
 have O1 := Lib.hid (fun w' h => nY r c A l cp w' h hcp)
 have O2 := Lib.hid (fun w' h => nY r c A' m cp' w' h wY)
 have HA := Lib.hid hA
 have HA' := Lib.hid hA'
 obtain ⟨L, hL⟩ : ∃ L, iL lH r c l m = L := ⟨_, rfl⟩
 obtain ⟨b, hb⟩ : ∃ b, jv lH r c l m = b := ⟨_, rfl⟩
 have HM := Lib.hid (fun w' (h : aX w [(31, #[I r, I c, (.slice A l.length cp)]), (31, #[I r, I c, (.slice A' m.length cp')]), (119, #[.func (.func 123) #[] #[]]), (31, #[I 0, I 0, .slice none 0 0])] w') => qG 122 #[.pointer (some ⟨w.heap.size + 1 + 1, 0, none⟩), .pointer (some ⟨w.heap.size, 0, none⟩), .pointer (some ⟨w.heap.size + 1, 0, none⟩)] r c _ _ w' L b hL hb hr hc BA (Jf r c A A' cp cp' _ w.heap.size l m w' hr hc hl hm (hA.below h.be) (hA'.below h.be) h.r2 h.r0 h.r1 trivial))
 rw [hL, hb]
 clear hr hc hl hm hA hA' hcp wY hL hb
 have KK : Hid (∀ w', aX w [(31, #[I r, I c, (.slice A l.length cp)]), (31, #[I r, I c, (.slice A' m.length cp')]), (119, #[.func (.func 123) #[] #[]]), (31, #[I 0, I 0, .slice none 0 0])] w' → (∀ o, w'.cell? ⟨w.heap.size, o, none⟩ = #[I r, I c, (.slice A l.length cp)][o]?) ∧ (∀ o, w'.cell? ⟨w.heap.size + 1, o, none⟩ = #[I r, I c, (.slice A' m.length cp')][o]?)) := Lib.hid (fun w' h => ⟨h.r0.cell, h.r1.cell⟩)
 have y0 := N.out.r0.cell
 have y1 := N.out.r1.cell
 go_enter Try.func115, Try.ntmps115
 go_wp2_with fail
 go_region_held3 (fun w' => (∀ o, w'.cell? ⟨w.heap.size, o, none⟩ = #[I r, I c, (.slice A l.length cp)][o]?) ∧ (∀ o, w'.cell? ⟨w.heap.size + 1, o, none⟩ = #[I r, I c, (.slice A' m.length cp')][o]?))
  (first | with_reducible exact KK.out _ N3.out | with_reducible exact KK.out _ N2.out | with_reducible exact KK.out _ N.out.drew | with_reducible exact KK.out _ N.out)
  (first
    | (go_at_call 107
       refine (O2.out _ (HA'.out.below N2.out.be)).mono ?_
       rintro e w3 ⟨rfl, hb⟩
       have N3 := Lib.hid (N2.out.below hb)
       clear hb)
    | (go_at_call 107
       refine (O1.out _ (HA.out.below N.out.drew.be)).mono ?_
       rintro e w2 ⟨rfl, hb⟩
       have N2 := Lib.hid (N.out.drew.below hb)
       clear hb))
 have x1 := N3.out.r0.cell
 have t1 := N3.out.r0.lt
 have hmf := hmf
 go_wp2_with (go_at_call 107
              refine (O1.out _ (HA.out.below N3.out.be)).mono ?_
              rintro e w4 ⟨rfl, hb⟩
              have N4 := Lib.hid (N3.out.below hb)
              clear hb)
 refine (HM.out _ N4.out).mono ?_
 rintro e w5 ⟨A2, c2, rfl, ho, hb⟩
 have O := Lib.hid ho
 have N5 := Lib.hid (N4.out.below hb)
 have S4 := N4.out.be.size
 have L4 := N4.out.r3.lt
 clear ho hb x1 t1
 have x3 := N5.out.r3.cell
 have g3 := N5.out.r3.free
 have t3 := N5.out.r3.lt
 go_wp2
 refine bodyPost_ret (sG rfl rfl ((N5.out.r3.bQ _ _ _).alloc _)) rfl ⟨_, _, rfl, ?_, (Below.bQ N5.out.be (by omega) _ _ _).alloc (by have := N5.out.be.size; simp; omega) _⟩
 exact ((O.out.bQ (by omega) _ _ _).alloc _).lower (by omega)
theorem Eu (r c : Nat) (A A' : Option Addr) (cp cp' : Nat) (l m : List Int) (w : World) (hr : r ≤ 8) (hc : c ≤ 8) (hl : l.length = r * c) (hm : m.length = r * c) (hA : Rd w A l) (hA' : Rd w A' m) (hcp : l.length ≤ cp) (wY : m.length ≤ cp') :
 Calls Try.prog 102 #[.agg #[I r, I c, (.slice A l.length cp)], .agg #[I r, I c, (.slice A' m.length cp')]] w fun e w' => ∃ v, e = .returned (.tuple #[.agg #[I r, I c, v], .bool (jv iw r c l m), I 0]) ∧ Own w' w.heap.size v (iL iw r c l m) ∧ Below w.heap.size w w' := by
 have N : Hid (aX w [(31, #[I r, I c, (.slice A l.length cp)]), (31, #[I r, I c, (.slice A' m.length cp')]), (31, #[I 0, I 0, .slice none 0 0])] (((w.alloc (.cells #[I r, I c, (.slice A l.length cp)] 31)).alloc (.cells #[I r, I c, (.slice A' m.length cp')] 31)).alloc (.cells #[I 0, I 0, .slice none 0 0] 31))) := Lib.hid ((((aX.none w).push (by simp) _ _).push (by simp) _ _).push (by simp) _ _)
 have HM := Lib.hid (QE r c A A' cp cp' l m _ hr hc hl hm (hA.below N.out.be) (hA'.below N.out.be) hcp wY)
 obtain ⟨L, hL⟩ : ∃ L, iL iw r c l m = L := ⟨_, rfl⟩
 obtain ⟨b, hb⟩ : ∃ b, jv iw r c l m = b := ⟨_, rfl⟩
 rw [hL, hb] at HM ⊢
 clear hr hc hl hm hA hA' hcp wY hL hb
 go_enter Try.func102, Try.ntmps102
 go_wp2_with fail
 refine HM.out.mono ?_
 rintro e w5 ⟨A2, c2, rfl, ho, hb⟩
 have O := Lib.hid ho
 have N5 := Lib.hid (N.out.below hb)
 clear ho hb N HM
 have x3 := N5.out.r2.cell
 have g3 := N5.out.r2.free
 have t3 := N5.out.r2.lt
 go_wp2
 refine bodyPost_ret (sG rfl rfl (N5.out.r2.bQ _ _ _)) rfl ⟨_, rfl, ?_, Below.bQ N5.out.be (by omega) _ _ _⟩
 exact (O.out.bQ (by simp) _ _ _).lower (by simp; omega)
theorem Sr (r c : Nat) (A A' : Option Addr) (cp cp' : Nat) (l m : List Int) (w : World) (hr : r ≤ 8) (hc : c ≤ 8) (hl : l.length = r * c) (hm : m.length = r * c) (hA : Rd w A l) (hA' : Rd w A' m) (hcp : l.length ≤ cp) (wY : m.length ≤ cp') :
 Calls Try.prog 127 #[.agg #[I r, I c, (.slice A l.length cp)], .agg #[I r, I c, (.slice A' m.length cp')]] w fun e w' => ∃ v, e = .returned (.tuple #[.agg #[I r, I c, v], .bool (jv kQ r c l m), I 0]) ∧ Own w' w.heap.size v (iL kQ r c l m) ∧ Below w.heap.size w w' := by
 have N : Hid (aX w [(31, #[I r, I c, (.slice A l.length cp)]), (31, #[I r, I c, (.slice A' m.length cp')]), (31, #[I 0, I 0, .slice none 0 0])] (((w.alloc (.cells #[I r, I c, (.slice A l.length cp)] 31)).alloc (.cells #[I r, I c, (.slice A' m.length cp')] 31)).alloc (.cells #[I 0, I 0, .slice none 0 0] 31))) := Lib.hid ((((aX.none w).push (by simp) _ _).push (by simp) _ _).push (by simp) _ _)
 have HM := Lib.hid (QD r c A A' cp cp' l m _ hr hc hl hm (hA.below N.out.be) (hA'.below N.out.be) hcp wY)
 obtain ⟨L, hL⟩ : ∃ L, iL kQ r c l m = L := ⟨_, rfl⟩
 obtain ⟨b, hb⟩ : ∃ b, jv kQ r c l m = b := ⟨_, rfl⟩
 rw [hL, hb] at HM ⊢
 clear hr hc hl hm hA hA' hcp wY hL hb
 go_enter Try.func127, Try.ntmps127
 go_wp2_with fail
 refine HM.out.mono ?_
 rintro e w5 ⟨A2, c2, rfl, ho, hb⟩
 have O := Lib.hid ho
 have N5 := Lib.hid (N.out.below hb)
 clear ho hb N HM
 have x3 := N5.out.r2.cell
 have g3 := N5.out.r2.free
 have t3 := N5.out.r2.lt
 go_wp2
 refine bodyPost_ret (sG rfl rfl (N5.out.r2.bQ _ _ _)) rfl ⟨_, rfl, ?_, Below.bQ N5.out.be (by omega) _ _ _⟩
 exact (O.out.bQ (by simp) _ _ _).lower (by simp; omega)
end Go.Proofs.Ytnijhjbcjeohhaa.KK

namespace Go.Proofs.Ytnijhjbcjeohhaa.KK
open Go.RowKit Go.Proofs.af.aO Go.Proofs.af.aU Go.Proofs.af.aV
set_option linter.unusedVariables false
set_option linter.unusedSimpArgs false
def jW (r c : Nat) (l : List Int) (q : Int) : List Int := upto c (fun i k => (iQ (l.getD (i * c + k) 0) q).1) r
def scaleB (r c : Nat) (l : List Int) (q : Int) : Bool := uf c (fun i k => (iQ (l.getD (i * c + k) 0) q).2) r
theorem Qv : Enters 129 := enters Try.func129 rfl rfl
theorem Qw : Enters 114 := enters Try.func114 rfl rfl
theorem Gv (r c : Nat) (A : Option Addr) (cp : Nat) (g : Nat) (q : Int) (l : List Int) (w : World) (hr : r ≤ 8) (hc : c ≤ 8) (hl : l.length = r * c) (hA : Rd w A l)
 (R : Row w g 31 #[I r, I c, (.slice A l.length cp)]) (R' : Row w (g + 1) 22 #[I q]) :
 xx w 129 #[.pointer (some ⟨g, 0, none⟩), .pointer (some ⟨g + 1, 0, none⟩)] r c (fun i k => (iQ (l.getD (i * c + k) 0) q).1) (fun i k => (iQ (l.getD (i * c + k) 0) q).2) := by
 intro i k w' hi hk hb
 have R1 := Lib.hid (R.below hb R.lt)
 have R2 := Lib.hid (R'.below hb R'.lt)
 have hle : r * c ≤ 8 * 8 := Nat.mul_le_mul hr hc
 have hlt : i * c + k < r * c := jE hi hk
 have H1 := Lib.hid (fun w' h => kH r c A cp l i k w' h (by rw [hl]; exact hlt) (by rw [hl]; omega))
 have A1 := Lib.hid (hA.below hb)
 obtain ⟨x, hx⟩ : ∃ x, l.getD (i * c + k) 0 = x := ⟨_, rfl⟩
 rw [hx] at H1
 show Calls Try.prog 129 #[I i, I k, .pointer (some ⟨g, 0, none⟩), .pointer (some ⟨g + 1, 0, none⟩)] w' fun e w'' => e = .returned (.tuple #[I (iQ (l.getD (i * c + k) 0) q).1, .bool (iQ (l.getD (i * c + k) 0) q).2]) ∧ Below w'.heap.size w' w''
 rw [hx]
 have H3 := Lib.hid (fun w => fH x q w)
 obtain ⟨z, hz⟩ : ∃ z, iQ x q = z := ⟨_, rfl⟩
 rw [hz] at H3 ⊢
 obtain ⟨z1, z2⟩ := z
 clear hb R R' hA hr hc hle hl hx hz hlt
 have K : Hid (∀ w2, Below w'.heap.size w' w2 → (∀ o, w2.cell? ⟨g, o, none⟩ = #[I r, I c, (.slice A l.length cp)][o]?) ∧ (∀ o, w2.cell? ⟨g + 1, o, none⟩ = #[I q][o]?)) := Lib.hid (fun w2 hb => ⟨(R1.out.below hb R1.out.lt).cell, (R2.out.below hb R2.out.lt).cell⟩)
 have B0 := Lib.hid (Below.refl w'.heap.size w')
 have B1 := Lib.hid B0.out.drew
 have x2 := R1.out.cell
 have x3 := R2.out.cell
 clear R1 R2
 go_enter Try.func129, Try.ntmps129
 go_wp2_with fail
 go_region_held3 (fun w2 => (∀ o, w2.cell? ⟨g, o, none⟩ = #[I r, I c, (.slice A l.length cp)][o]?) ∧ (∀ o, w2.cell? ⟨g + 1, o, none⟩ = #[I q][o]?))
  (first | with_reducible exact K.out _ B3.out | with_reducible exact K.out _ B2.out | with_reducible exact K.out _ B1.out | with_reducible exact K.out _ B0.out)
  (first
    | (go_at_call 67
       refine (H3.out _).mono ?_
       rintro e w4 ⟨rfl, hb⟩
       have B3 := Lib.hid (B2.out.trans (hb.mono B2.out.size))
       clear hb)
    | (go_at_call 110
       refine (H1.out _ (A1.out.below B1.out)).mono ?_
       rintro e w2 ⟨rfl, hb⟩
       have B2 := Lib.hid (B1.out.trans (hb.mono B1.out.size))
       clear hb))
 all_goals
  go_wp2
  go_ret2
  exact ⟨rfl, B3.out⟩
theorem NW (r c : Nat) (A : Option Addr) (cp : Nat) (l : List Int) (q : Int) (w : World) (hr : r ≤ 8) (hc : c ≤ 8) (hl : l.length = r * c) (hA : Rd w A l) (hcp : l.length ≤ cp) :
 Calls Try.prog 125 #[.agg #[I r, I c, (.slice A l.length cp)], I q] w fun e w' => ∃ v, e = .returned (.tuple #[.agg #[I r, I c, v], .bool (scaleB r c l q)]) ∧ Own w' w.heap.size v (jW r c l q) ∧ Below w.heap.size w w' := by
 have N : Hid (aX w [(31, #[I r, I c, (.slice A l.length cp)]), (22, #[I q]), (31, #[I 0, I 0, .slice none 0 0])] (((w.alloc (.cells #[I r, I c, (.slice A l.length cp)] 31)).alloc (.cells #[I q] 22)).alloc (.cells #[I 0, I 0, .slice none 0 0] 31))) := Lib.hid ((((aX.none w).push (by simp) _ _).push (by simp) _ _).push (by simp) _ _)
 have O1 := Lib.hid (fun w' h => nY r c A l cp w' h hcp)
 have HA := Lib.hid hA
 obtain ⟨L, hL⟩ : ∃ L, jW r c l q = L := ⟨_, rfl⟩
 obtain ⟨b, hb⟩ : ∃ b, scaleB r c l q = b := ⟨_, rfl⟩
 have HM := Lib.hid (fun w' (h : aX w [(31, #[I r, I c, (.slice A l.length cp)]), (22, #[I q]), (31, #[I 0, I 0, .slice none 0 0])] w') => qG 129 #[.pointer (some ⟨w.heap.size, 0, none⟩), .pointer (some ⟨w.heap.size + 1, 0, none⟩)] r c _ _ w' L b hL hb hr hc Qv (Gv r c A cp w.heap.size q l w' hr hc hl (hA.below h.be) h.r0 h.r1))
 rw [hL, hb]
 clear hr hc hl hA hcp hL hb
 have hmf := hmf
 go_enter Try.func125, Try.ntmps125
 go_wp2_with fail
 refine (O1.out _ (HA.out.below N.out.be)).mono ?_
 rintro e w4 ⟨rfl, hb⟩
 have N4 := Lib.hid (N.out.below hb)
 clear hb N
 go_wp2_with fail
 refine (HM.out _ N4.out).mono ?_
 rintro e w5 ⟨A2, c2, rfl, ho, hb⟩
 have O := Lib.hid ho
 have N5 := Lib.hid (N4.out.below hb)
 have L4 := N4.out.r2.lt
 clear ho hb
 have x3 := N5.out.r2.cell
 have g3 := N5.out.r2.free
 have t3 := N5.out.r2.lt
 go_wp2
 refine bodyPost_ret (Lc rfl rfl (N5.out.r2.bQ _ _ _)) rfl ⟨_, rfl, ?_, Below.bQ N5.out.be (by omega) _ _ _⟩
 exact (O.out.bQ (by omega) _ _ _).lower (by omega)
def F9 (c1 c2 : Nat) (l m : List Int) (i k : Nat) : Nat → Int × Bool
 | 0 => (0, false)
 | j + 1 =>
   let p := iQ (l.getD (i * c1 + j) 0) (m.getD (j * c2 + k) 0)
   let t := iw (F9 c1 c2 l m i k j).1 p.1
   (t.1, (F9 c1 c2 l m i k j).2 || p.2 || t.2)
def mulL (r c1 c2 : Nat) (l m : List Int) : List Int := upto c2 (fun i k => (F9 c1 c2 l m i k c1).1) r
def qF (r c1 c2 : Nat) (l m : List Int) : Bool := uf c2 (fun i k => (F9 c1 c2 l m i k c1).2) r
theorem Nh (r c1 c2 : Nat) (A A' : Option Addr) (cp cp' g : Nat) (l m : List Int) (w : World) (hr : r ≤ 8) (hc1 : c1 ≤ 8) (hc2 : c2 ≤ 8) (hl : l.length = r * c1) (hm : m.length = c1 * c2) (hA : Rd w A l) (hA' : Rd w A' m)
 (R : Row w g 31 #[I r, I c1, (.slice A l.length cp)]) (R' : Row w (g + 1) 31 #[I c1, I c2, (.slice A' m.length cp')]) :
 xx w 114 #[.pointer (some ⟨g, 0, none⟩), .pointer (some ⟨g + 1, 0, none⟩)] r c2 (fun i k => (F9 c1 c2 l m i k c1).1) (fun i k => (F9 c1 c2 l m i k c1).2) := by
 intro i k w' hi hk hb
 have R1 := Lib.hid (R.below hb R.lt)
 have R2 := Lib.hid (R'.below hb R'.lt)
 have hle : r * c1 ≤ 8 * 8 := Nat.mul_le_mul hr hc1
 have hle2 : c1 * c2 ≤ 8 * 8 := Nat.mul_le_mul hc1 hc2
 have H1 := Lib.hid (fun w' j h (hj : j < c1) => kH r c1 A cp l i j w' h (by rw [hl]; exact jE hi hj) (by rw [hl]; omega))
 have H2 := Lib.hid (fun w' j h (hj : j < c1) => kH c1 c2 A' cp' m j k w' h (by rw [hm]; exact jE hj hk) (by rw [hm]; omega))
 have A1 := Lib.hid (hA.below hb)
 have A2 := Lib.hid (hA'.below hb)
 have HC := Lib.hid hc1
 show Calls Try.prog 114 #[I i, I k, .pointer (some ⟨g, 0, none⟩), .pointer (some ⟨g + 1, 0, none⟩)] w' fun e w'' => e = .returned (.tuple #[I (F9 c1 c2 l m i k c1).1, .bool (F9 c1 c2 l m i k c1).2]) ∧ Below w'.heap.size w' w''
 obtain ⟨f, hf⟩ : ∃ f, F9 c1 c2 l m i k = f := ⟨_, rfl⟩
 have hs : ∀ j, f (j + 1) = ((iw (f j).1 (iQ (l.getD (i * c1 + j) 0) (m.getD (j * c2 + k) 0)).1).1, (f j).2 || (iQ (l.getD (i * c1 + j) 0) (m.getD (j * c2 + k) 0)).2 || (iw (f j).1 (iQ (l.getD (i * c1 + j) 0) (m.getD (j * c2 + k) 0)).1).2) := fun j => by subst hf; rfl
 have h0 : f 0 = (0, false) := by subst hf; rfl
 rw [hf]
 have HF := Lib.hid hs
 have H0 := Lib.hid h0
 clear hb R R' hA hA' hr hc1 hc2 hle hle2 hl hm hf hs h0
 have K : Hid (∀ w2, Below w'.heap.size w' w2 → (∀ o, w2.cell? ⟨g, o, none⟩ = #[I r, I c1, (.slice A l.length cp)][o]?) ∧ (∀ o, w2.cell? ⟨g + 1, o, none⟩ = #[I c1, I c2, (.slice A' m.length cp')][o]?)) := Lib.hid (fun w2 hb => ⟨(R1.out.below hb R1.out.lt).cell, (R2.out.below hb R2.out.lt).cell⟩)
 have B0 := Lib.hid (Below.refl w'.heap.size w')
 have x2 := R1.out.cell
 have x3 := R2.out.cell
 clear R1 R2
 go_enter Try.func114, Try.ntmps114
 go_wp2_with fail
 go_loopw [8, 9, 17] (fun su od jj wr => ∃ (j : Nat) (sv : Int) (ov : Bool), j ≤ c1 ∧ jj = .int .i64 j ∧ su = .int .i64 sv ∧ od = .bool ov ∧ Hid (f j = (sv, ov)) ∧ Hid (Below w'.heap.size w' wr)) (fun _ _ jj _ => c1 - (intOf jj).toNat)
 case atStart => exact ⟨0, 0, false, by omega, rfl, rfl, rfl, Lib.hid H0.out, B0⟩
 case round =>
  clear B0
  obtain ⟨j, sv, ov, hj, rfl, rfl, rfl, F, B0⟩ := hrel
  clear x2 x3
  have x2 := (K.out _ B0.out).1
  have x3 := (K.out _ B0.out).2
  by_cases hjc : j = c1
  · subst hjc
    go_wp2
    go_ret2
    exact ⟨by rw [F.out]; rfl, B0.out⟩
  have hlt : (j : Int) < c1 := by omega
  have HJ := Lib.hid (show j < c1 by omega)
  have STEP : Hid (j + 1 ≤ c1 ∧ c1 - (j + 1) < c1 - j) := Lib.hid (by omega)
  have hw64 : IntKind.i64.wrap ((j : Int) + 1) = (j : Int) + 1 := by have := HC.out; simp [IntKind.wrap, IntKind.bits, IntKind.signed]; omega
  obtain ⟨x, hx⟩ : ∃ x, l.getD (i * c1 + j) 0 = x := ⟨_, rfl⟩
  obtain ⟨y, hy⟩ : ∃ y, m.getD (j * c2 + k) 0 = y := ⟨_, rfl⟩
  obtain ⟨p, hp⟩ : ∃ p, iQ x y = p := ⟨_, rfl⟩
  obtain ⟨p1, p2⟩ := p
  obtain ⟨t, ht⟩ : ∃ t, iw sv p1 = t := ⟨_, rfl⟩
  obtain ⟨t1, t2⟩ := t
  have F2 : Hid (f (j + 1) = (t1, ov || p2 || t2)) := Lib.hid (by rw [HF.out, F.out, hx, hy, hp]; dsimp only; rw [ht])
  have G1 := Lib.hid (fun w' h => H1.out w' j h HJ.out)
  have G2 := Lib.hid (fun w' h => H2.out w' j h HJ.out)
  have G3 := Lib.hid (fun w => fH x y w)
  have G4 := Lib.hid (fun w => nS sv p1 w)
  rw [hx] at G1
  rw [hy] at G2
  rw [hp] at G3
  rw [ht] at G4
  dsimp only at G3 G4
  clear hx hy hp ht hj hjc
  have B1 := Lib.hid B0.out.drew
  go_wp2_with fail
  go_region_held3 (fun w2 => (∀ o, w2.cell? ⟨g, o, none⟩ = #[I r, I c1, (.slice A l.length cp)][o]?) ∧ (∀ o, w2.cell? ⟨g + 1, o, none⟩ = #[I c1, I c2, (.slice A' m.length cp')][o]?))
   (first | with_reducible exact K.out _ B4.out | with_reducible exact K.out _ B3.out | with_reducible exact K.out _ B2.out | with_reducible exact K.out _ B1.out | with_reducible exact K.out _ B0.out)
   (first
     | (go_at_call 67
        refine (G3.out _).mono ?_
        rintro e w4 ⟨rfl, hb⟩
        have B4 := Lib.hid (B3.out.trans (hb.mono B3.out.size))
        clear hb)
     | (go_at_call 110
        refine (G2.out _ (A2.out.below B2.out)).mono ?_
        rintro e w3 ⟨rfl, hb⟩
        have B3 := Lib.hid (B2.out.trans (hb.mono B2.out.size))
        clear hb)
     | (go_at_call 110
        refine (G1.out _ (A1.out.below B1.out)).mono ?_
        rintro e w2 ⟨rfl, hb⟩
        have B2 := Lib.hid (B1.out.trans (hb.mono B1.out.size))
        clear hb))
  go_wp2_with fail
  refine (G4.out _).mono ?_
  rintro e w5 ⟨rfl, hb⟩
  have B5 := Lib.hid (B4.out.trans (hb.mono B4.out.size))
  clear hb
  cases ov
  · cases p2
    all_goals
     go_wp2
     go_roundw
     case rel => exact ⟨j + 1, t1, _, STEP.out.1, by go_num, rfl, rfl, by simpa using F2, B5⟩
     case measure =>
      have h := STEP.out.2
      show c1 - ((j : Int) + 1).toNat < c1 - ((j : Int)).toNat
      rw [show ((j : Int) + 1).toNat = j + 1 by omega, show ((j : Int)).toNat = j by omega]
      exact h
  · go_wp2
    go_roundw
    case rel => exact ⟨j + 1, t1, _, STEP.out.1, by go_num, rfl, rfl, by simpa using F2, B5⟩
    case measure =>
     have h := STEP.out.2
     show c1 - ((j : Int) + 1).toNat < c1 - ((j : Int)).toNat
     rw [show ((j : Int) + 1).toNat = j + 1 by omega, show ((j : Int)).toNat = j by omega]
     exact h
theorem wM (r c1 c2 : Nat) (A A' : Option Addr) (cp cp' : Nat) (l m : List Int) (w : World) (hr : r ≤ 8) (hc1 : c1 ≤ 8) (hc2 : c2 ≤ 8) (hl : l.length = r * c1) (hm : m.length = c1 * c2) (hA : Rd w A l) (hA' : Rd w A' m) :
 Calls Try.prog 101 #[.agg #[I r, I c1, (.slice A l.length cp)], .agg #[I c1, I c2, (.slice A' m.length cp')]] w fun e w' => ∃ v, e = .returned (.tuple #[.agg #[I r, I c2, v], .bool (qF r c1 c2 l m), I 0]) ∧ Own w' w.heap.size v (mulL r c1 c2 l m) ∧ Below w.heap.size w w' := by
 have N : Hid (aX w [(31, #[I r, I c1, (.slice A l.length cp)]), (31, #[I c1, I c2, (.slice A' m.length cp')]), (31, #[I 0, I 0, .slice none 0 0])] (((w.alloc (.cells #[I r, I c1, (.slice A l.length cp)] 31)).alloc (.cells #[I c1, I c2, (.slice A' m.length cp')] 31)).alloc (.cells #[I 0, I 0, .slice none 0 0] 31))) := Lib.hid ((((aX.none w).push (by simp) _ _).push (by simp) _ _).push (by simp) _ _)
 obtain ⟨L, hL⟩ : ∃ L, mulL r c1 c2 l m = L := ⟨_, rfl⟩
 obtain ⟨b, hb⟩ : ∃ b, qF r c1 c2 l m = b := ⟨_, rfl⟩
 have HM := Lib.hid (qG 114 #[.pointer (some ⟨w.heap.size, 0, none⟩), .pointer (some ⟨w.heap.size + 1, 0, none⟩)] r c2 _ _ _ L b hL hb hr hc2 Qw (Nh r c1 c2 A A' cp cp' w.heap.size l m _ hr hc1 hc2 hl hm (hA.below N.out.be) (hA'.below N.out.be) N.out.r0 N.out.r1))
 rw [hL, hb]
 clear hr hc1 hc2 hl hm hA hA' hL hb
 have hmf := hmf
 have e1 : ((c1 : Int) != (c1 : Int)) = false := by simp
 go_enter Try.func101, Try.ntmps101
 go_wp2_with fail
 refine HM.out.mono ?_
 rintro e w5 ⟨A2, c3, rfl, ho, hb⟩
 have O := Lib.hid ho
 have N5 := Lib.hid (N.out.below hb)
 clear ho hb N HM
 have x3 := N5.out.r2.cell
 have g3 := N5.out.r2.free
 have t3 := N5.out.r2.lt
 go_wp2
 refine bodyPost_ret (sG rfl rfl ((N5.out.r2.bQ _ _ _).alloc _)) rfl ⟨_, rfl, ?_, (Below.bQ N5.out.be (by omega) _ _ _).alloc (by have := N5.out.be.size; simp; omega) _⟩
 exact ((O.out.bQ (by simp) _ _ _).alloc _).lower (by simp; omega)
theorem G_ (r c1 r2 c2 : Int) (A A' : Option Addr) (cp cp' : Nat) (l m : List Int) (w : World) (hne : c1 ≠ r2) :
 Calls Try.prog 101 #[.agg #[I r, I c1, (.slice A l.length cp)], .agg #[I r2, I c2, (.slice A' m.length cp')]] w fun e w' => e = .returned (.tuple #[.agg #[I 0, I 0, .slice none 0 0], .bool false, I 9]) ∧ Below w.heap.size w w' := by
 have N : Hid (aX w [(31, #[I r, I c1, (.slice A l.length cp)]), (31, #[I r2, I c2, (.slice A' m.length cp')]), (31, #[I 0, I 0, .slice none 0 0])] (((w.alloc (.cells #[I r, I c1, (.slice A l.length cp)] 31)).alloc (.cells #[I r2, I c2, (.slice A' m.length cp')] 31)).alloc (.cells #[I 0, I 0, .slice none 0 0] 31))) := Lib.hid ((((aX.none w).push (by simp) _ _).push (by simp) _ _).push (by simp) _ _)
 have e1 : (c1 != r2) = true := by simpa using hne
 clear hne
 have x3 := N.out.r2.cell
 have g3 := N.out.r2.free
 go_enter Try.func101, Try.ntmps101
 go_wp2
 exact bodyPost_ret (sG rfl rfl N.out.r2) rfl ⟨rfl, N.out.be⟩
end Go.Proofs.Ytnijhjbcjeohhaa.KK

namespace Go.Proofs.Ytnijhjbcjeohhaa.KK
open Go.RowKit Go.Proofs.af.aO Go.Proofs.af.aU Go.Proofs.af.aV
set_option linter.unusedVariables false
set_option linter.unusedSimpArgs false
def kR (q : Int) : Bool := decide (q < -70368744177664) || decide (q > 70368744177663)
theorem JC (q : Int) (w : World) : Calls Try.prog 106 #[I q] w fun e w' => e = .returned (.bool (kR q)) ∧ Below w.heap.size w w' := by
 by_cases h : q < -70368744177664
 · have h0 : decide (q < -70368744177664) = true := decide_eq_true h
   clear h
   go_enter Try.func106, Try.ntmps106
   go_wp2
   go_ret
   exact ⟨by simp [kR, h0], Below.refl _ _⟩
 · have h0 : decide (q < -70368744177664) = false := decide_eq_false h
   clear h
   go_enter Try.func106, Try.ntmps106
   go_wp2
   go_ret
   exact ⟨by simp [kR, h0], Below.refl _ _⟩
theorem take_any {l : List Int} {j : Nat} {x : Int} (h : l[j]? = some x) (ha : (l.take j).any kR = false) (hx : kR x = false) : (l.take (j + 1)).any kR = false := by
 rw [List.take_add_one, h, List.any_append, ha]
 simp [hx]
theorem WY {l : List Int} {j : Nat} {x : Int} (h : l[j]? = some x) (hx : kR x = true) : l.any kR = true :=
 List.any_eq_true.2 ⟨x, List.mem_of_getElem? h, hx⟩
theorem Hl (A : Option Addr) (c : Nat) (l : List Int) (w : World) (hw : Rd w A l) (hlen : l.length ≤ 1000000) :
 Calls Try.prog 81 #[.slice A l.length c, .func (.func 106) #[] #[]] w fun e w' => ∃ x, e = .returned (I x) ∧ decide (x ≥ 0) = l.any kR ∧ Below w.heap.size w w' := by
 have HW := Lib.hid hw
 have HL := Lib.hid hlen
 clear hw hlen
 go_enter Try.func81, Try.ntmps81
 go_wp2_with fail
 go_loopw [8] (fun i wr => ∃ k : Nat, k ≤ l.length ∧ i = .int .i64 k ∧ Hid ((l.take k).any kR = false) ∧ Hid (Below w.heap.size w wr)) (fun i _ => l.length - (intOf i).toNat)
 case atStart => exact ⟨0, by omega, rfl, Lib.hid (by simp), Lib.hid (Below.refl _ _)⟩
 case round =>
  obtain ⟨k, hk, rfl, F, HB⟩ := hrel
  by_cases hkl : k = l.length
  · subst hkl
    go_wp2
    go_ret
    exact ⟨_, rfl, by have := F.out; rw [List.take_length] at this; rw [this]; rfl, HB.out⟩
  have hlt : (k : Int) < l.length := by omega
  have hk0 : (0 : Int) ≤ k := by omega
  have STEP : Hid (k + 1 ≤ l.length ∧ l.length - (k + 1) < l.length - k) := Lib.hid (by omega)
  have hw64 : IntKind.i64.wrap ((k : Int) + 1) = (k : Int) + 1 := by have := HL.out; simp [IntKind.wrap, IntKind.bits, IntKind.signed]; omega
  obtain ⟨b, off, rfl, hb, hc⟩ := (HW.out.below HB.out).cells (by omega)
  obtain ⟨x, hx⟩ : ∃ x, l[k]? = some x := ⟨l[k]'(by omega), List.getElem?_eq_getElem (by omega)⟩
  have c0 := hc k x hx
  have HX := Lib.hid hx
  clear hc hx hk hkl
  go_wp2_with fail
  refine (JC x _).mono ?_
  rintro e w2 ⟨rfl, hb2⟩
  have HB2 := Lib.hid (HB.out.trans (hb2.mono HB.out.size))
  clear hb2
  cases hq : kR x
  · have HQ := Lib.hid hq
    clear hq
    go_wp2
    go_roundw
    case rel => exact ⟨k + 1, STEP.out.1, by go_num, Lib.hid (take_any HX.out F.out HQ.out), HB2⟩
    case measure =>
     have h := STEP.out.2
     show l.length - ((k : Int) + 1).toNat < l.length - ((k : Int)).toNat
     rw [show ((k : Int) + 1).toNat = k + 1 by omega, show ((k : Int)).toNat = k by omega]
     exact h
  · have HQ := Lib.hid hq
    clear hq
    go_wp2
    go_ret
    exact ⟨_, rfl, by rw [WY HX.out HQ.out]; simp, HB2.out⟩
theorem BD (A : Option Addr) (c : Nat) (l : List Int) (w : World) (hw : Rd w A l) (hlen : l.length ≤ 1000000) :
 Calls Try.prog 55 #[.slice A l.length c, .func (.func 106) #[] #[]] w fun e w' => e = .returned (.bool (l.any kR)) ∧ Below w.heap.size w w' := by
 have H := Lib.hid (Hl A c l w hw hlen)
 clear hw hlen
 go_enter Try.func55, Try.ntmps55
 go_wp2_with fail
 refine H.out.mono ?_
 rintro e w2 ⟨x, rfl, hx, hb⟩
 have HB := Lib.hid hb
 have HX := Lib.hid hx
 clear hb hx
 go_wp2
 go_ret
 exact ⟨by rw [← HX.out]; rfl, HB.out⟩
def iH (r c : Int) (l : List Int) : Bool := decide (r ≥ 1) && decide (r ≤ 8) && decide (c ≥ 1) && decide (c ≤ 8) && ((l.length : Int) == wrap64 (r * c)) && !l.any kR
theorem mM (r c : Int) (A : Option Addr) (cp : Nat) (l : List Int) (w : World) (hw : Rd w A l) :
 Calls Try.prog 75 #[.agg #[I r, I c, (.slice A l.length cp)]] w fun e w' => e = .returned (.bool (iH r c l)) ∧ Below w.heap.size w w' := by
 have N : Hid (aX w [(31, #[I r, I c, (.slice A l.length cp)])] (w.alloc (.cells #[I r, I c, (.slice A l.length cp)] 31))) := Lib.hid ((aX.none w).push (by simp) _ _)
 have HW := Lib.hid hw
 clear hw
 cases h0 : decide (r ≥ 1)
 · go_enter Try.func75, Try.ntmps75
   go_wp2
   go_ret
   exact ⟨by simp [iH, *], N.out.be⟩
 cases h1 : decide (r ≤ 8)
 · go_enter Try.func75, Try.ntmps75
   go_wp2
   go_ret
   exact ⟨by simp [iH, *], N.out.be⟩
 cases h2 : decide (c ≥ 1)
 · go_enter Try.func75, Try.ntmps75
   go_wp2
   go_ret
   exact ⟨by simp [iH, *], N.out.be⟩
 cases h3 : decide (c ≤ 8)
 · go_enter Try.func75, Try.ntmps75
   go_wp2
   go_ret
   exact ⟨by simp [iH, *], N.out.be⟩
 cases h4 : ((l.length : Int) == wrap64 (r * c))
 · go_enter Try.func75, Try.ntmps75
   go_wp2
   go_ret
   exact ⟨by simp [iH, *], N.out.be⟩
 have hlen : l.length ≤ 1000000 := by
  have a0 := of_decide_eq_true h0
  have a1 := of_decide_eq_true h1
  have a2 := of_decide_eq_true h2
  have a3 := of_decide_eq_true h3
  have a4 : (l.length : Int) = wrap64 (r * c) := by simpa using h4
  have b0 : 0 ≤ r * c := Int.mul_nonneg (by omega) (by omega)
  have b1 : r * c ≤ 8 * c := Int.mul_le_mul_of_nonneg_right (by omega) (by omega)
  unfold wrap64 at a4
  omega
 have H := Lib.hid (BD A cp l _ (HW.out.below N.out.be) hlen)
 obtain ⟨b, hb⟩ : ∃ b, l.any kR = b := ⟨_, rfl⟩
 have HB := Lib.hid hb
 rw [hb] at H
 clear hb hlen
 go_enter Try.func75, Try.ntmps75
 go_wp2_with fail
 refine H.out.mono ?_
 rintro e w2 ⟨rfl, hb⟩
 have N2 := Lib.hid (N.out.below hb)
 clear hb
 go_wp2
 go_ret
 exact ⟨by simp [iH, HB.out, *], N2.out.be⟩
theorem Rd.flat {w : World} {ad : Addr} {l : List Int} (h : Rd w (some ad) l) : ∀ j u, (l.map I)[j]? = some u → w.cell? (ad.add j) = some u := by
 intro j u hj
 rw [List.getElem?_map] at hj
 cases hx : l[j]? with
 | none => rw [hx] at hj; cases hj
 | some x =>
   rw [hx] at hj
   injection hj with hj
   subst hj
   have hl : j < l.length := by
    rcases Nat.lt_or_ge j l.length with h | h
    · exact h
    · rw [List.getElem?_eq_none h] at hx; cases hx
   obtain ⟨b, off, e, _, hc⟩ := h.cells (by omega)
   injection e with e
   subst e
   have := hc j x hx
   unfold Addr.add
   by_cases h0 : j = 0
   · subst h0; simpa using this
   · rw [if_neg h0]; exact this
theorem Iu (A : Option Addr) (c : Nat) (l : List Int) (w : World) (hw : Rd w A l) (hlen : l.length ≤ 1000000) (hA : A = none → l.length = 0 ∧ c = 0) :
 Calls Try.prog 58 #[.slice A l.length c] w fun e w' => ∃ v, e = .returned v ∧ Own w' w.heap.size v l ∧ Below w.heap.size w w' := by
 cases A with
 | none =>
   obtain ⟨hl, rfl⟩ := hA rfl
   obtain rfl := List.eq_nil_of_length_eq_zero hl
   have he : ∀ w : World, (binOp .eql 29 (.slice none 0 0) (.slice none 0 0)).run Try.prog w = .ok (.bool true) w := fun _ => rfl
   go_enter Try.func58, Try.ntmps58
   go_wp2
   go_ret
   exact ⟨_, rfl, Own.nil _ _, Below.refl _ _⟩
 | some ad =>
   have HW := Lib.hid hw
   have HL := Lib.hid hlen
   clear hw hlen hA
   go_enter Try.func58, Try.ntmps58
   have he : ∀ w : World, (binOp .eql 29 (.slice (some ad) l.length c) (.slice none 0 0)).run Try.prog w = .ok (.bool false) w := fun _ => rfl
   obtain ⟨i0, hi0, hz0, hz1, hz2⟩ := info_parts Jm
   go_wp2_with (at_builtin
                refine wpList_append_own_at _ rfl (.tmp 5) (.tmp 6) _ rfl w.heap.size 22 i0 _ 1 8 Try.underlying29 hi0 hz0 hz1 hz2 rfl (by omega) (.slice (some ⟨w.heap.size, 0, none⟩) 0 0) 0 [] rfl ?own ad l.length c (l.map I) rfl (by simp) ?news ?one ?h63 ?hby ?base ?_
                case own => exact ⟨rfl, .inr ⟨_, 0, #[], rfl, Nat.le_refl _, heap_alloc_new w _, Nat.le_refl _, by simp [maxLen], rfl, rfl⟩⟩
                case news => exact (HW.out.below ((Below.refl _ _).alloc (Nat.le_refl _) _)).flat
                case one => (intro u hu; simp at hu; obtain ⟨q, _, rfl⟩ := hu; rfl)
                case h63 => (have := HL.out; simp only [maxLen]; omega)
                case hby => (have := HL.out; omega)
                case base => simp
                intro v' w' hown hgrow hnil hat)
   go_ret
   exact ⟨v', rfl, Own.sH (by simpa using hown), ((Below.refl _ _).alloc (Nat.le_refl _) _).grown hgrow (by simp) (by intro k hk; simp [Value.ownBlock] at hk; omega)⟩
def fF (l : List Int) : List Int := upto l.length (fun i k => if i = k then l.getD i 0 else 0) l.length
theorem Qy : Enters 83 := enters Try.func83 rfl rfl
theorem Jg (A : Option Addr) (cp g : Nat) (l : List Int) (w : World) (hl : l.length ≤ 8) (hA : Rd w A l) (R : Row w g 29 #[(.slice A l.length cp)]) :
 xx w 83 #[.pointer (some ⟨g, 0, none⟩)] l.length l.length (fun i k => if i = k then l.getD i 0 else 0) (fun _ _ => false) := by
 intro i k w' hi hk hb
 have R' := R.below hb R.lt
 have x := R'.cell
 show Calls Try.prog 83 #[I i, I k, .pointer (some ⟨g, 0, none⟩)] w' fun e w'' => e = .returned (.tuple #[I (if i = k then l.getD i 0 else 0), .bool false]) ∧ Below w'.heap.size w' w''
 by_cases h : i = k
 · subst h
   rw [if_pos rfl]
   obtain ⟨b, off, rfl, _, hc⟩ := (hA.below hb).cells (by omega)
   have c0 := hc i _ (gX hi)
   obtain ⟨y, hy⟩ : ∃ y, l.getD i 0 = y := ⟨_, rfl⟩
   rw [hy] at c0 ⊢
   have e0 : ((i : Int) == (i : Int)) = true := by simp
   have i0 : (0 : Int) ≤ i := by omega
   have i1 : (i : Int) < l.length := by omega
   clear hb hc hy hA hi hk hl R R'
   go_enter Try.func83, Try.ntmps83
   go_wp2
   go_ret2
   exact ⟨rfl, Below.refl _ _⟩
 · rw [if_neg h]
   have e0 : ((i : Int) == (k : Int)) = false := by simp; omega
   clear hb hA hi hk hl R R' h
   go_enter Try.func83, Try.ntmps83
   go_wp2
   go_ret2
   exact ⟨rfl, Below.refl _ _⟩
theorem Ny (l : List Int) (h1 : 1 ≤ l.length) (h8 : l.length ≤ 8) : iH 1 l.length l = !l.any kR := by
 have e : wrap64 (1 * (l.length : Int)) = l.length := by unfold wrap64; omega
 have e1 : decide ((l.length : Int) ≥ 1) = true := decide_eq_true (by omega)
 have e2 : decide ((l.length : Int) ≤ 8) = true := decide_eq_true (by omega)
 simp only [iH, e, e1, e2]
 simp
theorem xY (A : Option Addr) (cp : Nat) (l : List Int) (w : World) (hA : Rd w A l) (h1 : 1 ≤ l.length) (h8 : l.length ≤ 8) (ha : l.any kR = false) :
 Calls Try.prog 57 #[(.slice A l.length cp)] w fun e w' => ∃ v, e = .returned (.tuple #[.agg #[I l.length, I l.length, v], I 0]) ∧ Own w' w.heap.size v (fF l) ∧ Below w.heap.size w w' := by
 have N : Hid (aX w [(29, #[(.slice A l.length cp)]), (31, #[I 0, I 0, .slice none 0 0])] ((w.alloc (.cells #[(.slice A l.length cp)] 29)).alloc (.cells #[I 0, I 0, .slice none 0 0] 31))) := Lib.hid (((aX.none w).push (by simp) _ _).push (by simp) _ _)
 have e1 : decide ((l.length : Int) < 1) = false := decide_eq_false (by omega)
 have e2 : decide ((l.length : Int) > 8) = false := decide_eq_false (by omega)
 have H := Lib.hid (mM 1 l.length A cp l _ (hA.below N.out.be))
 rw [Ny l (by omega) (by omega), ha] at H
 obtain ⟨L, hL⟩ : ∃ L, fF l = L := ⟨_, rfl⟩
 have HM := Lib.hid (fun w' (h : aX w [(29, #[(.slice A l.length cp)]), (31, #[I 0, I 0, .slice none 0 0])] w') => qG 83 #[.pointer (some ⟨w.heap.size, 0, none⟩)] l.length l.length _ _ w' L false hL (yL _ _) h8 h8 Qy (Jg A cp w.heap.size l w' h8 (hA.below h.be) h.r0))
 rw [hL]
 clear h1 h8 ha hA hL
 have hmf := hmf
 go_enter Try.func57, Try.ntmps57
 go_wp2_with fail
 refine H.out.mono ?_
 rintro e w2 ⟨rfl, hb⟩
 have N2 := Lib.hid (N.out.below hb)
 clear hb
 go_wp2_with fail
 refine (HM.out _ N2.out).mono ?_
 rintro e w5 ⟨A2, c2, rfl, ho, hb⟩
 have O := Lib.hid ho
 have N5 := Lib.hid (N2.out.below hb)
 have L4 := N2.out.r1.lt
 clear ho hb
 have x1 := N5.out.r1.cell
 have g1 := N5.out.r1.free
 have t1 := N5.out.r1.lt
 go_wp2
 refine bodyPost_ret (Lc rfl rfl ((N5.out.r1.bQ _ _ _).alloc _)) rfl ⟨_, rfl, ?_, (Below.bQ N5.out.be (by omega) _ _ _).alloc (by have := N5.out.be.size; simp; omega) _⟩
 exact ((O.out.bQ (by omega) _ _ _).alloc _).lower (by omega)
end Go.Proofs.Ytnijhjbcjeohhaa.KK

namespace Go.Proofs.Ytnijhjbcjeohhaa.KK
open Go.RowKit Go.Proofs.af.aO Go.Proofs.af.aU Go.Proofs.af.aV
set_option linter.unusedVariables false
set_option linter.unusedSimpArgs false
theorem vI (r c : Nat) (l : List Int) : (yX r c l).length = c * r := upto_length
def Dy (n : Nat) (l : List Int) : List Int := iL lH n n l (yX n n l)
theorem Ot (n : Nat) (A : Option Addr) (cp : Nat) (l : List Int) (w : World) (hn : n ≤ 8) (hl : l.length = n * n) (hA : Rd w A l) (hcp : l.length ≤ cp) :
 Calls Try.prog 116 #[.agg #[I n, I n, .slice A l.length cp]] w fun e w' => ∃ v, e = .returned (.tuple #[.agg #[I n, I n, v], .bool (jv lH n n l (yX n n l)), I 0]) ∧ Own w' w.heap.size v (Dy n l) ∧ Below w.heap.size w w' := by
 have N : Hid (aX w [(31, #[I n, I n, .slice A l.length cp]), (31, #[I 0, I 0, .slice none 0 0])] ((w.alloc (.cells #[I n, I n, .slice A l.length cp] 31)).alloc (.cells #[I 0, I 0, .slice none 0 0] 31))) := Lib.hid (((aX.none w).push (by simp) _ _).push (by simp) _ _)
 have HA := Lib.hid hA
 have HT := Lib.hid (fun w' h => mJ n n A cp l w' hn hn hl h)
 have HE := Lib.hid (fun A' cp' w' h h' hc => Ou n n A A' cp cp' l (yX n n l) w' hn hn hl (vI n n l) h h' hcp hc)
 obtain ⟨T, hT⟩ : ∃ T, yX n n l = T := ⟨_, rfl⟩
 rw [hT] at HT HE
 unfold Dy
 rw [hT]
 obtain ⟨L, hL⟩ : ∃ L, iL lH n n l T = L := ⟨_, rfl⟩
 obtain ⟨b, hb⟩ : ∃ b, jv lH n n l T = b := ⟨_, rfl⟩
 rw [hL, hb] at HE
 rw [hL, hb]
 have KK : Hid (∀ w', aX w [(31, #[I n, I n, .slice A l.length cp]), (31, #[I 0, I 0, .slice none 0 0])] w' → ∀ o, w'.cell? ⟨w.heap.size, o, none⟩ = #[I n, I n, .slice A l.length cp][o]?) := Lib.hid (fun w' h => h.r0.cell)
 clear hn hl hA hcp hT hL hb
 have y0 := N.out.r0.cell
 go_enter Try.func116, Try.ntmps116
 go_wp2_with fail
 go_region_held3 (fun w' => ∀ o, w'.cell? ⟨w.heap.size, o, none⟩ = #[I n, I n, .slice A l.length cp][o]?)
  (first | with_reducible exact KK.out _ N3.out | with_reducible exact KK.out _ N2.out | with_reducible exact KK.out _ N.out.drew | exact (Row.oL N3.out.r0 (C := w.heap.size + 1) (by simp)).cell)
  (first
    | (go_at_call 115
       refine (HE.out _ _ _ (HA.out.below N2.out.be) RT.out CT.out).mono ?_
       rintro e w3 ⟨A3, c3, rfl, ho, hb⟩
       have O := Lib.hid ho
       have N3 := Lib.hid (N2.out.below hb)
       have L3 := N2.out.r1.lt
       have x1 := N3.out.r1.cell
       have g1 := N3.out.r1.free
       clear hb ho)
    | (go_at_call 77
       refine (HT.out _ (HA.out.below N.out.drew.be)).mono ?_
       rintro e w2 ⟨v, rfl, ho, hb⟩
       obtain ⟨A2, c2, rfl, ht, rt⟩ := ho.reads
       have RT := Lib.hid rt
       have CT := Lib.hid ht
       have N2 := Lib.hid (N.out.drew.below hb)
       clear hb ho rt ht))
 all_goals
  go_wp2
  refine bodyPost_ret (sG rfl rfl (N3.out.r1.bQ _ _ _)) rfl ⟨_, rfl, ?_, Below.bQ N3.out.be (by omega) _ _ _⟩
  exact (O.out.bQ (by omega) _ _ _).lower (by omega)
end Go.Proofs.Ytnijhjbcjeohhaa.KK

namespace Go.Proofs.Ytnijhjbcjeohhaa.EE
open Go.RowKit Go.Proofs.Ytnijhjbcjeohhaa.KK
set_option linter.unusedVariables false
set_option linter.unusedSimpArgs false
structure Cf where
 dt : Int
 acc : Int
 bias : Int
 iM : Int
 l7 : Int
 gate : Int
structure Tr where
 A : Option Addr
 c : Nat
 x : List Int
 B : Option Addr
 d : Nat
 p : List Int
structure Es where
 q0 : Int
 q1 : Int
 q2 : Int
 q3 : Int
 t0 : Tr
 t1 : Tr
 t2 : Tr
 steps : Int
 dO : Int
 f0 : Int
 f1 : Int
 f2 : Int
 f3 : Int
 sat : Bool
structure Sm where
 missing : Bool
 g0 : Int
 g1 : Int
 g2 : Int
 a0 : Int
 a1 : Int
 a2 : Int
 hasB : Bool
 iM : Int
 lQ : Bool
 n0 : Int
 n1 : Int
 n2 : Int
abbrev Cf.row (c : Cf) : Array Value := #[I c.dt, I c.acc, I c.bias, I c.iM, I c.l7, I c.gate]
abbrev Tr.row (t : Tr) : Array Value := #[I 3, I 1, .slice t.A t.x.length t.c, I 3, I 3, .slice t.B t.p.length t.d]
abbrev Es.row (e : Es) : Array Value :=
 #[I e.q0, I e.q1, I e.q2, I e.q3,
   I 3, I 1, .slice e.t0.A e.t0.x.length e.t0.c, I 3, I 3, .slice e.t0.B e.t0.p.length e.t0.d,
   I 3, I 1, .slice e.t1.A e.t1.x.length e.t1.c, I 3, I 3, .slice e.t1.B e.t1.p.length e.t1.d,
   I 3, I 1, .slice e.t2.A e.t2.x.length e.t2.c, I 3, I 3, .slice e.t2.B e.t2.p.length e.t2.d,
   I e.steps, I e.dO, I e.f0, I e.f1, I e.f2, I e.f3, .bool e.sat]
abbrev Sm.row (s : Sm) : Array Value :=
 #[.bool s.missing, I s.g0, I s.g1, I s.g2, I s.a0, I s.a1, I s.a2, .bool s.hasB, I s.iM, .bool s.lQ, I s.n0, I s.n1, I s.n2]
abbrev wk (c : Cf) (e : Es) (s : Sm) (a0 a1 a2 : Int) : Array Value :=
 #[I c.dt, I c.acc, I c.bias, I c.iM, I c.l7, I c.gate,
   I e.q0, I e.q1, I e.q2, I e.q3,
   I 3, I 1, .slice e.t0.A e.t0.x.length e.t0.c, I 3, I 3, .slice e.t0.B e.t0.p.length e.t0.d,
   I 3, I 1, .slice e.t1.A e.t1.x.length e.t1.c, I 3, I 3, .slice e.t1.B e.t1.p.length e.t1.d,
   I 3, I 1, .slice e.t2.A e.t2.x.length e.t2.c, I 3, I 3, .slice e.t2.B e.t2.p.length e.t2.d,
   I e.steps, I e.dO, I e.f0, I e.f1, I e.f2, I e.f3, .bool e.sat,
   .bool s.missing, I s.g0, I s.g1, I s.g2, I s.a0, I s.a1, I s.a2, .bool s.hasB, I s.iM, .bool s.lQ, I s.n0, I s.n1, I s.n2,
   I a0, I a1, I a2]
structure iC (w0 : World) (g : Nat) (c : Cf) (e : Es) (s : Sm) (a0 a1 a2 : Int) (w : World) : Prop where
 row : Row w g 89 (wk c e s a0 a1 a2)
 gr : w0.grownBy w (some g)
theorem vK (n m : Int) (w : World) (h0 : 0 ≤ n) (h1 : n ≤ 9223372036854775806) : Calls Try.prog 71 #[I n, I m] w fun e w' => e = .returned (I (min (n + 1) m)) ∧ w' = w := by
 have hw : IntKind.i64.wrap (n + 1) = n + 1 := IntWalk.i64_in _ (by omega)
 go_enter Try.func71, Try.ntmps71
 go_wp2
 go_ret
 exact ⟨by simp [Int.min_def], rfl⟩
theorem Row.put {w : World} {g : Nat} {t : TypeId} {cs : Array Value} (R : Row w g t cs) (i : Nat) (v : Value) (cs' : Array Value) (h : cs.setIfInBounds i v = cs') : Row (w.setCell ⟨g, i, none⟩ v) g t cs' := h ▸ R.set i v
theorem bP {w0 w : World} {g : Nat} (h : w0.grownBy w (some g)) (i : Nat) (v : Value) : w0.grownBy (w.setCell ⟨g, i, none⟩ v) (some g) :=
 ⟨h.os, h.tape, h.output, by simpa using h.size, fun k hk hr => (Below.heap_setCell w ⟨g, i, none⟩ v k (fun e => hr (by rw [e]))).trans (h.block k hk hr)⟩
theorem dY (w : World) (r : Option Nat) : w.grownBy w r := dA (Below.refl _ _) r
theorem grown_below {w0 w w1 : World} {r : Option Nat} (h : w0.grownBy w r) (hb : Below w.heap.size w w1) : w0.grownBy w1 r := bG h (dA hb r)
theorem kP (g : Nat) (c : Cf) (e : Es) (s : Sm) (a0 a1 a2 : Int) (b : Bool) (w : World) (R : Row w g 89 (wk c e s a0 a1 a2)) :
 Calls Try.prog 64 #[.pointer (some ⟨g, 0, none⟩), .bool b] w fun x w' => x = .returned (.tuple #[]) ∧ iC w g c { e with sat := e.sat || b } s a0 a1 a2 w' := by
 have hc := R.cell
 have hf := R.free
 cases hs : e.sat
 · go_enter Try.func64, Try.ntmps64
   go_wp2
   go_end0
   exact ⟨rfl, Row.put R 34 _ _ (by simp), bP (dY _ _) _ _⟩
 · go_enter Try.func64, Try.ntmps64
   go_wp2
   go_end0
   exact ⟨rfl, Row.put R 34 _ _ (by simp), bP (dY _ _) _ _⟩
theorem dK (g : Nat) (c : Cf) (e : Es) (s : Sm) (a0 a1 a2 q : Int) (b : Bool) (w : World) (R : Row w g 89 (wk c e s a0 a1 a2)) :
 Calls Try.prog 65 #[.pointer (some ⟨g, 0, none⟩), I q, .bool b] w fun x w' => x = .returned (I q) ∧ iC w g c { e with sat := e.sat || b } s a0 a1 a2 w' := by
 go_enter Try.func65, Try.ntmps65
 go_wp2_with fail
 refine (kP g c e s a0 a1 a2 b w R).mono ?_
 rintro x w1 ⟨rfl, hw⟩
 have HW := Lib.hid hw
 clear hw
 go_wp2
 go_ret
 exact ⟨rfl, HW.out⟩
theorem iC.step {w0 w w1 : World} {g : Nat} {c : Cf} {e e' : Es} {s : Sm} {a0 a1 a2 b0 b1 b2 : Int} (h : iC w0 g c e s a0 a1 a2 w) (k : iC w g c e' s b0 b1 b2 w1) : iC w0 g c e' s b0 b1 b2 w1 := ⟨k.row, bG h.gr k.gr⟩
theorem iC.below {w0 w w1 : World} {g : Nat} {c : Cf} {e : Es} {s : Sm} {a0 a1 a2 : Int} (h : iC w0 g c e s a0 a1 a2 w) (hb : Below w.heap.size w w1) : iC w0 g c e s a0 a1 a2 w1 := ⟨h.row.below hb h.row.lt, grown_below h.gr hb⟩
theorem iC.drew {w0 w : World} {g : Nat} {c : Cf} {e : Es} {s : Sm} {a0 a1 a2 : Int} (h : iC w0 g c e s a0 a1 a2 w) : iC w0 g c e s a0 a1 a2 w.drew := h.below (Below.refl _ _).drew
def cnt (e : Es) (s : Sm) : Es := { e with steps := min (e.steps + 1) 1099511627776, dO := if s.missing = true then min (e.dO + 1) 1000 else 0 }
theorem Iq (g : Nat) (c : Cf) (e : Es) (s : Sm) (a0 a1 a2 : Int) (w : World) (R : Row w g 89 (wk c e s a0 a1 a2)) (h0 : 0 ≤ e.steps) (h1 : e.steps ≤ 1099511627776) (h2 : 0 ≤ e.dO) (h3 : e.dO ≤ 1000) :
 Calls Try.prog 40 #[.pointer (some ⟨g, 0, none⟩)] w fun x w' => x = .returned (.tuple #[]) ∧ iC w g c (cnt e s) s a0 a1 a2 w' := by
 have HH := Lib.hid (And.intro (And.intro h0 h1) (And.intro h2 h3))
 clear h0 h1 h2 h3
 have hc := R.cell
 have hf := R.free
 go_enter Try.func40, Try.ntmps40
 go_wp2_with fail
 refine (vK _ _ _ HH.out.1.1 (by have := HH.out.1.2; omega)).mono ?_
 rintro x w1 ⟨rfl, rfl⟩
 cases hm : s.missing
 · go_wp2
   go_end0
   exact ⟨rfl, Row.put (Row.put R 28 _ _ rfl) 29 _ _ (by simp [cnt, hm]), bP (bP (dY _ _) _ _) _ _⟩
 · go_wp2_with fail
   refine (vK _ _ _ HH.out.2.1 (by have := HH.out.2.2; omega)).mono ?_
   rintro x w2 ⟨rfl, rfl⟩
   go_wp2
   go_end0
   exact ⟨rfl, Row.put (Row.put R 28 _ _ rfl) 29 _ _ (by simp [cnt, hm]), bP (bP (dY _ _) _ _) _ _⟩
end Go.Proofs.Ytnijhjbcjeohhaa.EE

namespace Go.Proofs.Ytnijhjbcjeohhaa.EE
open Go.RowKit Go.Proofs.Ytnijhjbcjeohhaa.KK
set_option linter.unusedVariables false
set_option linter.unusedSimpArgs false
structure Sw (w0 : World) (L : List (TypeId × Array Value)) (g : Nat) (C : Array Value) (w : World) : Prop where
 rows : KK.Rows w w0.heap.size L
 row : Row w g 89 C
 gr : w0.grownBy w (some g)
 lt : g < w0.heap.size
section
variable {w w' w0 : World} {g : Nat} {L : List (TypeId × Array Value)} {C : Array Value}
theorem Sw.of (R : Row w g 89 C) : Sw w [] g C w := ⟨trivial, R, dY _ _, R.lt⟩
theorem Sw.push (h : Sw w0 L g C w) (e : w.heap.size = w0.heap.size + L.length) (t : TypeId) (cs : Array Value) : Sw w0 (L ++ [(t, cs)]) g C (w.alloc (.cells cs t)) :=
 ⟨h.rows.push e t cs, h.row.alloc _, grown_below h.gr ((Below.refl _ _).alloc (Nat.le_refl _) _), h.lt⟩
theorem Sw.below (h : Sw w0 L g C w) (hb : Below w.heap.size w w') : Sw w0 L g C w' := ⟨h.rows.below hb, h.row.below hb h.row.lt, grown_below h.gr hb, h.lt⟩
theorem Sw.alloc (h : Sw w0 L g C w) (o : Obj) : Sw w0 L g C (w.alloc o) := h.below ((Below.refl _ _).alloc (Nat.le_refl _) o)
theorem Sw.drew (h : Sw w0 L g C w) : Sw w0 L g C w.drew := h.below (Below.refl _ _).drew
theorem Sw.work (h : Sw w0 L g C w) {c : Cf} {e : Es} {s : Sm} {a0 a1 a2 : Int} (k : iC w g c e s a0 a1 a2 w') : Sw w0 L g (wk c e s a0 a1 a2) w' :=
 ⟨h.rows.imp fun j t cs hk _ r => r.grown k.gr (fun e => by injection e with e; have := h.lt; omega), k.row, bG h.gr k.gr, h.lt⟩
theorem Sw.put (h : Sw w0 L g C w) (j : Nat) (t : TypeId) (cs : Array Value) (hr : Row w (w0.heap.size + j) t cs) (i : Nat) (u : Value) : Sw w0 (L.set j (t, cs.setIfInBounds i u)) g C (w.setCell ⟨w0.heap.size + j, i, none⟩ u) :=
 ⟨h.rows.wB j t _ (hr.set i u) fun k t cs hk r => r.far (by simpa using hk) u, h.row.far (by have := h.lt; simp; omega) u,
   ⟨h.gr.os, h.gr.tape, h.gr.output, by simpa using h.gr.size, fun k hk hr => (Below.heap_setCell w _ _ k (by simp; omega)).trans (h.gr.block k hk hr)⟩, h.lt⟩
variable {x0 x1 x2 x3 x4 x5 x6 : TypeId × Array Value}
theorem Sw.r0 (h : Sw w0 (x0 :: L) g C w) : Row w w0.heap.size x0.1 x0.2 := h.rows.1
theorem Sw.r1 (h : Sw w0 (x0 :: x1 :: L) g C w) : Row w (w0.heap.size + 1) x1.1 x1.2 := h.rows.2.1
theorem Sw.set (h : Sw w0 L g C w) {p : Addr} (hp : w0.heap.size + L.length ≤ p.block) (u : Value) : Sw w0 L g C (w.setCell p u) :=
 ⟨h.rows.imp fun k t cs _ hk r => r.far (by omega) u, h.row.far (by have := h.lt; omega) u,
   ⟨h.gr.os, h.gr.tape, h.gr.output, by simpa using h.gr.size, fun k hk hr => (Below.heap_setCell w _ _ k (by omega)).trans (h.gr.block k hk hr)⟩, h.lt⟩
abbrev iU (w : World) (C : Nat) (a b c d : Value) : World := (bQ w C a b c).setCell ⟨C, 3, none⟩ d
abbrev eY (w : World) (C : Nat) (a b c d e f : Value) : World := ((iU w C a b c d).setCell ⟨C, 4, none⟩ e).setCell ⟨C, 5, none⟩ f
theorem Sw.bQ (h : Sw w0 L g C w) {t : Nat} (hp : w0.heap.size + L.length ≤ t) (a b c : Value) : Sw w0 L g C (KK.bQ w t a b c) := ((h.set (p := ⟨t, 0, none⟩) hp _).set (p := ⟨t, 1, none⟩) hp _).set (p := ⟨t, 2, none⟩) hp _
theorem Sw.iU (h : Sw w0 L g C w) {t : Nat} (hp : w0.heap.size + L.length ≤ t) (a b c d : Value) : Sw w0 L g C (EE.iU w t a b c d) := (h.bQ hp a b c).set (p := ⟨t, 3, none⟩) hp _
theorem Sw.eY (h : Sw w0 L g C w) {t : Nat} (hp : w0.heap.size + L.length ≤ t) (a b c d e f : Value) : Sw w0 L g C (EE.eY w t a b c d e f) := ((h.iU hp a b c d).set (p := ⟨t, 4, none⟩) hp _).set (p := ⟨t, 5, none⟩) hp _
structure Tb (w0 : World) (n : Nat) (tb : Nat) (t : TypeId) (cs : Array Value) (w : World) : Prop where
 le : w0.heap.size + n ≤ tb
 row : Row w tb t cs
variable {tb n : Nat} {t : TypeId} {cs : Array Value}
theorem Sw.le (h : Sw w0 L g C w) : w0.heap.size + L.length ≤ w.heap.size := h.rows.le h.gr.size
theorem Tb.new (t : TypeId) (cs : Array Value) (h : Sw w0 L g C w) : Tb w0 L.length w.heap.size t cs (w.alloc (.cells cs t)) := ⟨h.le, Row.new _ _ _⟩
theorem Tb.jX (t : TypeId) (cs : Array Value) (h : Sw w0 [] g C w) : Tb w0 0 w.heap.size t cs (w.alloc (.cells cs t)) := Tb.new t cs h
theorem Sw.xW (h : Sw w0 [] g C w) {t : Nat} (hp : w0.heap.size + 0 ≤ t) (a b c d : Value) : Sw w0 [] g C (EE.iU w t a b c d) := h.iU hp a b c d
theorem Sw.jY (h : Sw w0 [] g C w) {t : Nat} (hp : w0.heap.size + 0 ≤ t) (a b c : Value) : Sw w0 [] g C (KK.bQ w t a b c) := h.bQ hp a b c
theorem Sw.JZ (h : Sw w0 [] g C w) {t : Nat} (hp : w0.heap.size + 0 ≤ t) (a b c d e f : Value) : Sw w0 [] g C (EE.eY w t a b c d e f) := h.eY hp a b c d e f
theorem Tb.below (h : Tb w0 n tb t cs w) (hb : Below w.heap.size w w') : Tb w0 n tb t cs w' := ⟨h.le, h.row.below hb h.row.lt⟩
theorem Tb.alloc (h : Tb w0 n tb t cs w) (o : Obj) : Tb w0 n tb t cs (w.alloc o) := ⟨h.le, h.row.alloc o⟩
theorem Tb.drew (h : Tb w0 n tb t cs w) : Tb w0 n tb t cs w.drew := ⟨h.le, h.row.drew⟩
theorem Tb.work (h : Tb w0 n tb t cs w) (hl : g < w0.heap.size) (hg : w.grownBy w' (some g)) : Tb w0 n tb t cs w' := ⟨h.le, h.row.grown hg (fun e => by injection e with e; have := h.le; omega)⟩
theorem Tb.up {w1 : World} (h : Tb w1 0 tb t cs w) (hl : w0.heap.size ≤ w1.heap.size) : Tb w0 0 tb t cs w := ⟨Nat.le_trans hl h.le, h.row⟩
theorem Sw.up {w1 : World} {C' : Array Value} (h : Sw w0 [] g C' w1) (k : Sw w1 [] g C w) : Sw w0 [] g C w := ⟨trivial, k.row, bG h.gr k.gr, h.lt⟩
theorem Aj {a b n : Nat} (h : a < n) (h' : n + 0 ≤ b) : a ≠ b := by omega
theorem Tb.oL (h : Tb w0 n tb t cs w) {k : Nat} (hk : tb ≠ k) (a b c : Value) : Tb w0 n tb t cs (KK.bQ w k a b c) := ⟨h.le, h.row.oL hk⟩
theorem Tb.oK (h : Tb w0 n tb t cs w) {k : Nat} (hk : tb ≠ k) (a b c d : Value) : Tb w0 n tb t cs (EE.iU w k a b c d) := ⟨h.le, (h.row.oL hk).far (p := ⟨k, 3, none⟩) hk d⟩
theorem Tb.rU (h : Tb w0 n tb t cs w) {k : Nat} (hk : tb ≠ k) (a b c d e f : Value) : Tb w0 n tb t cs (EE.eY w k a b c d e f) := ⟨h.le, (((h.oK hk a b c d).row.far (p := ⟨k, 4, none⟩) hk e).far (p := ⟨k, 5, none⟩) hk f)⟩
theorem Tb.bQ {a' b' c' : Value} (h : Tb w0 n tb t #[a', b', c'] w) (a b c : Value) : Tb w0 n tb t #[a, b, c] (KK.bQ w tb a b c) := ⟨h.le, h.row.bQ a b c⟩
theorem Tb.iU {a' b' c' d' : Value} (h : Tb w0 n tb t #[a', b', c', d'] w) (a b c d : Value) : Tb w0 n tb t #[a, b, c, d] (EE.iU w tb a b c d) := ⟨h.le, by simpa using (((h.row.set 0 a).set 1 b).set 2 c).set 3 d⟩
theorem Tb.eY {a' b' c' d' e' f' : Value} (h : Tb w0 n tb t #[a', b', c', d', e', f'] w) (a b c d e f : Value) : Tb w0 n tb t #[a, b, c, d, e, f] (EE.eY w tb a b c d e f) := ⟨h.le, by simpa using (((((h.row.set 0 a).set 1 b).set 2 c).set 3 d).set 4 e).set 5 f⟩
end
theorem o9 (a : Int) (w : World) : Calls Try.prog 86 #[I a] w fun e w' => e = .returned (.tuple #[I (PQ.cl a), .bool (PQ.od a)]) ∧ Below w.heap.size w w' := PQ.bT.calls a _ _ w (PQ.oZ a)
def Eb (a b c x y z : Int) : Nat → Array Value
 | 0 => #[I a, I b, I c]
 | 1 => #[I x, I b, I c]
 | 2 => #[I x, I y, I c]
 | _ => #[I x, I y, I z]
def Ye (s a b c : Bool) : Nat → Bool
 | 0 => s
 | 1 => s || a
 | 2 => (s || a) || b
 | _ => ((s || a) || b) || c
theorem jk (g : Nat) (c : Cf) (e : Es) (s : Sm) (a0 a1 a2 x y z : Int) (w : World) (R : Row w g 89 (wk c e s a0 a1 a2)) :
 Calls Try.prog 60 #[.pointer (some ⟨g, 0, none⟩), .agg #[I x, I y, I z]] w fun r w' => r = .returned (.agg #[I (PQ.cl x), I (PQ.cl y), I (PQ.cl z)]) ∧
  iC w g c { e with sat := ((e.sat || PQ.od x) || PQ.od y) || PQ.od z } s a0 a1 a2 w' := by
 have hg := R.lt
 have N : Hid (Sw w [(42, Eb x y z (PQ.cl x) (PQ.cl y) (PQ.cl z) 0), (42, #[I 0, I 0, I 0])] g (wk c { e with sat := Ye e.sat (PQ.od x) (PQ.od y) (PQ.od z) 0 } s a0 a1 a2) ((w.alloc (.cells #[I x, I y, I z] 42)).alloc (.cells #[I 0, I 0, I 0] 42))) :=
  Lib.hid (((Sw.of R).push (by simp) _ _).push (by simp) _ _)
 clear R
 go_enter Try.func60, Try.ntmps60
 go_wp2_with fail
 go_loopw [8] (fun i wr => ∃ k : Nat, k ≤ 3 ∧ i = .int .i64 k ∧ Hid (Sw w [(42, Eb x y z (PQ.cl x) (PQ.cl y) (PQ.cl z) k), (42, #[I 0, I 0, I 0])] g (wk c { e with sat := Ye e.sat (PQ.od x) (PQ.od y) (PQ.od z) k } s a0 a1 a2) wr)) (fun i _ => 3 - (intOf i).toNat)
 case atStart => exact ⟨0, by omega, rfl, N⟩
 case round =>
  clear N
  obtain ⟨k, hk, rfl, M⟩ := hrel
  have ix0 : ∀ w', (Instr.index 42 (.agg #[I x, I y, I z]) (.int .i64 0)).run Try.prog w' = .ok (I x) w' := fun w' => by kernel_rfl
  have ix1 : ∀ w', (Instr.index 42 (.agg #[I x, I y, I z]) (.int .i64 1)).run Try.prog w' = .ok (I y) w' := fun w' => by kernel_rfl
  have ix2 : ∀ w', (Instr.index 42 (.agg #[I x, I y, I z]) (.int .i64 2)).run Try.prog w' = .ok (I z) w' := fun w' => by kernel_rfl
  obtain rfl | rfl | rfl | rfl : k = 0 ∨ k = 1 ∨ k = 2 ∨ k = 3 := by omega
  rotate_left 3
  · have c0 := M.out.r0.cell
    have c1 := M.out.r1.cell
    have f1 := M.out.r1.free
    simp only [Eb] at c0
    go_wp2
    have HB : Hid (Sw w [(42, #[I (PQ.cl x), I (PQ.cl y), I (PQ.cl z)]), (42, #[I (PQ.cl x), I (PQ.cl y), I (PQ.cl z)])] g (wk c { e with sat := ((e.sat || PQ.od x) || PQ.od y) || PQ.od z } s a0 a1 a2) (bQ wr (w.heap.size + 1) (I (PQ.cl x)) (I (PQ.cl y)) (I (PQ.cl z)))) :=
     Lib.hid (by
      have h0 := M.out.put 1 42 _ M.out.r1 0 (I (PQ.cl x))
      have h1 := h0.put 1 42 _ h0.r1 1 (I (PQ.cl y))
      exact h1.put 1 42 _ h1.r1 2 (I (PQ.cl z)))
    refine bodyPost_ret (results_cell_row rfl _ _ (w.heap.size + 1) 42 _ (0, 0) _ rfl HB.out.r1 Try.underlying42 rfl rfl) rfl ⟨rfl, HB.out.row, HB.out.gr⟩
  all_goals
   go_wp2_with fail
   refine (o9 _ _).mono ?_
   rintro r w1 ⟨rfl, hb⟩
   have M1 := Lib.hid (M.out.below hb)
   clear hb M
   go_wp2_with fail
   refine (dK g c _ s a0 a1 a2 _ _ _ M1.out.row).mono ?_
   rintro r w2 ⟨rfl, hw⟩
   have M2 := Lib.hid (M1.out.work hw)
   clear hw M1
   have c0 := M2.out.r0.cell
   have f0 := M2.out.r0.free
   simp only [Eb] at c0
   go_wp2
   go_roundw
  case rel => exact ⟨1, by omega, by go_num, Lib.hid (M2.out.put 0 42 _ M2.out.r0 0 (I (PQ.cl x)))⟩
  case rel => exact ⟨2, by omega, by go_num, Lib.hid (M2.out.put 0 42 _ M2.out.r0 1 (I (PQ.cl y)))⟩
  case rel => exact ⟨3, by omega, by go_num, Lib.hid (M2.out.put 0 42 _ M2.out.r0 2 (I (PQ.cl z)))⟩
  all_goals simp [intOf]
end Go.Proofs.Ytnijhjbcjeohhaa.EE

