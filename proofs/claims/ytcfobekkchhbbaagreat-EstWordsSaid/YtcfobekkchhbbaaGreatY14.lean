import Derived.Test.YtcfobekkchhbbaaGreatY13
import Derived.StillTailTactics
import Derived.Test.YtcfobekkchhbbaaGreatY10
import Derived.Test.YtcfobekkchhbbaaGreatY5
import Derived.Test.YtcfobekkchhbbaaGreatY9
/- Joined and thinned by a program of this session's own (wip/pack2.py) out of its texts (wip/ of its repo); parts were laid by its own program (wip/print-patch.py over the kit's print) out of the translation; Lean checks all. -/
set_option maxRecDepth 100000
set_option maxHeartbeats 4000000
namespace Go.Proofs.YtcfobekkchhbbaaGreat.EE
open Go.RowKit Go.Proofs.YtcfobekkchhbbaaGreat.KK Go.Proofs.af.aQ Go.Proofs.af.a_ Go.Proofs.af.bg
set_option linter.unusedVariables false
set_option linter.unusedSimpArgs false
structure Rv (w : World) (e : Es) (l : List Int) (v : Value) (wl : World) : Prop where
 sc : bD w [(35, e.R)] wl
 own : v_ wl (w.heap.size + 1) v l
section
variable {w wl w2 : World} {e : Es} {l m : List Int} {v v' : Value}
theorem Rv.size (h : Rv w e l v wl) : w.heap.size + 1 ≤ wl.heap.size := h.sc.r0.lt
theorem Rv.alloc (h : Rv w e l v wl) (o : Obj) : Rv w e l v (wl.alloc o) :=
 ⟨h.sc.alloc o, kY h.own fun k hk => ((Below.refl wl.heap.size wl).alloc (Nat.le_refl _) o).block k (h.own.lt k hk).2⟩
theorem Rv.next (h : Rv w e l v wl) (h1 : v_ w2 (w.heap.size + 1) v' m) (hg : wl.grownBy w2 v.ownBlock) : Rv w e m v' w2 :=
 ⟨h.sc.app hg (fun g e => (h.own.lt g e).1), h1⟩
theorem Rv.far (h : Rv w e l v wl) {B : Nat} (hB : wl.heap.size ≤ B) : v.ownBlock ≠ some B := fun e => by have := (h.own.lt _ e).2; omega
end
theorem jF (w : World) {ops : Array Oper} {rest : List Oper} {o : Oper} {a : Act} {Q : Exit → Act → World → Prop} (hgd : o.guard = none) (s x : Operand)
 (ho : o.op = .call { callee := .builtin .append, args := #[s, x], argTypes := #[46, 46] })
 (base : Nat) (v : Value) (b n c : Nat) (l m : List Int) (N : Nat) (hN : (l ++ m).length = N) (hs : a.eval s = v) (hy : a.eval x = .slice (some ⟨b, 0, none⟩) n c) (hn : m.length = n) (hown : v_ w base v l) (hbase : base ≤ w.heap.size) (hx : Row w b 2 (m.map I).toArray) (hlen : l.length ≤ 1000) (hm : m.length ≤ 1000)
 (h : ∀ A c' w', v_ w' base (.slice A N c') (l ++ m) → w.grownBy w' v.ownBlock → ((Value.slice A N c').ownBlock = v.ownBlock ∨ (Value.slice A N c').ownBlock = some w.heap.size) → wpList Tryz.prog ops Q rest (a.put o.dst (.slice A N c')) w') (h0 : 0 < m.length) :
 wpList Tryz.prog ops Q (o :: rest) a w := by
 obtain ⟨i0, hi0, hz0, hz1, hz2⟩ := info_parts DW
 refine wpList_append_own_at w hgd s x 46 ho base 2 i0 (I 0) 1 8 Tryz.underlying46 hi0 hz0 hz1 hz2 rfl (by omega) v l.length (l.map I) hs hown ⟨b, 0, none⟩ n c (m.map I) hy (by simp [hn]) ?_ ?_ (by simp only [maxLen]; omega) (by omega) hbase ?_
 · intro j u hj
   have := hx.cell j
   rw [List.getElem?_toArray, hj] at this
   unfold Addr.add
   split
   · next hz =>
     subst hz
     exact this
   · simpa using this
 · intro u hu
   obtain ⟨z, _, rfl⟩ := List.mem_map.1 hu
   rfl
 · intro v' w' hown' hg _ hat
   have e : l.map I ++ m.map I = (l ++ m).map I := by simp
   have e2 : l.length + n = (l ++ m).length := by simp [hn]
   rw [e, e2] at hown'
   have ho := hown'
   rcases hown'.2 with ⟨rfl, h0'⟩ | ⟨g, cap, cur, rfl, _⟩
   · simp at h0'
     rw [h0'.2] at h0
     simp at h0
   · subst hN
     exact h _ _ w' ho hg hat
def Dz (p : List Int) : Nat → List Int
 | 0 => []
 | 1 => p.take 3
 | 2 => p.take 3 ++ [p.getD 4 0, p.getD 5 0]
 | _ => p.take 3 ++ [p.getD 4 0, p.getD 5 0] ++ [p.getD 8 0]
structure Ra (w : World) (e : Es) (B : Nat) (C : Array Value) (l : List Int) (v : Value) (wl : World) : Prop where
 rv : Rv w e l v wl
 row : Row wl B 31 C
 ne : v.ownBlock ≠ some B
theorem yX (w wl : World) (e : Es) (B : Nat) (C : Array Value) (l : List Int) (v : Value) (y : Int) {ops : Array Oper} {rest : List Oper} {o : Oper} {a : Act} {Q : Exit → Act → World → Prop} (hgd : o.guard = none) (s x : Operand)
 (ho : o.op = .call { callee := .builtin .append, args := #[s, x], argTypes := #[46, 46] })
 (W : Ra w e B C l v wl) (hs : a.eval s = v) (hx : a.eval x = .slice (some ⟨wl.heap.size, 0, none⟩) 1 1) (hl : l.length ≤ 999)
 (h : ∀ v' w', Ra w e B C (l ++ [y]) v' w' → wpList Tryz.prog ops Q rest (a.put o.dst v') w') :
 wpList Tryz.prog ops Q (o :: rest) a (wl.alloc (.cells #[I y] 2)) := by
 have OA := W.rv.alloc (.cells #[I y] 2)
 refine jF _ hgd s x ho (w.heap.size + 1) v wl.heap.size 1 1 l [y] (l ++ [y]).length rfl hs hx rfl OA.own OA.size (Row.new wl 2 #[I y]) (by omega) (by simp) ?_ (by simp)
 intro A c' w' h1 h2 h3
 refine h _ w' ⟨OA.next h1 h2, Row.grown (W.row.alloc _) h2 (fun e => W.ne e.symm), ?_⟩
 rcases h3 with h3 | h3
 · rw [h3]
   exact W.ne
 · rw [h3]
   intro e
   injection e with e
   have := W.row.lt
   simp at e
   omega
def tri (p : List Int) (k m : Nat) : List Int := Dz p k ++ (p.drop (4 * k)).take (m - k)
theorem Ql {l : List Int} (h : l.length = 9) : ∃ a b c d e f g i j, l = [a, b, c, d, e, f, g, i, j] := by
 match l, h with
 | [a, b, c, d, e, f, g, i, j], _ => exact ⟨a, b, c, d, e, f, g, i, j, rfl⟩
theorem PM {p : List Int} (h : p.length = 9) {k : Nat} (hk : k + 1 ≤ 3) : tri p k 3 = tri p (k + 1) (k + 1) := by
 obtain ⟨a, b, c, d, e, f, g, i, j, rfl⟩ := Ql h
 obtain rfl | rfl | rfl : k = 0 ∨ k = 1 ∨ k = 2 := by omega
 all_goals rfl
theorem PN {p : List Int} (h : p.length = 9) {k m : Nat} {y : Int} (h1 : k ≤ m) (h2 : m + 1 ≤ 3) (hy : p[3 * k + m]? = some y) : tri p k m ++ [y] = tri p k (m + 1) := by
 obtain ⟨a, b, c, d, e, f, g, i, j, rfl⟩ := Ql h
 obtain rfl | rfl | rfl : k = 0 ∨ k = 1 ∨ k = 2 := by omega
 all_goals obtain rfl | rfl | rfl : m = 0 ∨ m = 1 ∨ m = 2 := by omega
 all_goals first | omega | (injection hy with hy; subst hy; rfl)
theorem SG {p : List Int} (h : p.length = 9) (k m : Nat) : (tri p k m).length ≤ 15 := by
 obtain ⟨a, b, c, d, e, f, g, i, j, rfl⟩ := Ql h
 have h2 : ∀ k, (Dz [a, b, c, d, e, f, g, i, j] k).length ≤ 6 := fun k => by
  match k with
  | 0 => simp [Dz]
  | 1 => simp [Dz]
  | 2 => simp [Dz]
  | k + 3 => simp [Dz]
 have h3 := h2 k
 unfold tri
 simp only [List.length_append, List.length_take, List.length_drop]
 simp only [List.length_cons, List.length_nil]
 omega
theorem SA (e : Es) {j : Nat} (h : j < 3) : e.wd (j + 1) = (e.wd j ++ (e.ax j).x) ++ Dz (e.ax j).p 3 := by
 obtain rfl | rfl | rfl : j = 0 ∨ j = 1 ∨ j = 2 := by omega
 all_goals simp [Es.wd, Tr.words, Dz, Es.ax, List.append_assoc]
theorem CB {w : World} {A : Option Addr} {l : List Int} (h : Rd w A l) (h0 : 0 < l.length) : ∃ b off, A = some ⟨b, off, none⟩ ∧ ∀ wl, Below w.heap.size w wl → ∀ k y, l[k]? = some y → wl.cell? ⟨b, off + k, none⟩ = some (I y) := by
 obtain ⟨b, off, rfl, _, _⟩ := h.cells h0
 refine ⟨b, off, rfl, fun wl hb k y hy => ?_⟩
 obtain ⟨b', off', e, _, hc⟩ := (h.below hb).cells h0
 injection e with e
 injection e with e1 e2
 subst e1 e2
 exact hc k y hy
theorem Bc (e : Es) (w : World) (hr : ∀ j, j < 3 → Rw w (e.ax j)) (hl : ∀ j, j < 3 → (e.ax j).x.length = 3 ∧ (e.ax j).p.length = 9) :
 Calls Tryz.prog 21 #[.agg e.R] w fun x w' => ∃ A c, x = .returned (.slice A 38 c) ∧ Rd w' A e.words ∧ Below w.heap.size w w' := by
 have HR := Lib.hid hr
 have HL := Lib.hid hl
 clear hr hl
 have W0 : Hid (Rv w e [] (.slice none 0 0) (w.alloc (.cells e.R 35))) := Lib.hid ⟨(bD.none w).push (by simp) _ _, World.ownsRow_nil _ _ _ _⟩
 go_enter Tryz.func21, Tryz.ntmps21
 go_upto_region 2 with fail
 generalize w.alloc (.cells e.R 35) = w1 at W0 ⊢
 go_wp2_with fail
 go_loopw [3, 4] (fun v3 i wl => ∃ (k : Nat) (v : Value), k ≤ 4 ∧ i = .int .i64 k ∧ v = v3 ∧ Hid (Rv w e (e.w0.take k) v wl)) (fun _ i _ => 4 - (intOf i).toNat)
 case atStart => exact ⟨0, _, by omega, rfl, rfl, W0⟩
 case round =>
  clear W0
  obtain ⟨k, v, hk, rfl, rfl, W⟩ := hrel
  by_cases hkl : k = 4
  · subst hkl
    have W1 : Hid (Rv w e (e.wd 0) v wr) := W
    clear W
    go_upto_region 6 with fail
    generalize Value.int IntKind.i64 ((4 : Nat) : Int) = z4
    go_wp2_with fail
    go_loopw [3, 5] (fun v3 i wl => ∃ (j : Nat) (v : Value), j ≤ 3 ∧ i = .int .i64 j ∧ v = v3 ∧ Hid (Rv w e (e.wd j) v wl)) (fun _ i _ => 3 - (intOf i).toNat)
    case atStart => exact ⟨0, _, by omega, rfl, rfl, W1⟩
    case round =>
     clear W1
     obtain ⟨j, v, hj, rfl, rfl, W⟩ := hrel
     obtain rfl | hj3 : j = 3 ∨ j < 3 := by omega
     · have hc : ∀ i, wr.cell? ⟨w.heap.size, i, none⟩ = e.row[i]? := W.out.sc.r0.cell
       have L31 : Hid ((e.wd 3).length = 31) := Lib.hid (wQ e HL.out _ (by decide))
       have OA : Hid (Rv w e (e.wd 3) v (wr.alloc (.cells #[I e.steps, I e.dM, I e.f0, I e.f1, I e.f2, I e.f3] 2))) := Lib.hid (W.out.alloc _)
       have HS : Hid (w.heap.size + 1 ≤ (wr.alloc (.cells #[I e.steps, I e.dM, I e.f0, I e.f1, I e.f2, I e.f3] 2)).heap.size) := Lib.hid OA.out.size
       have RX : Hid (Row (wr.alloc (.cells #[I e.steps, I e.dM, I e.f0, I e.f1, I e.f2, I e.f3] 2)) wr.heap.size 2 (([e.steps, e.dM, e.f0, e.f1, e.f2, e.f3] : List Int).map I).toArray) := Lib.hid (Row.new wr 2 #[I e.steps, I e.dM, I e.f0, I e.f1, I e.f2, I e.f3])
       have LN : Hid ((([e.steps, e.dM, e.f0, e.f1, e.f2, e.f3] : List Int).length = 6) ∧ ((e.wd 3).length ≤ 1000) ∧ (([e.steps, e.dM, e.f0, e.f1, e.f2, e.f3] : List Int).length ≤ 1000) ∧ 0 < ([e.steps, e.dM, e.f0, e.f1, e.f2, e.f3] : List Int).length ∧ (e.wd 3 ++ [e.steps, e.dM, e.f0, e.f1, e.f2, e.f3]).length = 37) := Lib.hid ⟨rfl, by rw [L31.out]; decide, by simp, by simp, by rw [List.length_append, L31.out]; rfl⟩
       go_upto_region 22 with (with_reducible refine jF _ rfl (.tmp 63) (.tmp 80) rfl (w.heap.size + 1) v wr.heap.size 6 6 (e.wd 3) [e.steps, e.dM, e.f0, e.f1, e.f2, e.f3] 37 LN.out.2.2.2.2 rfl rfl LN.out.1 OA.out.own HS.out RX.out LN.out.2.1 LN.out.2.2.1 ?_ LN.out.2.2.2.1)
       intro A c' w2 h1 h2 h3
       have W2 := Lib.hid (OA.out.next h1 h2)
       clear h1 h2 h3 OA HS RX hc LN W
       cases hs : e.sat
       · have XT : Hid ((e.wd 3 ++ [e.steps, e.dM, e.f0, e.f1, e.f2, e.f3]).length = 37) := Lib.hid (by rw [List.length_append, L31.out]; rfl)
         obtain ⟨M, hM⟩ : ∃ M, M = e.wd 3 ++ [e.steps, e.dM, e.f0, e.f1, e.f2, e.f3] := ⟨_, rfl⟩
         rw [← hM] at W2 XT
         have EM : Hid (M ++ [0] = e.words) := Lib.hid (by rw [hM]; unfold Es.words Es.w7; rw [hs, List.append_assoc]; rfl)
         have E38 : Hid ((M ++ [(0 : Int)]).length = 38) := Lib.hid (by rw [List.length_append, XT.out]; rfl)
         have hc : ∀ i, w2.cell? ⟨w.heap.size, i, none⟩ = e.row[i]? := W2.out.sc.r0.cell
         have OA : Hid (Rv w e M (.slice A 37 c') (w2.alloc (.cells #[I 0] 2))) := Lib.hid (W2.out.alloc _)
         have HS : Hid (w.heap.size + 1 ≤ (w2.alloc (.cells #[I 0] 2)).heap.size) := Lib.hid OA.out.size
         have RX : Hid (Row (w2.alloc (.cells #[I 0] 2)) w2.heap.size 2 (([0] : List Int).map I).toArray) := Lib.hid (Row.new w2 2 #[I 0])
         have LN : Hid ((([0] : List Int).length = 1) ∧ (M.length ≤ 1000) ∧ (([0] : List Int).length ≤ 1000) ∧ 0 < ([0] : List Int).length ∧ (M ++ [(0 : Int)]).length = 38) := Lib.hid ⟨rfl, by rw [XT.out]; decide, by simp, by simp, E38.out⟩
         clear hM W2
         go_wp2_with (with_reducible refine jF _ rfl (.tmp 87) (.tmp 88) rfl (w.heap.size + 1) (.slice A 37 c') w2.heap.size 1 1 M [0] 38 LN.out.2.2.2.2 rfl rfl LN.out.1 OA.out.own HS.out RX.out LN.out.2.1 LN.out.2.2.1 ?_ LN.out.2.2.2.1)
         intro A2 c2 w3 h1 h2 h3
         have W3 := Lib.hid (OA.out.next h1 h2)
         clear h1 h2 h3 OA HS RX hc LN
         have RDX : Hid (Rd w3 A2 e.words) := Lib.hid (by rw [← EM.out]; exact Fz W3.out.own)
         go_wp2
         exact bodyPost_ret (results_tmp rfl _ _ _) rfl ⟨A2, c2, rfl, RDX.out, W3.out.sc.be⟩
       · have XT : Hid ((e.wd 3 ++ [e.steps, e.dM, e.f0, e.f1, e.f2, e.f3]).length = 37) := Lib.hid (by rw [List.length_append, L31.out]; rfl)
         obtain ⟨M, hM⟩ : ∃ M, M = e.wd 3 ++ [e.steps, e.dM, e.f0, e.f1, e.f2, e.f3] := ⟨_, rfl⟩
         rw [← hM] at W2 XT
         have EM : Hid (M ++ [1] = e.words) := Lib.hid (by rw [hM]; unfold Es.words Es.w7; rw [hs, List.append_assoc]; rfl)
         have E38 : Hid ((M ++ [(1 : Int)]).length = 38) := Lib.hid (by rw [List.length_append, XT.out]; rfl)
         have hc : ∀ i, w2.cell? ⟨w.heap.size, i, none⟩ = e.row[i]? := W2.out.sc.r0.cell
         have OA : Hid (Rv w e M (.slice A 37 c') (w2.alloc (.cells #[I 1] 2))) := Lib.hid (W2.out.alloc _)
         have HS : Hid (w.heap.size + 1 ≤ (w2.alloc (.cells #[I 1] 2)).heap.size) := Lib.hid OA.out.size
         have RX : Hid (Row (w2.alloc (.cells #[I 1] 2)) w2.heap.size 2 (([1] : List Int).map I).toArray) := Lib.hid (Row.new w2 2 #[I 1])
         have LN : Hid ((([1] : List Int).length = 1) ∧ (M.length ≤ 1000) ∧ (([1] : List Int).length ≤ 1000) ∧ 0 < ([1] : List Int).length ∧ (M ++ [(1 : Int)]).length = 38) := Lib.hid ⟨rfl, by rw [XT.out]; decide, by simp, by simp, E38.out⟩
         clear hM W2
         go_wp2_with (with_reducible refine jF _ rfl (.tmp 84) (.tmp 85) rfl (w.heap.size + 1) (.slice A 37 c') w2.heap.size 1 1 M [1] 38 LN.out.2.2.2.2 rfl rfl LN.out.1 OA.out.own HS.out RX.out LN.out.2.1 LN.out.2.2.1 ?_ LN.out.2.2.2.1)
         intro A2 c2 w3 h1 h2 h3
         have W3 := Lib.hid (OA.out.next h1 h2)
         clear h1 h2 h3 OA HS RX hc LN
         have RDX : Hid (Rd w3 A2 e.words) := Lib.hid (by rw [← EM.out]; exact Fz W3.out.own)
         go_wp2
         exact bodyPost_ret (results_tmp rfl _ _ _) rfl ⟨A2, c2, rfl, RDX.out, W3.out.sc.be⟩
     · have HJ := Lib.hid hj3
       have hj0 : (j : Int) < 3 := by omega
       clear hj3 hj
       go_upto_region 9 with fail
       go_cut [3, 5, 6] (fun v3 v5 v6 wl => ∃ B : Nat, v3 = v ∧ v5 = .int .i64 (j : Int) ∧ v6 = .pointer (some ⟨B, 0, none⟩) ∧ Hid (Ra w e B (e.ax j).row (e.wd j) v wl))
       case first =>
        have hc : ∀ i, wr.cell? ⟨w.heap.size, i, none⟩ = e.row[i]? := W.out.sc.r0.cell
        have NE : Hid (v.ownBlock ≠ some wr.heap.size) := Lib.hid (W.out.far (Nat.le_refl _))
        have HJJ := HJ.out
        obtain rfl | rfl | rfl : j = 0 ∨ j = 1 ∨ j = 2 := by omega
        · go_wp2
          go_meet
          exact ⟨wr.heap.size, rfl, rfl, rfl, Lib.hid ⟨W.out.alloc _, Row.new _ _ _, NE.out⟩⟩
        · go_wp2
          go_meet
          exact ⟨wr.heap.size, rfl, rfl, rfl, Lib.hid ⟨W.out.alloc _, Row.new _ _ _, NE.out⟩⟩
        · go_wp2
          go_meet
          exact ⟨wr.heap.size, rfl, rfl, rfl, Lib.hid ⟨W.out.alloc _, Row.new _ _ _, NE.out⟩⟩
       case rest =>
        clear W
        obtain ⟨B, rfl, rfl, rfl, W⟩ := hcut
        have HJL := Lib.hid (HL.out j HJ.out)
        have LW : Hid ((e.wd j).length ≤ 40) := Lib.hid (by rw [wQ e HL.out j (by have := HJ.out; omega)]; have := HJ.out; omega)
        have RJ := Lib.hid (HR.out j HJ.out)
        have WD : Hid (e.wd (j + 1) = (e.wd j ++ (e.ax j).x) ++ Dz (e.ax j).p 3) := Lib.hid (SA e HJ.out)
        generalize e.ax j = t at W HJL RJ WD
        obtain ⟨A, c, x, B2, d, p⟩ := t
        have lx : x.length = 3 := HJL.out.1
        have lp : p.length = 9 := HJL.out.2
        obtain ⟨bx, ox, hA, hx⟩ := CB RJ.out.x (by rw [lx]; decide)
        obtain ⟨bp, op, hP, hp⟩ := CB RJ.out.p (by rw [lp]; decide)
        have hA' : A = some ⟨bx, ox, none⟩ := hA
        have hP' : B2 = some ⟨bp, op, none⟩ := hP
        subst hA' hP'
        have HX := Lib.hid hx
        have HP := Lib.hid hp
        obtain ⟨C, hC⟩ : ∃ C : Array Value, C = #[I 3, I 1, .slice (some ⟨bx, ox, none⟩) 3 c, I 3, I 3, .slice (some ⟨bp, op, none⟩) 9 d] := ⟨_, rfl⟩
        have W0 : Hid (Ra w e B C (e.wd j ++ x.take 0) u3 wc) := Lib.hid (by
         have h := W.out
         unfold Tr.row at h
         rw [show (Tr.x ⟨some ⟨bx, ox, none⟩, c, x, some ⟨bp, op, none⟩, d, p⟩).length = 3 from lx, show (Tr.p ⟨some ⟨bx, ox, none⟩, c, x, some ⟨bp, op, none⟩, d, p⟩).length = 9 from lp] at h
         rw [hC]
         simpa using h)
        have LX := Lib.hid lx
        have LP := Lib.hid lp
        clear hA hP hx hp W HJL RJ lx lp
        have HC : Hid (∀ wl, Row wl B 31 C → ∀ i, wl.cell? ⟨B, i, none⟩ = #[I 3, I 1, .slice (some ⟨bx, ox, none⟩) 3 c, I 3, I 3, .slice (some ⟨bp, op, none⟩) 9 d][i]?) := Lib.hid (fun wl h => by
         rw [hC] at h
         exact h.cell)
        clear hC
        go_wp2_with fail
        go_loopw [3, 7] (fun v3 v7 wl => ∃ (k : Nat) (v : Value), k ≤ 3 ∧ v7 = .int .i64 k ∧ v = v3 ∧ Hid (Ra w e B C (e.wd j ++ x.take k) v wl)) (fun _ i _ => 3 - (intOf i).toNat)
        case atStart => exact ⟨0, _, by omega, rfl, rfl, W0⟩
        case round =>
         clear W0
         obtain ⟨k, v, hk, rfl, rfl, W⟩ := hrel
         by_cases hk3 : k = 3
         · subst hk3
           have W0 : Hid (Ra w e B C ((e.wd j ++ x) ++ tri p 0 0) v wr) := Lib.hid (by
            have h := W.out
            rw [show x.take 3 = x from by rw [← LX.out, List.take_length]] at h
            simpa [tri, Dz] using h)
           clear W
           go_upto_region 14 with fail
           generalize Value.int IntKind.i64 ((3 : Nat) : Int) = z7
           go_wp2_with fail
           go_loopw [3, 8] (fun v3 v8 wl => ∃ (k : Nat) (v : Value), k ≤ 3 ∧ v8 = .int .i64 k ∧ v = v3 ∧ Hid (Ra w e B C ((e.wd j ++ x) ++ tri p k k) v wl)) (fun _ i _ => 3 - (intOf i).toNat)
           case atStart => exact ⟨0, _, by omega, rfl, rfl, W0⟩
           case round =>
            clear W0
            obtain ⟨k, v, hk, rfl, rfl, W⟩ := hrel
            by_cases hk3 : k = 3
            · subst hk3
              have W0 : Hid (Rv w e (e.wd (j + 1)) v wr) := Lib.hid (by
               have h := W.out.rv
               rw [WD.out]
               simpa [tri] using h)
              clear W
              have hw : IntKind.i64.wrap ((j : Int) + 1) = (j : Int) + 1 := IntWalk.i64_in _ (by have := HJ.out; omega)
              go_wp2
              generalize Value.int IntKind.i64 ((3 : Nat) : Int) = z8
              go_roundw
              case rel => exact ⟨j + 1, _, HJ.out, by go_num, rfl, W0⟩
              case measure =>
               have := HJ.out
               show 3 - ((j : Int) + 1).toNat < 3 - (j : Int).toNat
               omega
            · have hk2 : (k : Int) < 3 := by omega
              have HK : Hid (k + 1 ≤ 3) := Lib.hid (by omega)
              clear hk3 hk
              go_wp2_with fail
              go_loopw [3, 9] (fun v3 v9 wl => ∃ (m : Nat) (v : Value), k ≤ m ∧ m ≤ 3 ∧ v9 = .int .i64 m ∧ v = v3 ∧ Hid (Ra w e B C ((e.wd j ++ x) ++ tri p k m) v wl)) (fun _ i _ => 3 - (intOf i).toNat)
              case atStart => exact ⟨k, _, Nat.le_refl _, by have := HK.out; omega, rfl, rfl, W⟩
              case round =>
               clear W
               obtain ⟨m, v, hkm, hm, rfl, rfl, W⟩ := hrel
               by_cases Xj : m = 3
               · subst Xj
                 have W2 : Hid (Ra w e B C ((e.wd j ++ x) ++ tri p (k + 1) (k + 1)) v wr) := Lib.hid (by
                  have h := W.out
                  rw [PM LP.out HK.out] at h
                  exact h)
                 have hw : IntKind.i64.wrap ((k : Int) + 1) = (k : Int) + 1 := IntWalk.i64_in _ (by have := HK.out; omega)
                 clear W
                 go_wp2
                 generalize Value.int IntKind.i64 ((3 : Nat) : Int) = z9
                 go_roundw
                 case rel => exact ⟨k + 1, _, HK.out, by go_num, rfl, W2⟩
                 case measure =>
                  have := HK.out
                  show 3 - ((k : Int) + 1).toNat < 3 - (k : Int).toNat
                  omega
               · have hm2 : (m : Int) < 3 := by omega
                 have HM : Hid (k ≤ m ∧ m + 1 ≤ 3) := Lib.hid (by omega)
                 obtain ⟨k3, hk3⟩ : ∃ k3 : Nat, k3 = 3 * k := ⟨_, rfl⟩
                 obtain ⟨n, hn⟩ : ∃ n : Nat, n = 3 * k + m := ⟨_, rfl⟩
                 have hw1 : IntKind.i64.wrap (3 * (k : Int)) = (k3 : Int) := by rw [IntWalk.i64_in _ (by omega)]; omega
                 have hw2 : IntKind.i64.wrap ((k3 : Int) + (m : Int)) = (n : Int) := by rw [IntWalk.i64_in _ (by omega)]; omega
                 have hw3 : IntKind.i64.wrap ((m : Int) + 1) = (m : Int) + 1 := IntWalk.i64_in _ (by omega)
                 have n0 : (0 : Int) ≤ (n : Int) := by omega
                 have n9 : (n : Int) < 9 := by omega
                 obtain ⟨y, hy⟩ : ∃ y, p[n]? = some y := ⟨_, List.getElem?_eq_getElem (by rw [LP.out]; omega)⟩
                 have c0 := HP.out _ W.out.rv.sc.be n y hy
                 have hc := HC.out _ W.out.row
                 obtain ⟨L, hL⟩ : ∃ L, L = (e.wd j ++ x) ++ tri p k m := ⟨_, rfl⟩
                 rw [← hL] at W
                 have LL : Hid (L.length ≤ 999) := Lib.hid (by have h1 := LW.out; have h2 := SG LP.out k m; have h3 := LX.out; rw [hL]; simp only [List.length_append]; omega)
                 have EQ : Hid (L ++ [y] = (e.wd j ++ x) ++ tri p k (m + 1)) := Lib.hid (by rw [hL, List.append_assoc _ _ [y], PN LP.out HM.out.1 HM.out.2 (by rw [← hn]; exact hy)])
                 clear hy hL hn hk3 hkm hm Xj
                 go_wp2_with (with_reducible refine yX w wr e B C _ v y rfl (.tmp 51) (.tmp 61) rfl W.out rfl rfl LL.out ?_)
                 intro v' w' W'
                 rw [EQ.out] at W'
                 have W2 := Lib.hid W'
                 clear W' W c0 hc LL EQ n0 n9 hw1 hw2
                 go_wp2
                 go_roundw
                 case rel => exact ⟨m + 1, _, by have := HM.out; omega, HM.out.2, by go_num, rfl, W2⟩
                 case measure =>
                  have := HM.out
                  show 3 - ((m : Int) + 1).toNat < 3 - (m : Int).toNat
                  omega
         · have hk2 : (k : Int) < 3 := by omega
           have hw : IntKind.i64.wrap ((k : Int) + 1) = (k : Int) + 1 := IntWalk.i64_in _ (by omega)
           have hk0 : (0 : Int) ≤ k := by omega
           obtain ⟨y, hy⟩ : ∃ y, x[k]? = some y := ⟨_, List.getElem?_eq_getElem (by rw [LX.out]; omega)⟩
           have c0 := HX.out _ W.out.rv.sc.be k y hy
           have hc := HC.out _ W.out.row
           obtain ⟨L, hL⟩ : ∃ L, L = e.wd j ++ x.take k := ⟨_, rfl⟩
           rw [← hL] at W
           have LL : Hid (L.length ≤ 999) := Lib.hid (by have := LW.out; rw [hL]; simp; omega)
           have EQ : Hid (L ++ [y] = e.wd j ++ x.take (k + 1)) := Lib.hid (by rw [hL, List.take_add_one, hy]; simp)
           have HK : Hid (k + 1 ≤ 3) := Lib.hid (by omega)
           clear hy hL
           go_wp2_with (with_reducible refine yX w wr e B C _ v y rfl (.tmp 33) (.tmp 40) rfl W.out rfl rfl LL.out ?_)
           intro v' w' W'
           rw [EQ.out] at W'
           have W2 := Lib.hid W'
           clear W' W c0 hc LL EQ
           go_wp2
           go_roundw
           case rel => exact ⟨k + 1, _, HK.out, by go_num, rfl, W2⟩
           case measure =>
            have := HK.out
            show 3 - ((k : Int) + 1).toNat < 3 - (k : Int).toNat
            omega
  · obtain rfl | rfl | rfl | rfl : k = 0 ∨ k = 1 ∨ k = 2 ∨ k = 3 := by omega
    · have hc : ∀ i, wr.cell? ⟨w.heap.size, i, none⟩ = e.row[i]? := W.out.sc.r0.cell
      have OA : Hid (Rv w e (e.w0.take 0) v (wr.alloc (.cells #[I e.q0] 2))) := Lib.hid (W.out.alloc _)
      have HS : Hid (w.heap.size + 1 ≤ (wr.alloc (.cells #[I e.q0] 2)).heap.size) := Lib.hid OA.out.size
      have RX : Hid (Row (wr.alloc (.cells #[I e.q0] 2)) wr.heap.size 2 (([e.q0] : List Int).map I).toArray) := Lib.hid (Row.new wr 2 #[I e.q0])
      have LN : Hid ((([e.q0] : List Int).length = 1) ∧ ((e.w0.take 0).length ≤ 1000) ∧ (([e.q0] : List Int).length ≤ 1000) ∧ 0 < ([e.q0] : List Int).length ∧ (e.w0.take 0 ++ [e.q0]).length = 1) := Lib.hid ⟨rfl, by simp [Es.w0], by simp, by simp, rfl⟩
      go_wp2_with (with_reducible refine jF _ rfl (.tmp 14) (.tmp 19) rfl (w.heap.size + 1) v wr.heap.size 1 1 (e.w0.take 0) [e.q0] 1 LN.out.2.2.2.2 rfl rfl LN.out.1 OA.out.own HS.out RX.out LN.out.2.1 LN.out.2.2.1 ?_ LN.out.2.2.2.1)
      intro A c' w2 h1 h2 h3
      have W2 := Lib.hid (OA.out.next h1 h2)
      clear h1 h2 h3 OA HS RX hc
      go_wp2
      go_roundw
      case rel => exact ⟨0 + 1, _, by omega, by go_num, rfl, W2⟩
      case measure => simp [intOf]
    · have hc : ∀ i, wr.cell? ⟨w.heap.size, i, none⟩ = e.row[i]? := W.out.sc.r0.cell
      have OA : Hid (Rv w e (e.w0.take 1) v (wr.alloc (.cells #[I e.q1] 2))) := Lib.hid (W.out.alloc _)
      have HS : Hid (w.heap.size + 1 ≤ (wr.alloc (.cells #[I e.q1] 2)).heap.size) := Lib.hid OA.out.size
      have RX : Hid (Row (wr.alloc (.cells #[I e.q1] 2)) wr.heap.size 2 (([e.q1] : List Int).map I).toArray) := Lib.hid (Row.new wr 2 #[I e.q1])
      have LN : Hid ((([e.q1] : List Int).length = 1) ∧ ((e.w0.take 1).length ≤ 1000) ∧ (([e.q1] : List Int).length ≤ 1000) ∧ 0 < ([e.q1] : List Int).length ∧ (e.w0.take 1 ++ [e.q1]).length = 2) := Lib.hid ⟨rfl, by simp [Es.w0], by simp, by simp, rfl⟩
      go_wp2_with (with_reducible refine jF _ rfl (.tmp 14) (.tmp 19) rfl (w.heap.size + 1) v wr.heap.size 1 1 (e.w0.take 1) [e.q1] 2 LN.out.2.2.2.2 rfl rfl LN.out.1 OA.out.own HS.out RX.out LN.out.2.1 LN.out.2.2.1 ?_ LN.out.2.2.2.1)
      intro A c' w2 h1 h2 h3
      have W2 := Lib.hid (OA.out.next h1 h2)
      clear h1 h2 h3 OA HS RX hc
      go_wp2
      go_roundw
      case rel => exact ⟨1 + 1, _, by omega, by go_num, rfl, W2⟩
      case measure => simp [intOf]
    · have hc : ∀ i, wr.cell? ⟨w.heap.size, i, none⟩ = e.row[i]? := W.out.sc.r0.cell
      have OA : Hid (Rv w e (e.w0.take 2) v (wr.alloc (.cells #[I e.q2] 2))) := Lib.hid (W.out.alloc _)
      have HS : Hid (w.heap.size + 1 ≤ (wr.alloc (.cells #[I e.q2] 2)).heap.size) := Lib.hid OA.out.size
      have RX : Hid (Row (wr.alloc (.cells #[I e.q2] 2)) wr.heap.size 2 (([e.q2] : List Int).map I).toArray) := Lib.hid (Row.new wr 2 #[I e.q2])
      have LN : Hid ((([e.q2] : List Int).length = 1) ∧ ((e.w0.take 2).length ≤ 1000) ∧ (([e.q2] : List Int).length ≤ 1000) ∧ 0 < ([e.q2] : List Int).length ∧ (e.w0.take 2 ++ [e.q2]).length = 3) := Lib.hid ⟨rfl, by simp [Es.w0], by simp, by simp, rfl⟩
      go_wp2_with (with_reducible refine jF _ rfl (.tmp 14) (.tmp 19) rfl (w.heap.size + 1) v wr.heap.size 1 1 (e.w0.take 2) [e.q2] 3 LN.out.2.2.2.2 rfl rfl LN.out.1 OA.out.own HS.out RX.out LN.out.2.1 LN.out.2.2.1 ?_ LN.out.2.2.2.1)
      intro A c' w2 h1 h2 h3
      have W2 := Lib.hid (OA.out.next h1 h2)
      clear h1 h2 h3 OA HS RX hc
      go_wp2
      go_roundw
      case rel => exact ⟨2 + 1, _, by omega, by go_num, rfl, W2⟩
      case measure => simp [intOf]
    · have hc : ∀ i, wr.cell? ⟨w.heap.size, i, none⟩ = e.row[i]? := W.out.sc.r0.cell
      have OA : Hid (Rv w e (e.w0.take 3) v (wr.alloc (.cells #[I e.q3] 2))) := Lib.hid (W.out.alloc _)
      have HS : Hid (w.heap.size + 1 ≤ (wr.alloc (.cells #[I e.q3] 2)).heap.size) := Lib.hid OA.out.size
      have RX : Hid (Row (wr.alloc (.cells #[I e.q3] 2)) wr.heap.size 2 (([e.q3] : List Int).map I).toArray) := Lib.hid (Row.new wr 2 #[I e.q3])
      have LN : Hid ((([e.q3] : List Int).length = 1) ∧ ((e.w0.take 3).length ≤ 1000) ∧ (([e.q3] : List Int).length ≤ 1000) ∧ 0 < ([e.q3] : List Int).length ∧ (e.w0.take 3 ++ [e.q3]).length = 4) := Lib.hid ⟨rfl, by simp [Es.w0], by simp, by simp, rfl⟩
      go_wp2_with (with_reducible refine jF _ rfl (.tmp 14) (.tmp 19) rfl (w.heap.size + 1) v wr.heap.size 1 1 (e.w0.take 3) [e.q3] 4 LN.out.2.2.2.2 rfl rfl LN.out.1 OA.out.own HS.out RX.out LN.out.2.1 LN.out.2.2.1 ?_ LN.out.2.2.2.1)
      intro A c' w2 h1 h2 h3
      have W2 := Lib.hid (OA.out.next h1 h2)
      clear h1 h2 h3 OA HS RX hc
      go_wp2
      go_roundw
      case rel => exact ⟨3 + 1, _, by omega, by go_num, rfl, W2⟩
      case measure => simp [intOf]
end Go.Proofs.YtcfobekkchhbbaaGreat.EE

namespace Go.Proofs.YtcfobekkchhbbaaGreat.EE
open Go.RowKit Go.Proofs.YtcfobekkchhbbaaGreat.KK Go.Proofs.af.aQ Go.Proofs.af.a_ Go.Proofs.af.bg
set_option linter.unusedVariables false
set_option linter.unusedSimpArgs false
structure Sr (w0 W : World) (cs : Array Value) : Prop where
 r : Row W w0.heap.size 35 zE
 e : Row W (w0.heap.size + 1) 35 cs
 be : Below w0.heap.size w0 W
section
variable {w0 W W' : World} {cs : Array Value}
theorem Sr.below (S : Sr w0 W cs) (h : Below W.heap.size W W') : Sr w0 W' cs := ⟨S.r.below h S.r.lt, S.e.below h S.e.lt, S.be.trans (h.mono S.be.size)⟩
theorem Sr.size (S : Sr w0 W cs) : w0.heap.size + 2 ≤ W.heap.size := S.e.lt
theorem Sr.set (S : Sr w0 W cs) (i : Nat) (u : Value) : Sr w0 (W.setCell ⟨w0.heap.size + 1, i, none⟩ u) (cs.setIfInBounds i u) :=
 ⟨Row.far S.r (show w0.heap.size ≠ w0.heap.size + 1 by omega) _, Row.set S.e i u, S.be.setCell (p := ⟨w0.heap.size + 1, i, none⟩) (show w0.heap.size ≤ w0.heap.size + 1 by omega) _⟩
theorem Sr.cells (S : Sr w0 W cs) (o : Nat) (vs : List Value) (D : Array Value) (h : qY cs.toList o vs = D.toList) : Sr w0 (W.setCells (w0.heap.size + 1) o vs) D :=
 ⟨(OG.fZ vs o W _ (by omega)).trans S.r, Qb S.e o vs D h, KK.dA _ _ _ S.be (by omega)⟩
end
def JD (l : List Int) (j : Nat) (x : Nat × Nat × Nat) : Tg := ⟨3, 1, some ⟨x.1, 0, none⟩, 3, [l.getD (4 + 9 * j) 0, l.getD (4 + 9 * j + 1) 0, l.getD (4 + 9 * j + 2) 0], 3, 3, some ⟨x.2.1, 0, none⟩, x.2.2,
 [l.getD (4 + 9 * j + 3) 0, l.getD (4 + 9 * j + 4) 0, l.getD (4 + 9 * j + 5) 0, l.getD (4 + 9 * j + 4) 0, l.getD (4 + 9 * j + 6) 0, l.getD (4 + 9 * j + 7) 0, l.getD (4 + 9 * j + 5) 0, l.getD (4 + 9 * j + 7) 0, l.getD (4 + 9 * j + 8) 0]⟩
def o6 (x : Nat × Nat × Nat) : Array Value := #[.int .i64 3, .int .i64 1, .slice (some ⟨x.1, 0, none⟩) 3 3, .int .i64 3, .int .i64 3, .slice (some ⟨x.2.1, 0, none⟩) 9 x.2.2]
def oB (l : List Int) (ax : List (Nat × Nat × Nat)) : Array Value := ax.zipIdx.foldl (fun a x => (qY a.toList (4 + x.2 * 6) (o6 x.1).toList).toArray) (Tt l 4)
theorem WT (l : List Int) (ax : List (Nat × Nat × Nat)) (x : Nat × Nat × Nat) : oB l (ax ++ [x]) = (qY (oB l ax).toList (4 + ax.length * 6) (o6 x).toList).toArray := by
 simp [oB, List.zipIdx_append, List.foldl_append]
def oC (l : List Int) (ax : List (Nat × Nat × Nat)) : Nat → Array Value
 | 0 => ((oB l ax).setIfInBounds 22 (I (l.getD 31 0))).setIfInBounds 23 (I (l.getD 32 0))
 | k + 1 => (oC l ax k).setIfInBounds (24 + k) (I (l.getD (33 + k) 0))
theorem VW (l : List Int) : ∀ (xs : List ((Nat × Nat × Nat) × Nat)) (a : Array Value), a.size = 29 → (xs.foldl (fun a x => (qY a.toList (4 + x.2 * 6) (o6 x.1).toList).toArray) a).size = 29
 | [], a, h => h
 | x :: xs, a, h => VW l xs _ (by rw [List.size_toArray, Bg, Array.length_toList, h])
theorem FI (l : List Int) (ax : List (Nat × Nat × Nat)) : (oB l ax).size = 29 := VW l _ _ (tJ l 4)
theorem FD (l : List Int) (ax : List (Nat × Nat × Nat)) : ∀ k, (oC l ax k).size = 29
 | 0 => by rw [oC, Array.size_setIfInBounds, Array.size_setIfInBounds, FI]
 | k + 1 => by rw [oC, Array.size_setIfInBounds, FD l ax k]
def sO (W : World) (pb : Nat) (D : Array Value) : Prop := ∃ C, Row W pb 22 C ∧ ∀ i, i < 9 → C[i]? = D[i]?
theorem sO.keep {W W' : World} {pb : Nat} {D : Array Value} (h : sO W pb D) (hk : ∀ cs, Row W pb 22 cs → Row W' pb 22 cs) : sO W' pb D := by
 obtain ⟨C, h1, h2⟩ := h
 exact ⟨C, hk C h1, h2⟩
theorem sO.lt {W : World} {pb : Nat} {D : Array Value} (h : sO W pb D) : pb < W.heap.size := by
 obtain ⟨C, h1, _⟩ := h
 exact h1.lt
theorem sO.set {W : World} {pb : Nat} {D : Array Value} (h : sO W pb D) (hD : D.size = 9) (i : Nat) (hi : i < 9) (u : Value) : sO (W.setCell ⟨pb, i, none⟩ u) pb (D.setIfInBounds i u) := by
 obtain ⟨C, h1, h2⟩ := h
 refine ⟨C.setIfInBounds i u, Row.set h1 i u, fun j hj => ?_⟩
 have hC : i < C.size := by
  have := h2 i hi
  rw [Array.getElem?_eq_getElem (show i < D.size by omega)] at this
  exact (Array.getElem?_eq_some_iff.1 this).1
 rw [Array.getElem?_setIfInBounds, Array.getElem?_setIfInBounds, h2 j hj]
 by_cases e : i = j
 · subst e
   rw [if_pos rfl, if_pos rfl, if_pos hC, if_pos (show i < D.size by omega)]
 · rw [if_neg e, if_neg e]
theorem sO.cell {W : World} {pb : Nat} {D : Array Value} (h : sO W pb D) {i : Nat} (hi : i < 9) : W.cell? ⟨pb, i, none⟩ = D[i]? := by
 obtain ⟨C, h1, h2⟩ := h
 exact (h1.cell i).trans (h2 i hi)
theorem sO.free {W : World} {pb : Nat} {D : Array Value} (h : sO W pb D) : ∀ i, W.frozen? ⟨pb, i, none⟩ = false := by
 obtain ⟨C, h1, h2⟩ := h
 exact h1.free
def PE (l : List Int) (n : Nat) (W : World) (ax : List (Nat × Nat × Nat)) : Prop := ∀ j x, ax[j]? = some x → (n ≤ x.1 ∧ n ≤ x.2.1 ∧ 9 ≤ x.2.2) ∧ Row W x.1 22 (r3 l j) ∧ sO W x.2.1 (r9 l j)
theorem PE.keep {l : List Int} {n : Nat} {W W' : World} {ax : List (Nat × Nat × Nat)} (h : PE l n W ax) (hk : ∀ g t cs, n ≤ g → Row W g t cs → Row W' g t cs) : PE l n W' ax := fun j x hx =>
 ⟨(h j x hx).1, hk _ _ _ (h j x hx).1.1 (h j x hx).2.1, (h j x hx).2.2.keep fun cs R => hk _ _ _ (h j x hx).1.2.1 R⟩
theorem PE.snoc {l : List Int} {n : Nat} {W : World} {ax : List (Nat × Nat × Nat)} (h : PE l n W ax) {x : Nat × Nat × Nat} (h1 : n ≤ x.1 ∧ n ≤ x.2.1 ∧ 9 ≤ x.2.2) (h2 : Row W x.1 22 (r3 l ax.length)) (h3 : sO W x.2.1 (r9 l ax.length)) : PE l n W (ax ++ [x]) := fun j y hy => by
 rcases Nat.lt_trichotomy j ax.length with hj | hj | hj
 · rw [List.getElem?_append_left hj] at hy
   exact h j y hy
 · subst hj
   simp at hy
   subst hy
   exact ⟨h1, h2, h3⟩
 · rw [List.getElem?_eq_none (by simp; omega)] at hy
   cases hy
def ia : Nat → Nat
 | 0 => 0
 | 1 => 1
 | 2 => 2
 | 3 => 4
 | 4 => 5
 | _ => 8
def ib : Nat → Nat
 | 0 => 0
 | 1 => 3
 | 2 => 6
 | 3 => 4
 | 4 => 7
 | _ => 8
def pA (y : Nat → Int) : Nat → Array Value
 | 0 => #[I 0, I 0, I 0, I 0, I 0, I 0, I 0, I 0, I 0]
 | s + 1 => ((pA y s).setIfInBounds (ia s) (I (y (3 + s)))).setIfInBounds (ib s) (I (y (3 + s)))
def st : Nat → Nat → Nat
 | 0, j => j
 | 1, j => 2 + j
 | _, j => 3 + j
theorem L9 (y : Nat → Int) : ∀ s, (pA y s).size = 9
 | 0 => rfl
 | s + 1 => by rw [pA, Array.size_setIfInBounds, Array.size_setIfInBounds, L9 y s]
theorem Tf (y : Nat → Int) {k j : Nat} (h1 : k ≤ j) (h2 : j < 3) : ((pA y (st k j)).setIfInBounds (3 * k + j) (I (y (3 + st k j)))).setIfInBounds (3 * j + k) (I (y (3 + st k j))) = pA y (st k (j + 1)) := by
 obtain rfl | rfl | rfl : k = 0 ∨ k = 1 ∨ k = 2 := by omega
 all_goals obtain rfl | rfl | rfl : j = 0 ∨ j = 1 ∨ j = 2 := by omega
 all_goals first | omega | rfl
theorem WM (y : Nat → Int) : pA y 6 = #[I (y 3), I (y 4), I (y 5), I (y 4), I (y 6), I (y 7), I (y 5), I (y 7), I (y 8)] := by
 generalize h3 : y 3 = y3
 generalize h4 : y 4 = y4
 generalize h5 : y 5 = y5
 generalize h6 : y 6 = y6
 generalize h7 : y 7 = y7
 generalize h8 : y 8 = y8
 simp [pA, ia, ib, h3, h4, h5, h6, h7, h8]
theorem Ti (l : List Int) (i : Nat) {y : Nat → Int} (hy : y = fun t => l.getD (4 + 9 * i + t) 0) : r9 l i = pA y (st 3 3) := by
 rw [show st 3 3 = 6 from rfl, WM]
 subst hy
 rfl
theorem st_next {k : Nat} (h : k + 1 ≤ 3) : st k 3 = st (k + 1) (k + 1) := by
 obtain rfl | rfl | rfl : k = 0 ∨ k = 1 ∨ k = 2 := by omega
 all_goals rfl
theorem VJ {k j : Nat} (h1 : k ≤ j) (h2 : j < 3) : st k j < 6 ∧ st k (j + 1) = st k j + 1 := by
 obtain rfl | rfl | rfl : k = 0 ∨ k = 1 ∨ k = 2 := by omega
 all_goals obtain rfl | rfl | rfl : j = 0 ∨ j = 1 ∨ j = 2 := by omega
 all_goals first | omega | (constructor <;> decide)
theorem Zb (y : Nat → Int) (w : World) : Calls Tryz.prog 45 #[.int .i64 3, .int .i64 3] w fun e w' => ∃ pb cp, e = .returned (.agg #[.int .i64 3, .int .i64 3, .slice (some ⟨pb, 0, none⟩) 9 cp]) ∧ 9 ≤ cp ∧ w.heap.size ≤ pb ∧ sO w' pb (pA y 0) ∧ Below w.heap.size w w' := by
 refine (PQ.dS.calls 10 3 3 3 3 [0, 0, 0, 0, 0, 0, 0, 0, 0] w (by kernel_rfl)).mono ?_
 rintro e w' ⟨v, rfl, ho, hb⟩
 have hr := Own.row ho
 rcases hr.2 with ⟨_, h⟩ | ⟨g, cap, cur, rfl, h1, h2, h3, h4, h5, h6⟩
 · exact absurd h (by decide)
 · refine ⟨g, cap, rfl, h3, h1, ⟨cur, h2, fun i hi => ?_⟩, hb⟩
   have e : cur[i]? = (cur.toList.take 9)[i]? := by rw [List.getElem?_take, if_pos hi, Array.getElem?_toList]
   rw [e, show cur.toList.take 9 = cur.toList.take (9 * 1) from rfl]
   have h6' : cur.toList.take (9 * 1) = [I 0, I 0, I 0, I 0, I 0, I 0, I 0, I 0, I 0] := h6
   rw [h6']
   rw [pA, ← List.getElem?_toArray]
structure Pt (wr : World) (tb xb mb pb cp : Nat) (y : Nat → Int) (W : World) (D : Array Value) : Prop where
 be : Below wr.heap.size wr W
 t : Row W tb 29 #[.int .i64 3, .int .i64 1, .slice (some ⟨xb, 0, none⟩) 3 3]
 x : Row W xb 22 #[I (y 0), I (y 1), I (y 2)]
 m : Row W mb 29 #[.int .i64 3, .int .i64 3, .slice (some ⟨pb, 0, none⟩) 9 cp]
 p : sO W pb D
 lt : wr.heap.size ≤ tb ∧ wr.heap.size ≤ xb ∧ wr.heap.size ≤ pb ∧ wr.heap.size ≤ mb
 ne : tb ≠ pb ∧ xb ≠ pb ∧ mb ≠ pb
 cp : 9 ≤ cp
theorem Pt.set {wr W : World} {tb xb mb pb cp : Nat} {y : Nat → Int} {D : Array Value} (h : Pt wr tb xb mb pb cp y W D) (hD : D.size = 9) (i : Nat) (hi : i < 9) (u : Value) : Pt wr tb xb mb pb cp y (W.setCell ⟨pb, i, none⟩ u) (D.setIfInBounds i u) :=
 ⟨h.be.setCell (p := ⟨pb, i, none⟩) h.lt.2.2.1 _, Row.far h.t h.ne.1 _, Row.far h.x h.ne.2.1 _, Row.far h.m h.ne.2.2 _, h.p.set hD i hi u, h.lt, h.ne, h.cp⟩
theorem Pt.drew {wr W : World} {tb xb mb pb cp : Nat} {y : Nat → Int} {D : Array Value} (h : Pt wr tb xb mb pb cp y W D) : Pt wr tb xb mb pb cp y W.drew D :=
 ⟨h.be.drew, Row.drew h.t, Row.drew h.x, Row.drew h.m, h.p.keep fun cs R => Row.drew R, h.lt, h.ne, h.cp⟩
theorem ael (l : List Int) (xa xb xc : Nat × Nat × Nat) (h : l.length = 38) (h1 : l.getD 37 0 = 0 ∨ l.getD 37 0 = 1) : Ic l ⟨l.getD 0 0, l.getD 1 0, l.getD 2 0, l.getD 3 0, JD l 0 xa, JD l 1 xb, JD l 2 xc, l.getD 31 0, l.getD 32 0, l.getD 33 0, l.getD 34 0, l.getD 35 0, l.getD 36 0, l.getD 37 0 == 1⟩ :=
 ⟨rfl, rfl, rfl, rfl, ⟨rfl, rfl, rfl, rfl, rfl, rfl⟩, ⟨rfl, rfl, rfl, rfl, rfl, rfl⟩, ⟨rfl, rfl, rfl, rfl, rfl, rfl⟩, rfl, rfl, rfl, rfl, rfl, rfl, rfl, h, h1⟩
theorem Tu {l : List Int} {w : World} {b j : Nat} (h : sO w b (r9 l j)) : Rd w (some ⟨b, 0, none⟩) [l.getD (4 + 9 * j + 3) 0, l.getD (4 + 9 * j + 4) 0, l.getD (4 + 9 * j + 5) 0, l.getD (4 + 9 * j + 4) 0, l.getD (4 + 9 * j + 6) 0, l.getD (4 + 9 * j + 7) 0, l.getD (4 + 9 * j + 5) 0, l.getD (4 + 9 * j + 7) 0, l.getD (4 + 9 * j + 8) 0] := by
 obtain ⟨C, h1, h2⟩ := h
 refine Rd.part h1 (by simp) (fun i v hv => ?_)
 match i, hv with
 | 0, hv => injection hv with hv; subst hv; exact h2 0 (by decide)
 | 1, hv => injection hv with hv; subst hv; exact h2 1 (by decide)
 | 2, hv => injection hv with hv; subst hv; exact h2 2 (by decide)
 | 3, hv => injection hv with hv; subst hv; exact h2 3 (by decide)
 | 4, hv => injection hv with hv; subst hv; exact h2 4 (by decide)
 | 5, hv => injection hv with hv; subst hv; exact h2 5 (by decide)
 | 6, hv => injection hv with hv; subst hv; exact h2 6 (by decide)
 | 7, hv => injection hv with hv; subst hv; exact h2 7 (by decide)
 | 8, hv => injection hv with hv; subst hv; exact h2 8 (by decide)
 | i + 9, hv => simp at hv
theorem VM {l : List Int} {n : Nat} {W : World} {xa xb xc : Nat × Nat × Nat} (h : PE l n W [xa, xb, xc]) : ∀ j, j < 3 → vU W ((⟨l.getD 0 0, l.getD 1 0, l.getD 2 0, l.getD 3 0, JD l 0 xa, JD l 1 xb, JD l 2 xc, l.getD 31 0, l.getD 32 0, l.getD 33 0, l.getD 34 0, l.getD 35 0, l.getD 36 0, l.getD 37 0 == 1⟩ : Eg).t j) := by
 have key : ∀ j x, [xa, xb, xc][j]? = some x → vU W (JD l j x) := fun j x hx => by
  obtain ⟨⟨_, _, h9⟩, r1, r2⟩ := h j x hx
  refine ⟨Rd.part r1 (by simp [JD]) (fun i v hv => ?_), by simp [JD], Tu r2, h9⟩
  match i, hv with
  | 0, hv => injection hv with hv; subst hv; rfl
  | 1, hv => injection hv with hv; subst hv; rfl
  | 2, hv => injection hv with hv; subst hv; rfl
  | i + 3, hv => simp [JD] at hv
 intro j hj
 obtain rfl | rfl | rfl : j = 0 ∨ j = 1 ∨ j = 2 := by omega
 · exact key 0 xa rfl
 · exact key 1 xb rfl
 · exact key 2 xc rfl
theorem aem (l : List Int) (xa xb xc : Nat × Nat × Nat) : (oC l [xa, xb, xc] 4).setIfInBounds 28 (.bool (l.getD 37 0 == 1)) = (⟨l.getD 0 0, l.getD 1 0, l.getD 2 0, l.getD 3 0, JD l 0 xa, JD l 1 xb, JD l 2 xc, l.getD 31 0, l.getD 32 0, l.getD 33 0, l.getD 34 0, l.getD 35 0, l.getD 36 0, l.getD 37 0 == 1⟩ : Eg).R := by kernel_rfl
end Go.Proofs.YtcfobekkchhbbaaGreat.EE

namespace Go.Proofs.YtcfobekkchhbbaaGreat.EE
open Go.RowKit Go.Proofs.YtcfobekkchhbbaaGreat.KK Go.Proofs.af.aQ Go.Proofs.af.a_ Go.Proofs.af.bg
set_option linter.unusedVariables false
set_option linter.unusedSimpArgs false
theorem Iy (l : List Int) (A : Option Addr) (c : Nat) (w0 : World) (hl : Rd w0 A l) (hcap : l.length ≤ c) (Hf : l.length ≤ 100) : Calls Tryz.prog 18 #[.slice A l.length c] w0 fun x w' => ((∃ e : Eg, x = .returned (.tuple #[.agg e.R, I 0]) ∧ Ic l e ∧ (∀ j, j < 3 → vU w' (e.t j)) ∧ e.ok = true) ∨ (x = .returned (.tuple #[.agg zE, I 2]) ∧ (l.length ≠ 38 ∨ ¬ (l.getD 37 0 = 0 ∨ l.getD 37 0 = 1) ∨ ∀ e : Eg, Ic l e → e.ok = false))) ∧ Below w0.heap.size w0 w' := by
 have HL := Lib.hid hl
 have Pq := Lib.hid Hf
 have HCAP := Lib.hid hcap
 clear hl Hf hcap
 go_enter Tryz.func18, Tryz.ntmps18
 go_upto_region 1 with fail
 have S1 : Hid (Row (w0.alloc (.cells zE 35)) w0.heap.size 35 zE ∧ Below w0.heap.size w0 (w0.alloc (.cells zE 35)) ∧ (w0.alloc (.cells zE 35)).heap.size = w0.heap.size + 1) := Lib.hid
  ⟨Row.new w0 35 zE, (Below.refl _ _).alloc (Nat.le_refl _) _, by simp⟩
 change Code.wp _ _ _ _ (w0.alloc (.cells zE 35))
 generalize w0.alloc (.cells zE 35) = w1 at S1 ⊢
 have i37 : Hid ((Tryz.prog.info? 35).map (·.size) = some zE.size) := Lib.hid (by kernel_rfl)
 have one : Hid (zE.all (·.oneCell') = true) := Lib.hid (by kernel_rfl)
 have YJ := Lib.hid (Row.there S1.out.1)
 by_cases h38 : l.length = 38
 case neg =>
  have d1 : ((l.length : Int) != 38) = true := by rw [bne_iff_ne]; omega
  have TZ := YJ.out
  go_wp2_with (with_reducible refine wpList_store_mid rfl 35 (.tmp 2) (.tmp 18) rfl w0.heap.size 0 zE rfl rfl TZ i37.out one.out ?_)
  have RZ := Row.full S1.out.1 zE rfl
  exact bodyPost_ret (gp rfl _ _ w0.heap.size zE _ rfl (Row.whole RZ) Tryz.underlying35 rfl (by kernel_rfl)) rfl ⟨.inr ⟨rfl, .inl h38⟩, KK.dA _ _ _ S1.out.2.1 (by omega)⟩
 have d1 : ((l.length : Int) != 38) = false := by rw [h38]; rfl
 obtain ⟨b, off, rfl, hcells⟩ := CB HL.out (by omega)
 have Pz := Lib.hid h38
 have LC : Hid (∀ wl, Below w0.heap.size w0 wl → ∀ k, k < 38 → wl.cell? ⟨b, off + k, none⟩ = some (I (l.getD k 0))) := Lib.hid (fun wl hb k hk => hcells wl hb k _ (gX (by omega)))
 clear hcells h38
 have TN := Lib.hid (Ky w1 #[.int .i64 0, .int .i64 0, .int .i64 0, .int .i64 0, .int .i64 0, .int .i64 0, .slice none 0 0, .int .i64 0, .int .i64 0, .slice none 0 0, .int .i64 0, .int .i64 0, .slice none 0 0, .int .i64 0, .int .i64 0, .slice none 0 0, .int .i64 0, .int .i64 0, .slice none 0 0, .int .i64 0, .int .i64 0, .slice none 0 0, .int .i64 0, .int .i64 0, .int .i64 0, .int .i64 0, .int .i64 0, .int .i64 0, .bool false] zE 35 rfl)
 have TH : Hid ((w1.alloc (.cells #[.int .i64 0, .int .i64 0, .int .i64 0, .int .i64 0, .int .i64 0, .int .i64 0, .slice none 0 0, .int .i64 0, .int .i64 0, .slice none 0 0, .int .i64 0, .int .i64 0, .slice none 0 0, .int .i64 0, .int .i64 0, .slice none 0 0, .int .i64 0, .int .i64 0, .slice none 0 0, .int .i64 0, .int .i64 0, .slice none 0 0, .int .i64 0, .int .i64 0, .int .i64 0, .int .i64 0, .int .i64 0, .int .i64 0, .bool false] 35)).there w1.heap.size 0 zE.size) := Lib.hid (show (w1.alloc (.cells #[.int .i64 0, .int .i64 0, .int .i64 0, .int .i64 0, .int .i64 0, .int .i64 0, .slice none 0 0, .int .i64 0, .int .i64 0, .slice none 0 0, .int .i64 0, .int .i64 0, .slice none 0 0, .int .i64 0, .int .i64 0, .slice none 0 0, .int .i64 0, .int .i64 0, .slice none 0 0, .int .i64 0, .int .i64 0, .slice none 0 0, .int .i64 0, .int .i64 0, .int .i64 0, .int .i64 0, .int .i64 0, .int .i64 0, .bool false] 35)).there w1.heap.size 0 (#[.int .i64 0, .int .i64 0, .int .i64 0, .int .i64 0, .int .i64 0, .int .i64 0, .slice none 0 0, .int .i64 0, .int .i64 0, .slice none 0 0, .int .i64 0, .int .i64 0, .slice none 0 0, .int .i64 0, .int .i64 0, .slice none 0 0, .int .i64 0, .int .i64 0, .slice none 0 0, .int .i64 0, .int .i64 0, .slice none 0 0, .int .i64 0, .int .i64 0, .int .i64 0, .int .i64 0, .int .i64 0, .int .i64 0, .bool false] : Array Value).size from Row.there (Row.new w1 35 #[.int .i64 0, .int .i64 0, .int .i64 0, .int .i64 0, .int .i64 0, .int .i64 0, .slice none 0 0, .int .i64 0, .int .i64 0, .slice none 0 0, .int .i64 0, .int .i64 0, .slice none 0 0, .int .i64 0, .int .i64 0, .slice none 0 0, .int .i64 0, .int .i64 0, .slice none 0 0, .int .i64 0, .int .i64 0, .slice none 0 0, .int .i64 0, .int .i64 0, .int .i64 0, .int .i64 0, .int .i64 0, .int .i64 0, .bool false]))
 go_upto_region 4 with (with_reducible refine wpList_store_mid rfl 35 (.tmp 4) (.tmp 19) rfl w1.heap.size 0 zE rfl rfl TH.out i37.out one.out ?_)
 have S2 : Hid (Sr w0 ((w1.alloc (.cells #[.int .i64 0, .int .i64 0, .int .i64 0, .int .i64 0, .int .i64 0, .int .i64 0, .slice none 0 0, .int .i64 0, .int .i64 0, .slice none 0 0, .int .i64 0, .int .i64 0, .slice none 0 0, .int .i64 0, .int .i64 0, .slice none 0 0, .int .i64 0, .int .i64 0, .slice none 0 0, .int .i64 0, .int .i64 0, .slice none 0 0, .int .i64 0, .int .i64 0, .int .i64 0, .int .i64 0, .int .i64 0, .int .i64 0, .bool false] 35)).setCells w1.heap.size 0 zE.toList) (Tt l 0)) := Lib.hid (by
  have h1 := TN.out.1
  have h2 := TN.out.2
  have e := S1.out.2.2
  refine ⟨S1.out.1.below h2 S1.out.1.lt, ?_, S1.out.2.1.trans (h2.mono S1.out.2.1.size)⟩
  rw [← e]
  exact h1)
 clear TN TH
 generalize (w1.alloc (.cells #[.int .i64 0, .int .i64 0, .int .i64 0, .int .i64 0, .int .i64 0, .int .i64 0, .slice none 0 0, .int .i64 0, .int .i64 0, .slice none 0 0, .int .i64 0, .int .i64 0, .slice none 0 0, .int .i64 0, .int .i64 0, .slice none 0 0, .int .i64 0, .int .i64 0, .slice none 0 0, .int .i64 0, .int .i64 0, .slice none 0 0, .int .i64 0, .int .i64 0, .int .i64 0, .int .i64 0, .int .i64 0, .int .i64 0, .bool false] 35)).setCells w1.heap.size 0 zE.toList = w2 at S2 ⊢
 have SZ1 := S1.out.2.2
 rw [SZ1]
 clear S1 SZ1 YJ i37 one d1
 try simp only [Act.put]
 generalize Value.agg #[.int .i64 0, .int .i64 0, .int .i64 0, .int .i64 0, .int .i64 0, .int .i64 0, .slice none 0 0, .int .i64 0, .int .i64 0, .slice none 0 0, .int .i64 0, .int .i64 0, .slice none 0 0, .int .i64 0, .int .i64 0, .slice none 0 0, .int .i64 0, .int .i64 0, .slice none 0 0, .int .i64 0, .int .i64 0, .slice none 0 0, .int .i64 0, .int .i64 0, .int .i64 0, .int .i64 0, .int .i64 0, .int .i64 0, .bool false] = z19
 go_wp2_with fail
 go_loopw [5] (fun i wl => ∃ k : Nat, k ≤ 4 ∧ i = .int .i64 k ∧ Hid (Sr w0 wl (Tt l k))) (fun i _ => 4 - (intOf i).toNat)
 case atStart => exact ⟨0, by omega, rfl, S2⟩
 case round =>
  clear S2
  obtain ⟨k, hk, rfl, S⟩ := hrel
  obtain rfl | hlt : k = 4 ∨ k < 4 := by omega
  case inr =>
   have sF := Lib.hid hlt
   have d1 : decide ((k : Int) < 4) = true := decide_eq_true (by omega)
   have g0 : (0 : Int) ≤ (k : Int) := by omega
   have g1 : (k : Int) < 4 := by omega
   have g2 : (k : Int) < (l.length : Int) := by have := Pz.out; omega
   clear hk
   have HS := Lib.hid (S.out.set k (I (l.getD k 0)))
   have c0 := LC.out _ S.out.be k (by omega)
   obtain ⟨u, hu⟩ : ∃ u, wr.cell? ⟨w0.heap.size + 1, k, none⟩ = some u := by
    rw [S.out.e.cell]
    exact ⟨_, Array.getElem?_eq_getElem (by rw [tJ]; have := sF.out; omega)⟩
   have fu := S.out.e.free k
   clear S hlt
   have hw : IntKind.i64.wrap ((k : Int) + 1) = ((k + 1 : Nat) : Int) := by rw [IntWalk.i64_in _ (by omega)]; omega
   go_wp2
   go_roundw
   case rel => exact ⟨k + 1, sF.out, by first | rfl | (simp [hw]) | (rw [hw]), HS⟩
   case measure =>
    have := sF.out
    simp [intOf, hw]
    omega
  case inl =>
  have SB : Hid (Sr w0 wr (oB l [])) := S
  clear S hk
  go_upto_region 8 with fail
  generalize Value.int IntKind.i64 ((4 : Nat) : Int) = z4
  go_wp2_with fail
  go_loopw [6] (fun i wl => ∃ ax : List (Nat × Nat × Nat), ax.length ≤ 3 ∧ i = .int .i64 ax.length ∧ Hid (Sr w0 wl (oB l ax)) ∧ Hid (PE l (w0.heap.size + 2) wl ax)) (fun i _ => 3 - (intOf i).toNat)
  case atStart => exact ⟨[], by simp, rfl, SB, Lib.hid (fun j x hx => by simp at hx)⟩
  case round =>
   clear SB
   obtain ⟨ax, hk, rfl, S0, A0⟩ := hrel
   obtain ⟨i, hi⟩ : ∃ i, ax.length = i := ⟨_, rfl⟩
   rw [hi] at hk ⊢
   obtain rfl | hlt : i = 3 ∨ i < 3 := by omega
   case inr =>
    have sF := Lib.hid hlt
    have d1 : decide ((i : Int) < 3) = true := decide_eq_true (by omega)
    have g0 : (0 : Int) ≤ (i : Int) := by omega
    have g1 : (i : Int) < 3 := by omega
    have HI := Lib.hid hi
    obtain ⟨i9, h9⟩ : ∃ i9 : Nat, i9 = 9 * i := ⟨_, rfl⟩
    obtain ⟨lo, hlo⟩ : ∃ lo : Nat, lo = 4 + i9 := ⟨_, rfl⟩
    obtain ⟨hi', hhi⟩ : ∃ x : Nat, x = 13 + i9 := ⟨_, rfl⟩
    have hw1 : IntKind.i64.wrap (9 * (i : Int)) = (i9 : Int) := by rw [IntWalk.i64_in _ (by omega)]; omega
    have hw2 : IntKind.i64.wrap (4 + (i9 : Int)) = (lo : Int) := by rw [IntWalk.i64_in _ (by omega)]; omega
    have hw3 : IntKind.i64.wrap (13 + (i9 : Int)) = (hi' : Int) := by rw [IntWalk.i64_in _ (by omega)]; omega
    have q0 : (0 : Int) ≤ (lo : Int) := by omega
    have q1 : (lo : Int) ≤ (hi' : Int) := by omega
    have q2 : (hi' : Int) ≤ (c : Int) := by have := HCAP.out; have := Pz.out; omega
    have Q3 : Hid (¬ c = lo) := Lib.hid (by have := HCAP.out; have := Pz.out; omega)
    have H9 := Lib.hid (And.intro h9 (And.intro hlo hhi))
    clear hk hlt hi h9 hlo hhi
    go_upto_region 12 with fail
    rw [if_neg Q3.out, show hi' - lo = 9 by have := H9.out; omega]
    have LY : Hid (∀ wl, Below w0.heap.size w0 wl → ∀ t, t < 9 → wl.cell? ⟨b, off + lo + t, none⟩ = some (I (l.getD (4 + 9 * i + t) 0))) := Lib.hid (fun wl hb t ht => by
     have h := LC.out wl hb (4 + 9 * i + t) (by have := sF.out; omega)
     rw [show off + lo + t = off + (4 + 9 * i + t) by have := H9.out; omega]
     exact h)
    have CL : Hid (9 ≤ c - lo) := Lib.hid (by have := H9.out; have := sF.out; have := HCAP.out; have := Pz.out; omega)
    generalize off + lo = of at LY ⊢
    generalize c - lo = cm at CL ⊢
    clear H9 hw1 hw2 hw3 q0 q1 q2
    obtain ⟨y, hy⟩ : ∃ y : Nat → Int, y = fun t => l.getD (4 + 9 * i + t) 0 := ⟨_, rfl⟩
    have CY : Hid (∀ wl, Below w0.heap.size w0 wl → ∀ t, t < 9 → wl.cell? ⟨b, of + t, none⟩ = some (I (y t))) := Lib.hid (by rw [hy]; exact LY.out)
    have EY := Lib.hid hy
    clear LY hy
    obtain ⟨wa, hwa⟩ : ∃ x, x = wr := ⟨_, rfl⟩
    subst hwa
    go_cut [8] (fun v8 wc => ∃ tb xb : Nat, v8 = .pointer (some ⟨tb, 0, none⟩) ∧ Hid (Below wa.heap.size wa wc) ∧ Hid (Row wc tb 29 #[I 3, I 1, .slice (some ⟨xb, 0, none⟩) 3 3] ∧ Row wc xb 22 #[I (y 0), I (y 1), I (y 2)] ∧ wa.heap.size ≤ tb ∧ wa.heap.size ≤ xb))
    case first =>
     have B0 : Hid (Below wa.heap.size wa wa) := Lib.hid (Below.refl _ _)
     have LE : Hid (∀ o, wa.heap.size ≤ (wa.alloc o).heap.size) := Lib.hid (fun o => by simp)
     have K0 : Hid (∀ w', Below wa.heap.size wa w' → (w'.cell? ⟨b, of, none⟩ = some (I (y 0)) ∧ w'.cell? ⟨b, of + 1, none⟩ = some (I (y 1)) ∧ w'.cell? ⟨b, of + 2, none⟩ = some (I (y 2)))) := Lib.hid (fun w' h => by
      have hb := S0.out.be.trans (h.mono S0.out.be.size)
      exact ⟨CY.out w' hb 0 (by decide), CY.out w' hb 1 (by decide), CY.out w' hb 2 (by decide)⟩)
     go_region_held3 (fun w' => w'.cell? ⟨b, of, none⟩ = some (I (y 0)) ∧ w'.cell? ⟨b, of + 1, none⟩ = some (I (y 1)) ∧ w'.cell? ⟨b, of + 2, none⟩ = some (I (y 2)))
      (first | with_reducible exact K0.out _ B0.out | with_reducible exact K0.out _ (B0.out.drew) | with_reducible exact K0.out _ (B0.out.alloc (Nat.le_refl _) _) | with_reducible exact K0.out _ ((B0.out.alloc (Nat.le_refl _) _).drew) | with_reducible exact K0.out _ (((B0.out.alloc (Nat.le_refl _) _).alloc (LE.out _) _).drew))
      (fail)
     all_goals go_wp2_with fail
     all_goals go_meet
     all_goals first
      | exact ⟨wa.heap.size + 1, wa.heap.size, rfl, Lib.hid ((B0.out.alloc (Nat.le_refl _) _).alloc (LE.out _) _).drew, Lib.hid ⟨Row.drew (by have h := Row.new (wa.alloc (.cells #[I (y 0), I (y 1), I (y 2)] 22)) 29 #[.int .i64 3, .int .i64 1, .slice (some ⟨wa.heap.size, 0, none⟩) 3 3]; rw [World.size_alloc] at h; exact h), Row.drew ((Row.new wa 22 _).alloc _), Nat.le_succ _, Nat.le_refl _⟩⟩
      | exact ⟨wa.heap.size, wa.heap.size + 1, rfl, Lib.hid ((B0.out.alloc (Nat.le_refl _) _).alloc (LE.out _) _).drew, Lib.hid ⟨Row.drew ((Row.new wa 29 _).alloc _), Row.drew (by have h := Row.new (wa.alloc (.cells #[.int .i64 3, .int .i64 1, .slice (some ⟨wa.heap.size + 1, 0, none⟩) 3 3] 29)) 22 #[I (y 0), I (y 1), I (y 2)]; rw [World.size_alloc] at h; exact h), Nat.le_refl _, Nat.le_succ _⟩⟩
    case rest =>
     obtain ⟨tb, xb, rfl, B1, R1⟩ := hcut
     have NN : Hid (∀ w, Calls Tryz.prog 45 #[.int .i64 3, .int .i64 3] w fun e w' => ∃ pb cp, e = .returned (.agg #[.int .i64 3, .int .i64 3, .slice (some ⟨pb, 0, none⟩) 9 cp]) ∧ 9 ≤ cp ∧ w.heap.size ≤ pb ∧ sO w' pb (pA y 0) ∧ Below w.heap.size w w') := Lib.hid (Zb y)
     go_wp2_with fail
     refine (NN.out _).mono ?_
     rintro e wn ⟨pb, cp, rfl, hcp, hpb, hn, hb⟩
     have P0 : Hid (Pt wa tb xb wn.heap.size pb cp y (wn.alloc (.cells #[.int .i64 3, .int .i64 3, .slice (some ⟨pb, 0, none⟩) 9 cp] 29)) (pA y (st 0 0))) := Lib.hid (by
      have lt := R1.out.1.lt
      have lx := R1.out.2.1.lt
      have sz := B1.out.size
      have sn := hb.size
      have lp := hn.lt
      refine ⟨(B1.out.trans (hb.mono sz)).alloc (by omega) _, (R1.out.1.below hb lt).alloc _, (R1.out.2.1.below hb lx).alloc _, Row.new _ _ _, hn.keep fun cs R => R.alloc _, ⟨R1.out.2.2.1, R1.out.2.2.2, by omega, by omega⟩, ⟨by omega, by omega, by omega⟩, hcp⟩)
     clear hcp hpb hn hb NN B1 R1
     go_upto_region 14 with fail
     generalize wn.alloc (.cells #[.int .i64 3, .int .i64 3, .slice (some ⟨pb, 0, none⟩) 9 cp] 29) = wd at P0 ⊢
     generalize wn.heap.size = mb at P0 ⊢
     go_wp2_with fail
     go_loopw [10, 11] (fun v10 v11 wl => ∃ k q : Nat, k ≤ 3 ∧ v10 = .int .i64 q ∧ v11 = .int .i64 k ∧ Hid (q = 3 + st k k) ∧ Hid (Pt wa tb xb mb pb cp y wl (pA y (st k k)))) (fun _ v _ => 3 - (intOf v).toNat)
     case atStart => exact ⟨0, 3, by omega, rfl, rfl, Lib.hid rfl, P0⟩
     case round =>
      clear P0
      obtain ⟨k, q, hk, rfl, rfl, HQ, P⟩ := hrel
      obtain rfl | hlt : k = 3 ∨ k < 3 := by omega
      case inl =>
       have S3 := Lib.hid (S0.out.below P.out.be)
       have A3 := Lib.hid (A0.out.keep (fun g t cs hg R => R.below P.out.be R.lt))
       have PP := Lib.hid (And.intro P.out.lt (And.intro P.out.x (And.intro P.out.p P.out.cp)))
       have ct := P.out.t.cell
       have cm' := P.out.m.cell
       have SZ := Lib.hid S0.out.size
       have TH : Hid (World.there wr (w0.heap.size + 1) (4 + i * 6) (#[.int .i64 3, .int .i64 1, .slice (some ⟨xb, 0, none⟩) 3 3, .int .i64 3, .int .i64 3, .slice (some ⟨pb, 0, none⟩) 9 cp] : Array Value).size) := Lib.hid (Ij S3.out.e (4 + i * 6) 6 (by rw [FI]; have := sF.out; omega))
       have i31 : Hid ((Tryz.prog.info? 31).map (·.size) = some (#[.int .i64 3, .int .i64 1, .slice (some ⟨xb, 0, none⟩) 3 3, .int .i64 3, .int .i64 3, .slice (some ⟨pb, 0, none⟩) 9 cp] : Array Value).size) := Lib.hid (by kernel_rfl)
       have o31 : Hid ((#[.int .i64 3, .int .i64 1, .slice (some ⟨xb, 0, none⟩) 3 3, .int .i64 3, .int .i64 3, .slice (some ⟨pb, 0, none⟩) 9 cp] : Array Value).all (·.oneCell') = true) := Lib.hid (by kernel_rfl)
       have hw : IntKind.i64.wrap ((i : Int) + 1) = ((i + 1 : Nat) : Int) := by rw [IntWalk.i64_in _ (by omega)]; omega
       clear P HQ hk S0 A0
       generalize Value.int IntKind.i64 ((q : Nat) : Int) = z10
       go_wp2_with (with_reducible refine wpList_store_mid rfl 31 (.tmp 93) (.tmp 91) rfl (w0.heap.size + 1) (4 + i * 6) #[.int .i64 3, .int .i64 1, .slice (some ⟨xb, 0, none⟩) 3 3, .int .i64 3, .int .i64 3, .slice (some ⟨pb, 0, none⟩) 9 cp] rfl rfl TH.out i31.out o31.out ?_)
       have SF : Hid (Sr w0 (wr.setCells (w0.heap.size + 1) (4 + i * 6) [.int .i64 3, .int .i64 1, .slice (some ⟨xb, 0, none⟩) 3 3, .int .i64 3, .int .i64 3, .slice (some ⟨pb, 0, none⟩) 9 cp]) (oB l (ax ++ [(xb, pb, cp)]))) := Lib.hid (S3.out.cells (4 + i * 6) _ _ (by rw [WT, HI.out, o6]))
       have AF : Hid (PE l (w0.heap.size + 2) (wr.setCells (w0.heap.size + 1) (4 + i * 6) [.int .i64 3, .int .i64 1, .slice (some ⟨xb, 0, none⟩) 3 3, .int .i64 3, .int .i64 3, .slice (some ⟨pb, 0, none⟩) 9 cp]) (ax ++ [(xb, pb, cp)])) := Lib.hid (by
        have K : ∀ g t cs, w0.heap.size + 2 ≤ g → Row wr g t cs → Row (wr.setCells (w0.heap.size + 1) (4 + i * 6) [.int .i64 3, .int .i64 1, .slice (some ⟨xb, 0, none⟩) 3 3, .int .i64 3, .int .i64 3, .slice (some ⟨pb, 0, none⟩) 9 cp]) g t cs := fun g t cs hg R => (OG.fZ _ _ _ _ (by omega)).trans R
        have lx : w0.heap.size + 2 ≤ xb := Nat.le_trans SZ.out PP.out.1.2.1
        have lp : w0.heap.size + 2 ≤ pb := Nat.le_trans SZ.out PP.out.1.2.2.1
        refine (A3.out.keep K).snoc ⟨lx, lp, PP.out.2.2.2⟩ ?_ ?_
        · rw [HI.out, show r3 l i = #[I (y 0), I (y 1), I (y 2)] by rw [EY.out]; rfl]
          exact K _ _ _ lx PP.out.2.1
        · rw [HI.out, Ti l i EY.out]
          exact PP.out.2.2.1.keep fun cs R => K _ _ _ lp R)
       have HF : Hid ((ax ++ [(xb, pb, cp)]).length = i + 1) := Lib.hid (by simp [HI.out])
       clear S3 A3 PP TH i31 ct cm'
       generalize wr.setCells (w0.heap.size + 1) (4 + i * 6) [.int .i64 3, .int .i64 1, .slice (some ⟨xb, 0, none⟩) 3 3, .int .i64 3, .int .i64 3, .slice (some ⟨pb, 0, none⟩) 9 cp] = w9 at SF AF ⊢
       generalize Value.int IntKind.i64 ((3 : Nat) : Int) = z11
       go_roundw
       case rel =>
        refine ⟨ax ++ [(xb, pb, cp)], ?_, ?_, SF, AF⟩
        · rw [HF.out]; have := sF.out; omega
        · rw [HF.out]; first | rfl | (simp [hw]) | (rw [hw])
       case measure =>
        have := sF.out
        simp [intOf, hw]
        omega
      case inr =>
      have Yh := Lib.hid hlt
      have d3 : decide ((k : Int) < 3) = true := decide_eq_true (by omega)
      clear hk hlt
      go_wp2_with fail
      go_loopw [10, 12] (fun v10 v12 wl => ∃ j q : Nat, k ≤ j ∧ j ≤ 3 ∧ v10 = .int .i64 q ∧ v12 = .int .i64 j ∧ Hid (q = 3 + st k j) ∧ Hid (Pt wa tb xb mb pb cp y wl (pA y (st k j)))) (fun _ v _ => 3 - (intOf v).toNat)
      case atStart => exact ⟨k, q, Nat.le_refl _, by have := Yh.out; omega, rfl, rfl, HQ, P⟩
      case round =>
       clear P HQ
       obtain ⟨j, q, hkj, hj, rfl, rfl, HQ, P⟩ := hrel
       obtain rfl | hlt : j = 3 ∨ j < 3 := by omega
       case inl =>
        have d4 : decide (((3 : Nat) : Int) < 3) = false := by decide
        have hw : IntKind.i64.wrap ((k : Int) + 1) = ((k + 1 : Nat) : Int) := by rw [IntWalk.i64_in _ (by have := Yh.out; omega)]; omega
        have HQ2 : Hid (q = 3 + st (k + 1) (k + 1)) := Lib.hid (by rw [← st_next Yh.out]; exact HQ.out)
        have P2 : Hid (Pt wa tb xb mb pb cp y wr (pA y (st (k + 1) (k + 1)))) := Lib.hid (by rw [← st_next Yh.out]; exact P.out)
        clear P HQ hkj hj
        go_wp2
        generalize Value.int IntKind.i64 ((3 : Nat) : Int) = z12
        go_roundw
        case rel => exact ⟨k + 1, q, Yh.out, rfl, by first | rfl | (simp [hw]) | (rw [hw]), HQ2, P2⟩
        case measure =>
         have := Yh.out
         simp [intOf, hw]
         omega
       case inr =>
       have Yi := Lib.hid (And.intro hkj hlt)
       have d4 : decide ((j : Int) < 3) = true := decide_eq_true (by omega)
       obtain ⟨k3, hk3⟩ : ∃ k3 : Nat, k3 = 3 * k := ⟨_, rfl⟩
       obtain ⟨n1, hn1⟩ : ∃ n : Nat, n = 3 * k + j := ⟨_, rfl⟩
       obtain ⟨j3, hj3⟩ : ∃ j3 : Nat, j3 = 3 * j := ⟨_, rfl⟩
       obtain ⟨n2, hn2⟩ : ∃ n : Nat, n = 3 * j + k := ⟨_, rfl⟩
       have hk2 := Yh.out
       have Zq : q < 9 := by have := HQ.out; have := (VJ hkj hlt).1; omega
       have e1 : IntKind.i64.wrap (3 * (k : Int)) = (k3 : Int) := by rw [IntWalk.i64_in _ (by omega)]; omega
       have e2 : IntKind.i64.wrap ((k3 : Int) + (j : Int)) = (n1 : Int) := by rw [IntWalk.i64_in _ (by omega)]; omega
       have e3 : IntKind.i64.wrap (3 * (j : Int)) = (j3 : Int) := by rw [IntWalk.i64_in _ (by omega)]; omega
       have e4 : IntKind.i64.wrap ((j3 : Int) + (k : Int)) = (n2 : Int) := by rw [IntWalk.i64_in _ (by omega)]; omega
       have e5 : IntKind.i64.wrap ((q : Int) + 1) = ((q + 1 : Nat) : Int) := by rw [IntWalk.i64_in _ (by omega)]; omega
       have e6 : IntKind.i64.wrap ((j : Int) + 1) = ((j + 1 : Nat) : Int) := by rw [IntWalk.i64_in _ (by omega)]; omega
       have f1 : (0 : Int) ≤ (n1 : Int) := by omega
       have f2 : (n1 : Int) < 9 := by omega
       have f3 : (0 : Int) ≤ (n2 : Int) := by omega
       have f4 : (n2 : Int) < 9 := by omega
       have f5 : (0 : Int) ≤ (q : Int) := by omega
       have f6 : (q : Int) < 9 := by omega
       have HN := Lib.hid (And.intro hn1 (And.intro hn2 (And.intro (show n1 < 9 by omega) (And.intro (show n2 < 9 by omega) Zq))))
       clear hk3 hn1 hj3 hn2 hk2 Zq hkj hj hlt
       obtain ⟨D, hD⟩ : ∃ D, D = pA y (st k j) := ⟨_, rfl⟩
       rw [← hD] at P
       have ED : Hid (D.size = 9 ∧ (D.setIfInBounds n1 (I (y q))).setIfInBounds n2 (I (y q)) = pA y (st k (j + 1)) ∧ q + 1 = 3 + st k (j + 1)) := Lib.hid ⟨by rw [hD, L9], by rw [hD, HN.out.1, HN.out.2.1, HQ.out]; exact Tf y Yi.out.1 Yi.out.2, by rw [(VJ Yi.out.1 Yi.out.2).2, HQ.out]; omega⟩
       clear hD
       have BW : Hid (Below w0.heap.size w0 wr) := Lib.hid (S0.out.be.trans (P.out.be.mono S0.out.be.size))
       have hm := P.out.m.cell
       have fy := CY.out wr BW.out q HN.out.2.2.2.2
       obtain ⟨u1, hu1⟩ : ∃ u, wr.cell? ⟨pb, n1, none⟩ = some u := by
        rw [P.out.p.cell HN.out.2.2.1]
        exact ⟨_, Array.getElem?_eq_getElem (by rw [ED.out.1]; exact HN.out.2.2.1)⟩
       have fr := P.out.p.free
       go_upto_region 21 with fail
       go_still_tail 11, (by kernel_rfl)
       clear hm fy
       have P1 := Lib.hid P.out.drew
       have hv1 : wr.drew.cell? ⟨pb, n1, none⟩ = some u1 := hu1
       have fr1 := P1.out.p.free
       have P0 := P
       clear hu1 fr P
       go_upto_region 22 with fail
       have P2 := Lib.hid (P0.out.set ED.out.1 n1 HN.out.2.2.1 (I (y q))).drew
       clear hv1 fr1 P1 P0
       generalize (wr.setCell ⟨pb, n1, none⟩ (I (y q))).drew = w4 at P2 ⊢
       have BW4 : Hid (Below w0.heap.size w0 w4) := Lib.hid (S0.out.be.trans (P2.out.be.mono S0.out.be.size))
       have hm := P2.out.m.cell
       have fy := CY.out w4 BW4.out q HN.out.2.2.2.2
       obtain ⟨u2, hu2⟩ : ∃ u, w4.cell? ⟨pb, n2, none⟩ = some u := by
        rw [P2.out.p.cell HN.out.2.2.2.1]
        exact ⟨_, Array.getElem?_eq_getElem (by rw [Array.size_setIfInBounds, ED.out.1]; exact HN.out.2.2.2.1)⟩
       have fr := P2.out.p.free
       go_still_tail 11, (by kernel_rfl)
       clear hm fy
       have P3 := Lib.hid P2.out.drew
       have hv2 : w4.drew.cell? ⟨pb, n2, none⟩ = some u2 := hu2
       have fr2 := P3.out.p.free
       have P4 : Hid (Pt wa tb xb mb pb cp y (w4.setCell ⟨pb, n2, none⟩ (I (y q))).drew (pA y (st k (j + 1)))) := Lib.hid (by
        have h := P2.out.set (by rw [Array.size_setIfInBounds]; exact ED.out.1) n2 HN.out.2.2.2.1 (I (y q))
        rw [ED.out.2.1] at h
        exact h.drew)
       have HQ4 : Hid (q + 1 = 3 + st k (j + 1)) := Lib.hid ED.out.2.2
       clear hu2 fr P2 P3 BW BW4
       go_wp2
       go_roundw
       case rel => exact ⟨j + 1, q + 1, by have := Yi.out.1; omega, Yi.out.2, by first | rfl | (simp [e5]) | (rw [e5]), by first | rfl | (simp [e6]) | (rw [e6]), HQ4, P4⟩
       case measure =>
        have := Yi.out
        simp [intOf, e6]
        omega
   case inl =>
    clear hk
    obtain ⟨xa, xb, xc, hx3⟩ := VO hi
    subst hx3
    clear hi
    have c31 := LC.out _ S0.out.be 31 (by decide)
    have c32 := LC.out _ S0.out.be 32 (by decide)
    obtain ⟨p31, h31⟩ : ∃ y, l.getD 31 0 = y := ⟨_, rfl⟩
    obtain ⟨p32, h32⟩ : ∃ y, l.getD 32 0 = y := ⟨_, rfl⟩
    rw [h31] at c31
    rw [h32] at c32
    have g31 : (31 : Int) < (l.length : Int) := by have := Pz.out; omega
    have g32 : (32 : Int) < (l.length : Int) := by have := Pz.out; omega
    have SZ := FI l [xa, xb, xc]
    have hce : ∀ i, wr.cell? ⟨w0.heap.size + 1, i, none⟩ = (oB l [xa, xb, xc])[i]? := S0.out.e.cell
    obtain ⟨u22, Qp⟩ : ∃ u, wr.cell? ⟨w0.heap.size + 1, 22, none⟩ = some u := ⟨_, (hce 22).trans (Array.getElem?_eq_getElem (by rw [SZ]; decide))⟩
    obtain ⟨u23, Qo⟩ : ∃ u, wr.cell? ⟨w0.heap.size + 1, 23, none⟩ = some u := ⟨_, (hce 23).trans (Array.getElem?_eq_getElem (by rw [SZ]; decide))⟩
    have f22 := S0.out.e.free
    have nb : b ≠ w0.heap.size + 1 := by
     have h1 := PR.Rd.blk HL.out _ rfl (by have := Pz.out; omega)
     have h2 : b < w0.heap.size := h1
     omega
    have S3 : Hid (Sr w0 ((wr.setCell ⟨w0.heap.size + 1, 22, none⟩ (I p31)).setCell ⟨w0.heap.size + 1, 23, none⟩ (I p32)) (oC l [xa, xb, xc] 0)) := Lib.hid (by
     rw [oC, h31, h32]
     exact (S0.out.set 22 (I p31)).set 23 (I p32))
    have A3 : Hid (PE l (w0.heap.size + 2) ((wr.setCell ⟨w0.heap.size + 1, 22, none⟩ (I p31)).setCell ⟨w0.heap.size + 1, 23, none⟩ (I p32)) [xa, xb, xc]) := Lib.hid (A0.out.keep (fun g t cs hg R => Row.far (Row.far R (show g ≠ w0.heap.size + 1 by omega) _) (show g ≠ w0.heap.size + 1 by omega) _))
    clear SZ hce S0 A0 h31 h32
    go_upto_region 27 with fail
    generalize (wr.setCell ⟨w0.heap.size + 1, 22, none⟩ (I p31)).setCell ⟨w0.heap.size + 1, 23, none⟩ (I p32) = v3 at S3 A3 ⊢
    clear Qp Qo f22 c31 c32 nb
    generalize Value.int IntKind.i64 (([xa, xb, xc] : List (Nat × Nat × Nat)).length : Int) = z6
    try generalize Value.int IntKind.i64 ((3 : Nat) : Int) = z6
    go_wp2_with fail
    go_loopw [13] (fun i wl => ∃ k : Nat, k ≤ 4 ∧ i = .int .i64 k ∧ Hid (Sr w0 wl (oC l [xa, xb, xc] k)) ∧ Hid (PE l (w0.heap.size + 2) wl [xa, xb, xc])) (fun i _ => 4 - (intOf i).toNat)
    case atStart => exact ⟨0, by omega, rfl, S3, A3⟩
    case round =>
     clear S3 A3
     obtain ⟨k, hk, rfl, S, A⟩ := hrel
     obtain rfl | hlt : k = 4 ∨ k < 4 := by omega
     case inr =>
      have sF := Lib.hid hlt
      have d1 : decide ((k : Int) < 4) = true := decide_eq_true (by omega)
      obtain ⟨k33, h33⟩ : ∃ n : Nat, n = 33 + k := ⟨_, rfl⟩
      have hw1 : IntKind.i64.wrap (33 + (k : Int)) = (k33 : Int) := by rw [IntWalk.i64_in _ (by omega)]; omega
      have g0 : (0 : Int) ≤ (k : Int) := by omega
      have g1 : (k : Int) < 4 := by omega
      have g2 : (0 : Int) ≤ (k33 : Int) := by omega
      have g3 : (k33 : Int) < (l.length : Int) := by have := Pz.out; omega
      have c0 := LC.out _ S.out.be k33 (by omega)
      obtain ⟨y, hy⟩ : ∃ y, l.getD k33 0 = y := ⟨_, rfl⟩
      rw [hy] at c0
      have HS : Hid (Sr w0 (wr.setCell ⟨w0.heap.size + 1, 24 + k, none⟩ (I y)) (oC l [xa, xb, xc] (k + 1))) := Lib.hid (by rw [oC, ← h33, hy]; exact S.out.set (24 + k) (I y))
      have HA : Hid (PE l (w0.heap.size + 2) (wr.setCell ⟨w0.heap.size + 1, 24 + k, none⟩ (I y)) [xa, xb, xc]) := Lib.hid (A.out.keep (fun g t cs hg R => Row.far R (show g ≠ w0.heap.size + 1 by omega) _))
      obtain ⟨u, hu⟩ : ∃ u, wr.cell? ⟨w0.heap.size + 1, 24 + k, none⟩ = some u := by
       rw [S.out.e.cell]
       exact ⟨_, Array.getElem?_eq_getElem (by rw [FD]; omega)⟩
      have fu := S.out.e.free (24 + k)
      clear S A hy h33 hlt hk
      have hw : IntKind.i64.wrap ((k : Int) + 1) = ((k + 1 : Nat) : Int) := by rw [IntWalk.i64_in _ (by omega)]; omega
      go_wp2
      go_roundw
      case rel => exact ⟨k + 1, sF.out, by first | rfl | (simp [hw]) | (rw [hw]), HS, HA⟩
      case measure =>
       have := sF.out
       simp [intOf, hw]
       omega
     case inl =>
     clear hk
     have c37 := LC.out _ S.out.be 37 (by decide)
     have g37 : (37 : Int) < (l.length : Int) := by have := Pz.out; omega
     obtain ⟨y, hy⟩ : ∃ y, l.getD 37 0 = y := ⟨_, rfl⟩
     rw [hy] at c37
     have Y := Lib.hid hy
     clear hy
     have HS := Lib.hid (S.out.set 28 (.bool (y == 1)))
     have HA : Hid (PE l (w0.heap.size + 2) (wr.setCell ⟨w0.heap.size + 1, 28, none⟩ (.bool (y == 1))) [xa, xb, xc]) := Lib.hid (A.out.keep (fun g t cs hg R => Row.far R (show g ≠ w0.heap.size + 1 by omega) _))
     obtain ⟨u, hu⟩ : ∃ u, wr.cell? ⟨w0.heap.size + 1, 28, none⟩ = some u := by
      rw [S.out.e.cell]
      exact ⟨_, Array.getElem?_eq_getElem (by rw [FD]; decide)⟩
     have fu := S.out.e.free 28
     clear S A
     go_upto_region 32 with fail
     generalize wr.setCell ⟨w0.heap.size + 1, 28, none⟩ (.bool (y == 1)) = v5 at HS HA ⊢
     clear hu fu c37
     obtain ⟨e, he⟩ : ∃ e : Eg, e = ⟨l.getD 0 0, l.getD 1 0, l.getD 2 0, l.getD 3 0, JD l 0 xa, JD l 1 xb, JD l 2 xc, l.getD 31 0, l.getD 32 0, l.getD 33 0, l.getD 34 0, l.getD 35 0, l.getD 36 0, l.getD 37 0 == 1⟩ := ⟨_, rfl⟩
     have ER : Hid ((oC l [xa, xb, xc] 4).setIfInBounds 28 (.bool (y == 1)) = e.R) := Lib.hid (by rw [he, ← Y.out]; exact aem l xa xb xc)
     have RE : Hid (Row v5 (w0.heap.size + 1) 35 e.R) := Lib.hid (by have := HS.out.e; rw [ER.out] at this; exact this)
     have RT : Hid (∀ j, j < 3 → vU v5 (e.t j)) := Lib.hid (by rw [he]; exact VM HA.out)
     have OE : Hid (y = 0 ∨ y = 1 → Ic l e) := Lib.hid (fun h => by rw [he]; exact ael l xa xb xc Pz.out (by rw [Y.out]; exact h))
     have RZ := Lib.hid HS.out.r
     have BZ := Lib.hid HS.out.be
     have RL := Lib.hid (Row.whole RE.out)
     have KF : Hid ((Tryz.prog.info? 35).map (·.size) = some e.R.toList.length) := Lib.hid (by kernel_rfl)
     have Xd : Hid ((Tryz.prog.info? 35).map (·.size) = some e.R.size) := Lib.hid (by kernel_rfl)
     have WQ : Hid (e.R.all (·.oneCell') = true) := Lib.hid (by kernel_rfl)
     have i37 : Hid ((Tryz.prog.info? 35).map (·.size) = some zE.size) := Lib.hid (by kernel_rfl)
     have one : Hid (zE.all (·.oneCell') = true) := Lib.hid (by kernel_rfl)
     have HE := Lib.hid he
     clear HS ER he
     go_wp2_with (with_reducible refine OG.iE rfl 35 (.tmp 4) rfl (w0.heap.size + 1) 0 rfl e.R.toList _ RL.out Tryz.underlying35 rfl KF.out ?_)
     refine (xA e _ RT.out).mono ?_
     rintro x v6 ⟨rfl, hb⟩
     have Sv := Lib.hid (RZ.out.below hb RZ.out.lt)
     have RL6 := Lib.hid (Row.whole (RE.out.below hb RE.out.lt))
     have HA6 := Lib.hid (HA.out.keep (fun g t cs hg R => R.below hb R.lt))
     have Yq : Hid (Below w0.heap.size w0 v6) := Lib.hid (BZ.out.trans (hb.mono BZ.out.size))
     have c37 := LC.out _ Yq.out 37 (by decide)
     rw [Y.out] at c37
     clear hb RZ RL RE HA BZ RT
     have ajJ : (37 : Int) < (l.length : Int) := g37
     have NOT : Hid ((e.ok = false ∨ ¬ (y = 0 ∨ y = 1)) → (l.length ≠ 38 ∨ ¬ (l.getD 37 0 = 0 ∨ l.getD 37 0 = 1) ∨ ∀ e' : Eg, Ic l e' → e'.ok = false)) := Lib.hid (fun h => by
      rw [Y.out]
      by_cases h01 : y = 0 ∨ y = 1
      · refine .inr (.inr fun e' h' => (h'.same (OE.out h01)).trans ?_)
        rcases h with h | h
        · exact h
        · exact absurd h01 h
      · exact .inr (.inl h01))
     have TZ := Row.there Sv.out
     cases hok : e.ok
     case false =>
      have NO := Lib.hid (NOT.out (.inl hok))
      clear hok
      go_wp2_with (with_reducible refine wpList_store_mid rfl 35 (.tmp 2) (.tmp 135) rfl w0.heap.size 0 zE rfl rfl TZ i37.out one.out ?_)
      have RF := Row.full Sv.out zE rfl
      exact bodyPost_ret (gp rfl _ _ w0.heap.size zE _ rfl (Row.whole RF) Tryz.underlying35 rfl (by kernel_rfl)) rfl ⟨.inr ⟨rfl, NO.out⟩, KK.dA _ _ _ Yq.out (by omega)⟩
     case true =>
      by_cases h01 : y = 0 ∨ y = 1
      case neg =>
       have NO := Lib.hid (NOT.out (.inr h01))
       have d2 : (y != 0) = true := by rw [bne_iff_ne]; exact fun e => h01 (.inl e)
       have d3 : (y != 1) = true := by rw [bne_iff_ne]; exact fun e => h01 (.inr e)
       clear hok h01
       go_wp2_with (with_reducible refine wpList_store_mid rfl 35 (.tmp 2) (.tmp 135) rfl w0.heap.size 0 zE rfl rfl TZ i37.out one.out ?_)
       have RF := Row.full Sv.out zE rfl
       exact bodyPost_ret (gp rfl _ _ w0.heap.size zE _ rfl (Row.whole RF) Tryz.underlying35 rfl (by kernel_rfl)) rfl ⟨.inr ⟨rfl, NO.out⟩, KK.dA _ _ _ Yq.out (by omega)⟩
      case pos =>
       have OKK := Lib.hid hok
       have OEE := Lib.hid (OE.out h01)
       have Yf := Lib.hid h01
       clear hok h01 NOT
       have TH : Hid (v6.there w0.heap.size 0 e.R.size) := Lib.hid (show v6.there w0.heap.size 0 e.R.size from (Row.there Sv.out : v6.there w0.heap.size 0 zE.size))
       clear TZ OE
       go_upto_region 33 with fail
       go_cut [134] (fun v wc => v = .bool false ∧ wc = v6)
       case first =>
        rcases Yf.out with rfl | rfl
        all_goals
         go_wp2_with fail
         go_meet
         exact ⟨rfl, rfl⟩
       case rest =>
       obtain ⟨rfl, rfl⟩ := hcut
       clear c37 Yf
       go_wp2_with (first | with_reducible refine OG.iE rfl 35 (.tmp 4) rfl (w0.heap.size + 1) 0 rfl e.R.toList _ RL6.out Tryz.underlying35 rfl KF.out ?_ | with_reducible refine wpList_store_mid rfl 35 (.tmp 2) (.tmp 136) rfl w0.heap.size 0 e.R rfl rfl TH.out Xd.out WQ.out ?_)
       have RF := Row.full Sv.out e.R rfl
       have HAF := HA6.out.keep (fun g t cs hg R => (OG.fZ e.R.toList 0 wc g (show g ≠ w0.heap.size by omega)).trans R)
       refine bodyPost_ret (gp rfl _ _ w0.heap.size e.R _ rfl (Row.whole RF) Tryz.underlying35 rfl (by kernel_rfl)) rfl ⟨.inl ⟨e, rfl, OEE.out, ?_, OKK.out⟩, KK.dA _ _ _ Yq.out (by omega)⟩
       have HB := VM HAF
       rw [← HE.out] at HB
       exact HB
end Go.Proofs.YtcfobekkchhbbaaGreat.EE

namespace Go.Proofs.YtcfobekkchhbbaaGreat.EE
open Go.RowKit Go.Proofs.YtcfobekkchhbbaaGreat.KK Go.Proofs.af.aQ Go.Proofs.af.a_ Go.Proofs.af.bg
set_option linter.unusedVariables false
set_option linter.unusedSimpArgs false
theorem yh {r c r' c' : Int} {x p : List Int} (h : PR.gQ r c x r' c' p) (h3 : r = 3) : c = 1 ∧ r' = 3 ∧ c' = 3 ∧ x.length = 3 ∧ p.length = 9 := by
 obtain ⟨h1, h2, rfl, rfl, rfl, _⟩ := h
 subst h3
 have l1 := (PR.iU h1).2.2.2.2.1
 have l2 := (PR.iU h2).2.2.2.2.1
 exact ⟨rfl, rfl, rfl, by simpa using l1, by simpa using l2⟩
theorem Eg.good {e : Eg} {w : World} (h : e.ok = true) (hr : ∀ j, j < 3 → vU w (e.t j)) : ∃ s : Es, s.R = e.R ∧ (∀ j, j < 3 → Rw w (s.ax j)) ∧ Gd s.nu ∧ (∀ j, j < 3 → PR.gQ 3 1 (s.ax j).x 3 3 (s.ax j).p) ∧ PQ.iw (PQ.at4 s.q0 s.q1 s.q2 s.q3) 4 = true ∧ s.nu = ⟨e.q0, e.q1, e.q2, e.q3, e.t0.x, e.t0.p, e.t1.x, e.t1.p, e.t2.x, e.t2.p, e.steps, e.dM, e.f0, e.f1, e.f2, e.f3, e.sat⟩ := by
 obtain ⟨q0, q1, q2, q3, ⟨r0, c0, A0, d0, x0, r0', c0', B0, e0, p0⟩, ⟨r1, c1, A1, d1, x1, r1', c1', B1, e1, p1⟩, ⟨r2, c2, A2, d2, x2, r2', c2', B2, e2, p2⟩, steps, dM, f0, f1, f2, f3, sat⟩ := e
 simp only [Eg.ok, Eg.t3, Tg.ok, Eg.o4, Eg.n0, Bool.and_eq_true, Bool.not_eq_true', Bool.or_eq_false_iff, decide_eq_true_eq, decide_eq_false_iff_not] at h
 obtain ⟨hn, ⟨o0, o1, o2, o3⟩, ⟨⟨t0, k0⟩, ⟨t1, k1⟩, ⟨t2, k2⟩⟩, hq⟩ := h
 obtain ⟨rfl, rfl, rfl, lx0, lp0⟩ := yh t0 k0
 obtain ⟨rfl, rfl, rfl, lx1, lp1⟩ := yh t1 k1
 obtain ⟨rfl, rfl, rfl, lx2, lp2⟩ := yh t2 k2
 subst k0 k1 k2
 have bo : ∀ q, fU q = false → 0 ≤ q ∧ q ≤ 1000 := fun q hq => by
  unfold fU at hq
  simp at hq
  omega
 refine ⟨⟨q0, q1, q2, q3, ⟨A0, d0, x0, B0, e0, p0⟩, ⟨A1, d1, x1, B1, e1, p1⟩, ⟨A2, d2, x2, B2, e2, p2⟩, steps, dM, f0, f1, f2, f3, sat⟩, rfl, fun j hj => ?_, ⟨fun j hj => ?_, fun j hj => ?_, by show 0 ≤ steps; omega, by show steps ≤ 1099511627776; omega, by show 0 ≤ dM; omega, by show dM ≤ 1000; omega, fun k hk => ?_, fun k hk => ?_⟩, fun j hj => ?_, hq, rfl⟩
 · obtain rfl | rfl | rfl : j = 0 ∨ j = 1 ∨ j = 2 := by omega
   · exact ⟨(hr 0 (by decide)).x, (hr 0 (by decide)).xc, (hr 0 (by decide)).p, (hr 0 (by decide)).pd⟩
   · exact ⟨(hr 1 (by decide)).x, (hr 1 (by decide)).xc, (hr 1 (by decide)).p, (hr 1 (by decide)).pd⟩
   · exact ⟨(hr 2 (by decide)).x, (hr 2 (by decide)).xc, (hr 2 (by decide)).p, (hr 2 (by decide)).pd⟩
 · obtain rfl | rfl | rfl : j = 0 ∨ j = 1 ∨ j = 2 := by omega
   · exact lx0
   · exact lx1
   · exact lx2
 · obtain rfl | rfl | rfl : j = 0 ∨ j = 1 ∨ j = 2 := by omega
   · exact lp0
   · exact lp1
   · exact lp2
 · obtain rfl | rfl | rfl | rfl : k = 0 ∨ k = 1 ∨ k = 2 ∨ k = 3 := by omega
   · exact (bo _ o0).1
   · exact (bo _ o1).1
   · exact (bo _ o2).1
   · exact (bo _ o3).1
 · obtain rfl | rfl | rfl | rfl : k = 0 ∨ k = 1 ∨ k = 2 ∨ k = 3 := by omega
   · exact (bo _ o0).2
   · exact (bo _ o1).2
   · exact (bo _ o2).2
   · exact (bo _ o3).2
 · obtain rfl | rfl | rfl : j = 0 ∨ j = 1 ∨ j = 2 := by omega
   · exact t0
   · exact t1
   · exact t2
theorem VL (xs : Array Value) (k : Nat) (x : Int) (h : xs[k]? = some (.int .i64 x)) (w : World) : (part 3 xs k).run Tryz.prog w = .ok (.int .i64 x) w := by
 simp [part, go_sem, h]
theorem qg (a e : Int) (xs ys : Array Value) (k : Nat) (hx : xs[k]? = some (.int .i64 a)) (hy : ys[k]? = some (.int .i64 e)) (ks : List Nat) (r : Bool) (w : World)
 (h : (Op.eqItems 9999 3 1 xs ys ks).run Tryz.prog w = .ok r w) : (Op.eqItems 9999 3 1 xs ys (k :: ks)).run Tryz.prog w = .ok ((a == e) && r) w := by
 have p1 := VL xs (k * 1) a (by simpa using hx) w
 have p2 := VL ys (k * 1) e (by simpa using hy) w
 have p3 := run_equalIn_int w (P := Tryz.prog) 9998 3 .i64 .i64 a e rfl
 simp only [Op.eqItems, Sem.run_bind, p1, p2, p3, Result.andThen_ok]
 cases hr : (a == e)
 · simp
 · simpa using h
theorem ZJ (a b c d e f g h : Int) (w : World) :
 (Op.equalIn 10000 33 (.agg #[.int .i64 a, .int .i64 b, .int .i64 c, .int .i64 d]) (.agg #[.int .i64 e, .int .i64 f, .int .i64 g, .int .i64 h])).run Tryz.prog w = .ok ((a == e) && ((b == f) && ((c == g) && ((d == h) && true)))) w := by
 rw [run_equalIn_array (P := Tryz.prog) (w := w) 9999 (e := 3) (n := 4) (i := _) _ _ rfl rfl]
 exact qg _ _ _ _ 0 rfl rfl _ _ w (qg _ _ _ _ 1 rfl rfl _ _ w (qg _ _ _ _ 2 rfl rfl _ _ w (qg _ _ _ _ 3 rfl rfl _ _ w (by simp [Op.eqItems]))))
end Go.Proofs.YtcfobekkchhbbaaGreat.EE

namespace Go.Proofs.YtcfobekkchhbbaaGreat.PR
open Go.RowKit Go.Proofs.YtcfobekkchhbbaaGreat.PQ Go.Proofs.af.aQ Go.Proofs.af.a_ Go.Proofs.af.bg Go.Proofs.YtcfobekkchhbbaaGreat.KK
set_option linter.unusedVariables false
set_option linter.unusedSimpArgs false
theorem Dt (r c r2 c2 r' c' r2' c2' : Int) (x l x' l' : List Int) (hx : x.length ≤ 1000000) (hl : l.length ≤ 1000000) :
 Ev (fun k => je.f k r c x r2 c2 l r' c' x' r2' c2' l') (decide ((r = r' ∧ c = c' ∧ x = x') ∧ (r2 = r2' ∧ c2 = c2' ∧ l = l'))) := by
 unfold je.f
 by_cases h1 : r = r' ∧ c = c' ∧ x = x'
 · have e1 := Fg r c r' c' x x' hx
   rw [decide_eq_true h1] at e1
   refine Ev.bind e1 ?_
   simp only [if_true]
   have e2 := Fg r2 c2 r2' c2' l l' hl
   refine Ev.bind e2 ?_
   have e : decide ((r = r' ∧ c = c' ∧ x = x') ∧ (r2 = r2' ∧ c2 = c2' ∧ l = l')) = decide (r2 = r2' ∧ c2 = c2' ∧ l = l') := by simp [h1]
   rw [e]
   exact Ev.now _
 · have e1 := Fg r c r' c' x x' hx
   rw [decide_eq_false h1] at e1
   refine Ev.bind e1 ?_
   rw [decide_eq_false (fun h => h1 h.1)]
   exact Ev.now _
end Go.Proofs.YtcfobekkchhbbaaGreat.PR
namespace Go.Proofs.YtcfobekkchhbbaaGreat.EE
open Go.RowKit Go.Proofs.YtcfobekkchhbbaaGreat.KK Go.Proofs.af.aQ Go.Proofs.af.a_ Go.Proofs.af.bg
set_option linter.unusedVariables false
set_option linter.unusedSimpArgs false
def Tg.same (a b : Tg) : Bool := decide ((a.r = b.r ∧ a.c = b.c ∧ a.x = b.x) ∧ (a.r' = b.r' ∧ a.c' = b.c' ∧ a.p = b.p))
theorem zS (a b : Tg) (w : World) (ha : vU w a) (hb : vU w b) (hx : a.x.length ≤ 1000000) (hl : a.p.length ≤ 1000000) : Calls Tryz.prog 38 #[.agg a.row, .agg b.row] w fun e w' => e = .returned (.bool (a.same b)) ∧ Below w.heap.size w w' := by
 obtain ⟨k, hk⟩ := (PR.Dt a.r a.c a.r' a.c' b.r b.c b.r' b.c' a.x a.p b.x b.p hx hl).rounds
 exact PQ.je.calls k a.r a.c a.A a.cx a.x a.r' a.c' a.B a.cp a.p b.r b.c b.A b.cx b.x b.r' b.c' b.B b.cp b.p _ w ha.x ha.xc ha.p ha.pd hb.x hb.xc hb.p hb.pd hk
def Eg.qs (a b : Eg) : Bool := (a.q0 == b.q0) && ((a.q1 == b.q1) && ((a.q2 == b.q2) && ((a.q3 == b.q3) && true)))
def Eg.os (a b : Eg) : Bool := (a.f0 == b.f0) && ((a.f1 == b.f1) && ((a.f2 == b.f2) && ((a.f3 == b.f3) && true)))
def Eg.ts (a b : Eg) : Bool := a.t0.same b.t0 && (a.t1.same b.t1 && a.t2.same b.t2)
def Eg.same (a b : Eg) : Bool := a.ts b && (a.qs b && ((a.steps == b.steps) && ((a.dM == b.dM) && (a.os b && (a.sat == b.sat)))))
theorem Dv (a b : Eg) (w : World) (ha : ∀ j, j < 3 → vU w (a.t j)) (hb : ∀ j, j < 3 → vU w (b.t j)) (hl : ∀ j, j < 3 → (a.t j).x.length ≤ 1000000 ∧ (a.t j).p.length ≤ 1000000) : Calls Tryz.prog 14 #[.agg a.R, .agg b.R] w fun x w' => x = .returned (.bool (a.same b)) ∧ Below w.heap.size w w' := by
 have T : Hid (∀ j, j < 3 → ∀ w', Below w.heap.size w w' → Calls Tryz.prog 38 #[.agg (a.t j).row, .agg (b.t j).row] w' fun e w'' => e = .returned (.bool ((a.t j).same (b.t j))) ∧ Below w'.heap.size w' w'') := Lib.hid (fun j hj w' h => zS _ _ w' ((ha j hj).below h) ((hb j hj).below h) (hl j hj).1 (hl j hj).2)
 have L : Hid (bD w [(35, a.R), (35, b.R)] ((w.alloc (.cells a.R 35)).alloc (.cells b.R 35))) := Lib.hid (((bD.none w).push (by simp) _ _).push (by simp) _ _)
 clear ha hb hl
 go_enter Tryz.func14, Tryz.ntmps14
 go_upto_region 1 with fail
 generalize (w.alloc (.cells a.R 35)).alloc (.cells b.R 35) = w1 at L ⊢
 have hc : ∀ i, w1.cell? ⟨w.heap.size, i, none⟩ = a.row[i]? := L.out.r0.cell
 have hd : ∀ i, w1.cell? ⟨w.heap.size + 1, i, none⟩ = b.row[i]? := L.out.r1.cell
 go_cut [5] (fun v5 wc => v5 = .bool (a.ts b) ∧ Hid (bD w [(35, a.R), (35, b.R)] wc))
 case first =>
  go_wp2_with fail
  refine (T.out 0 (by decide) _ L.out.be).mono ?_
  rintro x w2 ⟨rfl, hb⟩
  have L2 := Lib.hid (L.out.below hb)
  clear hb hc hd L
  have hc : ∀ i, w2.cell? ⟨w.heap.size, i, none⟩ = a.row[i]? := L2.out.r0.cell
  have hd : ∀ i, w2.cell? ⟨w.heap.size + 1, i, none⟩ = b.row[i]? := L2.out.r1.cell
  simp only [Eg.t]
  cases h0 : a.t0.same b.t0
  case false =>
   have E : Hid (a.ts b = false) := Lib.hid (by simp [Eg.ts, h0])
   clear h0
   go_wp2
   go_meet
   exact ⟨by rw [E.out], L2⟩
  go_wp2_with fail
  refine (T.out 1 (by decide) _ L2.out.be).mono ?_
  rintro x w3 ⟨rfl, hb⟩
  have L3 := Lib.hid (L2.out.below hb)
  clear hb hc hd L2
  have hc : ∀ i, w3.cell? ⟨w.heap.size, i, none⟩ = a.row[i]? := L3.out.r0.cell
  have hd : ∀ i, w3.cell? ⟨w.heap.size + 1, i, none⟩ = b.row[i]? := L3.out.r1.cell
  simp only [Eg.t]
  cases h1 : a.t1.same b.t1
  case false =>
   have E : Hid (a.ts b = false) := Lib.hid (by simp [Eg.ts, h1])
   clear h0 h1
   go_wp2
   go_meet
   exact ⟨by rw [E.out], L3⟩
  go_wp2_with fail
  refine (T.out 2 (by decide) _ L3.out.be).mono ?_
  rintro x w4 ⟨rfl, hb⟩
  have L4 := Lib.hid (L3.out.below hb)
  have E : Hid (a.ts b = a.t2.same b.t2) := Lib.hid (by simp [Eg.ts, h0, h1])
  clear hb hc hd L3 h0 h1
  simp only [Eg.t]
  go_wp2
  go_meet
  exact ⟨by rw [E.out], L4⟩
 case rest =>
  clear L hc hd
  obtain ⟨rfl, L⟩ := hcut
  have hc : ∀ i, wc.cell? ⟨w.heap.size, i, none⟩ = a.row[i]? := L.out.r0.cell
  have hd : ∀ i, wc.cell? ⟨w.heap.size + 1, i, none⟩ = b.row[i]? := L.out.r1.cell
  have E1 : (Op.equalIn 10000 26 (.agg #[.int .i64 a.q0, .int .i64 a.q1, .int .i64 a.q2, .int .i64 a.q3]) (.agg #[.int .i64 b.q0, .int .i64 b.q1, .int .i64 b.q2, .int .i64 b.q3])).run Tryz.prog wc = .ok (a.qs b) wc := PQ.afp a.q0 a.q1 a.q2 a.q3 b.q0 b.q1 b.q2 b.q3 wc
  have E2 : (Op.equalIn 10000 33 (.agg #[.int .i64 a.f0, .int .i64 a.f1, .int .i64 a.f2, .int .i64 a.f3]) (.agg #[.int .i64 b.f0, .int .i64 b.f1, .int .i64 b.f2, .int .i64 b.f3])).run Tryz.prog wc = .ok (a.os b) wc := ZJ a.f0 a.f1 a.f2 a.f3 b.f0 b.f1 b.f2 b.f3 wc
  cases h1 : a.ts b
  case false =>
   have F : Hid (a.same b = false) := Lib.hid (by simp only [Eg.same, h1]; simp)
   go_wp2
   go_ret
   exact ⟨by rw [F.out]; rfl, L.out.be⟩
  cases h2 : a.qs b
  case false =>
   have F : Hid (a.same b = false) := Lib.hid (by simp only [Eg.same, h1, h2]; simp)
   rw [h2] at E1
   go_wp2
   go_ret
   exact ⟨by rw [F.out]; rfl, L.out.be⟩
  cases h3 : (a.steps == b.steps)
  case false =>
   have F : Hid (a.same b = false) := Lib.hid (by simp only [Eg.same, h1, h2, h3]; simp)
   rw [h2] at E1
   go_wp2
   go_ret
   exact ⟨by rw [F.out]; rfl, L.out.be⟩
  cases h4 : (a.dM == b.dM)
  case false =>
   have F : Hid (a.same b = false) := Lib.hid (by simp only [Eg.same, h1, h2, h3, h4]; simp)
   rw [h2] at E1
   go_wp2
   go_ret
   exact ⟨by rw [F.out]; rfl, L.out.be⟩
  cases h5 : a.os b
  case false =>
   have F : Hid (a.same b = false) := Lib.hid (by simp only [Eg.same, h1, h2, h3, h4, h5]; simp)
   rw [h2] at E1
   rw [h5] at E2
   go_wp2
   go_ret
   exact ⟨by rw [F.out]; rfl, L.out.be⟩
  have F : Hid (a.same b = (a.sat == b.sat)) := Lib.hid (by simp only [Eg.same, h1, h2, h3, h4, h5]; simp)
  rw [h2] at E1
  rw [h5] at E2
  go_wp2
  go_ret
  exact ⟨by rw [F.out]; rfl, L.out.be⟩
end Go.Proofs.YtcfobekkchhbbaaGreat.EE

namespace Go.Proofs.YtcfobekkchhbbaaGreat.EE
open Go.RowKit Go.Proofs.YtcfobekkchhbbaaGreat.KK
set_option linter.unusedVariables false
theorem Jp.sat {miss : Bool} {dt : Int} {n : En} {g0 g1 g2 a0 a1 a2 : Int} {n1 : En} {y : Nat → Int} (h : Jp miss dt n g0 g1 g2 a0 a1 a2 n1 y) (hs : n.sat = true) : n1.sat = true := by
 rcases h with ⟨_, rfl, _⟩ | ⟨_, _, _, _, _, _, _, _, _, _, _, _, _, _, _, _, _, _, _, _, _, _, _, _, _, rfl, _⟩
 · exact hs
 · simp [hs]
theorem Nr.sat {n n' : En} {i k : Nat} {z r gate : Int} (h : Nr n i k z r gate n') (hs : n.sat = true) : n'.sat = true := by
 obtain ⟨X, P, tk, fl, _, rfl⟩ := h
 show (n.sat || _) = true
 rw [hs]
 rfl
theorem Ns.sat {c : Cf} {n : En} {s : Sm} {n' : En} (h : Ns c n s n') (hs : n.sat = true) : n'.sat = true := by
 cases hm : s.missing
 case true =>
  obtain rfl := h.miss hm
  exact hs
 obtain ⟨m1, gk, h1, h2, h3, h4, h5, h6⟩ := h.go hm
 have B : m1.sat = true := by
  cases hb : s.hasB
  · obtain rfl := h2 hb
    exact hs
  · exact (h1 hb).sat hs
 cases hg : s.DL
 · have e1 := h6 hg 0 (by decide)
   have e2 := h6 hg 1 (by decide)
   have e3 := h6 hg 2 (by decide)
   have : n' = m1 := by rw [← h4, ← h3, e3, e2, e1]
   subst this
   exact B
 · have c1 := (h5 hg 0 (by decide)).sat (by rw [h3]; exact B)
   have c2 := (h5 hg 1 (by decide)).sat c1
   have c3 := (h5 hg 2 (by decide)).sat c2
   rw [h4] at c3
   exact c3
end Go.Proofs.YtcfobekkchhbbaaGreat.EE

namespace Go.Proofs.YtcfobekkchhbbaaGreat.EE
open Go.RowKit Go.Proofs.YtcfobekkchhbbaaGreat.PQ Go.Proofs.YtcfobekkchhbbaaGreat.KK Go.Proofs.YtcfobekkchhbbaaGreat.PR
set_option linter.unusedVariables false
set_option linter.unusedSimpArgs false
theorem Ic.S_ {l : List Int} {a b : Eg} (h : Ic l a) (g : Ic l b) : a.same b = true := by
 obtain ⟨t1, t2, t3, t4, t5, t6⟩ := h.t0
 obtain ⟨u1, u2, u3, u4, u5, u6⟩ := h.t1
 obtain ⟨v1, v2, v3, v4, v5, v6⟩ := h.t2
 obtain ⟨p1, p2, p3, p4, p5, p6⟩ := g.t0
 obtain ⟨q1, q2, q3, q4, q5, q6⟩ := g.t1
 obtain ⟨r1, r2, r3, r4, r5, r6⟩ := g.t2
 have e0 : a.t0.same b.t0 = true := by unfold Tg.same; simp only [t1, t2, t3, t4, t5, t6, p1, p2, p3, p4, p5, p6, and_self, decide_true]
 have e1 : a.t1.same b.t1 = true := by unfold Tg.same; simp only [u1, u2, u3, u4, u5, u6, q1, q2, q3, q4, q5, q6, and_self, decide_true]
 have e2 : a.t2.same b.t2 = true := by unfold Tg.same; simp only [v1, v2, v3, v4, v5, v6, r1, r2, r3, r4, r5, r6, and_self, decide_true]
 unfold Eg.same Eg.ts Eg.qs Eg.os
 rw [e0, e1, e2, h.q0, h.q1, h.q2, h.q3, h.st, h.co, h.f0, h.f1, h.f2, h.f3, h.sa, g.q0, g.q1, g.q2, g.q3, g.st, g.co, g.f0, g.f1, g.f2, g.f3, g.sa]
 simp only [beq_self_eq_true, Bool.and_self]
end Go.Proofs.YtcfobekkchhbbaaGreat.EE

namespace Go.Proofs.YtcfobekkchhbbaaGreat.OG
set_option linter.unusedVariables false
set_option linter.unusedSimpArgs false
open Go Go.RowKit Go.Proofs.YtcfobekkchhbbaaGreat.KK
section
variable {P : Program} {ops : Array Oper} {Q : Exit → Act → World → Prop}
theorem Steps.yes {J : (Nat → Bool) → Act → World → Prop} {k : Nat} {o : Oper} {r : List Oper} {gi dst : Nat} {gb : Bool} (hg : o.guard = some (gi, gb)) (hd : (ops[gi]?).bind (·.dst) = some dst)
 (hv : ∀ l a w, J l a w → deps o l → a.tmps[dst]? = some (.bool gb))
 (h : ∀ l a w (K : Act → World → Prop), Hid (∀ a' w', J (upd l k) a' w' → K a' w') → J l a w → Closed ops l → l k = false → deps o l → o.wp P a w K Q) (hr : Steps P ops Q J (k + 1) r) : Steps P ops Q J k (o :: r) :=
 ⟨fun l a w hJ hc hl hdp => .inl ⟨by simp [Region.wanted, hg, yielded, hd, hv l a w hJ hdp], h l a w _ (Lib.hid fun _ _ h => h) hJ hc hl hdp⟩, hr⟩
end
end Go.Proofs.YtcfobekkchhbbaaGreat.OG
namespace Go.Proofs.YtcfobekkchhbbaaGreat.EE
open Go.RowKit Go.Proofs.YtcfobekkchhbbaaGreat.KK Go.Proofs.af.aQ Go.Proofs.af.a_ Go.Proofs.af.bg
set_option linter.unusedVariables false
set_option linter.unusedSimpArgs false
def tgZ : Tg := ⟨0, 0, none, 0, [], 0, 0, none, 0, []⟩
def egZ : Eg := ⟨0, 0, 0, 0, tgZ, tgZ, tgZ, 0, 0, 0, 0, 0, 0, false⟩
theorem MJ (w : World) : ∀ j, j < 3 → vU w (egZ.t j) := fun j hj => by
 obtain rfl | rfl | rfl : j = 0 ∨ j = 1 ∨ j = 2 := by omega
 all_goals exact ⟨Rd.nil _ _, Nat.le_refl _, Rd.nil _ _, Nat.le_refl _⟩
def Dh (l : List Int) (e : Eg) (n : Int) : Prop := (n = 0 ∧ Ic l e ∧ e.ok = true) ∨ (n = 2 ∧ e = egZ ∧ (l.length ≠ 38 ∨ ¬ (l.getD 37 0 = 0 ∨ l.getD 37 0 = 1) ∨ ∀ e : Eg, Ic l e → e.ok = false))
theorem Dh.same {l : List Int} {a b : Eg} {n m : Int} (h : Dh l a n) (g : Dh l b m) : n = m ∧ a.same b = true := by
 rcases h with ⟨rfl, h1, h2⟩ | ⟨rfl, rfl, h1⟩
 · rcases g with ⟨rfl, g1, g2⟩ | ⟨rfl, rfl, g1⟩
   · exact ⟨rfl, h1.S_ g1⟩
   · exfalso
     rcases g1 with g1 | g1 | g1
     · exact g1 h1.len
     · exact g1 h1.last
     · rw [g1 a h1] at h2
       cases h2
 · rcases g with ⟨rfl, g1, g2⟩ | ⟨rfl, rfl, g1⟩
   · exfalso
     rcases h1 with h1 | h1 | h1
     · exact h1 g1.len
     · exact h1 g1.last
     · rw [h1 b g1] at g2
       cases g2
   · exact ⟨rfl, by decide⟩
theorem Dh.lens {l : List Int} {a : Eg} {n : Int} (h : Dh l a n) : ∀ j, j < 3 → (a.t j).x.length ≤ 1000000 ∧ (a.t j).p.length ≤ 1000000 := fun j hj => by
 rcases h with ⟨rfl, h1, _⟩ | ⟨rfl, rfl, _⟩
 · obtain rfl | rfl | rfl : j = 0 ∨ j = 1 ∨ j = 2 := by omega
   · exact ⟨by show a.t0.x.length ≤ _; rw [h1.t0.2.2.1]; simp, by show a.t0.p.length ≤ _; rw [h1.t0.2.2.2.2.2]; simp⟩
   · exact ⟨by show a.t1.x.length ≤ _; rw [h1.t1.2.2.1]; simp, by show a.t1.p.length ≤ _; rw [h1.t1.2.2.2.2.2]; simp⟩
   · exact ⟨by show a.t2.x.length ≤ _; rw [h1.t2.2.2.1]; simp, by show a.t2.p.length ≤ _; rw [h1.t2.2.2.2.2.2]; simp⟩
 · obtain rfl | rfl | rfl : j = 0 ∨ j = 1 ∨ j = 2 := by omega
   all_goals exact ⟨by decide, by decide⟩
theorem OL (l : List Int) (A : Option Addr) (c : Nat) (w : World) (hl : Rd w A l) (Hf : l.length ≤ 100) : Calls Tryz.prog 17 #[.slice A l.length c] w fun x w' => (∃ e n, x = .returned (.tuple #[.agg e.R, I n]) ∧ Dh l e n ∧ ∀ j, j < 3 → vU w' (e.t j)) ∧ Below w.heap.size w w' := by
 refine (Jd l A c w hl Hf).mono ?_
 rintro x w' ⟨h, hb⟩
 rcases h with ⟨e, rfl, h1, h2, h3⟩ | ⟨rfl, h1⟩
 · exact ⟨⟨e, 0, rfl, .inl ⟨rfl, h1, h3⟩, h2⟩, hb⟩
 · exact ⟨⟨egZ, 2, rfl, .inr ⟨rfl, rfl, h1⟩, MJ _⟩, hb⟩
theorem NW (l : List Int) (A : Option Addr) (c : Nat) (w : World) (hl : Rd w A l) (hc : l.length ≤ c) (Hf : l.length ≤ 100) : Calls Tryz.prog 18 #[.slice A l.length c] w fun x w' => (∃ e n, x = .returned (.tuple #[.agg e.R, I n]) ∧ Dh l e n ∧ ∀ j, j < 3 → vU w' (e.t j)) ∧ Below w.heap.size w w' := by
 refine (Iy l A c w hl hc Hf).mono ?_
 rintro x w' ⟨h, hb⟩
 rcases h with ⟨e, rfl, h1, h2, h3⟩ | ⟨rfl, h1⟩
 · exact ⟨⟨e, 0, rfl, .inl ⟨rfl, h1, h3⟩, h2⟩, hb⟩
 · exact ⟨⟨egZ, 2, rfl, .inr ⟨rfl, rfl, h1⟩, MJ _⟩, hb⟩
theorem Cb (e : Eg) (ll : List Int) (A : Option Addr) (c : Nat) (w0 : World) (hr : ∀ j, j < 3 → vU w0 (e.t j)) (hl : ll.length ≤ 100 → Rd w0 A ll) (hcap : ll.length ≤ c) :
 Calls Tryz.prog 4 #[.agg e.R, .slice A ll.length c] w0 fun x w' => x = .returned (.bool true) ∧ Below w0.heap.size w0 w' := by
 have HR := Lib.hid hr
 have HL0 := Lib.hid hl
 have HCAP := Lib.hid hcap
 have L : Hid (bD w0 [(35, e.R)] (w0.alloc (.cells e.R 35))) := Lib.hid ((bD.none w0).push (by simp) _ _)
 clear hr hl hcap
 go_enter Tryz.func4, Tryz.ntmps4
 go_upto_region 1 with fail
 generalize w0.alloc (.cells e.R 35) = w1 at L ⊢
 go_wp2_with fail
 refine (Iq _).mono ?_
 rintro x w2 ⟨rfl, hb⟩
 have L2 := Lib.hid (L.out.below hb)
 clear hb L
 by_cases h : ll.length ≤ 100
 case neg =>
  have d0 : decide ((100 : Int) < (ll.length : Int)) = true := decide_eq_true (by omega)
  go_wp2
  exact bodyPost_ret (results_tmp rfl _ _ _) rfl ⟨rfl, L2.out.be⟩
 have d0 : decide ((100 : Int) < (ll.length : Int)) = false := decide_eq_false (by omega)
 have HL := Lib.hid (HL0.out h)
 have Pq := Lib.hid h
 clear h HL0
 go_wp2_with fail
 refine (OL ll A c w2 (HL.out.below L2.out.be) Pq.out).mono ?_
 rintro x w3 ⟨⟨ea, na, rfl, hoa, hra⟩, hb⟩
 have L3 := Lib.hid (L2.out.below hb)
 have OA := Lib.hid hoa
 have RA := Lib.hid hra
 clear hb hoa hra L2 d0
 have i35 : Hid ((Tryz.prog.info? 35).map (·.size) = some ea.R.size) := Lib.hid (by kernel_rfl)
 have one : Hid (ea.R.all (·.oneCell') = true) := Lib.hid (by kernel_rfl)
 have TN := Lib.hid (Ky w3 #[.int .i64 0, .int .i64 0, .int .i64 0, .int .i64 0, .int .i64 0, .int .i64 0, .slice none 0 0, .int .i64 0, .int .i64 0, .slice none 0 0, .int .i64 0, .int .i64 0, .slice none 0 0, .int .i64 0, .int .i64 0, .slice none 0 0, .int .i64 0, .int .i64 0, .slice none 0 0, .int .i64 0, .int .i64 0, .slice none 0 0, .int .i64 0, .int .i64 0, .int .i64 0, .int .i64 0, .int .i64 0, .int .i64 0, .bool false] ea.R 35 rfl)
 have TH : Hid ((w3.alloc (.cells #[.int .i64 0, .int .i64 0, .int .i64 0, .int .i64 0, .int .i64 0, .int .i64 0, .slice none 0 0, .int .i64 0, .int .i64 0, .slice none 0 0, .int .i64 0, .int .i64 0, .slice none 0 0, .int .i64 0, .int .i64 0, .slice none 0 0, .int .i64 0, .int .i64 0, .slice none 0 0, .int .i64 0, .int .i64 0, .slice none 0 0, .int .i64 0, .int .i64 0, .int .i64 0, .int .i64 0, .int .i64 0, .int .i64 0, .bool false] 35)).there w3.heap.size 0 ea.R.size) := Lib.hid (show (w3.alloc (.cells #[.int .i64 0, .int .i64 0, .int .i64 0, .int .i64 0, .int .i64 0, .int .i64 0, .slice none 0 0, .int .i64 0, .int .i64 0, .slice none 0 0, .int .i64 0, .int .i64 0, .slice none 0 0, .int .i64 0, .int .i64 0, .slice none 0 0, .int .i64 0, .int .i64 0, .slice none 0 0, .int .i64 0, .int .i64 0, .slice none 0 0, .int .i64 0, .int .i64 0, .int .i64 0, .int .i64 0, .int .i64 0, .int .i64 0, .bool false] 35)).there w3.heap.size 0 (#[.int .i64 0, .int .i64 0, .int .i64 0, .int .i64 0, .int .i64 0, .int .i64 0, .slice none 0 0, .int .i64 0, .int .i64 0, .slice none 0 0, .int .i64 0, .int .i64 0, .slice none 0 0, .int .i64 0, .int .i64 0, .slice none 0 0, .int .i64 0, .int .i64 0, .slice none 0 0, .int .i64 0, .int .i64 0, .slice none 0 0, .int .i64 0, .int .i64 0, .int .i64 0, .int .i64 0, .int .i64 0, .int .i64 0, .bool false] : Array Value).size from Row.there (Row.new w3 35 #[.int .i64 0, .int .i64 0, .int .i64 0, .int .i64 0, .int .i64 0, .int .i64 0, .slice none 0 0, .int .i64 0, .int .i64 0, .slice none 0 0, .int .i64 0, .int .i64 0, .slice none 0 0, .int .i64 0, .int .i64 0, .slice none 0 0, .int .i64 0, .int .i64 0, .slice none 0 0, .int .i64 0, .int .i64 0, .slice none 0 0, .int .i64 0, .int .i64 0, .int .i64 0, .int .i64 0, .int .i64 0, .int .i64 0, .bool false]))
 go_upto_region 5 with (with_reducible refine wpList_store_mid rfl 35 (.tmp 6) (.tmp 18) rfl w3.heap.size 0 ea.R rfl rfl TH.out i35.out one.out ?_)
 generalize (w3.alloc (.cells #[.int .i64 0, .int .i64 0, .int .i64 0, .int .i64 0, .int .i64 0, .int .i64 0, .slice none 0 0, .int .i64 0, .int .i64 0, .slice none 0 0, .int .i64 0, .int .i64 0, .slice none 0 0, .int .i64 0, .int .i64 0, .slice none 0 0, .int .i64 0, .int .i64 0, .slice none 0 0, .int .i64 0, .int .i64 0, .slice none 0 0, .int .i64 0, .int .i64 0, .int .i64 0, .int .i64 0, .int .i64 0, .int .i64 0, .bool false] 35)).setCells w3.heap.size 0 ea.R.toList = w4 at TN ⊢
 have L4 := Lib.hid (L3.out.below TN.out.2)
 have R6 := Lib.hid TN.out.1
 have RA4 : Hid (∀ j, j < 3 → vU w4 (ea.t j)) := Lib.hid (fun j hj => (RA.out j hj).below TN.out.2)
 clear TN TH i35 one L3 RA
 generalize w3.heap.size = b6 at R6 ⊢
 try simp only [Act.put]
 go_wp2_with fail
 refine (NW ll A c w4 (HL.out.below L4.out.be) HCAP.out Pq.out).mono ?_
 rintro x w5 ⟨⟨eb, nb, rfl, hob, hrb⟩, hb⟩
 have L5 := Lib.hid (L4.out.below hb)
 have R6' := Lib.hid (R6.out.below hb R6.out.lt)
 have RA5 : Hid (∀ j, j < 3 → vU w5 (ea.t j)) := Lib.hid (fun j hj => (RA4.out j hj).below hb)
 have SAM := Lib.hid (OA.out.same hob).2
 have hn := (OA.out.same hob).1
 have RB := Lib.hid hrb
 have LX := Lib.hid OA.out.lens
 clear hb hob hrb L4 R6 RA4 OA
 subst hn
 have i35 : Hid ((Tryz.prog.info? 35).map (·.size) = some eb.R.size) := Lib.hid (by kernel_rfl)
 have one : Hid (eb.R.all (·.oneCell') = true) := Lib.hid (by kernel_rfl)
 have TN := Lib.hid (Ky w5 #[.int .i64 0, .int .i64 0, .int .i64 0, .int .i64 0, .int .i64 0, .int .i64 0, .slice none 0 0, .int .i64 0, .int .i64 0, .slice none 0 0, .int .i64 0, .int .i64 0, .slice none 0 0, .int .i64 0, .int .i64 0, .slice none 0 0, .int .i64 0, .int .i64 0, .slice none 0 0, .int .i64 0, .int .i64 0, .slice none 0 0, .int .i64 0, .int .i64 0, .int .i64 0, .int .i64 0, .int .i64 0, .int .i64 0, .bool false] eb.R 35 rfl)
 have TH : Hid ((w5.alloc (.cells #[.int .i64 0, .int .i64 0, .int .i64 0, .int .i64 0, .int .i64 0, .int .i64 0, .slice none 0 0, .int .i64 0, .int .i64 0, .slice none 0 0, .int .i64 0, .int .i64 0, .slice none 0 0, .int .i64 0, .int .i64 0, .slice none 0 0, .int .i64 0, .int .i64 0, .slice none 0 0, .int .i64 0, .int .i64 0, .slice none 0 0, .int .i64 0, .int .i64 0, .int .i64 0, .int .i64 0, .int .i64 0, .int .i64 0, .bool false] 35)).there w5.heap.size 0 eb.R.size) := Lib.hid (show (w5.alloc (.cells #[.int .i64 0, .int .i64 0, .int .i64 0, .int .i64 0, .int .i64 0, .int .i64 0, .slice none 0 0, .int .i64 0, .int .i64 0, .slice none 0 0, .int .i64 0, .int .i64 0, .slice none 0 0, .int .i64 0, .int .i64 0, .slice none 0 0, .int .i64 0, .int .i64 0, .slice none 0 0, .int .i64 0, .int .i64 0, .slice none 0 0, .int .i64 0, .int .i64 0, .int .i64 0, .int .i64 0, .int .i64 0, .int .i64 0, .bool false] 35)).there w5.heap.size 0 (#[.int .i64 0, .int .i64 0, .int .i64 0, .int .i64 0, .int .i64 0, .int .i64 0, .slice none 0 0, .int .i64 0, .int .i64 0, .slice none 0 0, .int .i64 0, .int .i64 0, .slice none 0 0, .int .i64 0, .int .i64 0, .slice none 0 0, .int .i64 0, .int .i64 0, .slice none 0 0, .int .i64 0, .int .i64 0, .slice none 0 0, .int .i64 0, .int .i64 0, .int .i64 0, .int .i64 0, .int .i64 0, .int .i64 0, .bool false] : Array Value).size from Row.there (Row.new w5 35 #[.int .i64 0, .int .i64 0, .int .i64 0, .int .i64 0, .int .i64 0, .int .i64 0, .slice none 0 0, .int .i64 0, .int .i64 0, .slice none 0 0, .int .i64 0, .int .i64 0, .slice none 0 0, .int .i64 0, .int .i64 0, .slice none 0 0, .int .i64 0, .int .i64 0, .slice none 0 0, .int .i64 0, .int .i64 0, .slice none 0 0, .int .i64 0, .int .i64 0, .int .i64 0, .int .i64 0, .int .i64 0, .int .i64 0, .bool false]))
 go_upto_region 6 with (with_reducible refine wpList_store_mid rfl 35 (.tmp 8) (.tmp 23) rfl w5.heap.size 0 eb.R rfl rfl TH.out i35.out one.out ?_)
 generalize (w5.alloc (.cells #[.int .i64 0, .int .i64 0, .int .i64 0, .int .i64 0, .int .i64 0, .int .i64 0, .slice none 0 0, .int .i64 0, .int .i64 0, .slice none 0 0, .int .i64 0, .int .i64 0, .slice none 0 0, .int .i64 0, .int .i64 0, .slice none 0 0, .int .i64 0, .int .i64 0, .slice none 0 0, .int .i64 0, .int .i64 0, .slice none 0 0, .int .i64 0, .int .i64 0, .int .i64 0, .int .i64 0, .int .i64 0, .int .i64 0, .bool false] 35)).setCells w5.heap.size 0 eb.R.toList = w6 at TN ⊢
 have L6 := Lib.hid (L5.out.below TN.out.2)
 have R6 := Lib.hid (R6'.out.below TN.out.2 R6'.out.lt)
 have R8 := Lib.hid TN.out.1
 have RA6 : Hid (∀ j, j < 3 → vU w6 (ea.t j)) := Lib.hid (fun j hj => (RA5.out j hj).below TN.out.2)
 have RB6 : Hid (∀ j, j < 3 → vU w6 (eb.t j)) := Lib.hid (fun j hj => (RB.out j hj).below TN.out.2)
 clear TN TH i35 one L5 RA5 RB R6'
 generalize w5.heap.size = b8 at R8 ⊢
 try simp only [Act.put]
 have S1 : Hid (Calls Tryz.prog 14 #[.agg ea.R, .agg eb.R] w6 fun x w' => x = .returned (.bool true) ∧ Below w6.heap.size w6 w') := Lib.hid (by
  have h := Dv ea eb w6 RA6.out RB6.out LX.out
  rw [SAM.out] at h
  exact h)
 have RL1 := Lib.hid (Row.whole R6.out)
 have RL2 := Lib.hid (Row.whole R8.out)
 have i1 : Hid ((Tryz.prog.info? 35).map (·.size) = some ea.R.toList.length) := Lib.hid (by kernel_rfl)
 have i2 : Hid ((Tryz.prog.info? 35).map (·.size) = some eb.R.toList.length) := Lib.hid (by kernel_rfl)
 go_wp2_with (first | with_reducible refine OG.iE rfl 35 (.tmp 6) rfl b6 0 rfl ea.R.toList _ RL1.out Tryz.underlying35 rfl i1.out ?_ | with_reducible refine OG.iE rfl 35 (.tmp 8) rfl b8 0 rfl eb.R.toList _ RL2.out Tryz.underlying35 rfl i2.out ?_)
 refine S1.out.mono ?_
 rintro x w7 ⟨rfl, hb⟩
 have L7 := Lib.hid (L6.out.below hb)
 clear hb S1 RL1 RL2 i1 i2 R6 R8 RA6 RB6 L6 SAM LX
 have RT7 : Hid (∀ j, j < 3 → vU w7 (e.t j)) := Lib.hid (fun j hj => (HR.out j hj).below L7.out.be)
 have dn : (na != na) = false := by simp
 go_upto_region 8 with fail
 obtain ⟨g, hg0⟩ : ∃ g, e.ok = g := ⟨_, rfl⟩
 obtain ⟨ws, hws⟩ : ∃ ws : List Int, g = true → ws.length = 38 ∧ (∀ w', Below w7.heap.size w7 w' → Calls Tryz.prog 20 #[.agg e.R] w' fun x w'' => ∃ A c, x = .returned (.slice A 38 c) ∧ Rd w'' A ws ∧ Below w'.heap.size w' w'') ∧ (∀ w', Below w7.heap.size w7 w' → Calls Tryz.prog 21 #[.agg e.R] w' fun x w'' => ∃ A c, x = .returned (.slice A 38 c) ∧ Rd w'' A ws ∧ Below w'.heap.size w' w'') := by
  cases g
  · exact ⟨[], fun h => by cases h⟩
  · obtain ⟨es, hR, hrw, G, ht, hq, hnu⟩ := Eg.good hg0 RT7.out
    have HE : ∀ j, j < 3 → (es.ax j).x.length = 3 ∧ (es.ax j).p.length = 9 := fun j hj => by
     have h1 := G.lx j hj
     have h2 := G.lp j hj
     rw [← DJ] at h1
     rw [← FM] at h2
     exact ⟨h1, h2⟩
    refine ⟨es.words, fun _ => ⟨?_, fun w' hb => ?_, fun w' hb => ?_⟩⟩
    · have h := wQ es HE 3 (by decide)
      show (es.wd 3 ++ es.w7).length = 38
      rw [List.length_append, h]
      rfl
    · rw [← hR]
      refine (yY es w' (fun j hj => (hrw j hj).below hb) HE).mono ?_
      rintro x w'' ⟨A, c, rfl, ho, hb⟩
      exact ⟨A, c, rfl, Fz ho, hb⟩
    · rw [← hR]
      exact Bc es w' (fun j hj => (hrw j hj).below hb) HE
 have WS := Lib.hid hws
 have RC : Hid (∀ w', Below w7.heap.size w7 w' → Calls Tryz.prog 11 #[.agg e.R] w' fun x w'' => x = .returned (.bool g) ∧ Below w'.heap.size w' w'') := Lib.hid (fun w' hb => by
  have h := xA e w' (fun j hj => (RT7.out j hj).below hb)
  rw [hg0] at h
  exact h)
 have IC : Hid (g = true → ∀ A1 c1 A2 c2 w', Rd w' A1 ws → Rd w' A2 ws → Calls Tryz.prog 19 #[.slice A1 38 c1, .slice A2 38 c2] w' fun x w'' => x = .returned (.bool true) ∧ Below w'.heap.size w' w'') := Lib.hid (fun hg A1 c1 A2 c2 w' h1 h2 => by
  have e38 := (hws hg).1
  have h := Dx ws ws A1 A2 c1 c2 w' h1 h2 (by omega)
  rw [e38] at h
  refine h.mono ?_
  rintro x w'' ⟨r, rfl, hr, hb⟩
  exact ⟨by rw [hr.2 rfl], hb⟩)
 have R0 := Lib.hid L7.out.r0
 have B7 := Lib.hid L7.out.be
 have i35 : Hid ((Tryz.prog.info? 35).map (·.size) = some e.R.toList.length) := Lib.hid (by kernel_rfl)
 clear hws hg0 RT7 L7 HR HL dn HCAP Pq
 try simp only [Act.put]
 refine OG.wR (by kernel_rfl) (fun l a w => ∃ A1 : Option Addr, ∃ c1 : Nat, ∃ A2 : Option Addr, ∃ c2 : Nat, a = { tmps := List.toArray (Value.agg e.R :: Value.slice A ll.length c :: Value.pointer (some ⟨w0.heap.size, 0, none⟩) :: undef :: (bif l 13 then .bool true else .bool false) :: Value.bool true :: Value.pointer (some ⟨b6, 0, none⟩) :: I na :: Value.pointer (some ⟨b8, 0, none⟩) :: I na :: Value.bool true :: Value.slice A ll.length c :: Value.int IntKind.i64 ll.length :: Value.bool false :: undef :: Value.tuple #[Value.agg ea.R, I na] :: Value.slice A ll.length c :: Value.tuple #[Value.agg ea.R, I na] :: Value.agg ea.R :: I na :: Value.tuple #[Value.agg eb.R, I na] :: Value.slice A ll.length c :: Value.tuple #[Value.agg eb.R, I na] :: Value.agg eb.R :: I na :: Value.agg ea.R :: Value.agg eb.R :: Value.bool true :: Value.bool false :: Value.bool false :: I na :: I na :: Value.bool false :: Value.bool false :: (bif l 0 then .bool true else undef) :: (bif l 1 then .bool true else undef) :: (bif l 2 then .agg e.R else undef) :: (bif l 3 then .bool g else undef) :: (bif l 4 then .bool (!g) else undef) :: (bif l 5 then .bool (!g) else undef) :: (bif l 6 then (bif g then .agg e.R else undef) else undef) :: (bif l 7 then (bif g then .slice A1 38 c1 else undef) else undef) :: (bif l 8 then (bif g then .agg e.R else undef) else undef) :: (bif l 9 then (bif g then .slice A2 38 c2 else undef) else undef) :: (bif l 10 then (bif g then .bool true else undef) else undef) :: (bif l 11 then .bool true else undef) :: (bif l 12 then .bool true else undef) :: []), defers := [] } ∧ (Below w7.heap.size w7 w) ∧ (l 7 = true → g = true → Rd w A1 ws) ∧ (l 9 = true → g = true → Rd w A2 ws)) (by kernel_rfl) ?s0 ?ss ?se
 case s0 => exact ⟨none, 0, none, 0, rfl, (Below.refl _ _).drew, (fun h => by cases h), (fun h => by cases h)⟩
 case ss =>
  refine OG.Steps.cons rfl (fun l a w K hK hJ hcl h0 hd => ?_) (OG.Steps.cons rfl (fun l a w K hK hJ hcl h0 hd => ?_) (OG.Steps.yes (gi := 1) (dst := 35) rfl rfl (fun l a w hJ hd => by obtain ⟨A1, c1, A2, c2, rfl, hP0, hP1, hP2⟩ := hJ; have dg := hd.get 1 (by rfl); show (some (bif l 1 then .bool true else undef) : Option Value) = some _; rw [dg]; rfl) (fun l a w K hK hJ hcl h0 hd => ?_) (OG.Steps.yes (gi := 1) (dst := 35) rfl rfl (fun l a w hJ hd => by obtain ⟨A1, c1, A2, c2, rfl, hP0, hP1, hP2⟩ := hJ; have dg := hd.get 1 (by rfl); show (some (bif l 1 then .bool true else undef) : Option Value) = some _; rw [dg]; rfl) (fun l a w K hK hJ hcl h0 hd => ?_) (OG.Steps.yes (gi := 1) (dst := 35) rfl rfl (fun l a w hJ hd => by obtain ⟨A1, c1, A2, c2, rfl, hP0, hP1, hP2⟩ := hJ; have dg := hd.get 1 (by rfl); show (some (bif l 1 then .bool true else undef) : Option Value) = some _; rw [dg]; rfl) (fun l a w K hK hJ hcl h0 hd => ?_) (OG.Steps.yes (gi := 1) (dst := 35) rfl rfl (fun l a w hJ hd => by obtain ⟨A1, c1, A2, c2, rfl, hP0, hP1, hP2⟩ := hJ; have dg := hd.get 1 (by rfl); show (some (bif l 1 then .bool true else undef) : Option Value) = some _; rw [dg]; rfl) (fun l a w K hK hJ hcl h0 hd => ?_) (OG.Steps.opt (gi := 5) (dst := 39) g rfl rfl (fun l a w hJ hd => by obtain ⟨A1, c1, A2, c2, rfl, hP0, hP1, hP2⟩ := hJ; have dg := hd.get 5 (by rfl); show (some (bif l 5 then .bool (!g) else undef) : Option Value) = some _; rw [dg]; cases g <;> rfl) (fun l a w K hK hJ hcl h0 hd => ⟨fun hg => ?_, fun hg => ?_⟩) (OG.Steps.opt (gi := 5) (dst := 39) g rfl rfl (fun l a w hJ hd => by obtain ⟨A1, c1, A2, c2, rfl, hP0, hP1, hP2⟩ := hJ; have dg := hd.get 5 (by rfl); show (some (bif l 5 then .bool (!g) else undef) : Option Value) = some _; rw [dg]; cases g <;> rfl) (fun l a w K hK hJ hcl h0 hd => ⟨fun hg => ?_, fun hg => ?_⟩) (OG.Steps.opt (gi := 5) (dst := 39) g rfl rfl (fun l a w hJ hd => by obtain ⟨A1, c1, A2, c2, rfl, hP0, hP1, hP2⟩ := hJ; have dg := hd.get 5 (by rfl); show (some (bif l 5 then .bool (!g) else undef) : Option Value) = some _; rw [dg]; cases g <;> rfl) (fun l a w K hK hJ hcl h0 hd => ⟨fun hg => ?_, fun hg => ?_⟩) (OG.Steps.opt (gi := 5) (dst := 39) g rfl rfl (fun l a w hJ hd => by obtain ⟨A1, c1, A2, c2, rfl, hP0, hP1, hP2⟩ := hJ; have dg := hd.get 5 (by rfl); show (some (bif l 5 then .bool (!g) else undef) : Option Value) = some _; rw [dg]; cases g <;> rfl) (fun l a w K hK hJ hcl h0 hd => ⟨fun hg => ?_, fun hg => ?_⟩) (OG.Steps.opt (gi := 5) (dst := 39) g rfl rfl (fun l a w hJ hd => by obtain ⟨A1, c1, A2, c2, rfl, hP0, hP1, hP2⟩ := hJ; have dg := hd.get 5 (by rfl); show (some (bif l 5 then .bool (!g) else undef) : Option Value) = some _; rw [dg]; cases g <;> rfl) (fun l a w K hK hJ hcl h0 hd => ⟨fun hg => ?_, fun hg => ?_⟩) (OG.Steps.yes (gi := 1) (dst := 35) rfl rfl (fun l a w hJ hd => by obtain ⟨A1, c1, A2, c2, rfl, hP0, hP1, hP2⟩ := hJ; have dg := hd.get 1 (by rfl); show (some (bif l 1 then .bool true else undef) : Option Value) = some _; rw [dg]; rfl) (fun l a w K hK hJ hcl h0 hd => ?_) (OG.Steps.cons rfl (fun l a w K hK hJ hcl h0 hd => ?_) (OG.Steps.cons rfl (fun l a w K hK hJ hcl h0 hd => ?_) OG.Steps.nil)))))))))))))
  · obtain ⟨A1, c1, A2, c2, rfl, hP0, hP1, hP2⟩ := hJ
    have HJ := Lib.hid (And.intro hP0 (And.intro hP1 (hP2)))
    clear hP0 hP1 hP2 hd hcl h0
    go_simp
    exact hK.out _ _ ⟨A1, c1, A2, c2, (rfl), (HJ.out.1), (HJ.out.2.1), (HJ.out.2.2)⟩
  · obtain ⟨A1, c1, A2, c2, rfl, hP0, hP1, hP2⟩ := hJ
    have d0 := hd.get 0 (by rfl)
    have HJ := Lib.hid (And.intro hP0 (And.intro hP1 (hP2)))
    clear hP0 hP1 hP2 hd hcl h0
    go_simp
    exact hK.out _ _ ⟨A1, c1, A2, c2, (by simp only [OG.upd, d0]; rfl), (HJ.out.1), (HJ.out.2.1), (HJ.out.2.2)⟩
  · obtain ⟨A1, c1, A2, c2, rfl, hP0, hP1, hP2⟩ := hJ
    have HJ := Lib.hid (And.intro hP0 (And.intro hP1 (hP2)))
    clear hP0 hP1 hP2 hd hcl h0
    refine wp_load_mid 35 (.tmp 2) rfl w0.heap.size 0 rfl e.R.toList _ (Row.whole (R0.out.below HJ.out.1 R0.out.lt)) Tryz.underlying35 rfl i35.out ?_
    exact hK.out _ _ ⟨A1, c1, A2, c2, (rfl), (HJ.out.1), (HJ.out.2.1), (HJ.out.2.2)⟩
  · obtain ⟨A1, c1, A2, c2, rfl, hP0, hP1, hP2⟩ := hJ
    have d2 := hd.get 2 (by rfl)
    have HJ := Lib.hid (And.intro hP0 (And.intro hP1 (hP2)))
    clear hP0 hP1 hP2 hd hcl h0
    go_simp
    refine (RC.out _ HJ.out.1).mono ?_
    rintro x w' ⟨rfl, hb⟩
    exact hK.out _ _ ⟨A1, c1, A2, c2, (by simp only [OG.upd, d2]; rfl), (HJ.out.1.trans (hb.mono HJ.out.1.size)), (fun h hg => (HJ.out.2.1 h hg).below hb), (fun h hg => (HJ.out.2.2 h hg).below hb)⟩
  · obtain ⟨A1, c1, A2, c2, rfl, hP0, hP1, hP2⟩ := hJ
    have d3 := hd.get 3 (by rfl)
    have HJ := Lib.hid (And.intro hP0 (And.intro hP1 (hP2)))
    clear hP0 hP1 hP2 hd hcl h0
    go_simp
    exact hK.out _ _ ⟨A1, c1, A2, c2, (by simp only [OG.upd, d3]; rfl), (HJ.out.1), (HJ.out.2.1), (HJ.out.2.2)⟩
  · obtain ⟨A1, c1, A2, c2, rfl, hP0, hP1, hP2⟩ := hJ
    have d4 := hd.get 4 (by rfl)
    have HJ := Lib.hid (And.intro hP0 (And.intro hP1 (hP2)))
    clear hP0 hP1 hP2 hd hcl h0
    go_simp
    exact hK.out _ _ ⟨A1, c1, A2, c2, (by simp only [OG.upd, d4]; rfl), (HJ.out.1), (HJ.out.2.1), (HJ.out.2.2)⟩
  · obtain ⟨A1, c1, A2, c2, rfl, hP0, hP1, hP2⟩ := hJ
    have HJ := Lib.hid (And.intro hP0 (And.intro hP1 (hP2)))
    clear hP0 hP1 hP2 hd hcl h0
    refine wp_load_mid 35 (.tmp 2) rfl w0.heap.size 0 rfl e.R.toList _ (Row.whole (R0.out.below HJ.out.1 R0.out.lt)) Tryz.underlying35 rfl i35.out ?_
    exact hK.out _ _ ⟨A1, c1, A2, c2, (by simp only [OG.upd, hg]; rfl), (HJ.out.1), (HJ.out.2.1), (HJ.out.2.2)⟩
  · obtain ⟨A1, c1, A2, c2, rfl, hP0, hP1, hP2⟩ := hJ
    have HJ := Lib.hid (And.intro hP0 (And.intro hP1 (hP2)))
    clear hP0 hP1 hP2 hd hcl h0
    exact hK.out _ _ ⟨A1, c1, A2, c2, (by simp only [OG.upd, hg, cond_false, Bool.cond_self]; rfl), (HJ.out.1), (HJ.out.2.1), (HJ.out.2.2)⟩
  · obtain ⟨A1, c1, A2, c2, rfl, hP0, hP1, hP2⟩ := hJ
    have d6 := hd.get 6 (by rfl)
    have HJ := Lib.hid (And.intro hP0 (And.intro hP1 (hP2)))
    clear hP0 hP1 hP2 hd hcl h0
    go_simp
    refine ((WS.out hg).2.1 _ HJ.out.1).mono ?_
    rintro x w' ⟨A', c', rfl, hq, hb⟩
    exact hK.out _ _ ⟨A', c', A2, c2, (by simp only [OG.upd, d6, hg]; rfl), (HJ.out.1.trans (hb.mono HJ.out.1.size)), (fun _ _ => hq), (fun h hg => (HJ.out.2.2 h hg).below hb)⟩
  · obtain ⟨A1, c1, A2, c2, rfl, hP0, hP1, hP2⟩ := hJ
    have d6 := hd.get 6 (by rfl)
    have HJ := Lib.hid (And.intro hP0 (And.intro hP1 (hP2)))
    clear hP0 hP1 hP2 hd hcl h0
    exact hK.out _ _ ⟨A1, c1, A2, c2, (by simp only [OG.upd, d6, hg, cond_false, Bool.cond_self]; rfl), (HJ.out.1), (fun _ h => by rw [hg] at h; cases h), (HJ.out.2.2)⟩
  · obtain ⟨A1, c1, A2, c2, rfl, hP0, hP1, hP2⟩ := hJ
    have HJ := Lib.hid (And.intro hP0 (And.intro hP1 (hP2)))
    clear hP0 hP1 hP2 hd hcl h0
    refine wp_load_mid 35 (.tmp 2) rfl w0.heap.size 0 rfl e.R.toList _ (Row.whole (R0.out.below HJ.out.1 R0.out.lt)) Tryz.underlying35 rfl i35.out ?_
    exact hK.out _ _ ⟨A1, c1, A2, c2, (by simp only [OG.upd, hg]; rfl), (HJ.out.1), (HJ.out.2.1), (HJ.out.2.2)⟩
  · obtain ⟨A1, c1, A2, c2, rfl, hP0, hP1, hP2⟩ := hJ
    have HJ := Lib.hid (And.intro hP0 (And.intro hP1 (hP2)))
    clear hP0 hP1 hP2 hd hcl h0
    exact hK.out _ _ ⟨A1, c1, A2, c2, (by simp only [OG.upd, hg, cond_false, Bool.cond_self]; rfl), (HJ.out.1), (HJ.out.2.1), (HJ.out.2.2)⟩
  · obtain ⟨A1, c1, A2, c2, rfl, hP0, hP1, hP2⟩ := hJ
    have d8 := hd.get 8 (by rfl)
    have HJ := Lib.hid (And.intro hP0 (And.intro hP1 (hP2)))
    clear hP0 hP1 hP2 hd hcl h0
    go_simp
    refine ((WS.out hg).2.2 _ HJ.out.1).mono ?_
    rintro x w' ⟨A', c', rfl, hq, hb⟩
    exact hK.out _ _ ⟨A1, c1, A', c', (by simp only [OG.upd, d8, hg]; rfl), (HJ.out.1.trans (hb.mono HJ.out.1.size)), (fun h hg => (HJ.out.2.1 h hg).below hb), (fun _ _ => hq)⟩
  · obtain ⟨A1, c1, A2, c2, rfl, hP0, hP1, hP2⟩ := hJ
    have d8 := hd.get 8 (by rfl)
    have HJ := Lib.hid (And.intro hP0 (And.intro hP1 (hP2)))
    clear hP0 hP1 hP2 hd hcl h0
    exact hK.out _ _ ⟨A1, c1, A2, c2, (by simp only [OG.upd, d8, hg, cond_false, Bool.cond_self]; rfl), (HJ.out.1), (HJ.out.2.1), (fun _ h => by rw [hg] at h; cases h)⟩
  · obtain ⟨A1, c1, A2, c2, rfl, hP0, hP1, hP2⟩ := hJ
    have d7 := hd.get 7 (by rfl)
    have d9 := hd.get 9 (by rfl)
    have HJ := Lib.hid (And.intro hP0 (And.intro hP1 (hP2)))
    clear hP0 hP1 hP2 hd hcl h0
    have q1 := HJ.out.2.1 d7 hg
    have q2 := HJ.out.2.2 d9 hg
    go_simp
    refine (IC.out hg _ _ _ _ _ q1 q2).mono ?_
    rintro x w' ⟨rfl, hb⟩
    exact hK.out _ _ ⟨A1, c1, A2, c2, (by simp only [OG.upd, d7, d9, hg]; rfl), (HJ.out.1.trans (hb.mono HJ.out.1.size)), (fun h hg => (HJ.out.2.1 h hg).below hb), (fun h hg => (HJ.out.2.2 h hg).below hb)⟩
  · obtain ⟨A1, c1, A2, c2, rfl, hP0, hP1, hP2⟩ := hJ
    have d7 := hd.get 7 (by rfl)
    have d9 := hd.get 9 (by rfl)
    have HJ := Lib.hid (And.intro hP0 (And.intro hP1 (hP2)))
    clear hP0 hP1 hP2 hd hcl h0
    exact hK.out _ _ ⟨A1, c1, A2, c2, (by simp only [OG.upd, d7, d9, hg, cond_false, Bool.cond_self]; rfl), (HJ.out.1), (HJ.out.2.1), (HJ.out.2.2)⟩
  · obtain ⟨A1, c1, A2, c2, rfl, hP0, hP1, hP2⟩ := hJ
    have d5 := hd.get 5 (by rfl)
    have d10 := hd.get 10 (by rfl)
    have HJ := Lib.hid (And.intro hP0 (And.intro hP1 (hP2)))
    clear hP0 hP1 hP2 hd hcl h0
    rcases Bool.eq_false_or_eq_true g with hg | hg
    · go_simp
      exact hK.out _ _ ⟨A1, c1, A2, c2, (by simp only [OG.upd, d5, d10, hg, cond_false, cond_true, Bool.cond_self]; rfl), (HJ.out.1), (HJ.out.2.1), (HJ.out.2.2)⟩
    · go_simp
      exact hK.out _ _ ⟨A1, c1, A2, c2, (by simp only [OG.upd, d5, d10, hg, cond_false, cond_true, Bool.cond_self]; rfl), (HJ.out.1), (HJ.out.2.1), (HJ.out.2.2)⟩
  · obtain ⟨A1, c1, A2, c2, rfl, hP0, hP1, hP2⟩ := hJ
    have d1 := hd.get 1 (by rfl)
    have d11 := hd.get 11 (by rfl)
    have HJ := Lib.hid (And.intro hP0 (And.intro hP1 (hP2)))
    clear hP0 hP1 hP2 hd hcl h0
    go_simp
    exact hK.out _ _ ⟨A1, c1, A2, c2, (by simp only [OG.upd, d1, d11]; rfl), (HJ.out.1), (HJ.out.2.1), (HJ.out.2.2)⟩
  · obtain ⟨A1, c1, A2, c2, rfl, hP0, hP1, hP2⟩ := hJ
    have d12 := hd.get 12 (by rfl)
    have HJ := Lib.hid (And.intro hP0 (And.intro hP1 (hP2)))
    clear hP0 hP1 hP2 hd hcl h0
    go_simp
    exact hK.out _ _ ⟨A1, c1, A2, c2, (by simp only [OG.upd, d12]; rfl), (HJ.out.1), (HJ.out.2.1), (HJ.out.2.2)⟩
 case se =>
  intro l a w hJ he
  obtain ⟨A1, c1, A2, c2, rfl, hP0, hP1, hP2⟩ := hJ
  rw [he 0 (by decide), he 1 (by decide), he 2 (by decide), he 3 (by decide), he 4 (by decide), he 5 (by decide), he 6 (by decide), he 7 (by decide), he 8 (by decide), he 9 (by decide), he 10 (by decide), he 11 (by decide), he 12 (by decide), he 13 (by decide)]
  have BE := Lib.hid (B7.out.trans (hP0.mono B7.out.size))
  clear hP0 hP1 hP2 he
  go_wp2
  go_ret
  exact ⟨rfl, BE.out⟩
end Go.Proofs.YtcfobekkchhbbaaGreat.EE

namespace Go.Proofs.YtcfobekkchhbbaaGreat.KK
open Go.ChangeShapes Go.WideShapes Go.ChangeAt Go.RowKit Go.Deep Go.Proofs.af.aQ
set_option linter.unusedVariables false
set_option linter.unusedSimpArgs false
theorem FB {H : Type} {enc : TypeId × Value → H} {W : World} {base : Nat} {sp : Nat → Bool} {held : Bool} {fuel : Nat} {cs : List Value} {x : DataW H × List MemPlace} (h : DataW.trod enc Tryz.prog W base sp held fuel 46 cs = some x) : ∃ A c l, cs = [.slice A (l : List Int).length c] ∧ l.length ≤ c ∧ Rd W A l := by
 rcases open_slice Tryz.underlying46 h with ⟨rfl, _⟩ | ⟨a, len, cap, m, n, D, Pl, rfl, hb, hl, hm, hmm, hx, hi⟩
 · exact ⟨none, 0, [], rfl, by simp, Rd.nil _ _⟩
 · have hle : len ≤ m := by rw [hmm]; split <;> omega
   have key : ∀ i, i < len → ∃ q : Int, W.cell? ((a.add (i * 1)).add 0) = some (I q) := by
    intro i hil
    obtain ⟨cs', hc, ht⟩ := hi i (by omega)
    rw [k2] at hc
    obtain ⟨hlen, _, hat⟩ := World.cells?_some hc
    obtain ⟨q, e0, _, _⟩ := DataW.trod_int Tryz.underlying2 ht
    subst e0
    exact ⟨q, hat 0 (by simp)⟩
   obtain ⟨l, hlen, hk⟩ := uy key
   subst hlen
   refine ⟨some a, cap, l, rfl, hl, rfl, (by unfold maxLen at hm; show l.length ≤ _; omega), fun hne => ⟨a, rfl, fun j p hj => ⟨[I p], rfl, rfl, fun i u hi => ?_⟩⟩⟩
   match i, hi with
   | 0, hi =>
     simp at hi
     subst hi
     have := hk j p hj
     have h1 : (Kd.int .i64).sz = 1 := rfl
     rw [h1]
     simpa [Addr.add] using this
end Go.Proofs.YtcfobekkchhbbaaGreat.KK

namespace Go.Proofs.YtcfobekkchhbbaaGreat.EE
open Go.ChangeShapes Go.WideShapes Go.ChangeAt Go.RowKit Go.Deep Go.Proofs.YtcfobekkchhbbaaGreat.KK Go.Proofs.af.aQ
set_option linter.unusedVariables false
set_option linter.unusedSimpArgs false
theorem z22 : Tryz.prog.cellsOf 22 = 1 := by kernel_rfl
theorem z3 : Tryz.prog.cellsOf 3 = 1 := by kernel_rfl
theorem z4 : Tryz.prog.cellsOf 4 = 1 := by kernel_rfl
theorem z28 : Tryz.prog.cellsOf 26 = 4 := by kernel_rfl
theorem z33 : Tryz.prog.cellsOf 31 = 6 := by kernel_rfl
theorem z34 : Tryz.prog.cellsOf 32 = 18 := by kernel_rfl
theorem z35 : Tryz.prog.cellsOf 33 = 4 := by kernel_rfl
theorem z37 : Tryz.prog.cellsOf 35 = 29 := by kernel_rfl
theorem z46 : Tryz.prog.cellsOf 55 = 13 := by kernel_rfl
theorem Zh {α : Type} {l : List α} (h : l.length = 4) : ∃ c0 c1 c2 c3, l = [c0, c1, c2, c3] := by
 match l, h with
 | [c0, c1, c2, c3], _ => exact ⟨c0, c1, c2, c3, rfl⟩
theorem WW {α : Type} {l : List α} (h : l.length = 29) : ∃ c0 c1 c2 c3 c4 c5 c6 c7 c8 c9 c10 c11 c12 c13 c14 c15 c16 c17 c18 c19 c20 c21 Ib c23 c24 c25 Hz ML c28, l = [c0, c1, c2, c3, c4, c5, c6, c7, c8, c9, c10, c11, c12, c13, c14, c15, c16, c17, c18, c19, c20, c21, Ib, c23, c24, c25, Hz, ML, c28] := by
 match l, h with
 | [c0, c1, c2, c3, c4, c5, c6, c7, c8, c9, c10, c11, c12, c13, c14, c15, c16, c17, c18, c19, c20, c21, Ib, c23, c24, c25, Hz, ML, c28], _ => exact ⟨c0, c1, c2, c3, c4, c5, c6, c7, c8, c9, c10, c11, c12, c13, c14, c15, c16, c17, c18, c19, c20, c21, Ib, c23, c24, c25, Hz, ML, c28, rfl⟩
theorem WX {α : Type} {l : List α} (h : l.length = 18) : ∃ c0 c1 c2 c3 c4 c5 c6 c7 c8 c9 c10 c11 c12 c13 c14 c15 c16 c17, l = [c0, c1, c2, c3, c4, c5, c6, c7, c8, c9, c10, c11, c12, c13, c14, c15, c16, c17] := by
 match l, h with
 | [c0, c1, c2, c3, c4, c5, c6, c7, c8, c9, c10, c11, c12, c13, c14, c15, c16, c17], _ => exact ⟨c0, c1, c2, c3, c4, c5, c6, c7, c8, c9, c10, c11, c12, c13, c14, c15, c16, c17, rfl⟩
section
variable {H : Type} {enc : TypeId × Value → H} {W : World} {base : Nat} {sp : Nat → Bool} {held : Bool} {fuel : Nat} {cs : List Value} {x : DataW H × List MemPlace}
theorem open_ints {n : Nat} {t e : TypeId} (ht : Tryz.prog.underlying t = some (.array n e)) (he : Tryz.prog.underlying e = some (.int .i64)) (hc : Tryz.prog.cellsOf e = 1) (hn : Tryz.prog.cellsOf t = n) (h : DataW.trod enc Tryz.prog W base sp held fuel t cs = some x) :
 cs.length = n ∧ ∀ i, i < n → ∃ q : Int, cs[i]? = some (I q) := by
 obtain ⟨xs, m, _, _, hl, hlen, hf⟩ := DataW.trod_array ht h
 rw [hn] at hl
 refine ⟨hl, fun i hi => ?_⟩
 have h1 := (hf i hi).trans (List.getElem?_eq_getElem (by omega))
 rw [hc, Nat.mul_one] at h1
 obtain ⟨q, e1, _, _⟩ := DataW.trod_int he h1
 refine ⟨q, ?_⟩
 have h2 : (List.take 1 (List.drop i cs))[0]? = some (I q) := by rw [e1]; rfl
 simpa using h2
theorem D7 {t e : TypeId} (ht : Tryz.prog.underlying t = some (.array 4 e)) (he : Tryz.prog.underlying e = some (.int .i64)) (hc : Tryz.prog.cellsOf e = 1) (hn : Tryz.prog.cellsOf t = 4) (h : DataW.trod enc Tryz.prog W base sp held fuel t cs = some x) : ∃ a b c d : Int, cs = [I a, I b, I c, I d] := by
 obtain ⟨hl, hk⟩ := open_ints ht he hc hn h
 obtain ⟨c0, c1, c2, c3, rfl⟩ := Zh hl
 obtain ⟨a, ha⟩ := hk 0 (by decide)
 obtain ⟨b, hb⟩ := hk 1 (by decide)
 obtain ⟨c, hc⟩ := hk 2 (by decide)
 obtain ⟨d, hd⟩ := hk 3 (by decide)
 simp at ha hb hc hd
 subst ha hb hc hd
 exact ⟨a, b, c, d, rfl⟩
theorem FC (h : DataW.trod enc Tryz.prog W base sp held fuel 31 cs = some x) : ∃ t : Tg, cs = t.row.toList ∧ vU W t := by
 obtain ⟨r, c, A, cp, l, r', c', A', cp', l', rfl, ⟨h1, h2⟩, ⟨h3, h4⟩⟩ := Kq h
 exact ⟨⟨r, c, A, cp, l, r', c', A', cp', l'⟩, rfl, h2, h1, h4, h3⟩
theorem Oc (h : DataW.trod enc Tryz.prog W base sp held fuel 32 cs = some x) : ∃ t0 t1 t2 : Tg, cs = t0.row.toList ++ (t1.row.toList ++ t2.row.toList) ∧ vU W t0 ∧ vU W t1 ∧ vU W t2 := by
 obtain ⟨xs, m, _, _, hl, hlen, hf⟩ := DataW.trod_array Tryz.underlying32 h
 rw [z34] at hl
 have h0 := (hf 0 (by decide)).trans (List.getElem?_eq_getElem (by omega))
 have h1 := (hf 1 (by decide)).trans (List.getElem?_eq_getElem (by omega))
 have h2 := (hf 2 (by decide)).trans (List.getElem?_eq_getElem (by omega))
 rw [z33] at h0 h1 h2
 obtain ⟨t0, e0, r0⟩ := FC h0
 obtain ⟨t1, e1, r1⟩ := FC h1
 obtain ⟨t2, e2, r2⟩ := FC h2
 refine ⟨t0, t1, t2, ?_, r0, r1, r2⟩
 rw [← e0, ← e1, ← e2]
 obtain ⟨c0, c1, c2, c3, c4, c5, c6, c7, c8, c9, c10, c11, c12, c13, c14, c15, c16, c17, rfl⟩ := WX hl
 rfl
theorem P8 (h : DataW.trod enc Tryz.prog W base sp held fuel 35 cs = some x) : ∃ e : Eg, cs = e.row.toList ∧ ∀ j, j < 3 → vU W (e.t j) := by
 obtain ⟨xs, n, _, _, hl, hlen, hf⟩ := DataW.trod_struct Tryz.underlying35 h
 rw [z37] at hl
 have hl2 : xs.length = 6 := hlen
 have get : ∀ i (h : i < 6), xs[i]? = some (xs[i]'(by omega)) := fun i h => List.getElem?_eq_getElem (by omega)
 obtain ⟨q0, q1, q2, q3, e0⟩ := D7 Tryz.underlying26 Tryz.underlying22 z22 z28 ((QD hf 0 26 0 4 rfl z28).trans (get 0 (by omega)))
 obtain ⟨t0, t1, t2, e1, r0, r1, r2⟩ := Oc ((QD hf 1 32 4 18 rfl z34).trans (get 1 (by omega)))
 obtain ⟨st, e2, _, _⟩ := DataW.trod_int Tryz.underlying3 ((QD hf 2 3 22 1 rfl z3).trans (get 2 (by omega)))
 obtain ⟨co, e3, _, _⟩ := DataW.trod_int Tryz.underlying3 ((QD hf 3 3 23 1 rfl z3).trans (get 3 (by omega)))
 obtain ⟨f0, f1, f2, f3, e4⟩ := D7 Tryz.underlying33 Tryz.underlying3 z3 z35 ((QD hf 4 33 24 4 rfl z35).trans (get 4 (by omega)))
 obtain ⟨sat, e5, _⟩ := DataW.trod_bool Tryz.underlying4 ((QD hf 5 4 28 1 rfl z4).trans (get 5 (by omega)))
 refine ⟨⟨q0, q1, q2, q3, t0, t1, t2, st, co, f0, f1, f2, f3, sat⟩, ?_, fun j hj => ?_⟩
 · have : cs = (cs.drop 0).take 4 ++ ((cs.drop 4).take 18 ++ ((cs.drop 22).take 1 ++ ((cs.drop 23).take 1 ++ ((cs.drop 24).take 4 ++ (cs.drop 28).take 1)))) := by
    obtain ⟨c0, c1, c2, c3, c4, c5, c6, c7, c8, c9, c10, c11, c12, c13, c14, c15, c16, c17, c18, c19, c20, c21, Ib, c23, c24, c25, Hz, ML, c28, rfl⟩ := WW hl
    rfl
   rw [this, e0, e1, e2, e3, e4, e5]
   rfl
 · obtain rfl | rfl | rfl : j = 0 ∨ j = 1 ∨ j = 2 := by omega
   · exact r0
   · exact r1
   · exact r2
end
end Go.Proofs.YtcfobekkchhbbaaGreat.EE

