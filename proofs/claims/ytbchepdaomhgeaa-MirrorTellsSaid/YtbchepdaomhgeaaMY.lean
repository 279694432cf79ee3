import Derived.Test.YtbchepdaomhgeaaMX
/- Layer 14: the document's Ack. -/
namespace Go.Proofs.Ytbchepdaomhgeaa.MM
open Go.RowKit
set_option linter.unusedVariables false
set_option linter.unusedSimpArgs false
set_option maxRecDepth 100000 in
set_option maxHeartbeats 2000000 in
theorem refAck_calls (d : Dk) (s : Value) (a b : Int) (w : World) (hst : 0 ≤ d.stage ∧ d.stage ≤ 3) (hq0 : 0 ≤ d.seq ∧ d.seq ≤ 4611686018427387904) (hs : ∃ A n c, s = .slice A n c) :
    Calls Try.prog 30 #[d.val s, I a, I b] w fun e w' => e = .returned ((d.ack a b).val s) ∧ Below w.heap.size w w' := by
  obtain ⟨A, n, c, rfl⟩ := hs
  obtain ⟨gen, k, acked, peer, stage, seq⟩ := d
  dsimp only at hst hq0
  have N := Lib.hid (twoZ A n c ⟨gen, k, acked, peer, stage, seq⟩ w)
  have D := Lib.hid (two26 A n c ⟨gen, k, acked, peer, stage, seq⟩ ⟨gen, k, acked, peer, stage, seq⟩ w)
  have HQ := Lib.hid hq0
  by_cases s1 : stage = 1
  · subst s1
    by_cases ha : a = peer
    case neg =>
      have ea : (a != peer) = true := by simp [ha]
      have ew : Dk.ack ⟨gen, k, acked, peer, 1, seq⟩ a b = ⟨gen, k, acked, peer, 1, seq⟩ := by simp [Dk.ack, ha]
      rw [ew]
      clear ew hst hq0 ha
      go_enter Try.func30, Try.ntmps30
      go_wp2
      exact bodyPost_ret (results_cell rfl rfl D.out.r1) rfl ⟨rfl, D.out.be⟩
    subst ha
    have ea : (a != a) = false := by simp
    by_cases hk : b > k
    case pos =>
      have ek : decide (b > k) = true := decide_eq_true hk
      have ew : Dk.ack ⟨gen, k, acked, a, 1, seq⟩ a b = ⟨gen, k, acked, a, 1, seq⟩ := by simp [Dk.ack, hk]
      rw [ew]
      clear ew hst hq0 hk
      go_enter Try.func30, Try.ntmps30
      go_wp2
      exact bodyPost_ret (results_cell rfl rfl D.out.r1) rfl ⟨rfl, D.out.be⟩
    have ek : decide (b > k) = false := decide_eq_false hk
    by_cases hc : b < acked
    case pos =>
      have ec : decide (b < acked) = true := decide_eq_true hc
      have ew : Dk.ack ⟨gen, k, acked, a, 1, seq⟩ a b = ⟨gen, k, acked, a, 1, seq⟩ := by simp [Dk.ack, hc]
      rw [ew]
      clear ew hst hq0 hk hc
      go_enter Try.func30, Try.ntmps30
      go_wp2
      exact bodyPost_ret (results_cell rfl rfl D.out.r1) rfl ⟨rfl, D.out.be⟩
    have ec : decide (b < acked) = false := decide_eq_false hc
    by_cases h5 : b = k
    · subst h5
      have e5 : (b == b) = true := by simp
      by_cases h6 : seq = 4611686018427387904
      · subst h6
        have ew : Dk.ack ⟨gen, b, acked, a, 1, 4611686018427387904⟩ a b = ⟨gen, b, acked, a, 1, 4611686018427387904⟩ := by simp [Dk.ack, show (4611686018427387904 : Int) ≥ 4611686018427387904 by omega]
        rw [ew]
        clear ew hst hq0 hk hc
        go_enter Try.func30, Try.ntmps30
        go_wp2
        exact bodyPost_ret (results_cell rfl rfl D.out.r1) rfl ⟨rfl, D.out.be⟩
      · have e6 : (seq == 4611686018427387904) = false := by simp [h6]
        have hw64 : IntKind.i64.wrap (seq + 1) = seq + 1 := by have := HQ.out; simp [IntKind.wrap, IntKind.bits, IntKind.signed]; omega
        have ew : Dk.ack ⟨gen, b, acked, a, 1, seq⟩ a b = ⟨gen, b, b, a, 2, seq + 1⟩ := by simp [Dk.ack, apartB, hc, show ¬ 4611686018427387904 ≤ seq by omega]
        rw [ew]
        clear ew hst hq0 hk hc h6
        go_enter Try.func30, Try.ntmps30
        go_wp2_with fail
        refine (with_calls ⟨gen, b, acked, a, 1, seq⟩ _ 2 a (seq + 1) b _ ⟨_, _, _, rfl⟩).mono ?_
        rintro e w1 ⟨rfl, hl⟩
        have M := Lib.hid (N.out.below hl)
        clear hl N D
        have c1 := M.out.r1.cell
        have f1 := M.out.r1.free
        go_wp2
        exact bodyPost_ret (results_cell rfl rfl (M.out.r1.fill7 _ _ _ _ _ _ _)) rfl ⟨rfl, Below.fill7 M.out.be (by omega) _ _ _ _ _ _ _⟩
    · have e5 : (b == k) = false := by simp [h5]
      have ew : Dk.ack ⟨gen, k, acked, a, 1, seq⟩ a b = ⟨gen, k, b, a, 1, seq⟩ := by simp [Dk.ack, apartB, hc, hk, h5, show ¬ k < b by omega]
      rw [ew]
      clear ew hst hq0 hk hc h5
      go_enter Try.func30, Try.ntmps30
      go_wp2_with fail
      refine (with_calls ⟨gen, k, acked, a, 1, seq⟩ _ 1 a seq b _ ⟨_, _, _, rfl⟩).mono ?_
      rintro e w1 ⟨rfl, hl⟩
      have M := Lib.hid (N.out.below hl)
      clear hl N D
      have c1 := M.out.r1.cell
      have f1 := M.out.r1.free
      go_wp2
      exact bodyPost_ret (results_cell rfl rfl (M.out.r1.fill7 _ _ _ _ _ _ _)) rfl ⟨rfl, Below.fill7 M.out.be (by omega) _ _ _ _ _ _ _⟩
  by_cases s2 : stage = 2
  · subst s2
    clear s1
    by_cases ha : a = peer
    case neg =>
      have ea : (a != peer) = true := by simp [ha]
      have ew : Dk.ack ⟨gen, k, acked, peer, 2, seq⟩ a b = ⟨gen, k, acked, peer, 2, seq⟩ := by simp [Dk.ack, ha]
      rw [ew]
      clear ew hst hq0 ha
      go_enter Try.func30, Try.ntmps30
      go_wp2
      exact bodyPost_ret (results_cell rfl rfl D.out.r1) rfl ⟨rfl, D.out.be⟩
    subst ha
    have ea : (a != a) = false := by simp
    by_cases hk : b > k
    case pos =>
      have ek : decide (b > k) = true := decide_eq_true hk
      have ew : Dk.ack ⟨gen, k, acked, a, 2, seq⟩ a b = ⟨gen, k, acked, a, 2, seq⟩ := by simp [Dk.ack, hk]
      rw [ew]
      clear ew hst hq0 hk
      go_enter Try.func30, Try.ntmps30
      go_wp2
      exact bodyPost_ret (results_cell rfl rfl D.out.r1) rfl ⟨rfl, D.out.be⟩
    have ek : decide (b > k) = false := decide_eq_false hk
    by_cases hc : b < acked
    case pos =>
      have ec : decide (b < acked) = true := decide_eq_true hc
      have ew : Dk.ack ⟨gen, k, acked, a, 2, seq⟩ a b = ⟨gen, k, acked, a, 2, seq⟩ := by simp [Dk.ack, hc]
      rw [ew]
      clear ew hst hq0 hk hc
      go_enter Try.func30, Try.ntmps30
      go_wp2
      exact bodyPost_ret (results_cell rfl rfl D.out.r1) rfl ⟨rfl, D.out.be⟩
    have ec : decide (b < acked) = false := decide_eq_false hc
    have ew : Dk.ack ⟨gen, k, acked, a, 2, seq⟩ a b = ⟨gen, k, b, a, 2, seq⟩ := by simp [Dk.ack, apartB, hc, hk, show ¬ k < b by omega]
    rw [ew]
    clear ew hst hq0 hk hc
    go_enter Try.func30, Try.ntmps30
    go_wp2_with fail
    refine (with_calls ⟨gen, k, acked, a, 2, seq⟩ _ 2 a seq b _ ⟨_, _, _, rfl⟩).mono ?_
    rintro e w1 ⟨rfl, hl⟩
    have M := Lib.hid (N.out.below hl)
    clear hl N D
    have c1 := M.out.r1.cell
    have f1 := M.out.r1.free
    go_wp2
    exact bodyPost_ret (results_cell rfl rfl (M.out.r1.fill7 _ _ _ _ _ _ _)) rfl ⟨rfl, Below.fill7 M.out.be (by omega) _ _ _ _ _ _ _⟩
  have e1 : (stage != 1) = true := by simp [s1]
  have e2 : (stage != 2) = true := by simp [s2]
  have hap : apartB stage = true := by simp [apartB]; omega
  have ew : Dk.ack ⟨gen, k, acked, peer, stage, seq⟩ a b = ⟨gen, k, acked, peer, stage, seq⟩ := by simp [Dk.ack, hap]
  rw [ew]
  clear ew hst hq0 s1 s2
  go_enter Try.func30, Try.ntmps30
  go_wp2
  exact bodyPost_ret (results_cell rfl rfl D.out.r1) rfl ⟨rfl, D.out.be⟩
end Go.Proofs.Ytbchepdaomhgeaa.MM
