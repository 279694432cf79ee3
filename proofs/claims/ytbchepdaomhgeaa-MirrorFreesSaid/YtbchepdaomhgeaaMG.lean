import Derived.Test.YtbchepdaomhgeaaMF
/- Layer 14: which desks are right. -/
namespace Go.Proofs.Ytbchepdaomhgeaa.MM
open Go.RowKit
set_option linter.unusedVariables false
set_option linter.unusedSimpArgs false
def Dk.right (d : Dk) (l : List Ot) : Bool :=
  inB d.gen && inB d.k && inB d.acked && inB d.seq && decide (d.acked ≤ d.k) && decide (d.stage ≥ 0) && decide (d.stage ≤ 3) && (if apartB d.stage = true then d.peer == -1 else inB d.peer) && decide ((l.length : Int) ≤ 64) && riseB d.k 0 l
set_option maxRecDepth 100000 in
set_option maxHeartbeats 4000000 in
theorem right_calls (d : Dk) (s : Value) (l : List Ot) (w : World) (hs : Sl w s l) :
    Calls Try.prog 22 #[d.val s] w fun e w' => e = .returned (.bool (d.right l)) ∧ Below w.heap.size w w' := by
  obtain ⟨A, c, rfl, hc, hA, hw⟩ := hs
  have HW := Lib.hid hw
  clear hw hc hA
  have N : Hid (Scene w [(26, d.row (.slice A l.length c)), (69, d.row (.slice A l.length c))] ((w.alloc (.cells (d.row (.slice A l.length c)) 26)).alloc (.cells (d.row (.slice A l.length c)) 69))) := Lib.hid (((Scene.none w).push (by simp) _ _).push (by simp) _ _)
  go_enter Try.func22, Try.ntmps22
  go_wp2_with fail
  refine (apart_calls _ 69 d _ _ N.out.r1).mono ?_
  rintro e _ ⟨rfl, rfl⟩
  cases ha : apartB d.stage
  · go_wp2_with fail
    refine (in_same _ _).mono ?_
    rintro e _ ⟨rfl, rfl⟩
    go_wp2_with fail
    refine (in_same _ _).mono ?_
    rintro e _ ⟨rfl, rfl⟩
    cases h0 : inB d.gen
    · go_wp2
      go_ret
      exact ⟨by simp [Dk.right, *], N.out.be⟩
    · skip
      go_wp2_with fail
      refine (in_same _ _).mono ?_
      rintro e _ ⟨rfl, rfl⟩
      cases h1 : inB d.k
      · go_wp2
        go_ret
        exact ⟨by simp [Dk.right, *], N.out.be⟩
      · skip
        go_wp2_with fail
        refine (in_same _ _).mono ?_
        rintro e _ ⟨rfl, rfl⟩
        cases h2 : inB d.acked
        · go_wp2
          go_ret
          exact ⟨by simp [Dk.right, *], N.out.be⟩
        · skip
          go_wp2_with fail
          refine (in_same _ _).mono ?_
          rintro e _ ⟨rfl, rfl⟩
          cases h3 : inB d.seq
          · go_wp2
            go_ret
            exact ⟨by simp [Dk.right, *], N.out.be⟩
          · skip
            cases h4 : decide (d.acked ≤ d.k)
            · go_wp2
              go_ret
              exact ⟨by simp [Dk.right, *], N.out.be⟩
            · skip
              cases h5 : decide (d.stage ≥ 0)
              · go_wp2
                go_ret
                exact ⟨by simp [Dk.right, *], N.out.be⟩
              · skip
                cases h6 : decide (d.stage ≤ 3)
                · go_wp2
                  go_ret
                  exact ⟨by simp [Dk.right, *], N.out.be⟩
                · skip
                  cases h7 : inB d.peer
                  · go_wp2
                    go_ret
                    exact ⟨by simp [Dk.right, *], N.out.be⟩
                  · skip
                    cases h8 : decide ((l.length : Int) ≤ 64)
                    · go_wp2
                      go_ret
                      exact ⟨by simp [Dk.right, *], N.out.be⟩
                    · skip
                      have hl : l.length ≤ 64 := by have := of_decide_eq_true h8; omega
                      go_wp2_with fail
                      refine (rise_calls _ d A c l _ N.out.r1 ((HW.out.below N.out.be).more N.out.be.size) hl).mono ?_
                      rintro e w1 ⟨rfl, hb⟩
                      have HB := Lib.hid (N.out.be.trans (hb.mono N.out.be.size))
                      clear hb
                      go_wp2
                      go_ret
                      exact ⟨by simp [Dk.right, *], HB.out⟩
  · go_wp2_with fail
    refine (in_same _ _).mono ?_
    rintro e _ ⟨rfl, rfl⟩
    cases h0 : inB d.gen
    · go_wp2
      go_ret
      exact ⟨by simp [Dk.right, *], N.out.be⟩
    · skip
      go_wp2_with fail
      refine (in_same _ _).mono ?_
      rintro e _ ⟨rfl, rfl⟩
      cases h1 : inB d.k
      · go_wp2
        go_ret
        exact ⟨by simp [Dk.right, *], N.out.be⟩
      · skip
        go_wp2_with fail
        refine (in_same _ _).mono ?_
        rintro e _ ⟨rfl, rfl⟩
        cases h2 : inB d.acked
        · go_wp2
          go_ret
          exact ⟨by simp [Dk.right, *], N.out.be⟩
        · skip
          go_wp2_with fail
          refine (in_same _ _).mono ?_
          rintro e _ ⟨rfl, rfl⟩
          cases h3 : inB d.seq
          · go_wp2
            go_ret
            exact ⟨by simp [Dk.right, *], N.out.be⟩
          · skip
            cases h4 : decide (d.acked ≤ d.k)
            · go_wp2
              go_ret
              exact ⟨by simp [Dk.right, *], N.out.be⟩
            · skip
              cases h5 : decide (d.stage ≥ 0)
              · go_wp2
                go_ret
                exact ⟨by simp [Dk.right, *], N.out.be⟩
              · skip
                cases h6 : decide (d.stage ≤ 3)
                · go_wp2
                  go_ret
                  exact ⟨by simp [Dk.right, *], N.out.be⟩
                · skip
                  cases h7 : (d.peer == -1)
                  · go_wp2
                    go_ret
                    exact ⟨by simp [Dk.right, *], N.out.be⟩
                  · skip
                    cases h8 : decide ((l.length : Int) ≤ 64)
                    · go_wp2
                      go_ret
                      exact ⟨by simp [Dk.right, *], N.out.be⟩
                    · skip
                      have hl : l.length ≤ 64 := by have := of_decide_eq_true h8; omega
                      go_wp2_with fail
                      refine (rise_calls _ d A c l _ N.out.r1 ((HW.out.below N.out.be).more N.out.be.size) hl).mono ?_
                      rintro e w1 ⟨rfl, hb⟩
                      have HB := Lib.hid (N.out.be.trans (hb.mono N.out.be.size))
                      clear hb
                      go_wp2
                      go_ret
                      exact ⟨by simp [Dk.right, *], HB.out⟩
end Go.Proofs.Ytbchepdaomhgeaa.MM
