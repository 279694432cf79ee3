import Derived.Test.YtmjncjaalleblaaQE
/- Layer 4: the norm. -/
namespace Go.Proofs.Ytmjncjaalleblaa.PQ
open Go.RowKit Go.Proofs.YtmjncjaalleblaaW.PrintWords Go.Proofs.YtmjncjaalleblaaW.PrintLast Go.Proofs.YtmjncjaalleblaaW.PrintMore
set_option linter.unusedVariables false
set_option linter.unusedSimpArgs false
/-- a square -/
def sqV (q : Nat → Int) (i : Nat) : Int := mulV (q i) (q i)
def sqO (q : Nat → Int) (i : Nat) (f : Bool) : Bool := f || mulO (q i) (q i)
set_option maxHeartbeats 2000000 in
theorem sq_calls (F B i : Nat) (f : Bool) (q : Nat → Int) (w : World) (hi : i < 4) (hf : Flag w F f) (hq : Quat w B q) (hB : B ≠ F) :
    Calls Try.prog 29 #[.int .i64 i, .pointer (some ⟨F, 0, none⟩), .pointer (some ⟨B, 0, none⟩)] w (Flagged w F (.int .i64 (sqV q i)) (sqO q i f)) := by
  have ci := hq.at_ i hi
  have HF := Lib.hid hf
  have HQ := Lib.hid hq
  have HB := Lib.hid hB
  clear hf hq hB
  have i0 : (0 : Int) ≤ (i : Int) := Int.natCast_nonneg _
  have i1 : (i : Int) < 4 := by omega
  go_enter Try.func29, Try.ntmps29
  go_wp2_with fail
  go_region_held3 (fun w' => w'.cell? ⟨B, i, none⟩ = some (.int .i64 (q i))) (first | exact Quat.at_ H4.out i hi | exact Quat.at_ H2.out i hi | exact Quat.at_ HQ.out i hi | go_keep)
    (first
      | (go_at_call 25
         refine (mul_calls _ _ _).mono ?_
         rintro e w1 ⟨rfl, hb⟩
         have H1 := Lib.hid (HF.out.drew.below hb HF.out.drew.lt)
         have H2 := Lib.hid (HQ.out.drew.below hb HQ.out.drew.lt)
         have H3 := Lib.hid (grown_of_below (((Below.refl w.heap.size w).drew).trans hb) (some F))
         clear hb)
      | (go_at_call 24
         refine (one_calls F f _ _ _ H1.out).mono ?_
         rintro e w2 ⟨rfl, hg, hf2⟩
         have H4 := Lib.hid (H2.out.grown hg (by simpa using HB.out))
         have H5 := Lib.hid (grown_trans H3.out hg)
         have H6 := Lib.hid hf2
         clear hg hf2))
  all_goals go_wp2
  all_goals go_ret
  all_goals exact ⟨rfl, H5.out, H6.out⟩
theorem sq_any (i : Int) (F B : Nat) (f : Bool) (q : Nat → Int) (w : World) (hi : 0 ≤ i ∧ i < 4) (hf : Flag w F f) (hq : Quat w B q) (hB : B ≠ F) :
    Calls Try.prog 29 #[.int .i64 i, .pointer (some ⟨F, 0, none⟩), .pointer (some ⟨B, 0, none⟩)] w (Flagged w F (.int .i64 (sqV q i.toNat)) (sqO q i.toNat f)) := by
  have h := sq_calls F B i.toNat f q w (by omega) hf hq hB
  rwa [Int.toNat_of_nonneg hi.1] at h
def normV (q : Nat → Int) : Int := sumV (at3 (sqV q 1) (sqV q 2) (sqV q 3)) (sqV q 0) 3
def normO (q : Nat → Int) : Bool := sumO (at3 (sqV q 1) (sqV q 2) (sqV q 3)) (sqO q 3 (sqO q 2 (sqO q 1 (sqO q 0 false)))) (sqV q 0) 3
set_option maxHeartbeats 2000000 in
theorem norm_start (q : Nat → Int) (w : World) :
    Calls Try.prog 14 #[.agg #[.int .i64 (q 0), .int .i64 (q 1), .int .i64 (q 2), .int .i64 (q 3)]] w fun e w' => e = .returned (.tuple #[.int .i64 (normV q), .bool (normO q)]) ∧ Below w.heap.size w w' := by
  go_enter Try.func14, Try.ntmps14
  go_wp2_with fail
  have M : Hid (Scene w [(24, q4 (q 0) (q 1) (q 2) (q 3)), (46, #[.bool false])] ((w.alloc (.cells (q4 (q 0) (q 1) (q 2) (q 3)) 24)).alloc (.cells #[.bool false] 46))) := Lib.hid (((Scene.none w).push (by simp) _ _).push (by simp) _ _)
  refine (sq_calls (w.heap.size + 1) w.heap.size 0 _ q _ (by omega) (by exact M.out.r1) (by exact M.out.r0) (by omega)).mono ?_
  rintro e w1 ⟨rfl, hg, hf⟩
  have M' := Lib.hid (M.out.grown 1 _ _ hg hf)
  clear M hg hf
  have M : Hid (Scene w [(24, q4 (q 0) (q 1) (q 2) (q 3)), (46, #[.bool ((sqO q 0 false))])] w1) := M'
  clear M'
  go_wp2_with fail
  refine (sq_calls (w.heap.size + 1) w.heap.size 1 _ q _ (by omega) (by exact M.out.r1) (by exact M.out.r0) (by omega)).mono ?_
  rintro e w2 ⟨rfl, hg, hf⟩
  have M' := Lib.hid (M.out.grown 1 _ _ hg hf)
  clear M hg hf
  have M : Hid (Scene w [(24, q4 (q 0) (q 1) (q 2) (q 3)), (46, #[.bool ((sqO q 1 (sqO q 0 false)))])] w2) := M'
  clear M'
  go_wp2_with fail
  refine (sq_calls (w.heap.size + 1) w.heap.size 2 _ q _ (by omega) (by exact M.out.r1) (by exact M.out.r0) (by omega)).mono ?_
  rintro e w3 ⟨rfl, hg, hf⟩
  have M' := Lib.hid (M.out.grown 1 _ _ hg hf)
  clear M hg hf
  have M : Hid (Scene w [(24, q4 (q 0) (q 1) (q 2) (q 3)), (46, #[.bool ((sqO q 2 (sqO q 1 (sqO q 0 false))))])] w3) := M'
  clear M'
  go_wp2_with fail
  refine (sq_calls (w.heap.size + 1) w.heap.size 3 _ q _ (by omega) (by exact M.out.r1) (by exact M.out.r0) (by omega)).mono ?_
  rintro e w4 ⟨rfl, hg, hf⟩
  have M' := Lib.hid (M.out.grown 1 _ _ hg hf)
  clear M hg hf
  have M : Hid (Scene w [(24, q4 (q 0) (q 1) (q 2) (q 3)), (46, #[.bool ((sqO q 3 (sqO q 2 (sqO q 1 (sqO q 0 false)))))])] w4) := M'
  clear M'
  go_wp2_with fail
  refine (sum_calls _ _ _ _ _ _ _ _ _ _ (by exact (M.out.alloc _).r1) (Row.new _ _ _) (by have := M.out.r1.lt; omega)).mono ?_
  rintro e w5 ⟨rfl, hg, hf⟩
  have M' := Lib.hid ((M.out.alloc _).grown 1 _ _ hg hf)
  clear M hg hf
  have M : Hid (Scene w [(24, q4 (q 0) (q 1) (q 2) (q 3)), (46, #[.bool (normO q)])] w5) := M'
  clear M'
  have cf := M.out.r1.cell 0
  go_wp2
  go_region_held3 (fun w' => w'.cell? ⟨w.heap.size + 1, 0, none⟩ = some (.bool (normO q))) (go_keep) (fail)
  all_goals go_wp2
  all_goals exact bodyPost_ret (v := .tuple #[.int .i64 (normV q), .bool (normO q)]) (by simp [results, Try.f14, Try.results14, go_sem, normV]) rfl ⟨rfl, M.out.be.drew⟩
end Go.Proofs.Ytmjncjaalleblaa.PQ
