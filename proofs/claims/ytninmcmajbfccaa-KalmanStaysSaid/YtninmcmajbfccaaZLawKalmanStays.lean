/- KalmanStays: what comes out is right: even, and never below 0 on its diagonal; what is not taken stays; for every input. -/
import Derived.Test.YtninmcmajbfccaaZ18
import Derived.Test.YtninmcmajbfccaaZ21
namespace Go.Proofs.Ytninmcmajbfccaa.kalmanStays
open Go.ChangeShapes Go.WideShapes Go.ChangeAt Go.RowKit
set_option linter.unusedVariables false
theorem own : ownKnob Try.prog.godebug = none := by kernel_rfl
set_option maxRecDepth 100000 in
theorem lifted (os : Os) (started : os.Started) (H : Type) (enc : TypeId × Value → H) :
    ReturnsInHanded {} Try.checked os 8 .any (Rows.kalmanStaysSpec.pre6 enc Try.prog Try.f8 Rows.kalmanStaysRow.domain false) (Rows.kalmanStaysSpec.post enc Try.prog Try.f8 false true false false) := by
  refine returnsInHanded_of_change_sized (C := Try.checked) own started (by kernel_rfl) Try.func8
    (ChangeSpec.witness6 (enc := enc) (C := Try.checked) false ⟨#[], #[.agg #[.int .i64 0, .int .i64 0, .slice none 0 0, .int .i64 0, .int .i64 0, .slice none 0 0, .int .i64 0, .int .i64 0, .slice none 0 0, .int .i64 0, .int .i64 0, .slice none 0 0, .int .i64 0, .int .i64 0, .slice none 0 0, .int .i64 0, .int .i64 0, .int .i64 0]], []⟩ 8 (by kernel_rfl) (by kernel_rfl) (by kernel_rfl) (by kernel_rfl)) ?_
  intro W base args ds gs before hval0 hW hcnd hsz0 _
  have hval : ∀ (j : Nat) t v, Try.f8.params[j]? = some t → args[j]? = some v → Value.okWide Try.prog W .any base t v := hval0
  have hW' := hW
  obtain ⟨p, q, hA0, hV, rfl, hfz, hnd⟩ := hW
  have hA : DataW.TrodAll enc Try.prog W 0 (fun _ => true) true Try.f8.params.toList args.toList ds p := hA0
  have hltA : ∀ x ∈ p, x.block < W.heap.size := hA.lt
  rw [Try.params8] at hA hval
  obtain ⟨v0, vs0, d0, ds0, p0, q0, hargs, rfl, rfl, h0, r0⟩ := trodAll_cons hA
  obtain ⟨rfl, rfl, rfl⟩ := trodAll_nil r0
  obtain rfl : args = #[v0] := by cases args; simp_all
  obtain ⟨rfl, rfl⟩ := trodVars_none hV
  obtain ⟨cs0, rfl, hsz⟩ := okWide_struct Try.underlying57 (hval 0 57 v0 rfl rfl)
  obtain ⟨fuel, hf⟩ := id h0
  obtain ⟨r, c, A, cp, l, r', c', A', cp', l', fr, fc, Af, cf, lf, qr, qc, Aq, cq, lq, hr, hc, Ah, ch, lh, n0, n1, n2, e0, ⟨ha, hb⟩, ⟨ha', hb'⟩, ⟨hfa, hfb⟩, ⟨hqa, hqb⟩, ⟨hha, hhb⟩⟩ := KK.open_stays hf
  obtain rfl : cs0 = #[KK.I r, KK.I c, .slice A l.length cp, KK.I r', KK.I c', .slice A' l'.length cp', KK.I fr, KK.I fc, .slice Af lf.length cf, KK.I qr, KK.I qc, .slice Aq lq.length cq, KK.I hr, KK.I hc, .slice Ah lh.length ch, KK.I n0, KK.I n1, KK.I n2] := by cases cs0; simpa [Value.cells] using e0
  clear hA0 hval0 hsz0
  refine (PR.stays_walk r c A cp l r' c' A' cp' l' fr fc Af cf lf qr qc Aq cq lq hr hc Ah ch lh n0 n1 n2 W hb ha hb' ha' hfb hfa hqb hqa hhb hha).mono fun e W' ⟨he, bel⟩ => ?_
  subst he
  exact ⟨_, rfl, _, _, _, [], _, [], hW', trodAll_mk1 (shut_bool Try.underlying4 _), (trodAll_cons_mk (Below.trod KK.laidOut (by kernel_rfl) (of_decide_eq_true (by kernel_rfl)) h0 bel (fun x hx => hltA x (by simp [hx]))) trodAll_mk0), rfl, bel.frame _, fun h => by cases h⟩
theorem over : Rows.kalmanStaysRow.holds Try.pinned (OpenSpec.ofChange Rows.kalmanStaysSpec) :=
  OpenClaim.holds_of_wide 8 Try.f8 rfl rfl rfl rfl rfl rfl rfl ⟨rfl, rfl, rfl, rfl, rfl⟩ rfl rfl rfl rfl rfl (by kernel_rfl) Try.func8 (by kernel_rfl)
    (of_decide_eq_true (by kernel_rfl)) (by unfold Func.isWrapper; first | (rw [if_pos (by decide +kernel)]; kernel_rfl) | (rw [if_neg (by decide +kernel)]; exact ⟨rfl, rfl⟩))
    (fun os started H enc _ => lifted os started H enc)
theorem proved : Rows.KalmanStaysSaid := over
#print axioms proved
end Go.Proofs.Ytninmcmajbfccaa.kalmanStays
namespace Go.Proofs.Ytninmcmajbfccaa
/-- The row, under a short name, for the claim. -/
theorem kalmanStays_holds : Rows.KalmanStaysSaid := kalmanStays.proved
end Go.Proofs.Ytninmcmajbfccaa
