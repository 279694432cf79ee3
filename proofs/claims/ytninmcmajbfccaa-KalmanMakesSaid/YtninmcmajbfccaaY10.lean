import Derived.Test.YtninmcmajbfccaaY7
/- Joined and thinned by a program of this session's own (wip/pack2.py) out of its texts (wip/ of its repo); parts were laid by its own program (wip/print-patch.py over the kit's print) out of the translation; Lean checks all. -/
set_option maxRecDepth 100000
set_option maxHeartbeats 8000000
namespace Go.Proofs.Ytninmcmajbfccaa.PR
open Go.RowKit Go.Proofs.Ytninmcmajbfccaa.PQ Go.Proofs.aH.bK Go.Proofs.aH.dG Go.Proofs.aH.dJ
attribute [local go_sem] jS jQ kT kS ji jh jR jP
set_option linter.unusedVariables false
set_option linter.unusedSimpArgs false
mutual
def bu.j0 : Nat → Int → Bool → Int → Int → List Int → Int → Int → List Int → Option (Bool)
 | 0, _, _, _, _, _, _, _, _ => none
 | k + 1, x3, x46, IZ, IY, IX, IW, IV, AU => if x46 = true then (some false) else (bu.l0 k x3 x3 0 IZ IY IX IW IV AU)
def bu.l0 : Nat → Int → Int → Int → Int → Int → List Int → Int → Int → List Int → Option (Bool)
 | 0, _, _, _, _, _, _, _, _, _ => none
 | k + 1, x3, x47, X4, IZ, IY, IX, IW, IV, AU => if X4 < x47 then (if 0 ≤ (wrap64 ((wrap64 (X4 * x3)) + X4)) then (if (wrap64 ((wrap64 (X4 * x3)) + X4)) < (AU.length : Int) then (if (rd AU (wrap64 ((wrap64 (X4 * x3)) + X4))) < 0 then (some false) else (bu.l0 k x3 x47 (wrap64 (X4 + 1)) IZ IY IX IW IV AU)) else (none)) else (none)) else (some true)
end
def bu.f (k : Nat) (aQ : Int) (a_ : Int) (aY : List Int) (dw : Int) (dB : Int) (bV : List Int) : Option (Bool) := (jc.f aQ a_ aY).bind fun t102 => (if t102 = true then ((jc.f dw dB bV).bind fun t103 => (if t103 = true then (if a_ = 1 then (if dw = aQ then (if dB = aQ then ((jy.f dw dB bV).bind fun uP => ((gX.f k dw dB bV uP.1 uP.2.1 uP.2.2).bind fun t109 => (bu.j0 k aQ (!t109) aQ a_ aY dw dB bV))) else (bu.j0 k aQ true aQ a_ aY dw dB bV)) else (bu.j0 k aQ true aQ a_ aY dw dB bV)) else (bu.j0 k aQ true aQ a_ aY dw dB bV)) else (bu.j0 k aQ true aQ a_ aY dw dB bV))) else (bu.j0 k aQ true aQ a_ aY dw dB bV))
def bu.T2 : Bool × List (List Nat × List Nat) := (true, [([], []), ([0], [0]), ([1], [1]), ([2], [2]), ([3, 2], [3]), ([4], [4]), ([5, 4], [4, 5]), ([6, 4, 4], [4, 6]), ([7, 4], [4, 7]), ([4, 8], [4, 8]), ([9, 7], [9]), ([10], [10]), ([11, 10], [10, 11]), ([12, 10], [10, 12]), ([13, 10], [10, 13]), ([10, 14], [10, 14]), ([15, 10], [15]), ([16], [16]), ([17, 16], [16, 17]), ([18, 16], [16, 18]), ([16], [16]), ([19, 20, 16], [16, 19, 20]), ([16, 21], [16, 21]), ([22, 16], [22]), ([23], [23]), ([24, 23], [23, 24]), ([25, 23], [23, 25]), ([23], [23]), ([26, 27, 23], [23, 26, 27]), ([23, 28], [23, 28]), ([29, 23], [29]), ([30], [30]), ([31, 30], [30, 31]), ([30], [30]), ([33, 30], [30, 33]), ([34, 30, 30], [30, 34]), ([32, 35, 35, 30], [30, 32, 35]), ([36, 30], [30, 36]), ([30, 37], [30, 37])])
def bu.B2 : List Nat := [0, 1, 3, 7, 15, 31, 63, 127, 255, 511, 1023, 2047, 4095, 8191, 16383, 32767, 65535, 131071, 262143, 524287, 131071, 2097151, 4194303, 8388607, 16777215, 33554431, 67108863, 16777215, 268435455, 536870911, 1073741823, 2147483647, 4294967295, 2147483647, 10737418239, 27917287423, 68719476735, 137438953471, 274877906943]
theorem bu.GY : qy .any (opsOf Try.f18 2) = bu.T2 := by kernel_rfl
theorem bu.zW : pM bu.T2.2 bu.B2 = true := by kernel_rfl
theorem bu.calls (k : Nat) (aQ : Int) (a_ : Int) (cO : Option Addr) (cu : Nat) (aY : List Int) (dw : Int) (dB : Int) (gp : Option Addr) (fZ : Nat) (bV : List Int) (r : Bool) (w : World) (jl : Kd.C (Kd.int .i64) w cO aY.length aY) (jD : aY.length ≤ cu) (vw : Kd.C (Kd.int .i64) w gp bV.length bV) (vK : bV.length ≤ fZ) (h : bu.f k aQ a_ aY dw dB bV = some r) :
 Calls Try.prog 18 #[.agg #[.int .i64 aQ, .int .i64 a_, .slice cO aY.length cu, .int .i64 dw, .int .i64 dB, .slice gp bV.length fZ]] w fun e w' => e = .returned (.bool r) ∧ Below w.heap.size w w' := by
 have Q7 := Try.underlying28
 have yz := Try.underlying26
 have kC := ah.mk jl
 have lM := ah.mk jD
 clear jl jD
 have nO := ah.mk vw
 have t_ := ah.mk vK
 clear vw vK
 have HB := ah.mk (Below.refl w.heap.size w)
 have H : ((jc.f aQ a_ aY).bind fun t102 => (if t102 = true then ((jc.f dw dB bV).bind fun t103 => (if t103 = true then (if a_ = 1 then (if dw = aQ then (if dB = aQ then ((jy.f dw dB bV).bind fun uP => ((gX.f k dw dB bV uP.1 uP.2.1 uP.2.2).bind fun t109 => (bu.j0 k aQ (!t109) aQ a_ aY dw dB bV))) else (bu.j0 k aQ true aQ a_ aY dw dB bV)) else (bu.j0 k aQ true aQ a_ aY dw dB bV)) else (bu.j0 k aQ true aQ a_ aY dw dB bV)) else (bu.j0 k aQ true aQ a_ aY dw dB bV))) else (bu.j0 k aQ true aQ a_ aY dw dB bV))) = some r := h
 clear h
 have HC2 := ah.mk H
 clear H
 go_enter Try.func18, Try.ntmps18
 go_upto_region 2 with (first | ((with_reducible refine dY (N := 1) rfl ?_); refine dH ?hg (N := 1) ?hd (cs := #[.int .i64 aQ, .int .i64 a_, .slice cO aY.length cu, .int .i64 dw, .int .i64 dB, .slice gp bV.length fZ]) (t := 28) ?hr ?_; (case hd => rfl); (case hg => rfl); (case hr => first | (go_simp; done) | (go_simp; rfl)); intro f_ hg w3 hbox hb; have bT := ah.mk (aI (by repeat (first | (with_reducible first | exact HB.out | apply au | apply af | apply ak) | exact HB.out)) hb); have dD := ah.mk (hbox); have dQ := ah.mk ((by rw [hg]; exact (aW (by repeat (first | (with_reducible first | exact HB.out | apply au | apply af | apply ak) | exact HB.out))) : w.heap.size ≤ f_)); have eH := ah.mk ((by rw [hg]; exact (aW (by repeat (first | (with_reducible first | exact HB.out | apply au | apply af | apply ak) | exact HB.out))) : w.heap.size ≤ f_)); clear HB; have HB := bT; have bI := dD; have amA := dQ; have ny := eH; clear bT dD dQ eH; clear hb hbox hg; have aiJ : w3.cell? ⟨f_, 0, none⟩ = some (.int .i64 aQ) := (aj bI.out 0).trans rfl; have aiI : w3.cell? ⟨f_, 1, none⟩ = some (.int .i64 a_) := (aj bI.out 1).trans rfl; have aiH : w3.cell? ⟨f_, 2, none⟩ = some (.slice cO aY.length cu) := (aj bI.out 2).trans rfl; have aiG : w3.cell? ⟨f_, 3, none⟩ = some (.int .i64 dw) := (aj bI.out 3).trans rfl; have aiF : w3.cell? ⟨f_, 4, none⟩ = some (.int .i64 dB) := (aj bI.out 4).trans rfl; have aiE : w3.cell? ⟨f_, 5, none⟩ = some (.slice gp bV.length fZ) := (aj bI.out 5).trans rfl; have aiA := aA bI.out 0; have aiz := aA bI.out 1; have aiy := aA bI.out 2; have aix := aA bI.out 3; have aiw := aA bI.out 4; have aiv := aA bI.out 5))
 (try simp only [Act.put, List.setIfInBounds_toArray, List.set_cons_zero, List.set_cons_succ])
 go_cut [46] (fun v46 wc => ∃ (kq : Nat) (OE : Bool), v46 = .bool OE ∧ ah (bu.j0 kq aQ OE aQ a_ aY dw dB bV = some r) ∧ ah (kq ≤ k) ∧ ah (wc.heap[f_]? = some (.cells #[.int .i64 aQ, .int .i64 a_, (.slice cO aY.length cu), .int .i64 dw, .int .i64 dB, (.slice gp bV.length fZ)] 28 (0, 0))) ∧ ah (Below w.heap.size w wc))
 case first =>
  have H := HC2.out
  clear HC2
  replace H := Option.bind_eq_some_iff.mp H
  obtain ⟨t102, QD, H⟩ := H
  replace H : (if t102 = true then ((jc.f dw dB bV).bind fun t103 => (if t103 = true then (if a_ = 1 then (if dw = aQ then (if dB = aQ then ((jy.f dw dB bV).bind fun uP => ((gX.f k dw dB bV uP.1 uP.2.1 uP.2.2).bind fun t109 => (bu.j0 k aQ (!t109) aQ a_ aY dw dB bV))) else (bu.j0 k aQ true aQ a_ aY dw dB bV)) else (bu.j0 k aQ true aQ a_ aY dw dB bV)) else (bu.j0 k aQ true aQ a_ aY dw dB bV)) else (bu.j0 k aQ true aQ a_ aY dw dB bV))) else (bu.j0 k aQ true aQ a_ aY dw dB bV)) = some r := H
  have A5 := ah.mk QD
  clear QD
  by_cases c6 : t102 = true
  · subst c6
    rw [if_pos rfl] at H
    replace H := Option.bind_eq_some_iff.mp H
    obtain ⟨t103, UZ, H⟩ := H
    replace H : (if t103 = true then (if a_ = 1 then (if dw = aQ then (if dB = aQ then ((jy.f dw dB bV).bind fun uP => ((gX.f k dw dB bV uP.1 uP.2.1 uP.2.2).bind fun t109 => (bu.j0 k aQ (!t109) aQ a_ aY dw dB bV))) else (bu.j0 k aQ true aQ a_ aY dw dB bV)) else (bu.j0 k aQ true aQ a_ aY dw dB bV)) else (bu.j0 k aQ true aQ a_ aY dw dB bV)) else (bu.j0 k aQ true aQ a_ aY dw dB bV)) = some r := H
    have A7 := ah.mk UZ
    clear UZ
    by_cases c8 : t103 = true
    · subst c8
      rw [if_pos rfl] at H
      by_cases c9 : a_ = 1
      · rw [if_pos c9] at H
        have BG : (a_ == 1) = true := beq_iff_eq.mpr c9
        have Oi : (a_ != 1) = false := bne_eq_false_iff_eq.mpr c9
        clear c9
        (first | rw [BG] | (simp only [aJ, aK]; rw [BG]) | skip)
        by_cases c10 : dw = aQ
        · rw [if_pos c10] at H
          have yH : (dw == aQ) = true := beq_iff_eq.mpr c10
          have Gq : (dw != aQ) = false := bne_eq_false_iff_eq.mpr c10
          clear c10
          by_cases c11 : dB = aQ
          · rw [if_pos c11] at H
            have qJ : (dB == aQ) = true := beq_iff_eq.mpr c11
            have BJ : (dB != aQ) = false := bne_eq_false_iff_eq.mpr c11
            clear c11
            replace H := Option.bind_eq_some_iff.mp H
            obtain ⟨⟨t104, t105, t106⟩, adz, H⟩ := H
            replace H : ((gX.f k dw dB bV t104 t105 t106).bind fun t109 => (bu.j0 k aQ (!t109) aQ a_ aY dw dB bV)) = some r := H
            have A12 := ah.mk adz
            clear adz
            replace H := Option.bind_eq_some_iff.mp H
            obtain ⟨t109, U5, H⟩ := H
            replace H : (bu.j0 k aQ (!t109) aQ a_ aY dw dB bV) = some r := H
            have A13 := ah.mk U5
            clear U5
            have H' := ah.mk H
            clear H
            try go_wp2
            have bT := ah.mk (aC bI.out)
            have dD := ah.mk (ak HB.out)
            clear bI
            clear HB
            have bI := bT
            have HB := dD
            clear bT dD
            refine oV (n := 39) (S := fun w' => w'.cell? ⟨f_, 0, none⟩ = some (.int .i64 aQ) ∧ w'.cell? ⟨f_, 1, none⟩ = some (.int .i64 a_) ∧ w'.cell? ⟨f_, 2, none⟩ = some (.slice cO aY.length cu) ∧ w'.cell? ⟨f_, 3, none⟩ = some (.int .i64 dw) ∧ w'.cell? ⟨f_, 4, none⟩ = some (.int .i64 dB) ∧ w'.cell? ⟨f_, 5, none⟩ = some (.slice gp bV.length fZ)) (ds := []) #[false, false, false, false, false, false, false, false, false, false, false, false, false, false, false, false, false, false, false, false, false, false, false, false, false, false, false, false, false, false, false, false, false, false, false, false, false, false, false] (by kernel_rfl) rfl rfl ⟨(aj bI.out 0).trans rfl, (aj bI.out 1).trans rfl, (aj bI.out 2).trans rfl, (aj bI.out 3).trans rfl, (aj bI.out 4).trans rfl, (aj bI.out 5).trans rfl⟩ (fun hHeld => ?_); refine jJ bu.GY bu.zW (fun dF pI => ?_)
            generalize w3.drew = U6 at bI HB hHeld ⊢
            refine bf (i := 0) (N := some 8) (v := ?_) (a' := ?_) #[true, false, false, false, false, false, false, false, false, false, false, false, false, false, false, false, false, false, false, false, false, false, false, false, false, false, false, false, false, false, false, false, false, false, false, false, false, false, false] rfl rfl (aN dF.out (by kernel_rfl)) (fun _ _ _ h => h) (Or.inl ⟨by rfl, ?_⟩) ?_ ?_
            rotate_left
            · intro w'
              go_simp
              with_reducible rfl
            rotate_left
            · simp only [Act.put, List.setIfInBounds_toArray, List.set_cons_zero, List.set_cons_succ, aJ, aK]
              rfl
            refine iP (i := 1) (N := some 9) (v := ?_) (a' := ?_) #[true, true, false, false, false, false, false, false, false, false, false, false, false, false, false, false, false, false, false, false, false, false, false, false, false, false, false, false, false, false, false, false, false, false, false, false, false, false, false] rfl rfl (eF dF.out pI.out (by kernel_rfl)) (fun _ _ _ h => h) (Or.inl ⟨by rfl, ?_⟩) hHeld ?_ ?_
            rotate_left
            · rintro w' ⟨s0, s1, s2, s3, s4, s5⟩
              go_simp
              with_reducible rfl
            rotate_left
            · simp only [Act.put, List.setIfInBounds_toArray, List.set_cons_zero, List.set_cons_succ, aJ, aK]
              rfl
            refine nC (i := 2) (N := some 10) #[true, true, true, false, false, false, false, false, false, false, false, false, false, false, false, false, false, false, false, false, false, false, false, false, false, false, false, false, false, false, false, false, false, false, false, false, false, false, false] rfl rfl (iF dF.out (by kernel_rfl)) (by decide) (fun K hK => ?_)
            refine kU Try.func39 (by kernel_rfl) rfl #[.agg #[.int .i64 aQ, .int .i64 a_, .slice cO aY.length cu]] (by rfl) rfl rfl (by (try simp only [List.map_toArray, List.map_cons, List.map_nil]); first | done | rfl | (simp only [List.length_drop, List.length_take]; rfl)) ?_
            with_reducible refine (jc.calls aQ a_ _ _ aY true _ ?eY ?eX A5.out).mono ?_
            (case eY => repeat (first | exact (Kd.fB kC.out HB.out) | (with_reducible refine Kd.fE ?_ _) | (with_reducible refine Kd.fD ?_ _) | (with_reducible refine Kd.gm ?_)))
            (case eX => exact lM.out)
            rintro e w15 ⟨rfl, hb⟩
            refine ⟨_, rfl, ?_⟩
            have bT := ah.mk (bg (g := f_) (o := .cells #[.int .i64 aQ, .int .i64 a_, .slice cO aY.length cu, .int .i64 dw, .int .i64 dB, .slice gp bV.length fZ] 28 (0, 0)) (by (with_reducible repeat (first | refine ay ?_ _ | refine aC ?_ | refine az ?_ _)); exact bI.out) hb)
            have dD := ah.mk (aI (by repeat (first | (with_reducible first | exact HB.out | apply au | apply af | apply ak | refine aG ?_ ny.out) | exact HB.out)) hb)
            clear bI
            clear HB
            have bI := bT
            have HB := dD
            clear bT dD
            (try clear hb)
            (try clear hb2)
            (try clear hk)
            (try clear hi)
            refine hK.out _ _ ⟨(aj bI.out 0).trans rfl, (aj bI.out 1).trans rfl, (aj bI.out 2).trans rfl, (aj bI.out 3).trans rfl, (aj bI.out 4).trans rfl, (aj bI.out 5).trans rfl⟩ (fun hHeld => ?_)
            clear hK K
            refine iV (a' := ?_) ?_ ?_
            rotate_left
            · show Act.put _ (some 10) _ = _
              simp only [Act.put, List.setIfInBounds_toArray, List.set_cons_zero, List.set_cons_succ, aJ, aK]
              rfl
            refine bf (i := 3) (N := some 11) (v := ?_) (a' := ?_) #[true, true, true, true, false, false, false, false, false, false, false, false, false, false, false, false, false, false, false, false, false, false, false, false, false, false, false, false, false, false, false, false, false, false, false, false, false, false, false] rfl rfl (aN dF.out (by kernel_rfl)) (fun _ _ _ h => h) (Or.inl ⟨by rfl, ?_⟩) ?_ ?_
            rotate_left
            · intro w'
              go_simp
              with_reducible rfl
            rotate_left
            · simp only [Act.put, List.setIfInBounds_toArray, List.set_cons_zero, List.set_cons_succ, aJ, aK]
              rfl
            refine bf (i := 4) (N := some 12) (v := ?_) (a' := ?_) #[true, true, true, true, true, false, false, false, false, false, false, false, false, false, false, false, false, false, false, false, false, false, false, false, false, false, false, false, false, false, false, false, false, false, false, false, false, false, false] rfl rfl (aN dF.out (by kernel_rfl)) (fun _ _ _ h => h) (Or.inl ⟨by rfl, ?_⟩) ?_ ?_
            rotate_left
            · intro w'
              go_simp
              with_reducible rfl
            rotate_left
            · simp only [Act.put, List.setIfInBounds_toArray, List.set_cons_zero, List.set_cons_succ, aJ, aK]
              rfl
            refine bf (i := 5) (N := some 13) (v := ?_) (a' := ?_) #[true, true, true, true, true, true, false, false, false, false, false, false, false, false, false, false, false, false, false, false, false, false, false, false, false, false, false, false, false, false, false, false, false, false, false, false, false, false, false] rfl rfl (aN dF.out (by kernel_rfl)) (fun _ _ _ h => h) (Or.inl ⟨by rfl, ?_⟩) ?_ ?_
            rotate_left
            · intro w'
              go_simp
              with_reducible rfl
            rotate_left
            · simp only [Act.put, List.setIfInBounds_toArray, List.set_cons_zero, List.set_cons_succ, aJ, aK]
              rfl
            refine iP (i := 6) (N := some 14) (v := ?_) (a' := ?_) #[true, true, true, true, true, true, true, false, false, false, false, false, false, false, false, false, false, false, false, false, false, false, false, false, false, false, false, false, false, false, false, false, false, false, false, false, false, false, false] rfl rfl (eF dF.out pI.out (by kernel_rfl)) (fun _ _ _ h => h) (Or.inl ⟨by rfl, ?_⟩) hHeld ?_ ?_
            rotate_left
            · rintro w' ⟨s0, s1, s2, s3, s4, s5⟩
              go_simp
              with_reducible rfl
            rotate_left
            · simp only [Act.put, List.setIfInBounds_toArray, List.set_cons_zero, List.set_cons_succ, aJ, aK]
              rfl
            refine nC (i := 7) (N := some 15) #[true, true, true, true, true, true, true, true, false, false, false, false, false, false, false, false, false, false, false, false, false, false, false, false, false, false, false, false, false, false, false, false, false, false, false, false, false, false, false] rfl rfl (iF dF.out (by kernel_rfl)) (by decide) (fun K hK => ?_)
            refine kU Try.func39 (by kernel_rfl) rfl #[.agg #[.int .i64 dw, .int .i64 dB, .slice gp bV.length fZ]] (by rfl) rfl rfl (by (try simp only [List.map_toArray, List.map_cons, List.map_nil]); first | done | rfl | (simp only [List.length_drop, List.length_take]; rfl)) ?_
            with_reducible refine (jc.calls dw dB _ _ bV true _ ?eY ?eX A7.out).mono ?_
            (case eY => repeat (first | exact (Kd.fB nO.out HB.out) | (with_reducible refine Kd.fE ?_ _) | (with_reducible refine Kd.fD ?_ _) | (with_reducible refine Kd.gm ?_)))
            (case eX => exact t_.out)
            rintro e w16 ⟨rfl, hb⟩
            refine ⟨_, rfl, ?_⟩
            have bT := ah.mk (bg (g := f_) (o := .cells #[.int .i64 aQ, .int .i64 a_, .slice cO aY.length cu, .int .i64 dw, .int .i64 dB, .slice gp bV.length fZ] 28 (0, 0)) (by (with_reducible repeat (first | refine ay ?_ _ | refine aC ?_ | refine az ?_ _)); exact bI.out) hb)
            have dD := ah.mk (aI (by repeat (first | (with_reducible first | exact HB.out | apply au | apply af | apply ak | refine aG ?_ ny.out) | exact HB.out)) hb)
            clear bI
            clear HB
            have bI := bT
            have HB := dD
            clear bT dD
            (try clear hb)
            (try clear hb2)
            (try clear hk)
            (try clear hi)
            refine hK.out _ _ ⟨(aj bI.out 0).trans rfl, (aj bI.out 1).trans rfl, (aj bI.out 2).trans rfl, (aj bI.out 3).trans rfl, (aj bI.out 4).trans rfl, (aj bI.out 5).trans rfl⟩ (fun hHeld => ?_)
            clear hK K
            refine iV (a' := ?_) ?_ ?_
            rotate_left
            · show Act.put _ (some 15) _ = _
              simp only [Act.put, List.setIfInBounds_toArray, List.set_cons_zero, List.set_cons_succ, aJ, aK]
              rfl
            refine bf (i := 8) (N := some 16) (v := ?_) (a' := ?_) #[true, true, true, true, true, true, true, true, true, false, false, false, false, false, false, false, false, false, false, false, false, false, false, false, false, false, false, false, false, false, false, false, false, false, false, false, false, false, false] rfl rfl (aN dF.out (by kernel_rfl)) (fun _ _ _ h => h) (Or.inl ⟨by rfl, ?_⟩) ?_ ?_
            rotate_left
            · intro w'
              go_simp
              with_reducible rfl
            rotate_left
            · simp only [Act.put, List.setIfInBounds_toArray, List.set_cons_zero, List.set_cons_succ, aJ, aK]
              rfl
            refine bf (i := 9) (N := some 17) (v := ?_) (a' := ?_) #[true, true, true, true, true, true, true, true, true, true, false, false, false, false, false, false, false, false, false, false, false, false, false, false, false, false, false, false, false, false, false, false, false, false, false, false, false, false, false] rfl rfl (aN dF.out (by kernel_rfl)) (fun _ _ _ h => h) (Or.inl ⟨by rfl, ?_⟩) ?_ ?_
            rotate_left
            · intro w'
              go_simp
              with_reducible rfl
            rotate_left
            · simp only [Act.put, List.setIfInBounds_toArray, List.set_cons_zero, List.set_cons_succ, aJ, aK]
              rfl
            refine bf (i := 10) (N := some 18) (v := ?_) (a' := ?_) #[true, true, true, true, true, true, true, true, true, true, true, false, false, false, false, false, false, false, false, false, false, false, false, false, false, false, false, false, false, false, false, false, false, false, false, false, false, false, false] rfl rfl (aN dF.out (by kernel_rfl)) (fun _ _ _ h => h) (Or.inl ⟨by rfl, ?_⟩) ?_ ?_
            rotate_left
            · intro w'
              go_simp
              with_reducible rfl
            rotate_left
            · simp only [Act.put, List.setIfInBounds_toArray, List.set_cons_zero, List.set_cons_succ, aJ, aK]
              rfl
            refine bf (i := 11) (N := some 19) (v := ?_) (a' := ?_) #[true, true, true, true, true, true, true, true, true, true, true, true, false, false, false, false, false, false, false, false, false, false, false, false, false, false, false, false, false, false, false, false, false, false, false, false, false, false, false] rfl rfl (aN dF.out (by kernel_rfl)) (fun _ _ _ h => h) (Or.inl ⟨by rfl, ?_⟩) ?_ ?_
            rotate_left
            · intro w'
              go_simp
              with_reducible rfl
            rotate_left
            · simp only [Act.put, List.setIfInBounds_toArray, List.set_cons_zero, List.set_cons_succ, aJ, aK]
              rfl
            refine bf (i := 12) (N := some 20) (v := ?_) (a' := ?_) #[true, true, true, true, true, true, true, true, true, true, true, true, true, false, false, false, false, false, false, false, false, false, false, false, false, false, false, false, false, false, false, false, false, false, false, false, false, false, false] rfl rfl (aN dF.out (by kernel_rfl)) (fun _ _ _ h => h) (Or.inl ⟨by rfl, ?_⟩) ?_ ?_
            rotate_left
            · intro w'
              go_simp
              with_reducible rfl
            rotate_left
            · simp only [Act.put, List.setIfInBounds_toArray, List.set_cons_zero, List.set_cons_succ, aJ, aK]
              rfl
            refine iP (i := 13) (N := some 21) (v := ?_) (a' := ?_) #[true, true, true, true, true, true, true, true, true, true, true, true, true, true, false, false, false, false, false, false, false, false, false, false, false, false, false, false, false, false, false, false, false, false, false, false, false, false, false] rfl rfl (eF dF.out pI.out (by kernel_rfl)) (fun _ _ _ h => h) (Or.inl ⟨by rfl, ?_⟩) hHeld ?_ ?_
            rotate_left
            · rintro w' ⟨s0, s1, s2, s3, s4, s5⟩
              go_simp
              with_reducible rfl
            rotate_left
            · simp only [Act.put, List.setIfInBounds_toArray, List.set_cons_zero, List.set_cons_succ, aJ, aK]
              rfl
            refine bf (i := 14) (N := some 22) (v := ?_) (a' := ?_) #[true, true, true, true, true, true, true, true, true, true, true, true, true, true, true, false, false, false, false, false, false, false, false, false, false, false, false, false, false, false, false, false, false, false, false, false, false, false, false] rfl rfl (aN dF.out (by kernel_rfl)) (fun _ _ _ h => h) (Or.inl ⟨by rfl, ?_⟩) ?_ ?_
            rotate_left
            · intro w'
              go_simp
              with_reducible rfl
            rotate_left
            · simp only [Act.put, List.setIfInBounds_toArray, List.set_cons_zero, List.set_cons_succ, aJ, aK]
              rfl
            refine bf (i := 15) (N := some 23) (v := ?_) (a' := ?_) #[true, true, true, true, true, true, true, true, true, true, true, true, true, true, true, true, false, false, false, false, false, false, false, false, false, false, false, false, false, false, false, false, false, false, false, false, false, false, false] rfl rfl (aN dF.out (by kernel_rfl)) (fun _ _ _ h => h) (Or.inl ⟨by rfl, ?_⟩) ?_ ?_
            rotate_left
            · intro w'
              go_simp
              with_reducible rfl
            rotate_left
            · simp only [Act.put, List.setIfInBounds_toArray, List.set_cons_zero, List.set_cons_succ, aJ, aK]
              rfl
            refine bf (i := 16) (N := some 24) (v := ?_) (a' := ?_) #[true, true, true, true, true, true, true, true, true, true, true, true, true, true, true, true, true, false, false, false, false, false, false, false, false, false, false, false, false, false, false, false, false, false, false, false, false, false, false] rfl rfl (aN dF.out (by kernel_rfl)) (fun _ _ _ h => h) (Or.inl ⟨by rfl, ?_⟩) ?_ ?_
            rotate_left
            · intro w'
              go_simp
              with_reducible rfl
            rotate_left
            · simp only [Act.put, List.setIfInBounds_toArray, List.set_cons_zero, List.set_cons_succ, aJ, aK]
              rfl
            refine bf (i := 17) (N := some 25) (v := ?_) (a' := ?_) #[true, true, true, true, true, true, true, true, true, true, true, true, true, true, true, true, true, true, false, false, false, false, false, false, false, false, false, false, false, false, false, false, false, false, false, false, false, false, false] rfl rfl (aN dF.out (by kernel_rfl)) (fun _ _ _ h => h) (Or.inl ⟨by rfl, ?_⟩) ?_ ?_
            rotate_left
            · intro w'
              go_simp
              with_reducible rfl
            rotate_left
            · simp only [Act.put, List.setIfInBounds_toArray, List.set_cons_zero, List.set_cons_succ, aJ, aK]
              rfl
            refine bf (i := 18) (N := some 26) (v := ?_) (a' := ?_) #[true, true, true, true, true, true, true, true, true, true, true, true, true, true, true, true, true, true, true, false, false, false, false, false, false, false, false, false, false, false, false, false, false, false, false, false, false, false, false] rfl rfl (aN dF.out (by kernel_rfl)) (fun _ _ _ h => h) (Or.inl ⟨by rfl, ?_⟩) ?_ ?_
            rotate_left
            · intro w'
              go_simp
              with_reducible rfl
            rotate_left
            · simp only [Act.put, List.setIfInBounds_toArray, List.set_cons_zero, List.set_cons_succ, aJ, aK]
              rfl
            refine bf (i := 20) (N := some 28) (v := ?_) (a' := ?_) #[true, true, true, true, true, true, true, true, true, true, true, true, true, true, true, true, true, true, true, false, true, false, false, false, false, false, false, false, false, false, false, false, false, false, false, false, false, false, false] rfl rfl (aN dF.out (by kernel_rfl)) (fun _ _ _ h => h) (Or.inl ⟨by rfl, ?_⟩) ?_ ?_
            rotate_left
            · intro w'
              go_simp
              with_reducible rfl
            rotate_left
            · simp only [Act.put, List.setIfInBounds_toArray, List.set_cons_zero, List.set_cons_succ, aJ, aK]
              rfl
            refine iP (i := 19) (N := some 27) (v := ?_) (a' := ?_) #[true, true, true, true, true, true, true, true, true, true, true, true, true, true, true, true, true, true, true, true, true, false, false, false, false, false, false, false, false, false, false, false, false, false, false, false, false, false, false] rfl rfl (eF dF.out pI.out (by kernel_rfl)) (fun _ _ _ h => h) (Or.inl ⟨by rfl, ?_⟩) hHeld ?_ ?_
            rotate_left
            · rintro w' ⟨s0, s1, s2, s3, s4, s5⟩
              go_simp
              with_reducible rfl
            rotate_left
            · simp only [Act.put, List.setIfInBounds_toArray, List.set_cons_zero, List.set_cons_succ, aJ, aK]
              rfl
            refine bf (i := 21) (N := some 29) (v := ?_) (a' := ?_) #[true, true, true, true, true, true, true, true, true, true, true, true, true, true, true, true, true, true, true, true, true, true, false, false, false, false, false, false, false, false, false, false, false, false, false, false, false, false, false] rfl rfl (aN dF.out (by kernel_rfl)) (fun _ _ _ h => h) (Or.inl ⟨by rfl, ?_⟩) ?_ ?_
            rotate_left
            · intro w'
              go_simp
              with_reducible rfl
            rotate_left
            · simp only [Act.put, List.setIfInBounds_toArray, List.set_cons_zero, List.set_cons_succ, aJ, aK]
              rfl
            refine bf (i := 22) (N := some 30) (v := ?_) (a' := ?_) #[true, true, true, true, true, true, true, true, true, true, true, true, true, true, true, true, true, true, true, true, true, true, true, false, false, false, false, false, false, false, false, false, false, false, false, false, false, false, false] rfl rfl (aN dF.out (by kernel_rfl)) (fun _ _ _ h => h) (Or.inl ⟨by rfl, ?_⟩) ?_ ?_
            rotate_left
            · intro w'
              go_simp
              with_reducible rfl
            rotate_left
            · simp only [Act.put, List.setIfInBounds_toArray, List.set_cons_zero, List.set_cons_succ, aJ, aK]
              rfl
            refine bf (i := 23) (N := some 31) (v := ?_) (a' := ?_) #[true, true, true, true, true, true, true, true, true, true, true, true, true, true, true, true, true, true, true, true, true, true, true, true, false, false, false, false, false, false, false, false, false, false, false, false, false, false, false] rfl rfl (aN dF.out (by kernel_rfl)) (fun _ _ _ h => h) (Or.inl ⟨by rfl, ?_⟩) ?_ ?_
            rotate_left
            · intro w'
              go_simp
              with_reducible rfl
            rotate_left
            · simp only [Act.put, List.setIfInBounds_toArray, List.set_cons_zero, List.set_cons_succ, aJ, aK]
              rfl
            refine bf (i := 24) (N := some 32) (v := ?_) (a' := ?_) #[true, true, true, true, true, true, true, true, true, true, true, true, true, true, true, true, true, true, true, true, true, true, true, true, true, false, false, false, false, false, false, false, false, false, false, false, false, false, false] rfl rfl (aN dF.out (by kernel_rfl)) (fun _ _ _ h => h) (Or.inl ⟨by rfl, ?_⟩) ?_ ?_
            rotate_left
            · intro w'
              go_simp
              with_reducible rfl
            rotate_left
            · simp only [Act.put, List.setIfInBounds_toArray, List.set_cons_zero, List.set_cons_succ, aJ, aK]
              rfl
            refine bf (i := 25) (N := some 33) (v := ?_) (a' := ?_) #[true, true, true, true, true, true, true, true, true, true, true, true, true, true, true, true, true, true, true, true, true, true, true, true, true, true, false, false, false, false, false, false, false, false, false, false, false, false, false] rfl rfl (aN dF.out (by kernel_rfl)) (fun _ _ _ h => h) (Or.inl ⟨by rfl, ?_⟩) ?_ ?_
            rotate_left
            · intro w'
              go_simp
              with_reducible rfl
            rotate_left
            · simp only [Act.put, List.setIfInBounds_toArray, List.set_cons_zero, List.set_cons_succ, aJ, aK]
              rfl
            refine bf (i := 27) (N := some 35) (v := ?_) (a' := ?_) #[true, true, true, true, true, true, true, true, true, true, true, true, true, true, true, true, true, true, true, true, true, true, true, true, true, true, false, true, false, false, false, false, false, false, false, false, false, false, false] rfl rfl (aN dF.out (by kernel_rfl)) (fun _ _ _ h => h) (Or.inl ⟨by rfl, ?_⟩) ?_ ?_
            rotate_left
            · intro w'
              go_simp
              with_reducible rfl
            rotate_left
            · simp only [Act.put, List.setIfInBounds_toArray, List.set_cons_zero, List.set_cons_succ, aJ, aK]
              rfl
            refine iP (i := 26) (N := some 34) (v := ?_) (a' := ?_) #[true, true, true, true, true, true, true, true, true, true, true, true, true, true, true, true, true, true, true, true, true, true, true, true, true, true, true, true, false, false, false, false, false, false, false, false, false, false, false] rfl rfl (eF dF.out pI.out (by kernel_rfl)) (fun _ _ _ h => h) (Or.inl ⟨by rfl, ?_⟩) hHeld ?_ ?_
            rotate_left
            · rintro w' ⟨s0, s1, s2, s3, s4, s5⟩
              go_simp
              with_reducible rfl
            rotate_left
            · simp only [Act.put, List.setIfInBounds_toArray, List.set_cons_zero, List.set_cons_succ, aJ, aK]
              rfl
            refine bf (i := 28) (N := some 36) (v := ?_) (a' := ?_) #[true, true, true, true, true, true, true, true, true, true, true, true, true, true, true, true, true, true, true, true, true, true, true, true, true, true, true, true, true, false, false, false, false, false, false, false, false, false, false] rfl rfl (aN dF.out (by kernel_rfl)) (fun _ _ _ h => h) (Or.inl ⟨by rfl, ?_⟩) ?_ ?_
            rotate_left
            · intro w'
              go_simp
              with_reducible rfl
            rotate_left
            · simp only [Act.put, List.setIfInBounds_toArray, List.set_cons_zero, List.set_cons_succ, aJ, aK]
              rfl
            refine bf (i := 29) (N := some 37) (v := ?_) (a' := ?_) #[true, true, true, true, true, true, true, true, true, true, true, true, true, true, true, true, true, true, true, true, true, true, true, true, true, true, true, true, true, true, false, false, false, false, false, false, false, false, false] rfl rfl (aN dF.out (by kernel_rfl)) (fun _ _ _ h => h) (Or.inl ⟨by rfl, ?_⟩) ?_ ?_
            rotate_left
            · intro w'
              go_simp
              with_reducible rfl
            rotate_left
            · simp only [Act.put, List.setIfInBounds_toArray, List.set_cons_zero, List.set_cons_succ, aJ, aK]
              rfl
            refine bf (i := 30) (N := some 38) (v := ?_) (a' := ?_) #[true, true, true, true, true, true, true, true, true, true, true, true, true, true, true, true, true, true, true, true, true, true, true, true, true, true, true, true, true, true, true, false, false, false, false, false, false, false, false] rfl rfl (aN dF.out (by kernel_rfl)) (fun _ _ _ h => h) (Or.inl ⟨by rfl, ?_⟩) ?_ ?_
            rotate_left
            · intro w'
              go_simp
              with_reducible rfl
            rotate_left
            · simp only [Act.put, List.setIfInBounds_toArray, List.set_cons_zero, List.set_cons_succ, aJ, aK]
              rfl
            refine bf (i := 31) (N := some 39) (v := ?_) (a' := ?_) #[true, true, true, true, true, true, true, true, true, true, true, true, true, true, true, true, true, true, true, true, true, true, true, true, true, true, true, true, true, true, true, true, false, false, false, false, false, false, false] rfl rfl (aN dF.out (by kernel_rfl)) (fun _ _ _ h => h) (Or.inl ⟨by rfl, ?_⟩) ?_ ?_
            rotate_left
            · intro w'
              go_simp
              with_reducible rfl
            rotate_left
            · simp only [Act.put, List.setIfInBounds_toArray, List.set_cons_zero, List.set_cons_succ, aJ, aK]
              rfl
            refine bf (i := 33) (N := some 41) (v := ?_) (a' := ?_) #[true, true, true, true, true, true, true, true, true, true, true, true, true, true, true, true, true, true, true, true, true, true, true, true, true, true, true, true, true, true, true, true, false, true, false, false, false, false, false] rfl rfl (aN dF.out (by kernel_rfl)) (fun _ _ _ h => h) (Or.inl ⟨by rfl, ?_⟩) ?_ ?_
            rotate_left
            · intro w'
              go_simp
              with_reducible rfl
            rotate_left
            · simp only [Act.put, List.setIfInBounds_toArray, List.set_cons_zero, List.set_cons_succ, aJ, aK]
              rfl
            refine iP (i := 32) (N := some 40) (v := ?_) (a' := ?_) #[true, true, true, true, true, true, true, true, true, true, true, true, true, true, true, true, true, true, true, true, true, true, true, true, true, true, true, true, true, true, true, true, true, true, false, false, false, false, false] rfl rfl (eF dF.out pI.out (by kernel_rfl)) (fun _ _ _ h => h) (Or.inl ⟨by rfl, ?_⟩) hHeld ?_ ?_
            rotate_left
            · rintro w' ⟨s0, s1, s2, s3, s4, s5⟩
              go_simp
              with_reducible rfl
            rotate_left
            · simp only [Act.put, List.setIfInBounds_toArray, List.set_cons_zero, List.set_cons_succ, aJ, aK]
              rfl
            refine iP (i := 34) (N := some 42) (v := ?_) (a' := ?_) #[true, true, true, true, true, true, true, true, true, true, true, true, true, true, true, true, true, true, true, true, true, true, true, true, true, true, true, true, true, true, true, true, true, true, true, false, false, false, false] rfl rfl (eF dF.out pI.out (by kernel_rfl)) (fun _ _ _ h => h) (Or.inl ⟨by rfl, ?_⟩) hHeld ?_ ?_
            rotate_left
            · rintro w' ⟨s0, s1, s2, s3, s4, s5⟩
              go_simp
              with_reducible rfl
            rotate_left
            · simp only [Act.put, List.setIfInBounds_toArray, List.set_cons_zero, List.set_cons_succ, aJ, aK]
              rfl
            refine nC (i := 35) (N := some 43) #[true, true, true, true, true, true, true, true, true, true, true, true, true, true, true, true, true, true, true, true, true, true, true, true, true, true, true, true, true, true, true, true, true, true, true, true, false, false, false] rfl rfl (iF dF.out (by kernel_rfl)) (by decide) (fun K hK => ?_)
            refine kU Try.func41 (by kernel_rfl) rfl #[.agg #[.int .i64 dw, .int .i64 dB, .slice gp bV.length fZ]] (by rfl) rfl rfl (by (try simp only [List.map_toArray, List.map_cons, List.map_nil]); first | done | rfl | (simp only [List.length_drop, List.length_take]; rfl)) ?_
            with_reducible refine (jy.calls dw dB _ _ bV t104 t105 t106 _ ?eY ?eX A12.out).mono ?_
            (case eY => repeat (first | exact (Kd.fB nO.out HB.out) | (with_reducible refine Kd.fE ?_ _) | (with_reducible refine Kd.fD ?_ _) | (with_reducible refine Kd.gm ?_)))
            (case eX => exact t_.out)
            rintro e X9 ⟨v107, rfl, ho0, hb⟩
            refine ⟨_, rfl, ?_⟩
            have bT := ah.mk (Kd.jG ho0 (aW (by repeat (first | (with_reducible first | exact HB.out | apply au | apply af | apply ak | refine aG ?_ ny.out) | exact HB.out))))
            have dD := ah.mk (bg (g := f_) (o := .cells #[.int .i64 aQ, .int .i64 a_, .slice cO aY.length cu, .int .i64 dw, .int .i64 dB, .slice gp bV.length fZ] 28 (0, 0)) (by (with_reducible repeat (first | refine ay ?_ _ | refine aC ?_ | refine az ?_ _)); exact bI.out) hb)
            have dQ := ah.mk (aI (by repeat (first | (with_reducible first | exact HB.out | apply au | apply af | apply ak | refine aG ?_ ny.out) | exact HB.out)) hb)
            clear bI
            clear HB
            have Iy := bT
            have bI := dD
            have HB := dQ
            clear bT dD dQ
            (try clear hb)
            (try clear hb2)
            (try clear hk)
            (try clear hi)
            (try clear ho0)
            obtain ⟨OB, JL, Bv⟩ := Kd.iq Iy.out
            (first | subst Bv | (injection Bv with tH zN tC; have zM := tH.symm; have zL := tC.symm; clear tH zN tC; subst zM; subst zL))
            refine hK.out _ _ ⟨(aj bI.out 0).trans rfl, (aj bI.out 1).trans rfl, (aj bI.out 2).trans rfl, (aj bI.out 3).trans rfl, (aj bI.out 4).trans rfl, (aj bI.out 5).trans rfl⟩ (fun hHeld => ?_)
            clear hK K
            refine iV (a' := ?_) ?_ ?_
            rotate_left
            · show Act.put _ (some 43) _ = _
              simp only [Act.put, List.setIfInBounds_toArray, List.set_cons_zero, List.set_cons_succ, aJ, aK]
              rfl
            refine nC (i := 36) (N := some 44) #[true, true, true, true, true, true, true, true, true, true, true, true, true, true, true, true, true, true, true, true, true, true, true, true, true, true, true, true, true, true, true, true, true, true, true, true, true, false, false] rfl rfl (iF dF.out (by kernel_rfl)) (by decide) (fun K hK => ?_)
            refine kU Try.func40 (by kernel_rfl) rfl #[.agg #[.int .i64 dw, .int .i64 dB, .slice gp bV.length fZ], .agg #[.int .i64 t104, .int .i64 t105, .slice OB t106.length JL]] (by rfl) rfl rfl (by (try simp only [List.map_toArray, List.map_cons, List.map_nil]); first | done | rfl | (simp only [List.length_drop, List.length_take]; rfl)) ?_
            with_reducible refine (gX.calls k dw dB _ _ bV t104 t105 _ _ t106 t109 _ ?eY ?eX ?lZ ?nU A13.out).mono ?_
            (case eY => repeat (first | exact (Kd.fB nO.out HB.out) | (with_reducible refine Kd.fE ?_ _) | (with_reducible refine Kd.fD ?_ _) | (with_reducible refine Kd.gm ?_)))
            (case eX => exact t_.out)
            (case lZ => repeat (first | exact (Kd.jB Iy.out).2.2 | (with_reducible refine Kd.fE ?_ _) | (with_reducible refine Kd.fD ?_ _) | (with_reducible refine Kd.gm ?_)))
            (case nU => exact (Kd.jB Iy.out).2.1)
            rintro e Eb ⟨rfl, hb⟩
            refine ⟨_, rfl, ?_⟩
            have bT := ah.mk (Kd.iO (by (with_reducible repeat (first | apply Kd.bZ | apply Kd.bY | apply Kd.dA)); exact Iy.out) hb)
            have dD := ah.mk (bg (g := f_) (o := .cells #[.int .i64 aQ, .int .i64 a_, .slice cO aY.length cu, .int .i64 dw, .int .i64 dB, .slice gp bV.length fZ] 28 (0, 0)) (by (with_reducible repeat (first | refine ay ?_ _ | refine aC ?_ | refine az ?_ _)); exact bI.out) hb)
            have dQ := ah.mk (aI (by repeat (first | (with_reducible first | exact HB.out | apply au | apply af | apply ak | refine aG ?_ ny.out) | exact HB.out)) hb)
            clear Iy
            clear bI
            clear HB
            have Iy := bT
            have bI := dD
            have HB := dQ
            clear bT dD dQ
            (try clear hb)
            (try clear hb2)
            (try clear hk)
            (try clear hi)
            refine hK.out _ _ ⟨(aj bI.out 0).trans rfl, (aj bI.out 1).trans rfl, (aj bI.out 2).trans rfl, (aj bI.out 3).trans rfl, (aj bI.out 4).trans rfl, (aj bI.out 5).trans rfl⟩ (fun hHeld => ?_)
            clear hK K
            refine iV (a' := ?_) ?_ ?_
            rotate_left
            · show Act.put _ (some 44) _ = _
              simp only [Act.put, List.setIfInBounds_toArray, List.set_cons_zero, List.set_cons_succ, aJ, aK]
              rfl
            refine bf (i := 37) (N := some 45) (v := ?_) (a' := ?_) #[true, true, true, true, true, true, true, true, true, true, true, true, true, true, true, true, true, true, true, true, true, true, true, true, true, true, true, true, true, true, true, true, true, true, true, true, true, true, false] rfl rfl (aN dF.out (by kernel_rfl)) (fun _ _ _ h => h) (Or.inl ⟨by rfl, ?_⟩) ?_ ?_
            rotate_left
            · intro w'
              go_simp
              with_reducible rfl
            rotate_left
            · simp only [Act.put, List.setIfInBounds_toArray, List.set_cons_zero, List.set_cons_succ, aJ, aK]
              rfl
            refine bf (i := 38) (N := some 46) (v := ?_) (a' := ?_) #[true, true, true, true, true, true, true, true, true, true, true, true, true, true, true, true, true, true, true, true, true, true, true, true, true, true, true, true, true, true, true, true, true, true, true, true, true, true, true] rfl rfl (aN dF.out (by kernel_rfl)) (fun _ _ _ h => h) (Or.inl ⟨by rfl, ?_⟩) ?_ ?_
            rotate_left
            · intro w'
              go_simp
              with_reducible rfl
            rotate_left
            · simp only [Act.put, List.setIfInBounds_toArray, List.set_cons_zero, List.set_cons_succ, aJ, aK]
              rfl
            refine tJ (lW dF.out (by kernel_rfl)) ?_
            try go_wp2
            go_meet
            case rel => exact ⟨_, (!t109), (by first | rfl | (simp; done) | (simp [*]; done)), H', ⟨by first | omega | exact Nat.le_refl _⟩, ⟨by (with_reducible repeat (first | refine ay ?_ _ | refine aC ?_ | refine az ?_ _)); exact bI.out⟩, ⟨by repeat (first | (with_reducible first | exact HB.out | apply au | apply af | apply ak | refine aG ?_ ny.out) | exact HB.out)⟩⟩
          · rw [if_neg c11] at H
            have qJ : (dB == aQ) = false := beq_eq_false_iff_ne.mpr c11
            have BJ : (dB != aQ) = true := bne_iff_ne.mpr c11
            have H' := ah.mk H
            clear H
            try go_wp2
            have bT := ah.mk (aC bI.out)
            have dD := ah.mk (ak HB.out)
            clear bI
            clear HB
            have bI := bT
            have HB := dD
            clear bT dD
            refine oV (n := 39) (S := fun w' => w'.cell? ⟨f_, 0, none⟩ = some (.int .i64 aQ) ∧ w'.cell? ⟨f_, 1, none⟩ = some (.int .i64 a_) ∧ w'.cell? ⟨f_, 2, none⟩ = some (.slice cO aY.length cu) ∧ w'.cell? ⟨f_, 3, none⟩ = some (.int .i64 dw) ∧ w'.cell? ⟨f_, 4, none⟩ = some (.int .i64 dB) ∧ w'.cell? ⟨f_, 5, none⟩ = some (.slice gp bV.length fZ)) (ds := []) #[false, false, false, false, false, false, false, false, false, false, false, false, false, false, false, false, false, false, false, false, false, false, false, false, false, false, false, false, false, false, false, false, false, false, false, false, false, false, false] (by kernel_rfl) rfl rfl ⟨(aj bI.out 0).trans rfl, (aj bI.out 1).trans rfl, (aj bI.out 2).trans rfl, (aj bI.out 3).trans rfl, (aj bI.out 4).trans rfl, (aj bI.out 5).trans rfl⟩ (fun hHeld => ?_); refine jJ bu.GY bu.zW (fun dF pI => ?_)
            generalize w3.drew = w20 at bI HB hHeld ⊢
            refine bf (i := 0) (N := some 8) (v := ?_) (a' := ?_) #[true, false, false, false, false, false, false, false, false, false, false, false, false, false, false, false, false, false, false, false, false, false, false, false, false, false, false, false, false, false, false, false, false, false, false, false, false, false, false] rfl rfl (aN dF.out (by kernel_rfl)) (fun _ _ _ h => h) (Or.inl ⟨by rfl, ?_⟩) ?_ ?_
            rotate_left
            · intro w'
              go_simp
              with_reducible rfl
            rotate_left
            · simp only [Act.put, List.setIfInBounds_toArray, List.set_cons_zero, List.set_cons_succ, aJ, aK]
              rfl
            refine iP (i := 1) (N := some 9) (v := ?_) (a' := ?_) #[true, true, false, false, false, false, false, false, false, false, false, false, false, false, false, false, false, false, false, false, false, false, false, false, false, false, false, false, false, false, false, false, false, false, false, false, false, false, false] rfl rfl (eF dF.out pI.out (by kernel_rfl)) (fun _ _ _ h => h) (Or.inl ⟨by rfl, ?_⟩) hHeld ?_ ?_
            rotate_left
            · rintro w' ⟨s0, s1, s2, s3, s4, s5⟩
              go_simp
              with_reducible rfl
            rotate_left
            · simp only [Act.put, List.setIfInBounds_toArray, List.set_cons_zero, List.set_cons_succ, aJ, aK]
              rfl
            refine nC (i := 2) (N := some 10) #[true, true, true, false, false, false, false, false, false, false, false, false, false, false, false, false, false, false, false, false, false, false, false, false, false, false, false, false, false, false, false, false, false, false, false, false, false, false, false] rfl rfl (iF dF.out (by kernel_rfl)) (by decide) (fun K hK => ?_)
            refine kU Try.func39 (by kernel_rfl) rfl #[.agg #[.int .i64 aQ, .int .i64 a_, .slice cO aY.length cu]] (by rfl) rfl rfl (by (try simp only [List.map_toArray, List.map_cons, List.map_nil]); first | done | rfl | (simp only [List.length_drop, List.length_take]; rfl)) ?_
            with_reducible refine (jc.calls aQ a_ _ _ aY true _ ?eY ?eX A5.out).mono ?_
            (case eY => repeat (first | exact (Kd.fB kC.out HB.out) | (with_reducible refine Kd.fE ?_ _) | (with_reducible refine Kd.fD ?_ _) | (with_reducible refine Kd.gm ?_)))
            (case eX => exact lM.out)
            rintro e U9 ⟨rfl, hb⟩
            refine ⟨_, rfl, ?_⟩
            have bT := ah.mk (bg (g := f_) (o := .cells #[.int .i64 aQ, .int .i64 a_, .slice cO aY.length cu, .int .i64 dw, .int .i64 dB, .slice gp bV.length fZ] 28 (0, 0)) (by (with_reducible repeat (first | refine ay ?_ _ | refine aC ?_ | refine az ?_ _)); exact bI.out) hb)
            have dD := ah.mk (aI (by repeat (first | (with_reducible first | exact HB.out | apply au | apply af | apply ak | refine aG ?_ ny.out) | exact HB.out)) hb)
            clear bI
            clear HB
            have bI := bT
            have HB := dD
            clear bT dD
            (try clear hb)
            (try clear hb2)
            (try clear hk)
            (try clear hi)
            refine hK.out _ _ ⟨(aj bI.out 0).trans rfl, (aj bI.out 1).trans rfl, (aj bI.out 2).trans rfl, (aj bI.out 3).trans rfl, (aj bI.out 4).trans rfl, (aj bI.out 5).trans rfl⟩ (fun hHeld => ?_)
            clear hK K
            refine iV (a' := ?_) ?_ ?_
            rotate_left
            · show Act.put _ (some 10) _ = _
              simp only [Act.put, List.setIfInBounds_toArray, List.set_cons_zero, List.set_cons_succ, aJ, aK]
              rfl
            refine bf (i := 3) (N := some 11) (v := ?_) (a' := ?_) #[true, true, true, true, false, false, false, false, false, false, false, false, false, false, false, false, false, false, false, false, false, false, false, false, false, false, false, false, false, false, false, false, false, false, false, false, false, false, false] rfl rfl (aN dF.out (by kernel_rfl)) (fun _ _ _ h => h) (Or.inl ⟨by rfl, ?_⟩) ?_ ?_
            rotate_left
            · intro w'
              go_simp
              with_reducible rfl
            rotate_left
            · simp only [Act.put, List.setIfInBounds_toArray, List.set_cons_zero, List.set_cons_succ, aJ, aK]
              rfl
            refine bf (i := 4) (N := some 12) (v := ?_) (a' := ?_) #[true, true, true, true, true, false, false, false, false, false, false, false, false, false, false, false, false, false, false, false, false, false, false, false, false, false, false, false, false, false, false, false, false, false, false, false, false, false, false] rfl rfl (aN dF.out (by kernel_rfl)) (fun _ _ _ h => h) (Or.inl ⟨by rfl, ?_⟩) ?_ ?_
            rotate_left
            · intro w'
              go_simp
              with_reducible rfl
            rotate_left
            · simp only [Act.put, List.setIfInBounds_toArray, List.set_cons_zero, List.set_cons_succ, aJ, aK]
              rfl
            refine bf (i := 5) (N := some 13) (v := ?_) (a' := ?_) #[true, true, true, true, true, true, false, false, false, false, false, false, false, false, false, false, false, false, false, false, false, false, false, false, false, false, false, false, false, false, false, false, false, false, false, false, false, false, false] rfl rfl (aN dF.out (by kernel_rfl)) (fun _ _ _ h => h) (Or.inl ⟨by rfl, ?_⟩) ?_ ?_
            rotate_left
            · intro w'
              go_simp
              with_reducible rfl
            rotate_left
            · simp only [Act.put, List.setIfInBounds_toArray, List.set_cons_zero, List.set_cons_succ, aJ, aK]
              rfl
            refine iP (i := 6) (N := some 14) (v := ?_) (a' := ?_) #[true, true, true, true, true, true, true, false, false, false, false, false, false, false, false, false, false, false, false, false, false, false, false, false, false, false, false, false, false, false, false, false, false, false, false, false, false, false, false] rfl rfl (eF dF.out pI.out (by kernel_rfl)) (fun _ _ _ h => h) (Or.inl ⟨by rfl, ?_⟩) hHeld ?_ ?_
            rotate_left
            · rintro w' ⟨s0, s1, s2, s3, s4, s5⟩
              go_simp
              with_reducible rfl
            rotate_left
            · simp only [Act.put, List.setIfInBounds_toArray, List.set_cons_zero, List.set_cons_succ, aJ, aK]
              rfl
            refine nC (i := 7) (N := some 15) #[true, true, true, true, true, true, true, true, false, false, false, false, false, false, false, false, false, false, false, false, false, false, false, false, false, false, false, false, false, false, false, false, false, false, false, false, false, false, false] rfl rfl (iF dF.out (by kernel_rfl)) (by decide) (fun K hK => ?_)
            refine kU Try.func39 (by kernel_rfl) rfl #[.agg #[.int .i64 dw, .int .i64 dB, .slice gp bV.length fZ]] (by rfl) rfl rfl (by (try simp only [List.map_toArray, List.map_cons, List.map_nil]); first | done | rfl | (simp only [List.length_drop, List.length_take]; rfl)) ?_
            with_reducible refine (jc.calls dw dB _ _ bV true _ ?eY ?eX A7.out).mono ?_
            (case eY => repeat (first | exact (Kd.fB nO.out HB.out) | (with_reducible refine Kd.fE ?_ _) | (with_reducible refine Kd.fD ?_ _) | (with_reducible refine Kd.gm ?_)))
            (case eX => exact t_.out)
            rintro e w22 ⟨rfl, hb⟩
            refine ⟨_, rfl, ?_⟩
            have bT := ah.mk (bg (g := f_) (o := .cells #[.int .i64 aQ, .int .i64 a_, .slice cO aY.length cu, .int .i64 dw, .int .i64 dB, .slice gp bV.length fZ] 28 (0, 0)) (by (with_reducible repeat (first | refine ay ?_ _ | refine aC ?_ | refine az ?_ _)); exact bI.out) hb)
            have dD := ah.mk (aI (by repeat (first | (with_reducible first | exact HB.out | apply au | apply af | apply ak | refine aG ?_ ny.out) | exact HB.out)) hb)
            clear bI
            clear HB
            have bI := bT
            have HB := dD
            clear bT dD
            (try clear hb)
            (try clear hb2)
            (try clear hk)
            (try clear hi)
            refine hK.out _ _ ⟨(aj bI.out 0).trans rfl, (aj bI.out 1).trans rfl, (aj bI.out 2).trans rfl, (aj bI.out 3).trans rfl, (aj bI.out 4).trans rfl, (aj bI.out 5).trans rfl⟩ (fun hHeld => ?_)
            clear hK K
            refine iV (a' := ?_) ?_ ?_
            rotate_left
            · show Act.put _ (some 15) _ = _
              simp only [Act.put, List.setIfInBounds_toArray, List.set_cons_zero, List.set_cons_succ, aJ, aK]
              rfl
            refine bf (i := 8) (N := some 16) (v := ?_) (a' := ?_) #[true, true, true, true, true, true, true, true, true, false, false, false, false, false, false, false, false, false, false, false, false, false, false, false, false, false, false, false, false, false, false, false, false, false, false, false, false, false, false] rfl rfl (aN dF.out (by kernel_rfl)) (fun _ _ _ h => h) (Or.inl ⟨by rfl, ?_⟩) ?_ ?_
            rotate_left
            · intro w'
              go_simp
              with_reducible rfl
            rotate_left
            · simp only [Act.put, List.setIfInBounds_toArray, List.set_cons_zero, List.set_cons_succ, aJ, aK]
              rfl
            refine bf (i := 9) (N := some 17) (v := ?_) (a' := ?_) #[true, true, true, true, true, true, true, true, true, true, false, false, false, false, false, false, false, false, false, false, false, false, false, false, false, false, false, false, false, false, false, false, false, false, false, false, false, false, false] rfl rfl (aN dF.out (by kernel_rfl)) (fun _ _ _ h => h) (Or.inl ⟨by rfl, ?_⟩) ?_ ?_
            rotate_left
            · intro w'
              go_simp
              with_reducible rfl
            rotate_left
            · simp only [Act.put, List.setIfInBounds_toArray, List.set_cons_zero, List.set_cons_succ, aJ, aK]
              rfl
            refine bf (i := 10) (N := some 18) (v := ?_) (a' := ?_) #[true, true, true, true, true, true, true, true, true, true, true, false, false, false, false, false, false, false, false, false, false, false, false, false, false, false, false, false, false, false, false, false, false, false, false, false, false, false, false] rfl rfl (aN dF.out (by kernel_rfl)) (fun _ _ _ h => h) (Or.inl ⟨by rfl, ?_⟩) ?_ ?_
            rotate_left
            · intro w'
              go_simp
              with_reducible rfl
            rotate_left
            · simp only [Act.put, List.setIfInBounds_toArray, List.set_cons_zero, List.set_cons_succ, aJ, aK]
              rfl
            refine bf (i := 11) (N := some 19) (v := ?_) (a' := ?_) #[true, true, true, true, true, true, true, true, true, true, true, true, false, false, false, false, false, false, false, false, false, false, false, false, false, false, false, false, false, false, false, false, false, false, false, false, false, false, false] rfl rfl (aN dF.out (by kernel_rfl)) (fun _ _ _ h => h) (Or.inl ⟨by rfl, ?_⟩) ?_ ?_
            rotate_left
            · intro w'
              go_simp
              with_reducible rfl
            rotate_left
            · simp only [Act.put, List.setIfInBounds_toArray, List.set_cons_zero, List.set_cons_succ, aJ, aK]
              rfl
            refine bf (i := 12) (N := some 20) (v := ?_) (a' := ?_) #[true, true, true, true, true, true, true, true, true, true, true, true, true, false, false, false, false, false, false, false, false, false, false, false, false, false, false, false, false, false, false, false, false, false, false, false, false, false, false] rfl rfl (aN dF.out (by kernel_rfl)) (fun _ _ _ h => h) (Or.inl ⟨by rfl, ?_⟩) ?_ ?_
            rotate_left
            · intro w'
              go_simp
              with_reducible rfl
            rotate_left
            · simp only [Act.put, List.setIfInBounds_toArray, List.set_cons_zero, List.set_cons_succ, aJ, aK]
              rfl
            refine iP (i := 13) (N := some 21) (v := ?_) (a' := ?_) #[true, true, true, true, true, true, true, true, true, true, true, true, true, true, false, false, false, false, false, false, false, false, false, false, false, false, false, false, false, false, false, false, false, false, false, false, false, false, false] rfl rfl (eF dF.out pI.out (by kernel_rfl)) (fun _ _ _ h => h) (Or.inl ⟨by rfl, ?_⟩) hHeld ?_ ?_
            rotate_left
            · rintro w' ⟨s0, s1, s2, s3, s4, s5⟩
              go_simp
              with_reducible rfl
            rotate_left
            · simp only [Act.put, List.setIfInBounds_toArray, List.set_cons_zero, List.set_cons_succ, aJ, aK]
              rfl
            refine bf (i := 14) (N := some 22) (v := ?_) (a' := ?_) #[true, true, true, true, true, true, true, true, true, true, true, true, true, true, true, false, false, false, false, false, false, false, false, false, false, false, false, false, false, false, false, false, false, false, false, false, false, false, false] rfl rfl (aN dF.out (by kernel_rfl)) (fun _ _ _ h => h) (Or.inl ⟨by rfl, ?_⟩) ?_ ?_
            rotate_left
            · intro w'
              go_simp
              with_reducible rfl
            rotate_left
            · simp only [Act.put, List.setIfInBounds_toArray, List.set_cons_zero, List.set_cons_succ, aJ, aK]
              rfl
            refine bf (i := 15) (N := some 23) (v := ?_) (a' := ?_) #[true, true, true, true, true, true, true, true, true, true, true, true, true, true, true, true, false, false, false, false, false, false, false, false, false, false, false, false, false, false, false, false, false, false, false, false, false, false, false] rfl rfl (aN dF.out (by kernel_rfl)) (fun _ _ _ h => h) (Or.inl ⟨by rfl, ?_⟩) ?_ ?_
            rotate_left
            · intro w'
              go_simp
              with_reducible rfl
            rotate_left
            · simp only [Act.put, List.setIfInBounds_toArray, List.set_cons_zero, List.set_cons_succ, aJ, aK]
              rfl
            refine bf (i := 16) (N := some 24) (v := ?_) (a' := ?_) #[true, true, true, true, true, true, true, true, true, true, true, true, true, true, true, true, true, false, false, false, false, false, false, false, false, false, false, false, false, false, false, false, false, false, false, false, false, false, false] rfl rfl (aN dF.out (by kernel_rfl)) (fun _ _ _ h => h) (Or.inl ⟨by rfl, ?_⟩) ?_ ?_
            rotate_left
            · intro w'
              go_simp
              with_reducible rfl
            rotate_left
            · simp only [Act.put, List.setIfInBounds_toArray, List.set_cons_zero, List.set_cons_succ, aJ, aK]
              rfl
            refine bf (i := 17) (N := some 25) (v := ?_) (a' := ?_) #[true, true, true, true, true, true, true, true, true, true, true, true, true, true, true, true, true, true, false, false, false, false, false, false, false, false, false, false, false, false, false, false, false, false, false, false, false, false, false] rfl rfl (aN dF.out (by kernel_rfl)) (fun _ _ _ h => h) (Or.inl ⟨by rfl, ?_⟩) ?_ ?_
            rotate_left
            · intro w'
              go_simp
              with_reducible rfl
            rotate_left
            · simp only [Act.put, List.setIfInBounds_toArray, List.set_cons_zero, List.set_cons_succ, aJ, aK]
              rfl
            refine bf (i := 18) (N := some 26) (v := ?_) (a' := ?_) #[true, true, true, true, true, true, true, true, true, true, true, true, true, true, true, true, true, true, true, false, false, false, false, false, false, false, false, false, false, false, false, false, false, false, false, false, false, false, false] rfl rfl (aN dF.out (by kernel_rfl)) (fun _ _ _ h => h) (Or.inl ⟨by rfl, ?_⟩) ?_ ?_
            rotate_left
            · intro w'
              go_simp
              with_reducible rfl
            rotate_left
            · simp only [Act.put, List.setIfInBounds_toArray, List.set_cons_zero, List.set_cons_succ, aJ, aK]
              rfl
            refine bf (i := 20) (N := some 28) (v := ?_) (a' := ?_) #[true, true, true, true, true, true, true, true, true, true, true, true, true, true, true, true, true, true, true, false, true, false, false, false, false, false, false, false, false, false, false, false, false, false, false, false, false, false, false] rfl rfl (aN dF.out (by kernel_rfl)) (fun _ _ _ h => h) (Or.inl ⟨by rfl, ?_⟩) ?_ ?_
            rotate_left
            · intro w'
              go_simp
              with_reducible rfl
            rotate_left
            · simp only [Act.put, List.setIfInBounds_toArray, List.set_cons_zero, List.set_cons_succ, aJ, aK]
              rfl
            refine iP (i := 19) (N := some 27) (v := ?_) (a' := ?_) #[true, true, true, true, true, true, true, true, true, true, true, true, true, true, true, true, true, true, true, true, true, false, false, false, false, false, false, false, false, false, false, false, false, false, false, false, false, false, false] rfl rfl (eF dF.out pI.out (by kernel_rfl)) (fun _ _ _ h => h) (Or.inl ⟨by rfl, ?_⟩) hHeld ?_ ?_
            rotate_left
            · rintro w' ⟨s0, s1, s2, s3, s4, s5⟩
              go_simp
              with_reducible rfl
            rotate_left
            · simp only [Act.put, List.setIfInBounds_toArray, List.set_cons_zero, List.set_cons_succ, aJ, aK]
              rfl
            refine bf (i := 21) (N := some 29) (v := ?_) (a' := ?_) #[true, true, true, true, true, true, true, true, true, true, true, true, true, true, true, true, true, true, true, true, true, true, false, false, false, false, false, false, false, false, false, false, false, false, false, false, false, false, false] rfl rfl (aN dF.out (by kernel_rfl)) (fun _ _ _ h => h) (Or.inl ⟨by rfl, ?_⟩) ?_ ?_
            rotate_left
            · intro w'
              go_simp
              with_reducible rfl
            rotate_left
            · simp only [Act.put, List.setIfInBounds_toArray, List.set_cons_zero, List.set_cons_succ, aJ, aK]
              rfl
            refine bf (i := 22) (N := some 30) (v := ?_) (a' := ?_) #[true, true, true, true, true, true, true, true, true, true, true, true, true, true, true, true, true, true, true, true, true, true, true, false, false, false, false, false, false, false, false, false, false, false, false, false, false, false, false] rfl rfl (aN dF.out (by kernel_rfl)) (fun _ _ _ h => h) (Or.inl ⟨by rfl, ?_⟩) ?_ ?_
            rotate_left
            · intro w'
              go_simp
              with_reducible rfl
            rotate_left
            · simp only [Act.put, List.setIfInBounds_toArray, List.set_cons_zero, List.set_cons_succ, aJ, aK]
              rfl
            refine bf (i := 23) (N := some 31) (v := ?_) (a' := ?_) #[true, true, true, true, true, true, true, true, true, true, true, true, true, true, true, true, true, true, true, true, true, true, true, true, false, false, false, false, false, false, false, false, false, false, false, false, false, false, false] rfl rfl (aN dF.out (by kernel_rfl)) (fun _ _ _ h => h) (Or.inl ⟨by rfl, ?_⟩) ?_ ?_
            rotate_left
            · intro w'
              go_simp
              with_reducible rfl
            rotate_left
            · simp only [Act.put, List.setIfInBounds_toArray, List.set_cons_zero, List.set_cons_succ, aJ, aK]
              rfl
            refine bf (i := 24) (N := some 32) (v := ?_) (a' := ?_) #[true, true, true, true, true, true, true, true, true, true, true, true, true, true, true, true, true, true, true, true, true, true, true, true, true, false, false, false, false, false, false, false, false, false, false, false, false, false, false] rfl rfl (aN dF.out (by kernel_rfl)) (fun _ _ _ h => h) (Or.inl ⟨by rfl, ?_⟩) ?_ ?_
            rotate_left
            · intro w'
              go_simp
              with_reducible rfl
            rotate_left
            · simp only [Act.put, List.setIfInBounds_toArray, List.set_cons_zero, List.set_cons_succ, aJ, aK]
              rfl
            refine bf (i := 25) (N := some 33) (v := ?_) (a' := ?_) #[true, true, true, true, true, true, true, true, true, true, true, true, true, true, true, true, true, true, true, true, true, true, true, true, true, true, false, false, false, false, false, false, false, false, false, false, false, false, false] rfl rfl (aN dF.out (by kernel_rfl)) (fun _ _ _ h => h) (Or.inl ⟨by rfl, ?_⟩) ?_ ?_
            rotate_left
            · intro w'
              go_simp
              with_reducible rfl
            rotate_left
            · simp only [Act.put, List.setIfInBounds_toArray, List.set_cons_zero, List.set_cons_succ, aJ, aK]
              rfl
            refine bf (i := 27) (N := some 35) (v := ?_) (a' := ?_) #[true, true, true, true, true, true, true, true, true, true, true, true, true, true, true, true, true, true, true, true, true, true, true, true, true, true, false, true, false, false, false, false, false, false, false, false, false, false, false] rfl rfl (aN dF.out (by kernel_rfl)) (fun _ _ _ h => h) (Or.inl ⟨by rfl, ?_⟩) ?_ ?_
            rotate_left
            · intro w'
              go_simp
              with_reducible rfl
            rotate_left
            · simp only [Act.put, List.setIfInBounds_toArray, List.set_cons_zero, List.set_cons_succ, aJ, aK]
              rfl
            refine iP (i := 26) (N := some 34) (v := ?_) (a' := ?_) #[true, true, true, true, true, true, true, true, true, true, true, true, true, true, true, true, true, true, true, true, true, true, true, true, true, true, true, true, false, false, false, false, false, false, false, false, false, false, false] rfl rfl (eF dF.out pI.out (by kernel_rfl)) (fun _ _ _ h => h) (Or.inl ⟨by rfl, ?_⟩) hHeld ?_ ?_
            rotate_left
            · rintro w' ⟨s0, s1, s2, s3, s4, s5⟩
              go_simp
              with_reducible rfl
            rotate_left
            · simp only [Act.put, List.setIfInBounds_toArray, List.set_cons_zero, List.set_cons_succ, aJ, aK]
              rfl
            refine bf (i := 28) (N := some 36) (v := ?_) (a' := ?_) #[true, true, true, true, true, true, true, true, true, true, true, true, true, true, true, true, true, true, true, true, true, true, true, true, true, true, true, true, true, false, false, false, false, false, false, false, false, false, false] rfl rfl (aN dF.out (by kernel_rfl)) (fun _ _ _ h => h) (Or.inl ⟨by rfl, ?_⟩) ?_ ?_
            rotate_left
            · intro w'
              go_simp
              with_reducible rfl
            rotate_left
            · simp only [Act.put, List.setIfInBounds_toArray, List.set_cons_zero, List.set_cons_succ, aJ, aK]
              rfl
            refine bf (i := 29) (N := some 37) (v := ?_) (a' := ?_) #[true, true, true, true, true, true, true, true, true, true, true, true, true, true, true, true, true, true, true, true, true, true, true, true, true, true, true, true, true, true, false, false, false, false, false, false, false, false, false] rfl rfl (aN dF.out (by kernel_rfl)) (fun _ _ _ h => h) (Or.inl ⟨by rfl, ?_⟩) ?_ ?_
            rotate_left
            · intro w'
              go_simp
              with_reducible rfl
            rotate_left
            · simp only [Act.put, List.setIfInBounds_toArray, List.set_cons_zero, List.set_cons_succ, aJ, aK]
              rfl
            refine bf (i := 30) (N := some 38) (v := ?_) (a' := ?_) #[true, true, true, true, true, true, true, true, true, true, true, true, true, true, true, true, true, true, true, true, true, true, true, true, true, true, true, true, true, true, true, false, false, false, false, false, false, false, false] rfl rfl (aN dF.out (by kernel_rfl)) (fun _ _ _ h => h) (Or.inl ⟨by rfl, ?_⟩) ?_ ?_
            rotate_left
            · intro w'
              go_simp
              with_reducible rfl
            rotate_left
            · simp only [Act.put, List.setIfInBounds_toArray, List.set_cons_zero, List.set_cons_succ, aJ, aK]
              rfl
            refine bf (i := 31) (N := some 39) (v := undef) (a' := ?_) #[true, true, true, true, true, true, true, true, true, true, true, true, true, true, true, true, true, true, true, true, true, true, true, true, true, true, true, true, true, true, true, true, false, false, false, false, false, false, false] rfl rfl (aN dF.out (by kernel_rfl)) (fun _ _ _ h => h) (Or.inr ⟨by rfl, rfl⟩) ?_ ?_
            rotate_left
            · simp only [Act.put, List.setIfInBounds_toArray, List.set_cons_zero, List.set_cons_succ, aJ, aK]
              rfl
            refine bf (i := 32) (N := some 40) (v := undef) (a' := ?_) #[true, true, true, true, true, true, true, true, true, true, true, true, true, true, true, true, true, true, true, true, true, true, true, true, true, true, true, true, true, true, true, true, true, false, false, false, false, false, false] rfl rfl (aN dF.out (by kernel_rfl)) (fun _ _ _ h => h) (Or.inr ⟨by rfl, rfl⟩) ?_ ?_
            rotate_left
            · simp only [Act.put, List.setIfInBounds_toArray, List.set_cons_zero, List.set_cons_succ, aJ, aK]
              rfl
            refine bf (i := 33) (N := some 41) (v := undef) (a' := ?_) #[true, true, true, true, true, true, true, true, true, true, true, true, true, true, true, true, true, true, true, true, true, true, true, true, true, true, true, true, true, true, true, true, true, true, false, false, false, false, false] rfl rfl (aN dF.out (by kernel_rfl)) (fun _ _ _ h => h) (Or.inr ⟨by rfl, rfl⟩) ?_ ?_
            rotate_left
            · simp only [Act.put, List.setIfInBounds_toArray, List.set_cons_zero, List.set_cons_succ, aJ, aK]
              rfl
            refine bf (i := 34) (N := some 42) (v := undef) (a' := ?_) #[true, true, true, true, true, true, true, true, true, true, true, true, true, true, true, true, true, true, true, true, true, true, true, true, true, true, true, true, true, true, true, true, true, true, true, false, false, false, false] rfl rfl (aN dF.out (by kernel_rfl)) (fun _ _ _ h => h) (Or.inr ⟨by rfl, rfl⟩) ?_ ?_
            rotate_left
            · simp only [Act.put, List.setIfInBounds_toArray, List.set_cons_zero, List.set_cons_succ, aJ, aK]
              rfl
            refine bf (i := 35) (N := some 43) (v := undef) (a' := ?_) #[true, true, true, true, true, true, true, true, true, true, true, true, true, true, true, true, true, true, true, true, true, true, true, true, true, true, true, true, true, true, true, true, true, true, true, true, false, false, false] rfl rfl (aN dF.out (by kernel_rfl)) (fun _ _ _ h => h) (Or.inr ⟨by rfl, rfl⟩) ?_ ?_
            rotate_left
            · simp only [Act.put, List.setIfInBounds_toArray, List.set_cons_zero, List.set_cons_succ, aJ, aK]
              rfl
            refine bf (i := 36) (N := some 44) (v := undef) (a' := ?_) #[true, true, true, true, true, true, true, true, true, true, true, true, true, true, true, true, true, true, true, true, true, true, true, true, true, true, true, true, true, true, true, true, true, true, true, true, true, false, false] rfl rfl (aN dF.out (by kernel_rfl)) (fun _ _ _ h => h) (Or.inr ⟨by rfl, rfl⟩) ?_ ?_
            rotate_left
            · simp only [Act.put, List.setIfInBounds_toArray, List.set_cons_zero, List.set_cons_succ, aJ, aK]
              rfl
            refine bf (i := 37) (N := some 45) (v := undef) (a' := ?_) #[true, true, true, true, true, true, true, true, true, true, true, true, true, true, true, true, true, true, true, true, true, true, true, true, true, true, true, true, true, true, true, true, true, true, true, true, true, true, false] rfl rfl (aN dF.out (by kernel_rfl)) (fun _ _ _ h => h) (Or.inr ⟨by rfl, rfl⟩) ?_ ?_
            rotate_left
            · simp only [Act.put, List.setIfInBounds_toArray, List.set_cons_zero, List.set_cons_succ, aJ, aK]
              rfl
            refine bf (i := 38) (N := some 46) (v := ?_) (a' := ?_) #[true, true, true, true, true, true, true, true, true, true, true, true, true, true, true, true, true, true, true, true, true, true, true, true, true, true, true, true, true, true, true, true, true, true, true, true, true, true, true] rfl rfl (aN dF.out (by kernel_rfl)) (fun _ _ _ h => h) (Or.inl ⟨by rfl, ?_⟩) ?_ ?_
            rotate_left
            · intro w'
              go_simp
              with_reducible rfl
            rotate_left
            · simp only [Act.put, List.setIfInBounds_toArray, List.set_cons_zero, List.set_cons_succ, aJ, aK]
              rfl
            refine tJ (lW dF.out (by kernel_rfl)) ?_
            try go_wp2
            go_meet
            case rel => exact ⟨_, (true), (by first | rfl | (simp; done) | (simp [*]; done)), H', ⟨by first | omega | exact Nat.le_refl _⟩, ⟨by (with_reducible repeat (first | refine ay ?_ _ | refine aC ?_ | refine az ?_ _)); exact bI.out⟩, ⟨by repeat (first | (with_reducible first | exact HB.out | apply au | apply af | apply ak | refine aG ?_ ny.out) | exact HB.out)⟩⟩
        · rw [if_neg c10] at H
          have yH : (dw == aQ) = false := beq_eq_false_iff_ne.mpr c10
          have Gq : (dw != aQ) = true := bne_iff_ne.mpr c10
          have H' := ah.mk H
          clear H
          try go_wp2
          have bT := ah.mk (aC bI.out)
          have dD := ah.mk (ak HB.out)
          clear bI
          clear HB
          have bI := bT
          have HB := dD
          clear bT dD
          refine oV (n := 39) (S := fun w' => w'.cell? ⟨f_, 0, none⟩ = some (.int .i64 aQ) ∧ w'.cell? ⟨f_, 1, none⟩ = some (.int .i64 a_) ∧ w'.cell? ⟨f_, 2, none⟩ = some (.slice cO aY.length cu) ∧ w'.cell? ⟨f_, 3, none⟩ = some (.int .i64 dw) ∧ w'.cell? ⟨f_, 4, none⟩ = some (.int .i64 dB) ∧ w'.cell? ⟨f_, 5, none⟩ = some (.slice gp bV.length fZ)) (ds := []) #[false, false, false, false, false, false, false, false, false, false, false, false, false, false, false, false, false, false, false, false, false, false, false, false, false, false, false, false, false, false, false, false, false, false, false, false, false, false, false] (by kernel_rfl) rfl rfl ⟨(aj bI.out 0).trans rfl, (aj bI.out 1).trans rfl, (aj bI.out 2).trans rfl, (aj bI.out 3).trans rfl, (aj bI.out 4).trans rfl, (aj bI.out 5).trans rfl⟩ (fun hHeld => ?_); refine jJ bu.GY bu.zW (fun dF pI => ?_)
          generalize w3.drew = w23 at bI HB hHeld ⊢
          refine bf (i := 0) (N := some 8) (v := ?_) (a' := ?_) #[true, false, false, false, false, false, false, false, false, false, false, false, false, false, false, false, false, false, false, false, false, false, false, false, false, false, false, false, false, false, false, false, false, false, false, false, false, false, false] rfl rfl (aN dF.out (by kernel_rfl)) (fun _ _ _ h => h) (Or.inl ⟨by rfl, ?_⟩) ?_ ?_
          rotate_left
          · intro w'
            go_simp
            with_reducible rfl
          rotate_left
          · simp only [Act.put, List.setIfInBounds_toArray, List.set_cons_zero, List.set_cons_succ, aJ, aK]
            rfl
          refine iP (i := 1) (N := some 9) (v := ?_) (a' := ?_) #[true, true, false, false, false, false, false, false, false, false, false, false, false, false, false, false, false, false, false, false, false, false, false, false, false, false, false, false, false, false, false, false, false, false, false, false, false, false, false] rfl rfl (eF dF.out pI.out (by kernel_rfl)) (fun _ _ _ h => h) (Or.inl ⟨by rfl, ?_⟩) hHeld ?_ ?_
          rotate_left
          · rintro w' ⟨s0, s1, s2, s3, s4, s5⟩
            go_simp
            with_reducible rfl
          rotate_left
          · simp only [Act.put, List.setIfInBounds_toArray, List.set_cons_zero, List.set_cons_succ, aJ, aK]
            rfl
          refine nC (i := 2) (N := some 10) #[true, true, true, false, false, false, false, false, false, false, false, false, false, false, false, false, false, false, false, false, false, false, false, false, false, false, false, false, false, false, false, false, false, false, false, false, false, false, false] rfl rfl (iF dF.out (by kernel_rfl)) (by decide) (fun K hK => ?_)
          refine kU Try.func39 (by kernel_rfl) rfl #[.agg #[.int .i64 aQ, .int .i64 a_, .slice cO aY.length cu]] (by rfl) rfl rfl (by (try simp only [List.map_toArray, List.map_cons, List.map_nil]); first | done | rfl | (simp only [List.length_drop, List.length_take]; rfl)) ?_
          with_reducible refine (jc.calls aQ a_ _ _ aY true _ ?eY ?eX A5.out).mono ?_
          (case eY => repeat (first | exact (Kd.fB kC.out HB.out) | (with_reducible refine Kd.fE ?_ _) | (with_reducible refine Kd.fD ?_ _) | (with_reducible refine Kd.gm ?_)))
          (case eX => exact lM.out)
          rintro e YP ⟨rfl, hb⟩
          refine ⟨_, rfl, ?_⟩
          have bT := ah.mk (bg (g := f_) (o := .cells #[.int .i64 aQ, .int .i64 a_, .slice cO aY.length cu, .int .i64 dw, .int .i64 dB, .slice gp bV.length fZ] 28 (0, 0)) (by (with_reducible repeat (first | refine ay ?_ _ | refine aC ?_ | refine az ?_ _)); exact bI.out) hb)
          have dD := ah.mk (aI (by repeat (first | (with_reducible first | exact HB.out | apply au | apply af | apply ak | refine aG ?_ ny.out) | exact HB.out)) hb)
          clear bI
          clear HB
          have bI := bT
          have HB := dD
          clear bT dD
          (try clear hb)
          (try clear hb2)
          (try clear hk)
          (try clear hi)
          refine hK.out _ _ ⟨(aj bI.out 0).trans rfl, (aj bI.out 1).trans rfl, (aj bI.out 2).trans rfl, (aj bI.out 3).trans rfl, (aj bI.out 4).trans rfl, (aj bI.out 5).trans rfl⟩ (fun hHeld => ?_)
          clear hK K
          refine iV (a' := ?_) ?_ ?_
          rotate_left
          · show Act.put _ (some 10) _ = _
            simp only [Act.put, List.setIfInBounds_toArray, List.set_cons_zero, List.set_cons_succ, aJ, aK]
            rfl
          refine bf (i := 3) (N := some 11) (v := ?_) (a' := ?_) #[true, true, true, true, false, false, false, false, false, false, false, false, false, false, false, false, false, false, false, false, false, false, false, false, false, false, false, false, false, false, false, false, false, false, false, false, false, false, false] rfl rfl (aN dF.out (by kernel_rfl)) (fun _ _ _ h => h) (Or.inl ⟨by rfl, ?_⟩) ?_ ?_
          rotate_left
          · intro w'
            go_simp
            with_reducible rfl
          rotate_left
          · simp only [Act.put, List.setIfInBounds_toArray, List.set_cons_zero, List.set_cons_succ, aJ, aK]
            rfl
          refine bf (i := 4) (N := some 12) (v := ?_) (a' := ?_) #[true, true, true, true, true, false, false, false, false, false, false, false, false, false, false, false, false, false, false, false, false, false, false, false, false, false, false, false, false, false, false, false, false, false, false, false, false, false, false] rfl rfl (aN dF.out (by kernel_rfl)) (fun _ _ _ h => h) (Or.inl ⟨by rfl, ?_⟩) ?_ ?_
          rotate_left
          · intro w'
            go_simp
            with_reducible rfl
          rotate_left
          · simp only [Act.put, List.setIfInBounds_toArray, List.set_cons_zero, List.set_cons_succ, aJ, aK]
            rfl
          refine bf (i := 5) (N := some 13) (v := ?_) (a' := ?_) #[true, true, true, true, true, true, false, false, false, false, false, false, false, false, false, false, false, false, false, false, false, false, false, false, false, false, false, false, false, false, false, false, false, false, false, false, false, false, false] rfl rfl (aN dF.out (by kernel_rfl)) (fun _ _ _ h => h) (Or.inl ⟨by rfl, ?_⟩) ?_ ?_
          rotate_left
          · intro w'
            go_simp
            with_reducible rfl
          rotate_left
          · simp only [Act.put, List.setIfInBounds_toArray, List.set_cons_zero, List.set_cons_succ, aJ, aK]
            rfl
          refine iP (i := 6) (N := some 14) (v := ?_) (a' := ?_) #[true, true, true, true, true, true, true, false, false, false, false, false, false, false, false, false, false, false, false, false, false, false, false, false, false, false, false, false, false, false, false, false, false, false, false, false, false, false, false] rfl rfl (eF dF.out pI.out (by kernel_rfl)) (fun _ _ _ h => h) (Or.inl ⟨by rfl, ?_⟩) hHeld ?_ ?_
          rotate_left
          · rintro w' ⟨s0, s1, s2, s3, s4, s5⟩
            go_simp
            with_reducible rfl
          rotate_left
          · simp only [Act.put, List.setIfInBounds_toArray, List.set_cons_zero, List.set_cons_succ, aJ, aK]
            rfl
          refine nC (i := 7) (N := some 15) #[true, true, true, true, true, true, true, true, false, false, false, false, false, false, false, false, false, false, false, false, false, false, false, false, false, false, false, false, false, false, false, false, false, false, false, false, false, false, false] rfl rfl (iF dF.out (by kernel_rfl)) (by decide) (fun K hK => ?_)
          refine kU Try.func39 (by kernel_rfl) rfl #[.agg #[.int .i64 dw, .int .i64 dB, .slice gp bV.length fZ]] (by rfl) rfl rfl (by (try simp only [List.map_toArray, List.map_cons, List.map_nil]); first | done | rfl | (simp only [List.length_drop, List.length_take]; rfl)) ?_
          with_reducible refine (jc.calls dw dB _ _ bV true _ ?eY ?eX A7.out).mono ?_
          (case eY => repeat (first | exact (Kd.fB nO.out HB.out) | (with_reducible refine Kd.fE ?_ _) | (with_reducible refine Kd.fD ?_ _) | (with_reducible refine Kd.gm ?_)))
          (case eX => exact t_.out)
          rintro e w25 ⟨rfl, hb⟩
          refine ⟨_, rfl, ?_⟩
          have bT := ah.mk (bg (g := f_) (o := .cells #[.int .i64 aQ, .int .i64 a_, .slice cO aY.length cu, .int .i64 dw, .int .i64 dB, .slice gp bV.length fZ] 28 (0, 0)) (by (with_reducible repeat (first | refine ay ?_ _ | refine aC ?_ | refine az ?_ _)); exact bI.out) hb)
          have dD := ah.mk (aI (by repeat (first | (with_reducible first | exact HB.out | apply au | apply af | apply ak | refine aG ?_ ny.out) | exact HB.out)) hb)
          clear bI
          clear HB
          have bI := bT
          have HB := dD
          clear bT dD
          (try clear hb)
          (try clear hb2)
          (try clear hk)
          (try clear hi)
          refine hK.out _ _ ⟨(aj bI.out 0).trans rfl, (aj bI.out 1).trans rfl, (aj bI.out 2).trans rfl, (aj bI.out 3).trans rfl, (aj bI.out 4).trans rfl, (aj bI.out 5).trans rfl⟩ (fun hHeld => ?_)
          clear hK K
          refine iV (a' := ?_) ?_ ?_
          rotate_left
          · show Act.put _ (some 15) _ = _
            simp only [Act.put, List.setIfInBounds_toArray, List.set_cons_zero, List.set_cons_succ, aJ, aK]
            rfl
          refine bf (i := 8) (N := some 16) (v := ?_) (a' := ?_) #[true, true, true, true, true, true, true, true, true, false, false, false, false, false, false, false, false, false, false, false, false, false, false, false, false, false, false, false, false, false, false, false, false, false, false, false, false, false, false] rfl rfl (aN dF.out (by kernel_rfl)) (fun _ _ _ h => h) (Or.inl ⟨by rfl, ?_⟩) ?_ ?_
          rotate_left
          · intro w'
            go_simp
            with_reducible rfl
          rotate_left
          · simp only [Act.put, List.setIfInBounds_toArray, List.set_cons_zero, List.set_cons_succ, aJ, aK]
            rfl
          refine bf (i := 9) (N := some 17) (v := ?_) (a' := ?_) #[true, true, true, true, true, true, true, true, true, true, false, false, false, false, false, false, false, false, false, false, false, false, false, false, false, false, false, false, false, false, false, false, false, false, false, false, false, false, false] rfl rfl (aN dF.out (by kernel_rfl)) (fun _ _ _ h => h) (Or.inl ⟨by rfl, ?_⟩) ?_ ?_
          rotate_left
          · intro w'
            go_simp
            with_reducible rfl
          rotate_left
          · simp only [Act.put, List.setIfInBounds_toArray, List.set_cons_zero, List.set_cons_succ, aJ, aK]
            rfl
          refine bf (i := 10) (N := some 18) (v := ?_) (a' := ?_) #[true, true, true, true, true, true, true, true, true, true, true, false, false, false, false, false, false, false, false, false, false, false, false, false, false, false, false, false, false, false, false, false, false, false, false, false, false, false, false] rfl rfl (aN dF.out (by kernel_rfl)) (fun _ _ _ h => h) (Or.inl ⟨by rfl, ?_⟩) ?_ ?_
          rotate_left
          · intro w'
            go_simp
            with_reducible rfl
          rotate_left
          · simp only [Act.put, List.setIfInBounds_toArray, List.set_cons_zero, List.set_cons_succ, aJ, aK]
            rfl
          refine bf (i := 11) (N := some 19) (v := ?_) (a' := ?_) #[true, true, true, true, true, true, true, true, true, true, true, true, false, false, false, false, false, false, false, false, false, false, false, false, false, false, false, false, false, false, false, false, false, false, false, false, false, false, false] rfl rfl (aN dF.out (by kernel_rfl)) (fun _ _ _ h => h) (Or.inl ⟨by rfl, ?_⟩) ?_ ?_
          rotate_left
          · intro w'
            go_simp
            with_reducible rfl
          rotate_left
          · simp only [Act.put, List.setIfInBounds_toArray, List.set_cons_zero, List.set_cons_succ, aJ, aK]
            rfl
          refine bf (i := 12) (N := some 20) (v := ?_) (a' := ?_) #[true, true, true, true, true, true, true, true, true, true, true, true, true, false, false, false, false, false, false, false, false, false, false, false, false, false, false, false, false, false, false, false, false, false, false, false, false, false, false] rfl rfl (aN dF.out (by kernel_rfl)) (fun _ _ _ h => h) (Or.inl ⟨by rfl, ?_⟩) ?_ ?_
          rotate_left
          · intro w'
            go_simp
            with_reducible rfl
          rotate_left
          · simp only [Act.put, List.setIfInBounds_toArray, List.set_cons_zero, List.set_cons_succ, aJ, aK]
            rfl
          refine iP (i := 13) (N := some 21) (v := ?_) (a' := ?_) #[true, true, true, true, true, true, true, true, true, true, true, true, true, true, false, false, false, false, false, false, false, false, false, false, false, false, false, false, false, false, false, false, false, false, false, false, false, false, false] rfl rfl (eF dF.out pI.out (by kernel_rfl)) (fun _ _ _ h => h) (Or.inl ⟨by rfl, ?_⟩) hHeld ?_ ?_
          rotate_left
          · rintro w' ⟨s0, s1, s2, s3, s4, s5⟩
            go_simp
            with_reducible rfl
          rotate_left
          · simp only [Act.put, List.setIfInBounds_toArray, List.set_cons_zero, List.set_cons_succ, aJ, aK]
            rfl
          refine bf (i := 14) (N := some 22) (v := ?_) (a' := ?_) #[true, true, true, true, true, true, true, true, true, true, true, true, true, true, true, false, false, false, false, false, false, false, false, false, false, false, false, false, false, false, false, false, false, false, false, false, false, false, false] rfl rfl (aN dF.out (by kernel_rfl)) (fun _ _ _ h => h) (Or.inl ⟨by rfl, ?_⟩) ?_ ?_
          rotate_left
          · intro w'
            go_simp
            with_reducible rfl
          rotate_left
          · simp only [Act.put, List.setIfInBounds_toArray, List.set_cons_zero, List.set_cons_succ, aJ, aK]
            rfl
          refine bf (i := 15) (N := some 23) (v := ?_) (a' := ?_) #[true, true, true, true, true, true, true, true, true, true, true, true, true, true, true, true, false, false, false, false, false, false, false, false, false, false, false, false, false, false, false, false, false, false, false, false, false, false, false] rfl rfl (aN dF.out (by kernel_rfl)) (fun _ _ _ h => h) (Or.inl ⟨by rfl, ?_⟩) ?_ ?_
          rotate_left
          · intro w'
            go_simp
            with_reducible rfl
          rotate_left
          · simp only [Act.put, List.setIfInBounds_toArray, List.set_cons_zero, List.set_cons_succ, aJ, aK]
            rfl
          refine bf (i := 16) (N := some 24) (v := ?_) (a' := ?_) #[true, true, true, true, true, true, true, true, true, true, true, true, true, true, true, true, true, false, false, false, false, false, false, false, false, false, false, false, false, false, false, false, false, false, false, false, false, false, false] rfl rfl (aN dF.out (by kernel_rfl)) (fun _ _ _ h => h) (Or.inl ⟨by rfl, ?_⟩) ?_ ?_
          rotate_left
          · intro w'
            go_simp
            with_reducible rfl
          rotate_left
          · simp only [Act.put, List.setIfInBounds_toArray, List.set_cons_zero, List.set_cons_succ, aJ, aK]
            rfl
          refine bf (i := 17) (N := some 25) (v := ?_) (a' := ?_) #[true, true, true, true, true, true, true, true, true, true, true, true, true, true, true, true, true, true, false, false, false, false, false, false, false, false, false, false, false, false, false, false, false, false, false, false, false, false, false] rfl rfl (aN dF.out (by kernel_rfl)) (fun _ _ _ h => h) (Or.inl ⟨by rfl, ?_⟩) ?_ ?_
          rotate_left
          · intro w'
            go_simp
            with_reducible rfl
          rotate_left
          · simp only [Act.put, List.setIfInBounds_toArray, List.set_cons_zero, List.set_cons_succ, aJ, aK]
            rfl
          refine bf (i := 18) (N := some 26) (v := ?_) (a' := ?_) #[true, true, true, true, true, true, true, true, true, true, true, true, true, true, true, true, true, true, true, false, false, false, false, false, false, false, false, false, false, false, false, false, false, false, false, false, false, false, false] rfl rfl (aN dF.out (by kernel_rfl)) (fun _ _ _ h => h) (Or.inl ⟨by rfl, ?_⟩) ?_ ?_
          rotate_left
          · intro w'
            go_simp
            with_reducible rfl
          rotate_left
          · simp only [Act.put, List.setIfInBounds_toArray, List.set_cons_zero, List.set_cons_succ, aJ, aK]
            rfl
          refine bf (i := 20) (N := some 28) (v := ?_) (a' := ?_) #[true, true, true, true, true, true, true, true, true, true, true, true, true, true, true, true, true, true, true, false, true, false, false, false, false, false, false, false, false, false, false, false, false, false, false, false, false, false, false] rfl rfl (aN dF.out (by kernel_rfl)) (fun _ _ _ h => h) (Or.inl ⟨by rfl, ?_⟩) ?_ ?_
          rotate_left
          · intro w'
            go_simp
            with_reducible rfl
          rotate_left
          · simp only [Act.put, List.setIfInBounds_toArray, List.set_cons_zero, List.set_cons_succ, aJ, aK]
            rfl
          refine iP (i := 19) (N := some 27) (v := ?_) (a' := ?_) #[true, true, true, true, true, true, true, true, true, true, true, true, true, true, true, true, true, true, true, true, true, false, false, false, false, false, false, false, false, false, false, false, false, false, false, false, false, false, false] rfl rfl (eF dF.out pI.out (by kernel_rfl)) (fun _ _ _ h => h) (Or.inl ⟨by rfl, ?_⟩) hHeld ?_ ?_
          rotate_left
          · rintro w' ⟨s0, s1, s2, s3, s4, s5⟩
            go_simp
            with_reducible rfl
          rotate_left
          · simp only [Act.put, List.setIfInBounds_toArray, List.set_cons_zero, List.set_cons_succ, aJ, aK]
            rfl
          refine bf (i := 21) (N := some 29) (v := ?_) (a' := ?_) #[true, true, true, true, true, true, true, true, true, true, true, true, true, true, true, true, true, true, true, true, true, true, false, false, false, false, false, false, false, false, false, false, false, false, false, false, false, false, false] rfl rfl (aN dF.out (by kernel_rfl)) (fun _ _ _ h => h) (Or.inl ⟨by rfl, ?_⟩) ?_ ?_
          rotate_left
          · intro w'
            go_simp
            with_reducible rfl
          rotate_left
          · simp only [Act.put, List.setIfInBounds_toArray, List.set_cons_zero, List.set_cons_succ, aJ, aK]
            rfl
          refine bf (i := 22) (N := some 30) (v := ?_) (a' := ?_) #[true, true, true, true, true, true, true, true, true, true, true, true, true, true, true, true, true, true, true, true, true, true, true, false, false, false, false, false, false, false, false, false, false, false, false, false, false, false, false] rfl rfl (aN dF.out (by kernel_rfl)) (fun _ _ _ h => h) (Or.inl ⟨by rfl, ?_⟩) ?_ ?_
          rotate_left
          · intro w'
            go_simp
            with_reducible rfl
          rotate_left
          · simp only [Act.put, List.setIfInBounds_toArray, List.set_cons_zero, List.set_cons_succ, aJ, aK]
            rfl
          refine bf (i := 23) (N := some 31) (v := ?_) (a' := ?_) #[true, true, true, true, true, true, true, true, true, true, true, true, true, true, true, true, true, true, true, true, true, true, true, true, false, false, false, false, false, false, false, false, false, false, false, false, false, false, false] rfl rfl (aN dF.out (by kernel_rfl)) (fun _ _ _ h => h) (Or.inl ⟨by rfl, ?_⟩) ?_ ?_
          rotate_left
          · intro w'
            go_simp
            with_reducible rfl
          rotate_left
          · simp only [Act.put, List.setIfInBounds_toArray, List.set_cons_zero, List.set_cons_succ, aJ, aK]
            rfl
          refine bf (i := 24) (N := some 32) (v := undef) (a' := ?_) #[true, true, true, true, true, true, true, true, true, true, true, true, true, true, true, true, true, true, true, true, true, true, true, true, true, false, false, false, false, false, false, false, false, false, false, false, false, false, false] rfl rfl (aN dF.out (by kernel_rfl)) (fun _ _ _ h => h) (Or.inr ⟨by rfl, rfl⟩) ?_ ?_
          rotate_left
          · simp only [Act.put, List.setIfInBounds_toArray, List.set_cons_zero, List.set_cons_succ, aJ, aK]
            rfl
          refine bf (i := 25) (N := some 33) (v := undef) (a' := ?_) #[true, true, true, true, true, true, true, true, true, true, true, true, true, true, true, true, true, true, true, true, true, true, true, true, true, true, false, false, false, false, false, false, false, false, false, false, false, false, false] rfl rfl (aN dF.out (by kernel_rfl)) (fun _ _ _ h => h) (Or.inr ⟨by rfl, rfl⟩) ?_ ?_
          rotate_left
          · simp only [Act.put, List.setIfInBounds_toArray, List.set_cons_zero, List.set_cons_succ, aJ, aK]
            rfl
          refine bf (i := 26) (N := some 34) (v := undef) (a' := ?_) #[true, true, true, true, true, true, true, true, true, true, true, true, true, true, true, true, true, true, true, true, true, true, true, true, true, true, true, false, false, false, false, false, false, false, false, false, false, false, false] rfl rfl (aN dF.out (by kernel_rfl)) (fun _ _ _ h => h) (Or.inr ⟨by rfl, rfl⟩) ?_ ?_
          rotate_left
          · simp only [Act.put, List.setIfInBounds_toArray, List.set_cons_zero, List.set_cons_succ, aJ, aK]
            rfl
          refine bf (i := 27) (N := some 35) (v := undef) (a' := ?_) #[true, true, true, true, true, true, true, true, true, true, true, true, true, true, true, true, true, true, true, true, true, true, true, true, true, true, true, true, false, false, false, false, false, false, false, false, false, false, false] rfl rfl (aN dF.out (by kernel_rfl)) (fun _ _ _ h => h) (Or.inr ⟨by rfl, rfl⟩) ?_ ?_
          rotate_left
          · simp only [Act.put, List.setIfInBounds_toArray, List.set_cons_zero, List.set_cons_succ, aJ, aK]
            rfl
          refine bf (i := 28) (N := some 36) (v := undef) (a' := ?_) #[true, true, true, true, true, true, true, true, true, true, true, true, true, true, true, true, true, true, true, true, true, true, true, true, true, true, true, true, true, false, false, false, false, false, false, false, false, false, false] rfl rfl (aN dF.out (by kernel_rfl)) (fun _ _ _ h => h) (Or.inr ⟨by rfl, rfl⟩) ?_ ?_
          rotate_left
          · simp only [Act.put, List.setIfInBounds_toArray, List.set_cons_zero, List.set_cons_succ, aJ, aK]
            rfl
          refine bf (i := 29) (N := some 37) (v := ?_) (a' := ?_) #[true, true, true, true, true, true, true, true, true, true, true, true, true, true, true, true, true, true, true, true, true, true, true, true, true, true, true, true, true, true, false, false, false, false, false, false, false, false, false] rfl rfl (aN dF.out (by kernel_rfl)) (fun _ _ _ h => h) (Or.inl ⟨by rfl, ?_⟩) ?_ ?_
          rotate_left
          · intro w'
            go_simp
            with_reducible rfl
          rotate_left
          · simp only [Act.put, List.setIfInBounds_toArray, List.set_cons_zero, List.set_cons_succ, aJ, aK]
            rfl
          refine bf (i := 30) (N := some 38) (v := ?_) (a' := ?_) #[true, true, true, true, true, true, true, true, true, true, true, true, true, true, true, true, true, true, true, true, true, true, true, true, true, true, true, true, true, true, true, false, false, false, false, false, false, false, false] rfl rfl (aN dF.out (by kernel_rfl)) (fun _ _ _ h => h) (Or.inl ⟨by rfl, ?_⟩) ?_ ?_
          rotate_left
          · intro w'
            go_simp
            with_reducible rfl
          rotate_left
          · simp only [Act.put, List.setIfInBounds_toArray, List.set_cons_zero, List.set_cons_succ, aJ, aK]
            rfl
          refine bf (i := 31) (N := some 39) (v := undef) (a' := ?_) #[true, true, true, true, true, true, true, true, true, true, true, true, true, true, true, true, true, true, true, true, true, true, true, true, true, true, true, true, true, true, true, true, false, false, false, false, false, false, false] rfl rfl (aN dF.out (by kernel_rfl)) (fun _ _ _ h => h) (Or.inr ⟨by rfl, rfl⟩) ?_ ?_
          rotate_left
          · simp only [Act.put, List.setIfInBounds_toArray, List.set_cons_zero, List.set_cons_succ, aJ, aK]
            rfl
          refine bf (i := 32) (N := some 40) (v := undef) (a' := ?_) #[true, true, true, true, true, true, true, true, true, true, true, true, true, true, true, true, true, true, true, true, true, true, true, true, true, true, true, true, true, true, true, true, true, false, false, false, false, false, false] rfl rfl (aN dF.out (by kernel_rfl)) (fun _ _ _ h => h) (Or.inr ⟨by rfl, rfl⟩) ?_ ?_
          rotate_left
          · simp only [Act.put, List.setIfInBounds_toArray, List.set_cons_zero, List.set_cons_succ, aJ, aK]
            rfl
          refine bf (i := 33) (N := some 41) (v := undef) (a' := ?_) #[true, true, true, true, true, true, true, true, true, true, true, true, true, true, true, true, true, true, true, true, true, true, true, true, true, true, true, true, true, true, true, true, true, true, false, false, false, false, false] rfl rfl (aN dF.out (by kernel_rfl)) (fun _ _ _ h => h) (Or.inr ⟨by rfl, rfl⟩) ?_ ?_
          rotate_left
          · simp only [Act.put, List.setIfInBounds_toArray, List.set_cons_zero, List.set_cons_succ, aJ, aK]
            rfl
          refine bf (i := 34) (N := some 42) (v := undef) (a' := ?_) #[true, true, true, true, true, true, true, true, true, true, true, true, true, true, true, true, true, true, true, true, true, true, true, true, true, true, true, true, true, true, true, true, true, true, true, false, false, false, false] rfl rfl (aN dF.out (by kernel_rfl)) (fun _ _ _ h => h) (Or.inr ⟨by rfl, rfl⟩) ?_ ?_
          rotate_left
          · simp only [Act.put, List.setIfInBounds_toArray, List.set_cons_zero, List.set_cons_succ, aJ, aK]
            rfl
          refine bf (i := 35) (N := some 43) (v := undef) (a' := ?_) #[true, true, true, true, true, true, true, true, true, true, true, true, true, true, true, true, true, true, true, true, true, true, true, true, true, true, true, true, true, true, true, true, true, true, true, true, false, false, false] rfl rfl (aN dF.out (by kernel_rfl)) (fun _ _ _ h => h) (Or.inr ⟨by rfl, rfl⟩) ?_ ?_
          rotate_left
          · simp only [Act.put, List.setIfInBounds_toArray, List.set_cons_zero, List.set_cons_succ, aJ, aK]
            rfl
          refine bf (i := 36) (N := some 44) (v := undef) (a' := ?_) #[true, true, true, true, true, true, true, true, true, true, true, true, true, true, true, true, true, true, true, true, true, true, true, true, true, true, true, true, true, true, true, true, true, true, true, true, true, false, false] rfl rfl (aN dF.out (by kernel_rfl)) (fun _ _ _ h => h) (Or.inr ⟨by rfl, rfl⟩) ?_ ?_
          rotate_left
          · simp only [Act.put, List.setIfInBounds_toArray, List.set_cons_zero, List.set_cons_succ, aJ, aK]
            rfl
          refine bf (i := 37) (N := some 45) (v := undef) (a' := ?_) #[true, true, true, true, true, true, true, true, true, true, true, true, true, true, true, true, true, true, true, true, true, true, true, true, true, true, true, true, true, true, true, true, true, true, true, true, true, true, false] rfl rfl (aN dF.out (by kernel_rfl)) (fun _ _ _ h => h) (Or.inr ⟨by rfl, rfl⟩) ?_ ?_
          rotate_left
          · simp only [Act.put, List.setIfInBounds_toArray, List.set_cons_zero, List.set_cons_succ, aJ, aK]
            rfl
          refine bf (i := 38) (N := some 46) (v := ?_) (a' := ?_) #[true, true, true, true, true, true, true, true, true, true, true, true, true, true, true, true, true, true, true, true, true, true, true, true, true, true, true, true, true, true, true, true, true, true, true, true, true, true, true] rfl rfl (aN dF.out (by kernel_rfl)) (fun _ _ _ h => h) (Or.inl ⟨by rfl, ?_⟩) ?_ ?_
          rotate_left
          · intro w'
            go_simp
            with_reducible rfl
          rotate_left
          · simp only [Act.put, List.setIfInBounds_toArray, List.set_cons_zero, List.set_cons_succ, aJ, aK]
            rfl
          refine tJ (lW dF.out (by kernel_rfl)) ?_
          try go_wp2
          go_meet
          case rel => exact ⟨_, (true), (by first | rfl | (simp; done) | (simp [*]; done)), H', ⟨by first | omega | exact Nat.le_refl _⟩, ⟨by (with_reducible repeat (first | refine ay ?_ _ | refine aC ?_ | refine az ?_ _)); exact bI.out⟩, ⟨by repeat (first | (with_reducible first | exact HB.out | apply au | apply af | apply ak | refine aG ?_ ny.out) | exact HB.out)⟩⟩
      · rw [if_neg c9] at H
        have BG : (a_ == 1) = false := beq_eq_false_iff_ne.mpr c9
        have Oi : (a_ != 1) = true := bne_iff_ne.mpr c9
        (first | rw [BG] | (simp only [aJ, aK]; rw [BG]) | skip)
        have H' := ah.mk H
        clear H
        try go_wp2
        have bT := ah.mk (aC bI.out)
        have dD := ah.mk (ak HB.out)
        clear bI
        clear HB
        have bI := bT
        have HB := dD
        clear bT dD
        refine oV (n := 39) (S := fun w' => w'.cell? ⟨f_, 0, none⟩ = some (.int .i64 aQ) ∧ w'.cell? ⟨f_, 1, none⟩ = some (.int .i64 a_) ∧ w'.cell? ⟨f_, 2, none⟩ = some (.slice cO aY.length cu) ∧ w'.cell? ⟨f_, 3, none⟩ = some (.int .i64 dw) ∧ w'.cell? ⟨f_, 4, none⟩ = some (.int .i64 dB) ∧ w'.cell? ⟨f_, 5, none⟩ = some (.slice gp bV.length fZ)) (ds := []) #[false, false, false, false, false, false, false, false, false, false, false, false, false, false, false, false, false, false, false, false, false, false, false, false, false, false, false, false, false, false, false, false, false, false, false, false, false, false, false] (by kernel_rfl) rfl rfl ⟨(aj bI.out 0).trans rfl, (aj bI.out 1).trans rfl, (aj bI.out 2).trans rfl, (aj bI.out 3).trans rfl, (aj bI.out 4).trans rfl, (aj bI.out 5).trans rfl⟩ (fun hHeld => ?_); refine jJ bu.GY bu.zW (fun dF pI => ?_)
        generalize w3.drew = X8 at bI HB hHeld ⊢
        refine bf (i := 0) (N := some 8) (v := ?_) (a' := ?_) #[true, false, false, false, false, false, false, false, false, false, false, false, false, false, false, false, false, false, false, false, false, false, false, false, false, false, false, false, false, false, false, false, false, false, false, false, false, false, false] rfl rfl (aN dF.out (by kernel_rfl)) (fun _ _ _ h => h) (Or.inl ⟨by rfl, ?_⟩) ?_ ?_
        rotate_left
        · intro w'
          go_simp
          with_reducible rfl
        rotate_left
        · simp only [Act.put, List.setIfInBounds_toArray, List.set_cons_zero, List.set_cons_succ, aJ, aK]
          rfl
        refine iP (i := 1) (N := some 9) (v := ?_) (a' := ?_) #[true, true, false, false, false, false, false, false, false, false, false, false, false, false, false, false, false, false, false, false, false, false, false, false, false, false, false, false, false, false, false, false, false, false, false, false, false, false, false] rfl rfl (eF dF.out pI.out (by kernel_rfl)) (fun _ _ _ h => h) (Or.inl ⟨by rfl, ?_⟩) hHeld ?_ ?_
        rotate_left
        · rintro w' ⟨s0, s1, s2, s3, s4, s5⟩
          go_simp
          with_reducible rfl
        rotate_left
        · simp only [Act.put, List.setIfInBounds_toArray, List.set_cons_zero, List.set_cons_succ, aJ, aK]
          rfl
        refine nC (i := 2) (N := some 10) #[true, true, true, false, false, false, false, false, false, false, false, false, false, false, false, false, false, false, false, false, false, false, false, false, false, false, false, false, false, false, false, false, false, false, false, false, false, false, false] rfl rfl (iF dF.out (by kernel_rfl)) (by decide) (fun K hK => ?_)
        refine kU Try.func39 (by kernel_rfl) rfl #[.agg #[.int .i64 aQ, .int .i64 a_, .slice cO aY.length cu]] (by rfl) rfl rfl (by (try simp only [List.map_toArray, List.map_cons, List.map_nil]); first | done | rfl | (simp only [List.length_drop, List.length_take]; rfl)) ?_
        with_reducible refine (jc.calls aQ a_ _ _ aY true _ ?eY ?eX A5.out).mono ?_
        (case eY => repeat (first | exact (Kd.fB kC.out HB.out) | (with_reducible refine Kd.fE ?_ _) | (with_reducible refine Kd.fD ?_ _) | (with_reducible refine Kd.gm ?_)))
        (case eX => exact lM.out)
        rintro e X7 ⟨rfl, hb⟩
        refine ⟨_, rfl, ?_⟩
        have bT := ah.mk (bg (g := f_) (o := .cells #[.int .i64 aQ, .int .i64 a_, .slice cO aY.length cu, .int .i64 dw, .int .i64 dB, .slice gp bV.length fZ] 28 (0, 0)) (by (with_reducible repeat (first | refine ay ?_ _ | refine aC ?_ | refine az ?_ _)); exact bI.out) hb)
        have dD := ah.mk (aI (by repeat (first | (with_reducible first | exact HB.out | apply au | apply af | apply ak | refine aG ?_ ny.out) | exact HB.out)) hb)
        clear bI
        clear HB
        have bI := bT
        have HB := dD
        clear bT dD
        (try clear hb)
        (try clear hb2)
        (try clear hk)
        (try clear hi)
        refine hK.out _ _ ⟨(aj bI.out 0).trans rfl, (aj bI.out 1).trans rfl, (aj bI.out 2).trans rfl, (aj bI.out 3).trans rfl, (aj bI.out 4).trans rfl, (aj bI.out 5).trans rfl⟩ (fun hHeld => ?_)
        clear hK K
        refine iV (a' := ?_) ?_ ?_
        rotate_left
        · show Act.put _ (some 10) _ = _
          simp only [Act.put, List.setIfInBounds_toArray, List.set_cons_zero, List.set_cons_succ, aJ, aK]
          rfl
        refine bf (i := 3) (N := some 11) (v := ?_) (a' := ?_) #[true, true, true, true, false, false, false, false, false, false, false, false, false, false, false, false, false, false, false, false, false, false, false, false, false, false, false, false, false, false, false, false, false, false, false, false, false, false, false] rfl rfl (aN dF.out (by kernel_rfl)) (fun _ _ _ h => h) (Or.inl ⟨by rfl, ?_⟩) ?_ ?_
        rotate_left
        · intro w'
          go_simp
          with_reducible rfl
        rotate_left
        · simp only [Act.put, List.setIfInBounds_toArray, List.set_cons_zero, List.set_cons_succ, aJ, aK]
          rfl
        refine bf (i := 4) (N := some 12) (v := ?_) (a' := ?_) #[true, true, true, true, true, false, false, false, false, false, false, false, false, false, false, false, false, false, false, false, false, false, false, false, false, false, false, false, false, false, false, false, false, false, false, false, false, false, false] rfl rfl (aN dF.out (by kernel_rfl)) (fun _ _ _ h => h) (Or.inl ⟨by rfl, ?_⟩) ?_ ?_
        rotate_left
        · intro w'
          go_simp
          with_reducible rfl
        rotate_left
        · simp only [Act.put, List.setIfInBounds_toArray, List.set_cons_zero, List.set_cons_succ, aJ, aK]
          rfl
        refine bf (i := 5) (N := some 13) (v := ?_) (a' := ?_) #[true, true, true, true, true, true, false, false, false, false, false, false, false, false, false, false, false, false, false, false, false, false, false, false, false, false, false, false, false, false, false, false, false, false, false, false, false, false, false] rfl rfl (aN dF.out (by kernel_rfl)) (fun _ _ _ h => h) (Or.inl ⟨by rfl, ?_⟩) ?_ ?_
        rotate_left
        · intro w'
          go_simp
          with_reducible rfl
        rotate_left
        · simp only [Act.put, List.setIfInBounds_toArray, List.set_cons_zero, List.set_cons_succ, aJ, aK]
          rfl
        refine iP (i := 6) (N := some 14) (v := ?_) (a' := ?_) #[true, true, true, true, true, true, true, false, false, false, false, false, false, false, false, false, false, false, false, false, false, false, false, false, false, false, false, false, false, false, false, false, false, false, false, false, false, false, false] rfl rfl (eF dF.out pI.out (by kernel_rfl)) (fun _ _ _ h => h) (Or.inl ⟨by rfl, ?_⟩) hHeld ?_ ?_
        rotate_left
        · rintro w' ⟨s0, s1, s2, s3, s4, s5⟩
          go_simp
          with_reducible rfl
        rotate_left
        · simp only [Act.put, List.setIfInBounds_toArray, List.set_cons_zero, List.set_cons_succ, aJ, aK]
          rfl
        refine nC (i := 7) (N := some 15) #[true, true, true, true, true, true, true, true, false, false, false, false, false, false, false, false, false, false, false, false, false, false, false, false, false, false, false, false, false, false, false, false, false, false, false, false, false, false, false] rfl rfl (iF dF.out (by kernel_rfl)) (by decide) (fun K hK => ?_)
        refine kU Try.func39 (by kernel_rfl) rfl #[.agg #[.int .i64 dw, .int .i64 dB, .slice gp bV.length fZ]] (by rfl) rfl rfl (by (try simp only [List.map_toArray, List.map_cons, List.map_nil]); first | done | rfl | (simp only [List.length_drop, List.length_take]; rfl)) ?_
        with_reducible refine (jc.calls dw dB _ _ bV true _ ?eY ?eX A7.out).mono ?_
        (case eY => repeat (first | exact (Kd.fB nO.out HB.out) | (with_reducible refine Kd.fE ?_ _) | (with_reducible refine Kd.fD ?_ _) | (with_reducible refine Kd.gm ?_)))
        (case eX => exact t_.out)
        rintro e w28 ⟨rfl, hb⟩
        refine ⟨_, rfl, ?_⟩
        have bT := ah.mk (bg (g := f_) (o := .cells #[.int .i64 aQ, .int .i64 a_, .slice cO aY.length cu, .int .i64 dw, .int .i64 dB, .slice gp bV.length fZ] 28 (0, 0)) (by (with_reducible repeat (first | refine ay ?_ _ | refine aC ?_ | refine az ?_ _)); exact bI.out) hb)
        have dD := ah.mk (aI (by repeat (first | (with_reducible first | exact HB.out | apply au | apply af | apply ak | refine aG ?_ ny.out) | exact HB.out)) hb)
        clear bI
        clear HB
        have bI := bT
        have HB := dD
        clear bT dD
        (try clear hb)
        (try clear hb2)
        (try clear hk)
        (try clear hi)
        refine hK.out _ _ ⟨(aj bI.out 0).trans rfl, (aj bI.out 1).trans rfl, (aj bI.out 2).trans rfl, (aj bI.out 3).trans rfl, (aj bI.out 4).trans rfl, (aj bI.out 5).trans rfl⟩ (fun hHeld => ?_)
        clear hK K
        refine iV (a' := ?_) ?_ ?_
        rotate_left
        · show Act.put _ (some 15) _ = _
          simp only [Act.put, List.setIfInBounds_toArray, List.set_cons_zero, List.set_cons_succ, aJ, aK]
          rfl
        refine bf (i := 8) (N := some 16) (v := ?_) (a' := ?_) #[true, true, true, true, true, true, true, true, true, false, false, false, false, false, false, false, false, false, false, false, false, false, false, false, false, false, false, false, false, false, false, false, false, false, false, false, false, false, false] rfl rfl (aN dF.out (by kernel_rfl)) (fun _ _ _ h => h) (Or.inl ⟨by rfl, ?_⟩) ?_ ?_
        rotate_left
        · intro w'
          go_simp
          with_reducible rfl
        rotate_left
        · simp only [Act.put, List.setIfInBounds_toArray, List.set_cons_zero, List.set_cons_succ, aJ, aK]
          rfl
        refine bf (i := 9) (N := some 17) (v := ?_) (a' := ?_) #[true, true, true, true, true, true, true, true, true, true, false, false, false, false, false, false, false, false, false, false, false, false, false, false, false, false, false, false, false, false, false, false, false, false, false, false, false, false, false] rfl rfl (aN dF.out (by kernel_rfl)) (fun _ _ _ h => h) (Or.inl ⟨by rfl, ?_⟩) ?_ ?_
        rotate_left
        · intro w'
          go_simp
          with_reducible rfl
        rotate_left
        · simp only [Act.put, List.setIfInBounds_toArray, List.set_cons_zero, List.set_cons_succ, aJ, aK]
          rfl
        refine bf (i := 10) (N := some 18) (v := ?_) (a' := ?_) #[true, true, true, true, true, true, true, true, true, true, true, false, false, false, false, false, false, false, false, false, false, false, false, false, false, false, false, false, false, false, false, false, false, false, false, false, false, false, false] rfl rfl (aN dF.out (by kernel_rfl)) (fun _ _ _ h => h) (Or.inl ⟨by rfl, ?_⟩) ?_ ?_
        rotate_left
        · intro w'
          go_simp
          with_reducible rfl
        rotate_left
        · simp only [Act.put, List.setIfInBounds_toArray, List.set_cons_zero, List.set_cons_succ, aJ, aK]
          rfl
        refine bf (i := 11) (N := some 19) (v := ?_) (a' := ?_) #[true, true, true, true, true, true, true, true, true, true, true, true, false, false, false, false, false, false, false, false, false, false, false, false, false, false, false, false, false, false, false, false, false, false, false, false, false, false, false] rfl rfl (aN dF.out (by kernel_rfl)) (fun _ _ _ h => h) (Or.inl ⟨by rfl, ?_⟩) ?_ ?_
        rotate_left
        · intro w'
          go_simp
          with_reducible rfl
        rotate_left
        · simp only [Act.put, List.setIfInBounds_toArray, List.set_cons_zero, List.set_cons_succ, aJ, aK]
          rfl
        refine bf (i := 12) (N := some 20) (v := ?_) (a' := ?_) #[true, true, true, true, true, true, true, true, true, true, true, true, true, false, false, false, false, false, false, false, false, false, false, false, false, false, false, false, false, false, false, false, false, false, false, false, false, false, false] rfl rfl (aN dF.out (by kernel_rfl)) (fun _ _ _ h => h) (Or.inl ⟨by rfl, ?_⟩) ?_ ?_
        rotate_left
        · intro w'
          go_simp
          with_reducible rfl
        rotate_left
        · simp only [Act.put, List.setIfInBounds_toArray, List.set_cons_zero, List.set_cons_succ, aJ, aK]
          rfl
        refine iP (i := 13) (N := some 21) (v := ?_) (a' := ?_) #[true, true, true, true, true, true, true, true, true, true, true, true, true, true, false, false, false, false, false, false, false, false, false, false, false, false, false, false, false, false, false, false, false, false, false, false, false, false, false] rfl rfl (eF dF.out pI.out (by kernel_rfl)) (fun _ _ _ h => h) (Or.inl ⟨by rfl, ?_⟩) hHeld ?_ ?_
        rotate_left
        · rintro w' ⟨s0, s1, s2, s3, s4, s5⟩
          go_simp
          with_reducible rfl
        rotate_left
        · simp only [Act.put, List.setIfInBounds_toArray, List.set_cons_zero, List.set_cons_succ, aJ, aK]
          rfl
        refine bf (i := 14) (N := some 22) (v := ?_) (a' := ?_) #[true, true, true, true, true, true, true, true, true, true, true, true, true, true, true, false, false, false, false, false, false, false, false, false, false, false, false, false, false, false, false, false, false, false, false, false, false, false, false] rfl rfl (aN dF.out (by kernel_rfl)) (fun _ _ _ h => h) (Or.inl ⟨by rfl, ?_⟩) ?_ ?_
        rotate_left
        · intro w'
          go_simp
          with_reducible rfl
        rotate_left
        · simp only [Act.put, List.setIfInBounds_toArray, List.set_cons_zero, List.set_cons_succ, aJ, aK]
          rfl
        refine bf (i := 15) (N := some 23) (v := ?_) (a' := ?_) #[true, true, true, true, true, true, true, true, true, true, true, true, true, true, true, true, false, false, false, false, false, false, false, false, false, false, false, false, false, false, false, false, false, false, false, false, false, false, false] rfl rfl (aN dF.out (by kernel_rfl)) (fun _ _ _ h => h) (Or.inl ⟨by rfl, ?_⟩) ?_ ?_
        rotate_left
        · intro w'
          go_simp
          with_reducible rfl
        rotate_left
        · simp only [Act.put, List.setIfInBounds_toArray, List.set_cons_zero, List.set_cons_succ, aJ, aK]
          rfl
        refine bf (i := 16) (N := some 24) (v := ?_) (a' := ?_) #[true, true, true, true, true, true, true, true, true, true, true, true, true, true, true, true, true, false, false, false, false, false, false, false, false, false, false, false, false, false, false, false, false, false, false, false, false, false, false] rfl rfl (aN dF.out (by kernel_rfl)) (fun _ _ _ h => h) (Or.inl ⟨by rfl, ?_⟩) ?_ ?_
        rotate_left
        · intro w'
          go_simp
          with_reducible rfl
        rotate_left
        · simp only [Act.put, List.setIfInBounds_toArray, List.set_cons_zero, List.set_cons_succ, aJ, aK]
          rfl
        refine bf (i := 17) (N := some 25) (v := undef) (a' := ?_) #[true, true, true, true, true, true, true, true, true, true, true, true, true, true, true, true, true, true, false, false, false, false, false, false, false, false, false, false, false, false, false, false, false, false, false, false, false, false, false] rfl rfl (aN dF.out (by kernel_rfl)) (fun _ _ _ h => h) (Or.inr ⟨by rfl, rfl⟩) ?_ ?_
        rotate_left
        · simp only [Act.put, List.setIfInBounds_toArray, List.set_cons_zero, List.set_cons_succ, aJ, aK]
          rfl
        refine bf (i := 18) (N := some 26) (v := undef) (a' := ?_) #[true, true, true, true, true, true, true, true, true, true, true, true, true, true, true, true, true, true, true, false, false, false, false, false, false, false, false, false, false, false, false, false, false, false, false, false, false, false, false] rfl rfl (aN dF.out (by kernel_rfl)) (fun _ _ _ h => h) (Or.inr ⟨by rfl, rfl⟩) ?_ ?_
        rotate_left
        · simp only [Act.put, List.setIfInBounds_toArray, List.set_cons_zero, List.set_cons_succ, aJ, aK]
          rfl
        refine bf (i := 19) (N := some 27) (v := undef) (a' := ?_) #[true, true, true, true, true, true, true, true, true, true, true, true, true, true, true, true, true, true, true, true, false, false, false, false, false, false, false, false, false, false, false, false, false, false, false, false, false, false, false] rfl rfl (aN dF.out (by kernel_rfl)) (fun _ _ _ h => h) (Or.inr ⟨by rfl, rfl⟩) ?_ ?_
        rotate_left
        · simp only [Act.put, List.setIfInBounds_toArray, List.set_cons_zero, List.set_cons_succ, aJ, aK]
          rfl
        refine bf (i := 20) (N := some 28) (v := undef) (a' := ?_) #[true, true, true, true, true, true, true, true, true, true, true, true, true, true, true, true, true, true, true, true, true, false, false, false, false, false, false, false, false, false, false, false, false, false, false, false, false, false, false] rfl rfl (aN dF.out (by kernel_rfl)) (fun _ _ _ h => h) (Or.inr ⟨by rfl, rfl⟩) ?_ ?_
        rotate_left
        · simp only [Act.put, List.setIfInBounds_toArray, List.set_cons_zero, List.set_cons_succ, aJ, aK]
          rfl
        refine bf (i := 21) (N := some 29) (v := undef) (a' := ?_) #[true, true, true, true, true, true, true, true, true, true, true, true, true, true, true, true, true, true, true, true, true, true, false, false, false, false, false, false, false, false, false, false, false, false, false, false, false, false, false] rfl rfl (aN dF.out (by kernel_rfl)) (fun _ _ _ h => h) (Or.inr ⟨by rfl, rfl⟩) ?_ ?_
        rotate_left
        · simp only [Act.put, List.setIfInBounds_toArray, List.set_cons_zero, List.set_cons_succ, aJ, aK]
          rfl
        refine bf (i := 22) (N := some 30) (v := ?_) (a' := ?_) #[true, true, true, true, true, true, true, true, true, true, true, true, true, true, true, true, true, true, true, true, true, true, true, false, false, false, false, false, false, false, false, false, false, false, false, false, false, false, false] rfl rfl (aN dF.out (by kernel_rfl)) (fun _ _ _ h => h) (Or.inl ⟨by rfl, ?_⟩) ?_ ?_
        rotate_left
        · intro w'
          go_simp
          with_reducible rfl
        rotate_left
        · simp only [Act.put, List.setIfInBounds_toArray, List.set_cons_zero, List.set_cons_succ, aJ, aK]
          rfl
        refine bf (i := 23) (N := some 31) (v := ?_) (a' := ?_) #[true, true, true, true, true, true, true, true, true, true, true, true, true, true, true, true, true, true, true, true, true, true, true, true, false, false, false, false, false, false, false, false, false, false, false, false, false, false, false] rfl rfl (aN dF.out (by kernel_rfl)) (fun _ _ _ h => h) (Or.inl ⟨by rfl, ?_⟩) ?_ ?_
        rotate_left
        · intro w'
          go_simp
          with_reducible rfl
        rotate_left
        · simp only [Act.put, List.setIfInBounds_toArray, List.set_cons_zero, List.set_cons_succ, aJ, aK]
          rfl
        refine bf (i := 24) (N := some 32) (v := undef) (a' := ?_) #[true, true, true, true, true, true, true, true, true, true, true, true, true, true, true, true, true, true, true, true, true, true, true, true, true, false, false, false, false, false, false, false, false, false, false, false, false, false, false] rfl rfl (aN dF.out (by kernel_rfl)) (fun _ _ _ h => h) (Or.inr ⟨by rfl, rfl⟩) ?_ ?_
        rotate_left
        · simp only [Act.put, List.setIfInBounds_toArray, List.set_cons_zero, List.set_cons_succ, aJ, aK]
          rfl
        refine bf (i := 25) (N := some 33) (v := undef) (a' := ?_) #[true, true, true, true, true, true, true, true, true, true, true, true, true, true, true, true, true, true, true, true, true, true, true, true, true, true, false, false, false, false, false, false, false, false, false, false, false, false, false] rfl rfl (aN dF.out (by kernel_rfl)) (fun _ _ _ h => h) (Or.inr ⟨by rfl, rfl⟩) ?_ ?_
        rotate_left
        · simp only [Act.put, List.setIfInBounds_toArray, List.set_cons_zero, List.set_cons_succ, aJ, aK]
          rfl
        refine bf (i := 26) (N := some 34) (v := undef) (a' := ?_) #[true, true, true, true, true, true, true, true, true, true, true, true, true, true, true, true, true, true, true, true, true, true, true, true, true, true, true, false, false, false, false, false, false, false, false, false, false, false, false] rfl rfl (aN dF.out (by kernel_rfl)) (fun _ _ _ h => h) (Or.inr ⟨by rfl, rfl⟩) ?_ ?_
        rotate_left
        · simp only [Act.put, List.setIfInBounds_toArray, List.set_cons_zero, List.set_cons_succ, aJ, aK]
          rfl
        refine bf (i := 27) (N := some 35) (v := undef) (a' := ?_) #[true, true, true, true, true, true, true, true, true, true, true, true, true, true, true, true, true, true, true, true, true, true, true, true, true, true, true, true, false, false, false, false, false, false, false, false, false, false, false] rfl rfl (aN dF.out (by kernel_rfl)) (fun _ _ _ h => h) (Or.inr ⟨by rfl, rfl⟩) ?_ ?_
        rotate_left
        · simp only [Act.put, List.setIfInBounds_toArray, List.set_cons_zero, List.set_cons_succ, aJ, aK]
          rfl
        refine bf (i := 28) (N := some 36) (v := undef) (a' := ?_) #[true, true, true, true, true, true, true, true, true, true, true, true, true, true, true, true, true, true, true, true, true, true, true, true, true, true, true, true, true, false, false, false, false, false, false, false, false, false, false] rfl rfl (aN dF.out (by kernel_rfl)) (fun _ _ _ h => h) (Or.inr ⟨by rfl, rfl⟩) ?_ ?_
        rotate_left
        · simp only [Act.put, List.setIfInBounds_toArray, List.set_cons_zero, List.set_cons_succ, aJ, aK]
          rfl
        refine bf (i := 29) (N := some 37) (v := ?_) (a' := ?_) #[true, true, true, true, true, true, true, true, true, true, true, true, true, true, true, true, true, true, true, true, true, true, true, true, true, true, true, true, true, true, false, false, false, false, false, false, false, false, false] rfl rfl (aN dF.out (by kernel_rfl)) (fun _ _ _ h => h) (Or.inl ⟨by rfl, ?_⟩) ?_ ?_
        rotate_left
        · intro w'
          go_simp
          with_reducible rfl
        rotate_left
        · simp only [Act.put, List.setIfInBounds_toArray, List.set_cons_zero, List.set_cons_succ, aJ, aK]
          rfl
        refine bf (i := 30) (N := some 38) (v := ?_) (a' := ?_) #[true, true, true, true, true, true, true, true, true, true, true, true, true, true, true, true, true, true, true, true, true, true, true, true, true, true, true, true, true, true, true, false, false, false, false, false, false, false, false] rfl rfl (aN dF.out (by kernel_rfl)) (fun _ _ _ h => h) (Or.inl ⟨by rfl, ?_⟩) ?_ ?_
        rotate_left
        · intro w'
          go_simp
          with_reducible rfl
        rotate_left
        · simp only [Act.put, List.setIfInBounds_toArray, List.set_cons_zero, List.set_cons_succ, aJ, aK]
          rfl
        refine bf (i := 31) (N := some 39) (v := undef) (a' := ?_) #[true, true, true, true, true, true, true, true, true, true, true, true, true, true, true, true, true, true, true, true, true, true, true, true, true, true, true, true, true, true, true, true, false, false, false, false, false, false, false] rfl rfl (aN dF.out (by kernel_rfl)) (fun _ _ _ h => h) (Or.inr ⟨by rfl, rfl⟩) ?_ ?_
        rotate_left
        · simp only [Act.put, List.setIfInBounds_toArray, List.set_cons_zero, List.set_cons_succ, aJ, aK]
          rfl
        refine bf (i := 32) (N := some 40) (v := undef) (a' := ?_) #[true, true, true, true, true, true, true, true, true, true, true, true, true, true, true, true, true, true, true, true, true, true, true, true, true, true, true, true, true, true, true, true, true, false, false, false, false, false, false] rfl rfl (aN dF.out (by kernel_rfl)) (fun _ _ _ h => h) (Or.inr ⟨by rfl, rfl⟩) ?_ ?_
        rotate_left
        · simp only [Act.put, List.setIfInBounds_toArray, List.set_cons_zero, List.set_cons_succ, aJ, aK]
          rfl
        refine bf (i := 33) (N := some 41) (v := undef) (a' := ?_) #[true, true, true, true, true, true, true, true, true, true, true, true, true, true, true, true, true, true, true, true, true, true, true, true, true, true, true, true, true, true, true, true, true, true, false, false, false, false, false] rfl rfl (aN dF.out (by kernel_rfl)) (fun _ _ _ h => h) (Or.inr ⟨by rfl, rfl⟩) ?_ ?_
        rotate_left
        · simp only [Act.put, List.setIfInBounds_toArray, List.set_cons_zero, List.set_cons_succ, aJ, aK]
          rfl
        refine bf (i := 34) (N := some 42) (v := undef) (a' := ?_) #[true, true, true, true, true, true, true, true, true, true, true, true, true, true, true, true, true, true, true, true, true, true, true, true, true, true, true, true, true, true, true, true, true, true, true, false, false, false, false] rfl rfl (aN dF.out (by kernel_rfl)) (fun _ _ _ h => h) (Or.inr ⟨by rfl, rfl⟩) ?_ ?_
        rotate_left
        · simp only [Act.put, List.setIfInBounds_toArray, List.set_cons_zero, List.set_cons_succ, aJ, aK]
          rfl
        refine bf (i := 35) (N := some 43) (v := undef) (a' := ?_) #[true, true, true, true, true, true, true, true, true, true, true, true, true, true, true, true, true, true, true, true, true, true, true, true, true, true, true, true, true, true, true, true, true, true, true, true, false, false, false] rfl rfl (aN dF.out (by kernel_rfl)) (fun _ _ _ h => h) (Or.inr ⟨by rfl, rfl⟩) ?_ ?_
        rotate_left
        · simp only [Act.put, List.setIfInBounds_toArray, List.set_cons_zero, List.set_cons_succ, aJ, aK]
          rfl
        refine bf (i := 36) (N := some 44) (v := undef) (a' := ?_) #[true, true, true, true, true, true, true, true, true, true, true, true, true, true, true, true, true, true, true, true, true, true, true, true, true, true, true, true, true, true, true, true, true, true, true, true, true, false, false] rfl rfl (aN dF.out (by kernel_rfl)) (fun _ _ _ h => h) (Or.inr ⟨by rfl, rfl⟩) ?_ ?_
        rotate_left
        · simp only [Act.put, List.setIfInBounds_toArray, List.set_cons_zero, List.set_cons_succ, aJ, aK]
          rfl
        refine bf (i := 37) (N := some 45) (v := undef) (a' := ?_) #[true, true, true, true, true, true, true, true, true, true, true, true, true, true, true, true, true, true, true, true, true, true, true, true, true, true, true, true, true, true, true, true, true, true, true, true, true, true, false] rfl rfl (aN dF.out (by kernel_rfl)) (fun _ _ _ h => h) (Or.inr ⟨by rfl, rfl⟩) ?_ ?_
        rotate_left
        · simp only [Act.put, List.setIfInBounds_toArray, List.set_cons_zero, List.set_cons_succ, aJ, aK]
          rfl
        refine bf (i := 38) (N := some 46) (v := ?_) (a' := ?_) #[true, true, true, true, true, true, true, true, true, true, true, true, true, true, true, true, true, true, true, true, true, true, true, true, true, true, true, true, true, true, true, true, true, true, true, true, true, true, true] rfl rfl (aN dF.out (by kernel_rfl)) (fun _ _ _ h => h) (Or.inl ⟨by rfl, ?_⟩) ?_ ?_
        rotate_left
        · intro w'
          go_simp
          with_reducible rfl
        rotate_left
        · simp only [Act.put, List.setIfInBounds_toArray, List.set_cons_zero, List.set_cons_succ, aJ, aK]
          rfl
        refine tJ (lW dF.out (by kernel_rfl)) ?_
        try go_wp2
        go_meet
        case rel => exact ⟨_, (true), (by first | rfl | (simp; done) | (simp [*]; done)), H', ⟨by first | omega | exact Nat.le_refl _⟩, ⟨by (with_reducible repeat (first | refine ay ?_ _ | refine aC ?_ | refine az ?_ _)); exact bI.out⟩, ⟨by repeat (first | (with_reducible first | exact HB.out | apply au | apply af | apply ak | refine aG ?_ ny.out) | exact HB.out)⟩⟩
    · replace c8 := Bool.eq_false_iff.mpr c8
      subst c8
      have H1 : (bu.j0 k aQ true aQ a_ aY dw dB bV) = some r := by rw [if_neg (show ¬ (false = true) by decide)] at H; exact H
      clear H
      have H := H1
      clear H1
      have H' := ah.mk H
      clear H
      try go_wp2
      have bT := ah.mk (aC bI.out)
      have dD := ah.mk (ak HB.out)
      clear bI
      clear HB
      have bI := bT
      have HB := dD
      clear bT dD
      refine oV (n := 39) (S := fun w' => w'.cell? ⟨f_, 0, none⟩ = some (.int .i64 aQ) ∧ w'.cell? ⟨f_, 1, none⟩ = some (.int .i64 a_) ∧ w'.cell? ⟨f_, 2, none⟩ = some (.slice cO aY.length cu) ∧ w'.cell? ⟨f_, 3, none⟩ = some (.int .i64 dw) ∧ w'.cell? ⟨f_, 4, none⟩ = some (.int .i64 dB) ∧ w'.cell? ⟨f_, 5, none⟩ = some (.slice gp bV.length fZ)) (ds := []) #[false, false, false, false, false, false, false, false, false, false, false, false, false, false, false, false, false, false, false, false, false, false, false, false, false, false, false, false, false, false, false, false, false, false, false, false, false, false, false] (by kernel_rfl) rfl rfl ⟨(aj bI.out 0).trans rfl, (aj bI.out 1).trans rfl, (aj bI.out 2).trans rfl, (aj bI.out 3).trans rfl, (aj bI.out 4).trans rfl, (aj bI.out 5).trans rfl⟩ (fun hHeld => ?_); refine jJ bu.GY bu.zW (fun dF pI => ?_)
      generalize w3.drew = X6 at bI HB hHeld ⊢
      refine bf (i := 0) (N := some 8) (v := ?_) (a' := ?_) #[true, false, false, false, false, false, false, false, false, false, false, false, false, false, false, false, false, false, false, false, false, false, false, false, false, false, false, false, false, false, false, false, false, false, false, false, false, false, false] rfl rfl (aN dF.out (by kernel_rfl)) (fun _ _ _ h => h) (Or.inl ⟨by rfl, ?_⟩) ?_ ?_
      rotate_left
      · intro w'
        go_simp
        with_reducible rfl
      rotate_left
      · simp only [Act.put, List.setIfInBounds_toArray, List.set_cons_zero, List.set_cons_succ, aJ, aK]
        rfl
      refine iP (i := 1) (N := some 9) (v := ?_) (a' := ?_) #[true, true, false, false, false, false, false, false, false, false, false, false, false, false, false, false, false, false, false, false, false, false, false, false, false, false, false, false, false, false, false, false, false, false, false, false, false, false, false] rfl rfl (eF dF.out pI.out (by kernel_rfl)) (fun _ _ _ h => h) (Or.inl ⟨by rfl, ?_⟩) hHeld ?_ ?_
      rotate_left
      · rintro w' ⟨s0, s1, s2, s3, s4, s5⟩
        go_simp
        with_reducible rfl
      rotate_left
      · simp only [Act.put, List.setIfInBounds_toArray, List.set_cons_zero, List.set_cons_succ, aJ, aK]
        rfl
      refine nC (i := 2) (N := some 10) #[true, true, true, false, false, false, false, false, false, false, false, false, false, false, false, false, false, false, false, false, false, false, false, false, false, false, false, false, false, false, false, false, false, false, false, false, false, false, false] rfl rfl (iF dF.out (by kernel_rfl)) (by decide) (fun K hK => ?_)
      refine kU Try.func39 (by kernel_rfl) rfl #[.agg #[.int .i64 aQ, .int .i64 a_, .slice cO aY.length cu]] (by rfl) rfl rfl (by (try simp only [List.map_toArray, List.map_cons, List.map_nil]); first | done | rfl | (simp only [List.length_drop, List.length_take]; rfl)) ?_
      with_reducible refine (jc.calls aQ a_ _ _ aY true _ ?eY ?eX A5.out).mono ?_
      (case eY => repeat (first | exact (Kd.fB kC.out HB.out) | (with_reducible refine Kd.fE ?_ _) | (with_reducible refine Kd.fD ?_ _) | (with_reducible refine Kd.gm ?_)))
      (case eX => exact lM.out)
      rintro e MP ⟨rfl, hb⟩
      refine ⟨_, rfl, ?_⟩
      have bT := ah.mk (bg (g := f_) (o := .cells #[.int .i64 aQ, .int .i64 a_, .slice cO aY.length cu, .int .i64 dw, .int .i64 dB, .slice gp bV.length fZ] 28 (0, 0)) (by (with_reducible repeat (first | refine ay ?_ _ | refine aC ?_ | refine az ?_ _)); exact bI.out) hb)
      have dD := ah.mk (aI (by repeat (first | (with_reducible first | exact HB.out | apply au | apply af | apply ak | refine aG ?_ ny.out) | exact HB.out)) hb)
      clear bI
      clear HB
      have bI := bT
      have HB := dD
      clear bT dD
      (try clear hb)
      (try clear hb2)
      (try clear hk)
      (try clear hi)
      refine hK.out _ _ ⟨(aj bI.out 0).trans rfl, (aj bI.out 1).trans rfl, (aj bI.out 2).trans rfl, (aj bI.out 3).trans rfl, (aj bI.out 4).trans rfl, (aj bI.out 5).trans rfl⟩ (fun hHeld => ?_)
      clear hK K
      refine iV (a' := ?_) ?_ ?_
      rotate_left
      · show Act.put _ (some 10) _ = _
        simp only [Act.put, List.setIfInBounds_toArray, List.set_cons_zero, List.set_cons_succ, aJ, aK]
        rfl
      refine bf (i := 3) (N := some 11) (v := ?_) (a' := ?_) #[true, true, true, true, false, false, false, false, false, false, false, false, false, false, false, false, false, false, false, false, false, false, false, false, false, false, false, false, false, false, false, false, false, false, false, false, false, false, false] rfl rfl (aN dF.out (by kernel_rfl)) (fun _ _ _ h => h) (Or.inl ⟨by rfl, ?_⟩) ?_ ?_
      rotate_left
      · intro w'
        go_simp
        with_reducible rfl
      rotate_left
      · simp only [Act.put, List.setIfInBounds_toArray, List.set_cons_zero, List.set_cons_succ, aJ, aK]
        rfl
      refine bf (i := 4) (N := some 12) (v := ?_) (a' := ?_) #[true, true, true, true, true, false, false, false, false, false, false, false, false, false, false, false, false, false, false, false, false, false, false, false, false, false, false, false, false, false, false, false, false, false, false, false, false, false, false] rfl rfl (aN dF.out (by kernel_rfl)) (fun _ _ _ h => h) (Or.inl ⟨by rfl, ?_⟩) ?_ ?_
      rotate_left
      · intro w'
        go_simp
        with_reducible rfl
      rotate_left
      · simp only [Act.put, List.setIfInBounds_toArray, List.set_cons_zero, List.set_cons_succ, aJ, aK]
        rfl
      refine bf (i := 5) (N := some 13) (v := ?_) (a' := ?_) #[true, true, true, true, true, true, false, false, false, false, false, false, false, false, false, false, false, false, false, false, false, false, false, false, false, false, false, false, false, false, false, false, false, false, false, false, false, false, false] rfl rfl (aN dF.out (by kernel_rfl)) (fun _ _ _ h => h) (Or.inl ⟨by rfl, ?_⟩) ?_ ?_
      rotate_left
      · intro w'
        go_simp
        with_reducible rfl
      rotate_left
      · simp only [Act.put, List.setIfInBounds_toArray, List.set_cons_zero, List.set_cons_succ, aJ, aK]
        rfl
      refine iP (i := 6) (N := some 14) (v := ?_) (a' := ?_) #[true, true, true, true, true, true, true, false, false, false, false, false, false, false, false, false, false, false, false, false, false, false, false, false, false, false, false, false, false, false, false, false, false, false, false, false, false, false, false] rfl rfl (eF dF.out pI.out (by kernel_rfl)) (fun _ _ _ h => h) (Or.inl ⟨by rfl, ?_⟩) hHeld ?_ ?_
      rotate_left
      · rintro w' ⟨s0, s1, s2, s3, s4, s5⟩
        go_simp
        with_reducible rfl
      rotate_left
      · simp only [Act.put, List.setIfInBounds_toArray, List.set_cons_zero, List.set_cons_succ, aJ, aK]
        rfl
      refine nC (i := 7) (N := some 15) #[true, true, true, true, true, true, true, true, false, false, false, false, false, false, false, false, false, false, false, false, false, false, false, false, false, false, false, false, false, false, false, false, false, false, false, false, false, false, false] rfl rfl (iF dF.out (by kernel_rfl)) (by decide) (fun K hK => ?_)
      refine kU Try.func39 (by kernel_rfl) rfl #[.agg #[.int .i64 dw, .int .i64 dB, .slice gp bV.length fZ]] (by rfl) rfl rfl (by (try simp only [List.map_toArray, List.map_cons, List.map_nil]); first | done | rfl | (simp only [List.length_drop, List.length_take]; rfl)) ?_
      with_reducible refine (jc.calls dw dB _ _ bV false _ ?eY ?eX A7.out).mono ?_
      (case eY => repeat (first | exact (Kd.fB nO.out HB.out) | (with_reducible refine Kd.fE ?_ _) | (with_reducible refine Kd.fD ?_ _) | (with_reducible refine Kd.gm ?_)))
      (case eX => exact t_.out)
      rintro e w31 ⟨rfl, hb⟩
      refine ⟨_, rfl, ?_⟩
      have bT := ah.mk (bg (g := f_) (o := .cells #[.int .i64 aQ, .int .i64 a_, .slice cO aY.length cu, .int .i64 dw, .int .i64 dB, .slice gp bV.length fZ] 28 (0, 0)) (by (with_reducible repeat (first | refine ay ?_ _ | refine aC ?_ | refine az ?_ _)); exact bI.out) hb)
      have dD := ah.mk (aI (by repeat (first | (with_reducible first | exact HB.out | apply au | apply af | apply ak | refine aG ?_ ny.out) | exact HB.out)) hb)
      clear bI
      clear HB
      have bI := bT
      have HB := dD
      clear bT dD
      (try clear hb)
      (try clear hb2)
      (try clear hk)
      (try clear hi)
      refine hK.out _ _ ⟨(aj bI.out 0).trans rfl, (aj bI.out 1).trans rfl, (aj bI.out 2).trans rfl, (aj bI.out 3).trans rfl, (aj bI.out 4).trans rfl, (aj bI.out 5).trans rfl⟩ (fun hHeld => ?_)
      clear hK K
      refine iV (a' := ?_) ?_ ?_
      rotate_left
      · show Act.put _ (some 15) _ = _
        simp only [Act.put, List.setIfInBounds_toArray, List.set_cons_zero, List.set_cons_succ, aJ, aK]
        rfl
      refine bf (i := 8) (N := some 16) (v := ?_) (a' := ?_) #[true, true, true, true, true, true, true, true, true, false, false, false, false, false, false, false, false, false, false, false, false, false, false, false, false, false, false, false, false, false, false, false, false, false, false, false, false, false, false] rfl rfl (aN dF.out (by kernel_rfl)) (fun _ _ _ h => h) (Or.inl ⟨by rfl, ?_⟩) ?_ ?_
      rotate_left
      · intro w'
        go_simp
        with_reducible rfl
      rotate_left
      · simp only [Act.put, List.setIfInBounds_toArray, List.set_cons_zero, List.set_cons_succ, aJ, aK]
        rfl
      refine bf (i := 9) (N := some 17) (v := ?_) (a' := ?_) #[true, true, true, true, true, true, true, true, true, true, false, false, false, false, false, false, false, false, false, false, false, false, false, false, false, false, false, false, false, false, false, false, false, false, false, false, false, false, false] rfl rfl (aN dF.out (by kernel_rfl)) (fun _ _ _ h => h) (Or.inl ⟨by rfl, ?_⟩) ?_ ?_
      rotate_left
      · intro w'
        go_simp
        with_reducible rfl
      rotate_left
      · simp only [Act.put, List.setIfInBounds_toArray, List.set_cons_zero, List.set_cons_succ, aJ, aK]
        rfl
      refine bf (i := 10) (N := some 18) (v := ?_) (a' := ?_) #[true, true, true, true, true, true, true, true, true, true, true, false, false, false, false, false, false, false, false, false, false, false, false, false, false, false, false, false, false, false, false, false, false, false, false, false, false, false, false] rfl rfl (aN dF.out (by kernel_rfl)) (fun _ _ _ h => h) (Or.inl ⟨by rfl, ?_⟩) ?_ ?_
      rotate_left
      · intro w'
        go_simp
        with_reducible rfl
      rotate_left
      · simp only [Act.put, List.setIfInBounds_toArray, List.set_cons_zero, List.set_cons_succ, aJ, aK]
        rfl
      refine bf (i := 11) (N := some 19) (v := undef) (a' := ?_) #[true, true, true, true, true, true, true, true, true, true, true, true, false, false, false, false, false, false, false, false, false, false, false, false, false, false, false, false, false, false, false, false, false, false, false, false, false, false, false] rfl rfl (aN dF.out (by kernel_rfl)) (fun _ _ _ h => h) (Or.inr ⟨by rfl, rfl⟩) ?_ ?_
      rotate_left
      · simp only [Act.put, List.setIfInBounds_toArray, List.set_cons_zero, List.set_cons_succ, aJ, aK]
        rfl
      refine bf (i := 12) (N := some 20) (v := undef) (a' := ?_) #[true, true, true, true, true, true, true, true, true, true, true, true, true, false, false, false, false, false, false, false, false, false, false, false, false, false, false, false, false, false, false, false, false, false, false, false, false, false, false] rfl rfl (aN dF.out (by kernel_rfl)) (fun _ _ _ h => h) (Or.inr ⟨by rfl, rfl⟩) ?_ ?_
      rotate_left
      · simp only [Act.put, List.setIfInBounds_toArray, List.set_cons_zero, List.set_cons_succ, aJ, aK]
        rfl
      refine bf (i := 13) (N := some 21) (v := undef) (a' := ?_) #[true, true, true, true, true, true, true, true, true, true, true, true, true, true, false, false, false, false, false, false, false, false, false, false, false, false, false, false, false, false, false, false, false, false, false, false, false, false, false] rfl rfl (aN dF.out (by kernel_rfl)) (fun _ _ _ h => h) (Or.inr ⟨by rfl, rfl⟩) ?_ ?_
      rotate_left
      · simp only [Act.put, List.setIfInBounds_toArray, List.set_cons_zero, List.set_cons_succ, aJ, aK]
        rfl
      refine bf (i := 14) (N := some 22) (v := undef) (a' := ?_) #[true, true, true, true, true, true, true, true, true, true, true, true, true, true, true, false, false, false, false, false, false, false, false, false, false, false, false, false, false, false, false, false, false, false, false, false, false, false, false] rfl rfl (aN dF.out (by kernel_rfl)) (fun _ _ _ h => h) (Or.inr ⟨by rfl, rfl⟩) ?_ ?_
      rotate_left
      · simp only [Act.put, List.setIfInBounds_toArray, List.set_cons_zero, List.set_cons_succ, aJ, aK]
        rfl
      refine bf (i := 15) (N := some 23) (v := ?_) (a' := ?_) #[true, true, true, true, true, true, true, true, true, true, true, true, true, true, true, true, false, false, false, false, false, false, false, false, false, false, false, false, false, false, false, false, false, false, false, false, false, false, false] rfl rfl (aN dF.out (by kernel_rfl)) (fun _ _ _ h => h) (Or.inl ⟨by rfl, ?_⟩) ?_ ?_
      rotate_left
      · intro w'
        go_simp
        with_reducible rfl
      rotate_left
      · simp only [Act.put, List.setIfInBounds_toArray, List.set_cons_zero, List.set_cons_succ, aJ, aK]
        rfl
      refine bf (i := 16) (N := some 24) (v := ?_) (a' := ?_) #[true, true, true, true, true, true, true, true, true, true, true, true, true, true, true, true, true, false, false, false, false, false, false, false, false, false, false, false, false, false, false, false, false, false, false, false, false, false, false] rfl rfl (aN dF.out (by kernel_rfl)) (fun _ _ _ h => h) (Or.inl ⟨by rfl, ?_⟩) ?_ ?_
      rotate_left
      · intro w'
        go_simp
        with_reducible rfl
      rotate_left
      · simp only [Act.put, List.setIfInBounds_toArray, List.set_cons_zero, List.set_cons_succ, aJ, aK]
        rfl
      refine bf (i := 17) (N := some 25) (v := undef) (a' := ?_) #[true, true, true, true, true, true, true, true, true, true, true, true, true, true, true, true, true, true, false, false, false, false, false, false, false, false, false, false, false, false, false, false, false, false, false, false, false, false, false] rfl rfl (aN dF.out (by kernel_rfl)) (fun _ _ _ h => h) (Or.inr ⟨by rfl, rfl⟩) ?_ ?_
      rotate_left
      · simp only [Act.put, List.setIfInBounds_toArray, List.set_cons_zero, List.set_cons_succ, aJ, aK]
        rfl
      refine bf (i := 18) (N := some 26) (v := undef) (a' := ?_) #[true, true, true, true, true, true, true, true, true, true, true, true, true, true, true, true, true, true, true, false, false, false, false, false, false, false, false, false, false, false, false, false, false, false, false, false, false, false, false] rfl rfl (aN dF.out (by kernel_rfl)) (fun _ _ _ h => h) (Or.inr ⟨by rfl, rfl⟩) ?_ ?_
      rotate_left
      · simp only [Act.put, List.setIfInBounds_toArray, List.set_cons_zero, List.set_cons_succ, aJ, aK]
        rfl
      refine bf (i := 19) (N := some 27) (v := undef) (a' := ?_) #[true, true, true, true, true, true, true, true, true, true, true, true, true, true, true, true, true, true, true, true, false, false, false, false, false, false, false, false, false, false, false, false, false, false, false, false, false, false, false] rfl rfl (aN dF.out (by kernel_rfl)) (fun _ _ _ h => h) (Or.inr ⟨by rfl, rfl⟩) ?_ ?_
      rotate_left
      · simp only [Act.put, List.setIfInBounds_toArray, List.set_cons_zero, List.set_cons_succ, aJ, aK]
        rfl
      refine bf (i := 20) (N := some 28) (v := undef) (a' := ?_) #[true, true, true, true, true, true, true, true, true, true, true, true, true, true, true, true, true, true, true, true, true, false, false, false, false, false, false, false, false, false, false, false, false, false, false, false, false, false, false] rfl rfl (aN dF.out (by kernel_rfl)) (fun _ _ _ h => h) (Or.inr ⟨by rfl, rfl⟩) ?_ ?_
      rotate_left
      · simp only [Act.put, List.setIfInBounds_toArray, List.set_cons_zero, List.set_cons_succ, aJ, aK]
        rfl
      refine bf (i := 21) (N := some 29) (v := undef) (a' := ?_) #[true, true, true, true, true, true, true, true, true, true, true, true, true, true, true, true, true, true, true, true, true, true, false, false, false, false, false, false, false, false, false, false, false, false, false, false, false, false, false] rfl rfl (aN dF.out (by kernel_rfl)) (fun _ _ _ h => h) (Or.inr ⟨by rfl, rfl⟩) ?_ ?_
      rotate_left
      · simp only [Act.put, List.setIfInBounds_toArray, List.set_cons_zero, List.set_cons_succ, aJ, aK]
        rfl
      refine bf (i := 22) (N := some 30) (v := ?_) (a' := ?_) #[true, true, true, true, true, true, true, true, true, true, true, true, true, true, true, true, true, true, true, true, true, true, true, false, false, false, false, false, false, false, false, false, false, false, false, false, false, false, false] rfl rfl (aN dF.out (by kernel_rfl)) (fun _ _ _ h => h) (Or.inl ⟨by rfl, ?_⟩) ?_ ?_
      rotate_left
      · intro w'
        go_simp
        with_reducible rfl
      rotate_left
      · simp only [Act.put, List.setIfInBounds_toArray, List.set_cons_zero, List.set_cons_succ, aJ, aK]
        rfl
      refine bf (i := 23) (N := some 31) (v := ?_) (a' := ?_) #[true, true, true, true, true, true, true, true, true, true, true, true, true, true, true, true, true, true, true, true, true, true, true, true, false, false, false, false, false, false, false, false, false, false, false, false, false, false, false] rfl rfl (aN dF.out (by kernel_rfl)) (fun _ _ _ h => h) (Or.inl ⟨by rfl, ?_⟩) ?_ ?_
      rotate_left
      · intro w'
        go_simp
        with_reducible rfl
      rotate_left
      · simp only [Act.put, List.setIfInBounds_toArray, List.set_cons_zero, List.set_cons_succ, aJ, aK]
        rfl
      refine bf (i := 24) (N := some 32) (v := undef) (a' := ?_) #[true, true, true, true, true, true, true, true, true, true, true, true, true, true, true, true, true, true, true, true, true, true, true, true, true, false, false, false, false, false, false, false, false, false, false, false, false, false, false] rfl rfl (aN dF.out (by kernel_rfl)) (fun _ _ _ h => h) (Or.inr ⟨by rfl, rfl⟩) ?_ ?_
      rotate_left
      · simp only [Act.put, List.setIfInBounds_toArray, List.set_cons_zero, List.set_cons_succ, aJ, aK]
        rfl
      refine bf (i := 25) (N := some 33) (v := undef) (a' := ?_) #[true, true, true, true, true, true, true, true, true, true, true, true, true, true, true, true, true, true, true, true, true, true, true, true, true, true, false, false, false, false, false, false, false, false, false, false, false, false, false] rfl rfl (aN dF.out (by kernel_rfl)) (fun _ _ _ h => h) (Or.inr ⟨by rfl, rfl⟩) ?_ ?_
      rotate_left
      · simp only [Act.put, List.setIfInBounds_toArray, List.set_cons_zero, List.set_cons_succ, aJ, aK]
        rfl
      refine bf (i := 26) (N := some 34) (v := undef) (a' := ?_) #[true, true, true, true, true, true, true, true, true, true, true, true, true, true, true, true, true, true, true, true, true, true, true, true, true, true, true, false, false, false, false, false, false, false, false, false, false, false, false] rfl rfl (aN dF.out (by kernel_rfl)) (fun _ _ _ h => h) (Or.inr ⟨by rfl, rfl⟩) ?_ ?_
      rotate_left
      · simp only [Act.put, List.setIfInBounds_toArray, List.set_cons_zero, List.set_cons_succ, aJ, aK]
        rfl
      refine bf (i := 27) (N := some 35) (v := undef) (a' := ?_) #[true, true, true, true, true, true, true, true, true, true, true, true, true, true, true, true, true, true, true, true, true, true, true, true, true, true, true, true, false, false, false, false, false, false, false, false, false, false, false] rfl rfl (aN dF.out (by kernel_rfl)) (fun _ _ _ h => h) (Or.inr ⟨by rfl, rfl⟩) ?_ ?_
      rotate_left
      · simp only [Act.put, List.setIfInBounds_toArray, List.set_cons_zero, List.set_cons_succ, aJ, aK]
        rfl
      refine bf (i := 28) (N := some 36) (v := undef) (a' := ?_) #[true, true, true, true, true, true, true, true, true, true, true, true, true, true, true, true, true, true, true, true, true, true, true, true, true, true, true, true, true, false, false, false, false, false, false, false, false, false, false] rfl rfl (aN dF.out (by kernel_rfl)) (fun _ _ _ h => h) (Or.inr ⟨by rfl, rfl⟩) ?_ ?_
      rotate_left
      · simp only [Act.put, List.setIfInBounds_toArray, List.set_cons_zero, List.set_cons_succ, aJ, aK]
        rfl
      refine bf (i := 29) (N := some 37) (v := ?_) (a' := ?_) #[true, true, true, true, true, true, true, true, true, true, true, true, true, true, true, true, true, true, true, true, true, true, true, true, true, true, true, true, true, true, false, false, false, false, false, false, false, false, false] rfl rfl (aN dF.out (by kernel_rfl)) (fun _ _ _ h => h) (Or.inl ⟨by rfl, ?_⟩) ?_ ?_
      rotate_left
      · intro w'
        go_simp
        with_reducible rfl
      rotate_left
      · simp only [Act.put, List.setIfInBounds_toArray, List.set_cons_zero, List.set_cons_succ, aJ, aK]
        rfl
      refine bf (i := 30) (N := some 38) (v := ?_) (a' := ?_) #[true, true, true, true, true, true, true, true, true, true, true, true, true, true, true, true, true, true, true, true, true, true, true, true, true, true, true, true, true, true, true, false, false, false, false, false, false, false, false] rfl rfl (aN dF.out (by kernel_rfl)) (fun _ _ _ h => h) (Or.inl ⟨by rfl, ?_⟩) ?_ ?_
      rotate_left
      · intro w'
        go_simp
        with_reducible rfl
      rotate_left
      · simp only [Act.put, List.setIfInBounds_toArray, List.set_cons_zero, List.set_cons_succ, aJ, aK]
        rfl
      refine bf (i := 31) (N := some 39) (v := undef) (a' := ?_) #[true, true, true, true, true, true, true, true, true, true, true, true, true, true, true, true, true, true, true, true, true, true, true, true, true, true, true, true, true, true, true, true, false, false, false, false, false, false, false] rfl rfl (aN dF.out (by kernel_rfl)) (fun _ _ _ h => h) (Or.inr ⟨by rfl, rfl⟩) ?_ ?_
      rotate_left
      · simp only [Act.put, List.setIfInBounds_toArray, List.set_cons_zero, List.set_cons_succ, aJ, aK]
        rfl
      refine bf (i := 32) (N := some 40) (v := undef) (a' := ?_) #[true, true, true, true, true, true, true, true, true, true, true, true, true, true, true, true, true, true, true, true, true, true, true, true, true, true, true, true, true, true, true, true, true, false, false, false, false, false, false] rfl rfl (aN dF.out (by kernel_rfl)) (fun _ _ _ h => h) (Or.inr ⟨by rfl, rfl⟩) ?_ ?_
      rotate_left
      · simp only [Act.put, List.setIfInBounds_toArray, List.set_cons_zero, List.set_cons_succ, aJ, aK]
        rfl
      refine bf (i := 33) (N := some 41) (v := undef) (a' := ?_) #[true, true, true, true, true, true, true, true, true, true, true, true, true, true, true, true, true, true, true, true, true, true, true, true, true, true, true, true, true, true, true, true, true, true, false, false, false, false, false] rfl rfl (aN dF.out (by kernel_rfl)) (fun _ _ _ h => h) (Or.inr ⟨by rfl, rfl⟩) ?_ ?_
      rotate_left
      · simp only [Act.put, List.setIfInBounds_toArray, List.set_cons_zero, List.set_cons_succ, aJ, aK]
        rfl
      refine bf (i := 34) (N := some 42) (v := undef) (a' := ?_) #[true, true, true, true, true, true, true, true, true, true, true, true, true, true, true, true, true, true, true, true, true, true, true, true, true, true, true, true, true, true, true, true, true, true, true, false, false, false, false] rfl rfl (aN dF.out (by kernel_rfl)) (fun _ _ _ h => h) (Or.inr ⟨by rfl, rfl⟩) ?_ ?_
      rotate_left
      · simp only [Act.put, List.setIfInBounds_toArray, List.set_cons_zero, List.set_cons_succ, aJ, aK]
        rfl
      refine bf (i := 35) (N := some 43) (v := undef) (a' := ?_) #[true, true, true, true, true, true, true, true, true, true, true, true, true, true, true, true, true, true, true, true, true, true, true, true, true, true, true, true, true, true, true, true, true, true, true, true, false, false, false] rfl rfl (aN dF.out (by kernel_rfl)) (fun _ _ _ h => h) (Or.inr ⟨by rfl, rfl⟩) ?_ ?_
      rotate_left
      · simp only [Act.put, List.setIfInBounds_toArray, List.set_cons_zero, List.set_cons_succ, aJ, aK]
        rfl
      refine bf (i := 36) (N := some 44) (v := undef) (a' := ?_) #[true, true, true, true, true, true, true, true, true, true, true, true, true, true, true, true, true, true, true, true, true, true, true, true, true, true, true, true, true, true, true, true, true, true, true, true, true, false, false] rfl rfl (aN dF.out (by kernel_rfl)) (fun _ _ _ h => h) (Or.inr ⟨by rfl, rfl⟩) ?_ ?_
      rotate_left
      · simp only [Act.put, List.setIfInBounds_toArray, List.set_cons_zero, List.set_cons_succ, aJ, aK]
        rfl
      refine bf (i := 37) (N := some 45) (v := undef) (a' := ?_) #[true, true, true, true, true, true, true, true, true, true, true, true, true, true, true, true, true, true, true, true, true, true, true, true, true, true, true, true, true, true, true, true, true, true, true, true, true, true, false] rfl rfl (aN dF.out (by kernel_rfl)) (fun _ _ _ h => h) (Or.inr ⟨by rfl, rfl⟩) ?_ ?_
      rotate_left
      · simp only [Act.put, List.setIfInBounds_toArray, List.set_cons_zero, List.set_cons_succ, aJ, aK]
        rfl
      refine bf (i := 38) (N := some 46) (v := ?_) (a' := ?_) #[true, true, true, true, true, true, true, true, true, true, true, true, true, true, true, true, true, true, true, true, true, true, true, true, true, true, true, true, true, true, true, true, true, true, true, true, true, true, true] rfl rfl (aN dF.out (by kernel_rfl)) (fun _ _ _ h => h) (Or.inl ⟨by rfl, ?_⟩) ?_ ?_
      rotate_left
      · intro w'
        go_simp
        with_reducible rfl
      rotate_left
      · simp only [Act.put, List.setIfInBounds_toArray, List.set_cons_zero, List.set_cons_succ, aJ, aK]
        rfl
      refine tJ (lW dF.out (by kernel_rfl)) ?_
      try go_wp2
      go_meet
      case rel => exact ⟨_, (true), (by first | rfl | (simp; done) | (simp [*]; done)), H', ⟨by first | omega | exact Nat.le_refl _⟩, ⟨by (with_reducible repeat (first | refine ay ?_ _ | refine aC ?_ | refine az ?_ _)); exact bI.out⟩, ⟨by repeat (first | (with_reducible first | exact HB.out | apply au | apply af | apply ak | refine aG ?_ ny.out) | exact HB.out)⟩⟩
  · replace c6 := Bool.eq_false_iff.mpr c6
    subst c6
    have H1 : (bu.j0 k aQ true aQ a_ aY dw dB bV) = some r := by rw [if_neg (show ¬ (false = true) by decide)] at H; exact H
    clear H
    have H := H1
    clear H1
    have H' := ah.mk H
    clear H
    try go_wp2
    have bT := ah.mk (aC bI.out)
    have dD := ah.mk (ak HB.out)
    clear bI
    clear HB
    have bI := bT
    have HB := dD
    clear bT dD
    refine oV (n := 39) (S := fun w' => w'.cell? ⟨f_, 0, none⟩ = some (.int .i64 aQ) ∧ w'.cell? ⟨f_, 1, none⟩ = some (.int .i64 a_) ∧ w'.cell? ⟨f_, 2, none⟩ = some (.slice cO aY.length cu) ∧ w'.cell? ⟨f_, 3, none⟩ = some (.int .i64 dw) ∧ w'.cell? ⟨f_, 4, none⟩ = some (.int .i64 dB) ∧ w'.cell? ⟨f_, 5, none⟩ = some (.slice gp bV.length fZ)) (ds := []) #[false, false, false, false, false, false, false, false, false, false, false, false, false, false, false, false, false, false, false, false, false, false, false, false, false, false, false, false, false, false, false, false, false, false, false, false, false, false, false] (by kernel_rfl) rfl rfl ⟨(aj bI.out 0).trans rfl, (aj bI.out 1).trans rfl, (aj bI.out 2).trans rfl, (aj bI.out 3).trans rfl, (aj bI.out 4).trans rfl, (aj bI.out 5).trans rfl⟩ (fun hHeld => ?_); refine jJ bu.GY bu.zW (fun dF pI => ?_)
    generalize w3.drew = w32 at bI HB hHeld ⊢
    refine bf (i := 0) (N := some 8) (v := ?_) (a' := ?_) #[true, false, false, false, false, false, false, false, false, false, false, false, false, false, false, false, false, false, false, false, false, false, false, false, false, false, false, false, false, false, false, false, false, false, false, false, false, false, false] rfl rfl (aN dF.out (by kernel_rfl)) (fun _ _ _ h => h) (Or.inl ⟨by rfl, ?_⟩) ?_ ?_
    rotate_left
    · intro w'
      go_simp
      with_reducible rfl
    rotate_left
    · simp only [Act.put, List.setIfInBounds_toArray, List.set_cons_zero, List.set_cons_succ, aJ, aK]
      rfl
    refine iP (i := 1) (N := some 9) (v := ?_) (a' := ?_) #[true, true, false, false, false, false, false, false, false, false, false, false, false, false, false, false, false, false, false, false, false, false, false, false, false, false, false, false, false, false, false, false, false, false, false, false, false, false, false] rfl rfl (eF dF.out pI.out (by kernel_rfl)) (fun _ _ _ h => h) (Or.inl ⟨by rfl, ?_⟩) hHeld ?_ ?_
    rotate_left
    · rintro w' ⟨s0, s1, s2, s3, s4, s5⟩
      go_simp
      with_reducible rfl
    rotate_left
    · simp only [Act.put, List.setIfInBounds_toArray, List.set_cons_zero, List.set_cons_succ, aJ, aK]
      rfl
    refine nC (i := 2) (N := some 10) #[true, true, true, false, false, false, false, false, false, false, false, false, false, false, false, false, false, false, false, false, false, false, false, false, false, false, false, false, false, false, false, false, false, false, false, false, false, false, false] rfl rfl (iF dF.out (by kernel_rfl)) (by decide) (fun K hK => ?_)
    refine kU Try.func39 (by kernel_rfl) rfl #[.agg #[.int .i64 aQ, .int .i64 a_, .slice cO aY.length cu]] (by rfl) rfl rfl (by (try simp only [List.map_toArray, List.map_cons, List.map_nil]); first | done | rfl | (simp only [List.length_drop, List.length_take]; rfl)) ?_
    with_reducible refine (jc.calls aQ a_ _ _ aY false _ ?eY ?eX A5.out).mono ?_
    (case eY => repeat (first | exact (Kd.fB kC.out HB.out) | (with_reducible refine Kd.fE ?_ _) | (with_reducible refine Kd.fD ?_ _) | (with_reducible refine Kd.gm ?_)))
    (case eX => exact lM.out)
    rintro e w33 ⟨rfl, hb⟩
    refine ⟨_, rfl, ?_⟩
    have bT := ah.mk (bg (g := f_) (o := .cells #[.int .i64 aQ, .int .i64 a_, .slice cO aY.length cu, .int .i64 dw, .int .i64 dB, .slice gp bV.length fZ] 28 (0, 0)) (by (with_reducible repeat (first | refine ay ?_ _ | refine aC ?_ | refine az ?_ _)); exact bI.out) hb)
    have dD := ah.mk (aI (by repeat (first | (with_reducible first | exact HB.out | apply au | apply af | apply ak | refine aG ?_ ny.out) | exact HB.out)) hb)
    clear bI
    clear HB
    have bI := bT
    have HB := dD
    clear bT dD
    (try clear hb)
    (try clear hb2)
    (try clear hk)
    (try clear hi)
    refine hK.out _ _ ⟨(aj bI.out 0).trans rfl, (aj bI.out 1).trans rfl, (aj bI.out 2).trans rfl, (aj bI.out 3).trans rfl, (aj bI.out 4).trans rfl, (aj bI.out 5).trans rfl⟩ (fun hHeld => ?_)
    clear hK K
    refine iV (a' := ?_) ?_ ?_
    rotate_left
    · show Act.put _ (some 10) _ = _
      simp only [Act.put, List.setIfInBounds_toArray, List.set_cons_zero, List.set_cons_succ, aJ, aK]
      rfl
    refine bf (i := 3) (N := some 11) (v := ?_) (a' := ?_) #[true, true, true, true, false, false, false, false, false, false, false, false, false, false, false, false, false, false, false, false, false, false, false, false, false, false, false, false, false, false, false, false, false, false, false, false, false, false, false] rfl rfl (aN dF.out (by kernel_rfl)) (fun _ _ _ h => h) (Or.inl ⟨by rfl, ?_⟩) ?_ ?_
    rotate_left
    · intro w'
      go_simp
      with_reducible rfl
    rotate_left
    · simp only [Act.put, List.setIfInBounds_toArray, List.set_cons_zero, List.set_cons_succ, aJ, aK]
      rfl
    refine bf (i := 4) (N := some 12) (v := ?_) (a' := ?_) #[true, true, true, true, true, false, false, false, false, false, false, false, false, false, false, false, false, false, false, false, false, false, false, false, false, false, false, false, false, false, false, false, false, false, false, false, false, false, false] rfl rfl (aN dF.out (by kernel_rfl)) (fun _ _ _ h => h) (Or.inl ⟨by rfl, ?_⟩) ?_ ?_
    rotate_left
    · intro w'
      go_simp
      with_reducible rfl
    rotate_left
    · simp only [Act.put, List.setIfInBounds_toArray, List.set_cons_zero, List.set_cons_succ, aJ, aK]
      rfl
    refine bf (i := 5) (N := some 13) (v := undef) (a' := ?_) #[true, true, true, true, true, true, false, false, false, false, false, false, false, false, false, false, false, false, false, false, false, false, false, false, false, false, false, false, false, false, false, false, false, false, false, false, false, false, false] rfl rfl (aN dF.out (by kernel_rfl)) (fun _ _ _ h => h) (Or.inr ⟨by rfl, rfl⟩) ?_ ?_
    rotate_left
    · simp only [Act.put, List.setIfInBounds_toArray, List.set_cons_zero, List.set_cons_succ, aJ, aK]
      rfl
    refine bf (i := 6) (N := some 14) (v := undef) (a' := ?_) #[true, true, true, true, true, true, true, false, false, false, false, false, false, false, false, false, false, false, false, false, false, false, false, false, false, false, false, false, false, false, false, false, false, false, false, false, false, false, false] rfl rfl (aN dF.out (by kernel_rfl)) (fun _ _ _ h => h) (Or.inr ⟨by rfl, rfl⟩) ?_ ?_
    rotate_left
    · simp only [Act.put, List.setIfInBounds_toArray, List.set_cons_zero, List.set_cons_succ, aJ, aK]
      rfl
    refine bf (i := 7) (N := some 15) (v := undef) (a' := ?_) #[true, true, true, true, true, true, true, true, false, false, false, false, false, false, false, false, false, false, false, false, false, false, false, false, false, false, false, false, false, false, false, false, false, false, false, false, false, false, false] rfl rfl (aN dF.out (by kernel_rfl)) (fun _ _ _ h => h) (Or.inr ⟨by rfl, rfl⟩) ?_ ?_
    rotate_left
    · simp only [Act.put, List.setIfInBounds_toArray, List.set_cons_zero, List.set_cons_succ, aJ, aK]
      rfl
    refine bf (i := 8) (N := some 16) (v := undef) (a' := ?_) #[true, true, true, true, true, true, true, true, true, false, false, false, false, false, false, false, false, false, false, false, false, false, false, false, false, false, false, false, false, false, false, false, false, false, false, false, false, false, false] rfl rfl (aN dF.out (by kernel_rfl)) (fun _ _ _ h => h) (Or.inr ⟨by rfl, rfl⟩) ?_ ?_
    rotate_left
    · simp only [Act.put, List.setIfInBounds_toArray, List.set_cons_zero, List.set_cons_succ, aJ, aK]
      rfl
    refine bf (i := 9) (N := some 17) (v := ?_) (a' := ?_) #[true, true, true, true, true, true, true, true, true, true, false, false, false, false, false, false, false, false, false, false, false, false, false, false, false, false, false, false, false, false, false, false, false, false, false, false, false, false, false] rfl rfl (aN dF.out (by kernel_rfl)) (fun _ _ _ h => h) (Or.inl ⟨by rfl, ?_⟩) ?_ ?_
    rotate_left
    · intro w'
      go_simp
      with_reducible rfl
    rotate_left
    · simp only [Act.put, List.setIfInBounds_toArray, List.set_cons_zero, List.set_cons_succ, aJ, aK]
      rfl
    refine bf (i := 10) (N := some 18) (v := ?_) (a' := ?_) #[true, true, true, true, true, true, true, true, true, true, true, false, false, false, false, false, false, false, false, false, false, false, false, false, false, false, false, false, false, false, false, false, false, false, false, false, false, false, false] rfl rfl (aN dF.out (by kernel_rfl)) (fun _ _ _ h => h) (Or.inl ⟨by rfl, ?_⟩) ?_ ?_
    rotate_left
    · intro w'
      go_simp
      with_reducible rfl
    rotate_left
    · simp only [Act.put, List.setIfInBounds_toArray, List.set_cons_zero, List.set_cons_succ, aJ, aK]
      rfl
    refine bf (i := 11) (N := some 19) (v := undef) (a' := ?_) #[true, true, true, true, true, true, true, true, true, true, true, true, false, false, false, false, false, false, false, false, false, false, false, false, false, false, false, false, false, false, false, false, false, false, false, false, false, false, false] rfl rfl (aN dF.out (by kernel_rfl)) (fun _ _ _ h => h) (Or.inr ⟨by rfl, rfl⟩) ?_ ?_
    rotate_left
    · simp only [Act.put, List.setIfInBounds_toArray, List.set_cons_zero, List.set_cons_succ, aJ, aK]
      rfl
    refine bf (i := 12) (N := some 20) (v := undef) (a' := ?_) #[true, true, true, true, true, true, true, true, true, true, true, true, true, false, false, false, false, false, false, false, false, false, false, false, false, false, false, false, false, false, false, false, false, false, false, false, false, false, false] rfl rfl (aN dF.out (by kernel_rfl)) (fun _ _ _ h => h) (Or.inr ⟨by rfl, rfl⟩) ?_ ?_
    rotate_left
    · simp only [Act.put, List.setIfInBounds_toArray, List.set_cons_zero, List.set_cons_succ, aJ, aK]
      rfl
    refine bf (i := 13) (N := some 21) (v := undef) (a' := ?_) #[true, true, true, true, true, true, true, true, true, true, true, true, true, true, false, false, false, false, false, false, false, false, false, false, false, false, false, false, false, false, false, false, false, false, false, false, false, false, false] rfl rfl (aN dF.out (by kernel_rfl)) (fun _ _ _ h => h) (Or.inr ⟨by rfl, rfl⟩) ?_ ?_
    rotate_left
    · simp only [Act.put, List.setIfInBounds_toArray, List.set_cons_zero, List.set_cons_succ, aJ, aK]
      rfl
    refine bf (i := 14) (N := some 22) (v := undef) (a' := ?_) #[true, true, true, true, true, true, true, true, true, true, true, true, true, true, true, false, false, false, false, false, false, false, false, false, false, false, false, false, false, false, false, false, false, false, false, false, false, false, false] rfl rfl (aN dF.out (by kernel_rfl)) (fun _ _ _ h => h) (Or.inr ⟨by rfl, rfl⟩) ?_ ?_
    rotate_left
    · simp only [Act.put, List.setIfInBounds_toArray, List.set_cons_zero, List.set_cons_succ, aJ, aK]
      rfl
    refine bf (i := 15) (N := some 23) (v := ?_) (a' := ?_) #[true, true, true, true, true, true, true, true, true, true, true, true, true, true, true, true, false, false, false, false, false, false, false, false, false, false, false, false, false, false, false, false, false, false, false, false, false, false, false] rfl rfl (aN dF.out (by kernel_rfl)) (fun _ _ _ h => h) (Or.inl ⟨by rfl, ?_⟩) ?_ ?_
    rotate_left
    · intro w'
      go_simp
      with_reducible rfl
    rotate_left
    · simp only [Act.put, List.setIfInBounds_toArray, List.set_cons_zero, List.set_cons_succ, aJ, aK]
      rfl
    refine bf (i := 16) (N := some 24) (v := ?_) (a' := ?_) #[true, true, true, true, true, true, true, true, true, true, true, true, true, true, true, true, true, false, false, false, false, false, false, false, false, false, false, false, false, false, false, false, false, false, false, false, false, false, false] rfl rfl (aN dF.out (by kernel_rfl)) (fun _ _ _ h => h) (Or.inl ⟨by rfl, ?_⟩) ?_ ?_
    rotate_left
    · intro w'
      go_simp
      with_reducible rfl
    rotate_left
    · simp only [Act.put, List.setIfInBounds_toArray, List.set_cons_zero, List.set_cons_succ, aJ, aK]
      rfl
    refine bf (i := 17) (N := some 25) (v := undef) (a' := ?_) #[true, true, true, true, true, true, true, true, true, true, true, true, true, true, true, true, true, true, false, false, false, false, false, false, false, false, false, false, false, false, false, false, false, false, false, false, false, false, false] rfl rfl (aN dF.out (by kernel_rfl)) (fun _ _ _ h => h) (Or.inr ⟨by rfl, rfl⟩) ?_ ?_
    rotate_left
    · simp only [Act.put, List.setIfInBounds_toArray, List.set_cons_zero, List.set_cons_succ, aJ, aK]
      rfl
    refine bf (i := 18) (N := some 26) (v := undef) (a' := ?_) #[true, true, true, true, true, true, true, true, true, true, true, true, true, true, true, true, true, true, true, false, false, false, false, false, false, false, false, false, false, false, false, false, false, false, false, false, false, false, false] rfl rfl (aN dF.out (by kernel_rfl)) (fun _ _ _ h => h) (Or.inr ⟨by rfl, rfl⟩) ?_ ?_
    rotate_left
    · simp only [Act.put, List.setIfInBounds_toArray, List.set_cons_zero, List.set_cons_succ, aJ, aK]
      rfl
    refine bf (i := 19) (N := some 27) (v := undef) (a' := ?_) #[true, true, true, true, true, true, true, true, true, true, true, true, true, true, true, true, true, true, true, true, false, false, false, false, false, false, false, false, false, false, false, false, false, false, false, false, false, false, false] rfl rfl (aN dF.out (by kernel_rfl)) (fun _ _ _ h => h) (Or.inr ⟨by rfl, rfl⟩) ?_ ?_
    rotate_left
    · simp only [Act.put, List.setIfInBounds_toArray, List.set_cons_zero, List.set_cons_succ, aJ, aK]
      rfl
    refine bf (i := 20) (N := some 28) (v := undef) (a' := ?_) #[true, true, true, true, true, true, true, true, true, true, true, true, true, true, true, true, true, true, true, true, true, false, false, false, false, false, false, false, false, false, false, false, false, false, false, false, false, false, false] rfl rfl (aN dF.out (by kernel_rfl)) (fun _ _ _ h => h) (Or.inr ⟨by rfl, rfl⟩) ?_ ?_
    rotate_left
    · simp only [Act.put, List.setIfInBounds_toArray, List.set_cons_zero, List.set_cons_succ, aJ, aK]
      rfl
    refine bf (i := 21) (N := some 29) (v := undef) (a' := ?_) #[true, true, true, true, true, true, true, true, true, true, true, true, true, true, true, true, true, true, true, true, true, true, false, false, false, false, false, false, false, false, false, false, false, false, false, false, false, false, false] rfl rfl (aN dF.out (by kernel_rfl)) (fun _ _ _ h => h) (Or.inr ⟨by rfl, rfl⟩) ?_ ?_
    rotate_left
    · simp only [Act.put, List.setIfInBounds_toArray, List.set_cons_zero, List.set_cons_succ, aJ, aK]
      rfl
    refine bf (i := 22) (N := some 30) (v := ?_) (a' := ?_) #[true, true, true, true, true, true, true, true, true, true, true, true, true, true, true, true, true, true, true, true, true, true, true, false, false, false, false, false, false, false, false, false, false, false, false, false, false, false, false] rfl rfl (aN dF.out (by kernel_rfl)) (fun _ _ _ h => h) (Or.inl ⟨by rfl, ?_⟩) ?_ ?_
    rotate_left
    · intro w'
      go_simp
      with_reducible rfl
    rotate_left
    · simp only [Act.put, List.setIfInBounds_toArray, List.set_cons_zero, List.set_cons_succ, aJ, aK]
      rfl
    refine bf (i := 23) (N := some 31) (v := ?_) (a' := ?_) #[true, true, true, true, true, true, true, true, true, true, true, true, true, true, true, true, true, true, true, true, true, true, true, true, false, false, false, false, false, false, false, false, false, false, false, false, false, false, false] rfl rfl (aN dF.out (by kernel_rfl)) (fun _ _ _ h => h) (Or.inl ⟨by rfl, ?_⟩) ?_ ?_
    rotate_left
    · intro w'
      go_simp
      with_reducible rfl
    rotate_left
    · simp only [Act.put, List.setIfInBounds_toArray, List.set_cons_zero, List.set_cons_succ, aJ, aK]
      rfl
    refine bf (i := 24) (N := some 32) (v := undef) (a' := ?_) #[true, true, true, true, true, true, true, true, true, true, true, true, true, true, true, true, true, true, true, true, true, true, true, true, true, false, false, false, false, false, false, false, false, false, false, false, false, false, false] rfl rfl (aN dF.out (by kernel_rfl)) (fun _ _ _ h => h) (Or.inr ⟨by rfl, rfl⟩) ?_ ?_
    rotate_left
    · simp only [Act.put, List.setIfInBounds_toArray, List.set_cons_zero, List.set_cons_succ, aJ, aK]
      rfl
    refine bf (i := 25) (N := some 33) (v := undef) (a' := ?_) #[true, true, true, true, true, true, true, true, true, true, true, true, true, true, true, true, true, true, true, true, true, true, true, true, true, true, false, false, false, false, false, false, false, false, false, false, false, false, false] rfl rfl (aN dF.out (by kernel_rfl)) (fun _ _ _ h => h) (Or.inr ⟨by rfl, rfl⟩) ?_ ?_
    rotate_left
    · simp only [Act.put, List.setIfInBounds_toArray, List.set_cons_zero, List.set_cons_succ, aJ, aK]
      rfl
    refine bf (i := 26) (N := some 34) (v := undef) (a' := ?_) #[true, true, true, true, true, true, true, true, true, true, true, true, true, true, true, true, true, true, true, true, true, true, true, true, true, true, true, false, false, false, false, false, false, false, false, false, false, false, false] rfl rfl (aN dF.out (by kernel_rfl)) (fun _ _ _ h => h) (Or.inr ⟨by rfl, rfl⟩) ?_ ?_
    rotate_left
    · simp only [Act.put, List.setIfInBounds_toArray, List.set_cons_zero, List.set_cons_succ, aJ, aK]
      rfl
    refine bf (i := 27) (N := some 35) (v := undef) (a' := ?_) #[true, true, true, true, true, true, true, true, true, true, true, true, true, true, true, true, true, true, true, true, true, true, true, true, true, true, true, true, false, false, false, false, false, false, false, false, false, false, false] rfl rfl (aN dF.out (by kernel_rfl)) (fun _ _ _ h => h) (Or.inr ⟨by rfl, rfl⟩) ?_ ?_
    rotate_left
    · simp only [Act.put, List.setIfInBounds_toArray, List.set_cons_zero, List.set_cons_succ, aJ, aK]
      rfl
    refine bf (i := 28) (N := some 36) (v := undef) (a' := ?_) #[true, true, true, true, true, true, true, true, true, true, true, true, true, true, true, true, true, true, true, true, true, true, true, true, true, true, true, true, true, false, false, false, false, false, false, false, false, false, false] rfl rfl (aN dF.out (by kernel_rfl)) (fun _ _ _ h => h) (Or.inr ⟨by rfl, rfl⟩) ?_ ?_
    rotate_left
    · simp only [Act.put, List.setIfInBounds_toArray, List.set_cons_zero, List.set_cons_succ, aJ, aK]
      rfl
    refine bf (i := 29) (N := some 37) (v := ?_) (a' := ?_) #[true, true, true, true, true, true, true, true, true, true, true, true, true, true, true, true, true, true, true, true, true, true, true, true, true, true, true, true, true, true, false, false, false, false, false, false, false, false, false] rfl rfl (aN dF.out (by kernel_rfl)) (fun _ _ _ h => h) (Or.inl ⟨by rfl, ?_⟩) ?_ ?_
    rotate_left
    · intro w'
      go_simp
      with_reducible rfl
    rotate_left
    · simp only [Act.put, List.setIfInBounds_toArray, List.set_cons_zero, List.set_cons_succ, aJ, aK]
      rfl
    refine bf (i := 30) (N := some 38) (v := ?_) (a' := ?_) #[true, true, true, true, true, true, true, true, true, true, true, true, true, true, true, true, true, true, true, true, true, true, true, true, true, true, true, true, true, true, true, false, false, false, false, false, false, false, false] rfl rfl (aN dF.out (by kernel_rfl)) (fun _ _ _ h => h) (Or.inl ⟨by rfl, ?_⟩) ?_ ?_
    rotate_left
    · intro w'
      go_simp
      with_reducible rfl
    rotate_left
    · simp only [Act.put, List.setIfInBounds_toArray, List.set_cons_zero, List.set_cons_succ, aJ, aK]
      rfl
    refine bf (i := 31) (N := some 39) (v := undef) (a' := ?_) #[true, true, true, true, true, true, true, true, true, true, true, true, true, true, true, true, true, true, true, true, true, true, true, true, true, true, true, true, true, true, true, true, false, false, false, false, false, false, false] rfl rfl (aN dF.out (by kernel_rfl)) (fun _ _ _ h => h) (Or.inr ⟨by rfl, rfl⟩) ?_ ?_
    rotate_left
    · simp only [Act.put, List.setIfInBounds_toArray, List.set_cons_zero, List.set_cons_succ, aJ, aK]
      rfl
    refine bf (i := 32) (N := some 40) (v := undef) (a' := ?_) #[true, true, true, true, true, true, true, true, true, true, true, true, true, true, true, true, true, true, true, true, true, true, true, true, true, true, true, true, true, true, true, true, true, false, false, false, false, false, false] rfl rfl (aN dF.out (by kernel_rfl)) (fun _ _ _ h => h) (Or.inr ⟨by rfl, rfl⟩) ?_ ?_
    rotate_left
    · simp only [Act.put, List.setIfInBounds_toArray, List.set_cons_zero, List.set_cons_succ, aJ, aK]
      rfl
    refine bf (i := 33) (N := some 41) (v := undef) (a' := ?_) #[true, true, true, true, true, true, true, true, true, true, true, true, true, true, true, true, true, true, true, true, true, true, true, true, true, true, true, true, true, true, true, true, true, true, false, false, false, false, false] rfl rfl (aN dF.out (by kernel_rfl)) (fun _ _ _ h => h) (Or.inr ⟨by rfl, rfl⟩) ?_ ?_
    rotate_left
    · simp only [Act.put, List.setIfInBounds_toArray, List.set_cons_zero, List.set_cons_succ, aJ, aK]
      rfl
    refine bf (i := 34) (N := some 42) (v := undef) (a' := ?_) #[true, true, true, true, true, true, true, true, true, true, true, true, true, true, true, true, true, true, true, true, true, true, true, true, true, true, true, true, true, true, true, true, true, true, true, false, false, false, false] rfl rfl (aN dF.out (by kernel_rfl)) (fun _ _ _ h => h) (Or.inr ⟨by rfl, rfl⟩) ?_ ?_
    rotate_left
    · simp only [Act.put, List.setIfInBounds_toArray, List.set_cons_zero, List.set_cons_succ, aJ, aK]
      rfl
    refine bf (i := 35) (N := some 43) (v := undef) (a' := ?_) #[true, true, true, true, true, true, true, true, true, true, true, true, true, true, true, true, true, true, true, true, true, true, true, true, true, true, true, true, true, true, true, true, true, true, true, true, false, false, false] rfl rfl (aN dF.out (by kernel_rfl)) (fun _ _ _ h => h) (Or.inr ⟨by rfl, rfl⟩) ?_ ?_
    rotate_left
    · simp only [Act.put, List.setIfInBounds_toArray, List.set_cons_zero, List.set_cons_succ, aJ, aK]
      rfl
    refine bf (i := 36) (N := some 44) (v := undef) (a' := ?_) #[true, true, true, true, true, true, true, true, true, true, true, true, true, true, true, true, true, true, true, true, true, true, true, true, true, true, true, true, true, true, true, true, true, true, true, true, true, false, false] rfl rfl (aN dF.out (by kernel_rfl)) (fun _ _ _ h => h) (Or.inr ⟨by rfl, rfl⟩) ?_ ?_
    rotate_left
    · simp only [Act.put, List.setIfInBounds_toArray, List.set_cons_zero, List.set_cons_succ, aJ, aK]
      rfl
    refine bf (i := 37) (N := some 45) (v := undef) (a' := ?_) #[true, true, true, true, true, true, true, true, true, true, true, true, true, true, true, true, true, true, true, true, true, true, true, true, true, true, true, true, true, true, true, true, true, true, true, true, true, true, false] rfl rfl (aN dF.out (by kernel_rfl)) (fun _ _ _ h => h) (Or.inr ⟨by rfl, rfl⟩) ?_ ?_
    rotate_left
    · simp only [Act.put, List.setIfInBounds_toArray, List.set_cons_zero, List.set_cons_succ, aJ, aK]
      rfl
    refine bf (i := 38) (N := some 46) (v := ?_) (a' := ?_) #[true, true, true, true, true, true, true, true, true, true, true, true, true, true, true, true, true, true, true, true, true, true, true, true, true, true, true, true, true, true, true, true, true, true, true, true, true, true, true] rfl rfl (aN dF.out (by kernel_rfl)) (fun _ _ _ h => h) (Or.inl ⟨by rfl, ?_⟩) ?_ ?_
    rotate_left
    · intro w'
      go_simp
      with_reducible rfl
    rotate_left
    · simp only [Act.put, List.setIfInBounds_toArray, List.set_cons_zero, List.set_cons_succ, aJ, aK]
      rfl
    refine tJ (lW dF.out (by kernel_rfl)) ?_
    try go_wp2
    go_meet
    case rel => exact ⟨_, (true), (by first | rfl | (simp; done) | (simp [*]; done)), H', ⟨by first | omega | exact Nat.le_refl _⟩, ⟨by (with_reducible repeat (first | refine ay ?_ _ | refine aC ?_ | refine az ?_ _)); exact bI.out⟩, ⟨by repeat (first | (with_reducible first | exact HB.out | apply au | apply af | apply ak | refine aG ?_ ny.out) | exact HB.out)⟩⟩
 case rest =>
  clear HC2
  try clear p2
  try clear c3
  try clear c6
  try clear c8
  obtain ⟨kq, OE, rfl, HA, YH, bI, HB⟩ := hcut
  cases kq with
  | zero => exact absurd HA.out (by simp [bu.j0])
  | succ OZ =>
    have H := HA.out
    clear HA
    simp only [bu.j0] at H
    by_cases c34 : OE = true
    · subst c34
      rw [if_pos rfl] at H
      obtain rfl := Option.some.inj H
      go_wp2
      go_ret
      exact ⟨by first | rfl | (simp [aU, aT] <;> rfl) | (simp [*, aU, aT] <;> rfl), by repeat (first | (with_reducible first | exact HB.out | apply au | apply af | apply ak | refine aG ?_ ny.out) | exact HB.out)⟩
    · replace c34 := Bool.eq_false_iff.mpr c34
      subst c34
      have H1 : (bu.l0 OZ aQ aQ 0 aQ a_ aY dw dB bV) = some r := by rw [if_neg (show ¬ (false = true) by decide)] at H; exact H
      clear H
      have H := H1
      clear H1
      have H' := ah.mk H
      clear H
      go_wp2
      go_loopg [48] OZ (fun kq v48 w' => ∃ (xH : Int), v48 = .int .i64 xH ∧ ah (bu.l0 kq aQ aQ xH aQ a_ aY dw dB bV = some r) ∧ ah (kq ≤ OZ) ∧ ah (w'.heap[f_]? = some (.cells #[.int .i64 aQ, .int .i64 a_, (.slice cO aY.length cu), .int .i64 dw, .int .i64 dB, (.slice gp bV.length fZ)] 28 (0, 0))) ∧ ah (Below w.heap.size w w'))
      case atStart => exact ⟨(0), (by first | rfl | (simp; done) | (simp [*]; done)), H', ⟨Nat.le_refl _⟩, ⟨by (with_reducible repeat (first | refine ay ?_ _ | refine aC ?_ | refine az ?_ _)); exact bI.out⟩, ⟨by repeat (first | (with_reducible first | exact HB.out | apply au | apply af | apply ak | refine aG ?_ ny.out) | exact HB.out)⟩⟩
      case round =>
       clear H'
       try clear p2
       try clear c3
       try clear c6
       try clear c8
       try clear c34
       try clear p2
       obtain ⟨xH, rfl, HA, yN, bI, HB⟩ := hrel
       cases gk with
       | zero => exact absurd HA.out (by simp [bu.l0])
       | succ k2 =>
         have H := HA.out
         clear HA
         simp only [bu.l0] at H
         by_cases c35 : xH < aQ
         · rw [if_pos c35] at H
           have abG : decide (xH < aQ) = true := decide_eq_true c35
           clear c35
           obtain ⟨yw, Pm⟩ : ∃ j_ : Int, (wrap64 ((wrap64 (xH * aQ)) + xH)) = j_ := ⟨_, rfl⟩
           replace H : (if 0 ≤ (yw) then (if (yw) < (bV.length : Int) then (if (rd bV (yw)) < 0 then (some false) else (bu.l0 k2 aQ aQ (wrap64 (xH + 1)) aQ a_ aY dw dB bV)) else (none)) else (none)) = some r := by first | (rw [Pm] at H; exact H) | (simp only [Pm] at H ⊢; exact H)
           have aib : (IntKind.i64.wrap ((wrap64 (xH * aQ)) + xH)) = yw := (aJ _).trans Pm
           by_cases c37 : 0 ≤ (yw)
           · rw [if_pos c37] at H
             have alu : decide (0 ≤ (yw)) = true := decide_eq_true c37
             clear c37
             by_cases c38 : (yw) < (bV.length : Int)
             · rw [if_pos c38] at H
               have als : decide ((yw) < (bV.length : Int)) = true := decide_eq_true c38
               clear c38
               by_cases Ur : (rd bV (yw)) < 0
               · rw [if_pos Ur] at H
                 have abE : decide ((rd bV (yw)) < 0) = true := decide_eq_true Ur
                 clear Ur
                 obtain rfl := Option.some.inj H
                 have WM : wr.cell? ⟨f_, 0, none⟩ = some (.int .i64 aQ) := (aj bI.out 0).trans rfl
                 have WL : wr.cell? ⟨f_, 1, none⟩ = some (.int .i64 a_) := (aj bI.out 1).trans rfl
                 have WJ : wr.cell? ⟨f_, 2, none⟩ = some (.slice cO aY.length cu) := (aj bI.out 2).trans rfl
                 have agG : wr.cell? ⟨f_, 3, none⟩ = some (.int .i64 dw) := (aj bI.out 3).trans rfl
                 have agF : wr.cell? ⟨f_, 4, none⟩ = some (.int .i64 dB) := (aj bI.out 4).trans rfl
                 have agE : wr.cell? ⟨f_, 5, none⟩ = some (.slice gp bV.length fZ) := (aj bI.out 5).trans rfl
                 have VO := aA bI.out 0
                 have VN := aA bI.out 1
                 have VM := aA bI.out 2
                 have afo := aA bI.out 3
                 have afn := aA bI.out 4
                 have afm := aA bI.out 5
                 have NH : 0 ≤ ((yw) : Int) := of_decide_eq_true (by first | (with_reducible assumption) | assumption)
                 have Nr : (yw) < (bV.length : Int) := of_decide_eq_true (by first | (with_reducible assumption) | assumption)
                 obtain ⟨abZ, Zt, xx⟩ := Kd.jv nO.out (yw) NH Nr
                 cases Zt
                 replace xx := (HB.out.cell (World.block_lt_of_cell? w _ xx)).trans xx
                 replace NH := eq_true NH
                 replace Nr := eq_true Nr
                 go_wp2
                 go_ret
                 exact ⟨by first | rfl | (simp [aU, aT] <;> rfl) | (simp only [← Pm]; first | rfl | (simp [aU, aT] <;> rfl)) | (simp [*, aU, aT] <;> rfl), by repeat (first | (with_reducible first | exact HB.out | apply au | apply af | apply ak | refine aG ?_ ny.out) | exact HB.out)⟩
               · rw [if_neg Ur] at H
                 have abE : decide ((rd bV (yw)) < 0) = false := decide_eq_false Ur
                 clear Ur
                 have H' := ah.mk H
                 clear H
                 have WI : wr.cell? ⟨f_, 0, none⟩ = some (.int .i64 aQ) := (aj bI.out 0).trans rfl
                 have WH : wr.cell? ⟨f_, 1, none⟩ = some (.int .i64 a_) := (aj bI.out 1).trans rfl
                 have WG : wr.cell? ⟨f_, 2, none⟩ = some (.slice cO aY.length cu) := (aj bI.out 2).trans rfl
                 have agD : wr.cell? ⟨f_, 3, none⟩ = some (.int .i64 dw) := (aj bI.out 3).trans rfl
                 have agC : wr.cell? ⟨f_, 4, none⟩ = some (.int .i64 dB) := (aj bI.out 4).trans rfl
                 have agB : wr.cell? ⟨f_, 5, none⟩ = some (.slice gp bV.length fZ) := (aj bI.out 5).trans rfl
                 have VL := aA bI.out 0
                 have VK := aA bI.out 1
                 have VJ := aA bI.out 2
                 have afl := aA bI.out 3
                 have afk := aA bI.out 4
                 have afj := aA bI.out 5
                 have NH : 0 ≤ ((yw) : Int) := of_decide_eq_true (by first | (with_reducible assumption) | assumption)
                 have Nr : (yw) < (bV.length : Int) := of_decide_eq_true (by first | (with_reducible assumption) | assumption)
                 obtain ⟨abZ, Zt, xx⟩ := Kd.jv nO.out (yw) NH Nr
                 cases Zt
                 replace xx := (HB.out.cell (World.block_lt_of_cell? w _ xx)).trans xx
                 replace NH := eq_true NH
                 replace Nr := eq_true Nr
                 go_wp2
                 go_roundg k2
                 case measure => have := YH.out; have := yN.out; omega
                 case rel => exact ⟨(wrap64 (xH + 1)), (by first | rfl | (simp; done) | (simp [*]; done)), H', ⟨by have := YH.out; have := yN.out; omega⟩, ⟨by (with_reducible repeat (first | refine ay ?_ _ | refine aC ?_ | refine az ?_ _)); exact bI.out⟩, ⟨by repeat (first | (with_reducible first | exact HB.out | apply au | apply af | apply ak | refine aG ?_ ny.out) | exact HB.out)⟩⟩
             · rw [if_neg c38] at H
               exact absurd H (by simp)
           · rw [if_neg c37] at H
             exact absurd H (by simp)
         · rw [if_neg c35] at H
           have abG : decide (xH < aQ) = false := decide_eq_false c35
           clear c35
           obtain rfl := Option.some.inj H
           go_wp2
           go_ret
           exact ⟨by first | rfl | (simp [aU, aT] <;> rfl) | (simp [*, aU, aT] <;> rfl), by repeat (first | (with_reducible first | exact HB.out | apply au | apply af | apply ak | refine aG ?_ ny.out) | exact HB.out)⟩
end Go.Proofs.Ytninmcmajbfccaa.PR

