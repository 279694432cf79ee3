import Derived.Test.YtninmcmajbfccaaY7
import Derived.Test.YtninmcmajbfccaaY10
/- Joined and thinned by a program of this session's own (wip/pack2.py) out of its texts (wip/ of its repo); parts were laid by its own program (wip/print-patch.py over the kit's print) out of the translation; Lean checks all. -/
set_option maxRecDepth 100000
set_option maxHeartbeats 8000000
namespace Go.Proofs.Ytninmcmajbfccaa.PR
open Go.RowKit Go.Proofs.Ytninmcmajbfccaa.PQ Go.Proofs.aH.bK Go.Proofs.aH.dG Go.Proofs.aH.dJ
attribute [local go_sem] jS jQ kT kS ji jh jR jP
set_option linter.unusedVariables false
set_option linter.unusedSimpArgs false
def gZ.f (k : Nat) (l0 : List Int) (l1 : List Int) : Option (Int × Int × List Int × Int × Int × List Int × Int) := (o8.f l1).bind fun uO => ((lJ.f l0).bind fun t119 => (if uO.2.2.2 = 0 then ((bu.f k (l0.length : Int) 1 t119 uO.1 uO.2.1 uO.2.2.1).bind fun t123 => (if t123 = true then (some ((l0.length : Int), 1, t119, uO.1, uO.2.1, uO.2.2.1, 0)) else (some (0, 0, ([] : List Int), 0, 0, ([] : List Int), 1)))) else (some (0, 0, ([] : List Int), 0, 0, ([] : List Int), 1))))
def gZ.T2 : Bool × List (List Nat × List Nat) := (true, [([], []), ([0], [0]), ([], []), ([2], [2]), ([1, 3], [1, 3]), ([], []), ([4, 5], [4, 5]), ([], []), ([7, 6, 3, 0, 1, 2, 3, 4, 5, 6, 7], [6, 7])])
def gZ.B2 : List Nat := [0, 1, 0, 4, 15, 0, 63, 0, 255]
theorem gZ.GY : qy .any (opsOf Try.f12 2) = gZ.T2 := by kernel_rfl
theorem gZ.zW : pM gZ.T2.2 gZ.B2 = true := by kernel_rfl
theorem gZ.calls (k : Nat) (A0 : Option Addr) (c0 : Nat) (l0 : List Int) (A1 : Option Addr) (c1 : Nat) (l1 : List Int) (r1 : Int) (r2 : Int) (r3 : List Int) (r4 : Int) (r5 : Int) (r6 : List Int) (r7 : Int) (w : World) (hr0 : Kd.C (Kd.int .i64) w A0 l0.length l0) (hc0 : l0.length ≤ c0) (hr1 : Kd.C (Kd.int .i64) w A1 l1.length l1) (hc1 : l1.length ≤ c1) (h : gZ.f k l0 l1 = some (r1, r2, r3, r4, r5, r6, r7)) :
 Calls Try.prog 12 #[.slice A0 l0.length c0, .slice A1 l1.length c1] w fun e w' => ∃ wX YQ : Value, e = .returned (.tuple #[.agg #[.int .i64 r1, .int .i64 r2, wX, .int .i64 r4, .int .i64 r5, YQ], .int .i64 r7]) ∧ Kd.R (Kd.int .i64) 22 w' w.heap.size (fun k_ => some k_ ≠ (YQ : Value).ownBlock) wX r3 ∧ Kd.R (Kd.int .i64) 22 w' w.heap.size (fun k_ => some k_ ≠ (wX : Value).ownBlock) YQ r6 ∧ Below w.heap.size w w' := by
 have Q7 := Try.underlying28
 have yz := Try.underlying26
 have HR0 := ah.mk hr0
 have XX := ah.mk hc0
 clear hr0 hc0
 have HR1 := ah.mk hr1
 have HC1 := ah.mk hc1
 clear hr1 hc1
 have HB := ah.mk (Below.refl w.heap.size w)
 have H : ((o8.f l1).bind fun uO => ((lJ.f l0).bind fun t119 => (if uO.2.2.2 = 0 then ((bu.f k (l0.length : Int) 1 t119 uO.1 uO.2.1 uO.2.2.1).bind fun t123 => (if t123 = true then (some ((l0.length : Int), 1, t119, uO.1, uO.2.1, uO.2.2.1, 0)) else (some (0, 0, ([] : List Int), 0, 0, ([] : List Int), 1)))) else (some (0, 0, ([] : List Int), 0, 0, ([] : List Int), 1))))) = some (r1, r2, r3, r4, r5, r6, r7) := h
 clear h
 replace H := Option.bind_eq_some_iff.mp H
 obtain ⟨⟨t112, t113, t114, t117⟩, xU, H⟩ := H
 replace H : ((lJ.f l0).bind fun t119 => (if t117 = 0 then ((bu.f k (l0.length : Int) 1 t119 t112 t113 t114).bind fun t123 => (if t123 = true then (some ((l0.length : Int), 1, t119, t112, t113, t114, 0)) else (some (0, 0, ([] : List Int), 0, 0, ([] : List Int), 1)))) else (some (0, 0, ([] : List Int), 0, 0, ([] : List Int), 1)))) = some (r1, r2, r3, r4, r5, r6, r7) := H
 have A3 := ah.mk xU
 clear xU
 replace H := Option.bind_eq_some_iff.mp H
 obtain ⟨t119, IE, H⟩ := H
 replace H : (if t117 = 0 then ((bu.f k (l0.length : Int) 1 t119 t112 t113 t114).bind fun t123 => (if t123 = true then (some ((l0.length : Int), 1, t119, t112, t113, t114, 0)) else (some (0, 0, ([] : List Int), 0, 0, ([] : List Int), 1)))) else (some (0, 0, ([] : List Int), 0, 0, ([] : List Int), 1))) = some (r1, r2, r3, r4, r5, r6, r7) := H
 have A4 := ah.mk IE
 clear IE
 by_cases c5 : t117 = 0
 · rw [if_pos c5] at H
   have uT : (t117 == 0) = true := beq_iff_eq.mpr c5
   have ZA : (t117 != 0) = false := bne_eq_false_iff_eq.mpr c5
   clear c5
   replace H := Option.bind_eq_some_iff.mp H
   obtain ⟨t123, U1, H⟩ := H
   replace H : (if t123 = true then (some ((l0.length : Int), 1, t119, t112, t113, t114, 0)) else (some (0, 0, ([] : List Int), 0, 0, ([] : List Int), 1))) = some (r1, r2, r3, r4, r5, r6, r7) := H
   have A6 := ah.mk U1
   clear U1
   by_cases c7 : t123 = true
   · subst c7
     rw [if_pos rfl] at H
     simp only [Option.some.injEq, Prod.mk.injEq] at H
     obtain ⟨rfl, rfl, rfl, rfl, rfl, rfl, rfl⟩ := H
     go_enter Try.func12, Try.ntmps12
     try go_wp2_with (first | ((with_reducible refine dY (N := 4) rfl ?_); refine dH ?hg (N := 4) ?hd (cs := #[.int .i64 0, .int .i64 0, .slice none 0 0, .int .i64 0, .int .i64 0, .slice none 0 0]) (t := 28) ?hr ?_; (case hd => rfl); (case hg => rfl); (case hr => first | (go_simp; done) | (go_simp; rfl)); intro dR hg w8 hbox hb; have bT := ah.mk (aI (by repeat (first | (with_reducible first | exact HB.out | apply au | apply af | apply ak) | exact HB.out)) hb); have dD := ah.mk (hbox); have dQ := ah.mk ((by rw [hg]; exact (aW (by repeat (first | (with_reducible first | exact HB.out | apply au | apply af | apply ak) | exact HB.out))) : w.heap.size ≤ dR)); have eH := ah.mk ((by rw [hg]; exact (aW (by repeat (first | (with_reducible first | exact HB.out | apply au | apply af | apply ak) | exact HB.out))) : w.heap.size ≤ dR)); clear HB; have HB := bT; have dn := dD; have YM := dQ; have gU := eH; clear bT dD dQ eH; clear hb hbox hg) | ((with_reducible refine aV (f := 30) rfl ?_); refine cZ (some 11) rfl rfl Try.func30 (by kernel_rfl) rfl #[.slice A1 l1.length c1] rfl (by (try simp only [List.map_toArray, List.map_cons, List.map_nil]); first | done | rfl | (simp only [List.length_drop, List.length_take]; rfl)) ?_; (with_reducible refine (o8.calls _ _ l1 t112 t113 t114 t117 _ ?eY ?eX A3.out).mono ?_); (case eY => repeat (first | exact (Kd.fB HR1.out HB.out) | (with_reducible refine Kd.fE ?_ _) | (with_reducible refine Kd.fD ?_ _) | (with_reducible refine Kd.gm ?_))); (case eX => exact HC1.out); rintro e w9 ⟨aaC, rfl, ho0, hb⟩; refine ⟨_, rfl, ?_⟩; have bT := ah.mk (Kd.jG ho0 (aW (by repeat (first | (with_reducible first | exact HB.out | apply au | apply af | apply ak | refine aG ?_ gU.out) | exact HB.out)))); have dD := ah.mk (bg (g := dR) (o := .cells #[.int .i64 0, .int .i64 0, .slice none 0 0, .int .i64 0, .int .i64 0, .slice none 0 0] 28 (0, 0)) (by (with_reducible repeat (first | refine ay ?_ _ | refine aC ?_ | refine az ?_ _)); exact dn.out) hb); have dQ := ah.mk (aI (by repeat (first | (with_reducible first | exact HB.out | apply au | apply af | apply ak | refine aG ?_ gU.out) | exact HB.out)) hb); clear dn; clear HB; have eG := bT; have dn := dD; have HB := dQ; clear bT dD dQ; (try clear hb); (try clear hb2); (try clear hk); (try clear hi); (try clear ho0)) | ((with_reducible refine dY (N := 6) rfl ?_); refine dH ?hg (N := 6) ?hd (cs := #[.int .i64 0, .int .i64 0, .slice none 0 0]) (t := 26) ?hr ?_; (case hd => rfl); (case hg => rfl); (case hr => first | (go_simp; done) | (go_simp; rfl)); intro bW hg w10 hbox hb; have bT := ah.mk (Kd.iO (by (with_reducible repeat (first | apply Kd.bZ | apply Kd.bY | apply Kd.dA)); exact eG.out) hb); have dD := ah.mk (bg (g := dR) (o := .cells #[.int .i64 0, .int .i64 0, .slice none 0 0, .int .i64 0, .int .i64 0, .slice none 0 0] 28 (0, 0)) (by (with_reducible repeat (first | refine ay ?_ _ | refine aC ?_ | refine az ?_ _)); exact dn.out) hb); have dQ := ah.mk (aI (by repeat (first | (with_reducible first | exact HB.out | apply au | apply af | apply ak | refine aG ?_ gU.out) | exact HB.out)) hb); have eH := ah.mk (hbox); have iw := ah.mk ((by rw [hg]; exact (aW (by repeat (first | (with_reducible first | exact HB.out | apply au | apply af | apply ak | refine aG ?_ gU.out) | exact HB.out))) : w.heap.size ≤ bW)); have iQ := ah.mk ((by rw [hg]; exact (aW (by repeat (first | (with_reducible first | exact HB.out | apply au | apply af | apply ak | refine aG ?_ gU.out) | exact HB.out))) : w.heap.size ≤ bW)); have jk := ah.mk ((by rw [hg]; exact Nat.ne_of_lt (dP (g := dR) (o := .cells #[.int .i64 0, .int .i64 0, .slice none 0 0, .int .i64 0, .int .i64 0, .slice none 0 0] 28 (0, 0)) (by (with_reducible repeat (first | refine ay ?_ _ | refine aC ?_ | refine az ?_ _)); exact dn.out)) : dR ≠ bW)); have mQ := ah.mk ((by rw [hg]; exact Nat.ne_of_gt (dP (g := dR) (o := .cells #[.int .i64 0, .int .i64 0, .slice none 0 0, .int .i64 0, .int .i64 0, .slice none 0 0] 28 (0, 0)) (by (with_reducible repeat (first | refine ay ?_ _ | refine aC ?_ | refine az ?_ _)); exact dn.out)) : bW ≠ dR)); clear eG; clear dn; clear HB; have eG := bT; have dn := dD; have HB := dQ; have b_ := eH; have UQ := iw; have iJ := iQ; have kF := jk; have wV := mQ; clear bT dD dQ eH iw iQ jk mQ; clear hb hbox hg; have Ph := wV.out; have Pe := kF.out; have nN : w10.cell? ⟨bW, 0, none⟩ = some (.int .i64 0) := (aj b_.out 0).trans rfl; have nM : w10.cell? ⟨bW, 1, none⟩ = some (.int .i64 0) := (aj b_.out 1).trans rfl; have nK : w10.cell? ⟨bW, 2, none⟩ = some (.slice none 0 0) := (aj b_.out 2).trans rfl; have nJ := aA b_.out 0; have nI := aA b_.out 1; have nH := aA b_.out 2; obtain ⟨mP, mD, Zp⟩ := Kd.iq eG.out; subst Zp))
     have bT : ah (Kd.R (Kd.int .i64) 22 (((w10.setCell ⟨bW, 0, none⟩ (.int .i64 t112)).setCell ⟨bW, 1, none⟩ (.int .i64 t113)).setCell ⟨bW, 2, none⟩ (.slice mP t114.length mD)) w.heap.size (fun _ => True) (.slice mP t114.length mD) t114) := ⟨by (with_reducible repeat (first | apply Kd.bZ | apply Kd.bY | apply Kd.dA)); exact Kd.fQ (Kd.dM (p := ⟨bW, 2, none⟩) (Kd.dM (p := ⟨bW, 1, none⟩) (Kd.dM (p := ⟨bW, 0, none⟩) (Kd.iM eG.out b_.out (by decide)) (fun _ hk => hk.2) (.int .i64 t112)) (fun _ hk => hk.2) (.int .i64 t113)) (fun _ hk => hk.2) (.slice mP t114.length mD)) (fun _ hk => trivial)⟩
     have dD : ah ((((w10.setCell ⟨bW, 0, none⟩ (.int .i64 t112)).setCell ⟨bW, 1, none⟩ (.int .i64 t113)).setCell ⟨bW, 2, none⟩ (.slice mP t114.length mD)).heap[dR]? = some (.cells #[.int .i64 0, .int .i64 0, .slice none 0 0, .int .i64 0, .int .i64 0, .slice none 0 0] 28 (0, 0))) := ⟨by (with_reducible repeat (first | refine ay ?_ _ | refine aC ?_ | refine az ?_ _)); refine dL ?_ kF.out _; (with_reducible repeat (first | refine ay ?_ _ | refine aC ?_ | refine az ?_ _)); refine dL ?_ kF.out _; (with_reducible repeat (first | refine ay ?_ _ | refine aC ?_ | refine az ?_ _)); refine dL ?_ kF.out _; (with_reducible repeat (first | refine ay ?_ _ | refine aC ?_ | refine az ?_ _)); exact dn.out⟩
     have dQ : ah ((((w10.setCell ⟨bW, 0, none⟩ (.int .i64 t112)).setCell ⟨bW, 1, none⟩ (.int .i64 t113)).setCell ⟨bW, 2, none⟩ (.slice mP t114.length mD)).heap[bW]? = some (.cells #[.int .i64 t112, .int .i64 t113, .slice mP t114.length mD] 26 (0, 0))) := ⟨by (with_reducible repeat (first | refine ay ?_ _ | refine aC ?_ | refine az ?_ _)); refine bQ (cs := #[.int .i64 t112, .int .i64 t113, .slice none 0 0]) ?_ 2 _ rfl; (with_reducible repeat (first | refine ay ?_ _ | refine aC ?_ | refine az ?_ _)); refine bQ (cs := #[.int .i64 t112, .int .i64 0, .slice none 0 0]) ?_ 1 _ rfl; (with_reducible repeat (first | refine ay ?_ _ | refine aC ?_ | refine az ?_ _)); refine bQ (cs := #[.int .i64 0, .int .i64 0, .slice none 0 0]) ?_ 0 _ rfl; (with_reducible repeat (first | refine ay ?_ _ | refine aC ?_ | refine az ?_ _)); exact b_.out⟩
     have eH : ah (Below w.heap.size w (((w10.setCell ⟨bW, 0, none⟩ (.int .i64 t112)).setCell ⟨bW, 1, none⟩ (.int .i64 t113)).setCell ⟨bW, 2, none⟩ (.slice mP t114.length mD))) := ⟨by repeat (first | (with_reducible first | exact HB.out | apply au | apply af | apply ak | refine aG ?_ gU.out | refine aG ?_ iJ.out) | exact HB.out)⟩
     (try clear eG)
     (try clear dn)
     (try clear b_)
     (try clear HB)
     generalize (((w10.setCell ⟨bW, 0, none⟩ (.int .i64 t112)).setCell ⟨bW, 1, none⟩ (.int .i64 t113)).setCell ⟨bW, 2, none⟩ (.slice mP t114.length mD)) = U6 at bT dD dQ eH ⊢
     have eG := bT
     have dn := dD
     have b_ := dQ
     have HB := eH
     clear bT dD dQ eH
     have bT := ah.mk (Kd.dA eG.out)
     have dD := ah.mk (aC dn.out)
     have dQ := ah.mk (aC b_.out)
     have eH := ah.mk (ak HB.out)
     clear eG
     clear dn
     clear b_
     clear HB
     have eG := bT
     have dn := dD
     have b_ := dQ
     have HB := eH
     clear bT dD dQ eH
     refine oV (n := 9) (S := fun w' => w'.cell? ⟨bW, 0, none⟩ = some (.int .i64 t112) ∧ w'.cell? ⟨bW, 1, none⟩ = some (.int .i64 t113) ∧ w'.cell? ⟨bW, 2, none⟩ = some (.slice mP t114.length mD)) (ds := []) #[false, false, false, false, false, false, false, false, false] (by kernel_rfl) rfl rfl ⟨(aj b_.out 0).trans rfl, (aj b_.out 1).trans rfl, (aj b_.out 2).trans rfl⟩ (fun hHeld => ?_); refine jJ gZ.GY gZ.zW (fun dF pI => ?_)
     generalize U6.drew = w15 at eG dn b_ HB hHeld ⊢
     refine bf (i := 0) (N := some 14) (v := ?_) (a' := ?_) #[true, false, false, false, false, false, false, false, false] rfl rfl (aN dF.out (by kernel_rfl)) (fun _ _ _ h => h) (Or.inl ⟨by rfl, ?_⟩) ?_ ?_
     rotate_left
     · intro w'
       go_simp
       with_reducible rfl
     rotate_left
     · simp only [Act.put, List.setIfInBounds_toArray, List.set_cons_zero, List.set_cons_succ, aJ, aK]
       rfl
     refine bf (i := 1) (N := some 15) (v := ?_) (a' := ?_) #[true, true, false, false, false, false, false, false, false] rfl rfl (aN dF.out (by kernel_rfl)) (fun _ _ _ h => h) (Or.inl ⟨by rfl, ?_⟩) ?_ ?_
     rotate_left
     · intro w'
       go_simp
       with_reducible rfl
     rotate_left
     · simp only [Act.put, List.setIfInBounds_toArray, List.set_cons_zero, List.set_cons_succ, aJ, aK]
       rfl
     refine bf (i := 2) (N := some 16) (v := ?_) (a' := ?_) #[true, true, true, false, false, false, false, false, false] rfl rfl (aN dF.out (by kernel_rfl)) (fun _ _ _ h => h) (Or.inl ⟨by rfl, ?_⟩) ?_ ?_
     rotate_left
     · intro w'
       go_simp
       with_reducible rfl
     rotate_left
     · simp only [Act.put, List.setIfInBounds_toArray, List.set_cons_zero, List.set_cons_succ, aJ, aK]
       rfl
     refine iP (i := 5) (N := some 19) (v := ?_) (a' := ?_) #[true, true, true, false, false, true, false, false, false] rfl rfl (eF dF.out pI.out (by kernel_rfl)) (fun _ _ _ h => h) (Or.inl ⟨by rfl, ?_⟩) hHeld ?_ ?_
     rotate_left
     · rintro w' ⟨s0, s1, s2⟩
       go_simp
       with_reducible rfl
     rotate_left
     · simp only [Act.put, List.setIfInBounds_toArray, List.set_cons_zero, List.set_cons_succ, aJ, aK]
       rfl
     refine TD (σ := Value × Nat) 1 #[true, true, true, true, true, true, true, true, false] (fun s_ => [(17, s_.1), (8, .pointer (some ⟨s_.2, 0, none⟩)), (18, .agg #[.int .i64 (l0.length : Int), .int .i64 1, s_.1]), (20, .agg #[.int .i64 (l0.length : Int), .int .i64 1, s_.1, .int .i64 t112, .int .i64 t113, .slice mP t114.length mD])]) (fun s_ w' => (w'.cell? ⟨bW, 0, none⟩ = some (.int .i64 t112) ∧ w'.cell? ⟨bW, 1, none⟩ = some (.int .i64 t113) ∧ w'.cell? ⟨bW, 2, none⟩ = some (.slice mP t114.length mD)) ∧ (Kd.R (Kd.int .i64) 22 w' w.heap.size (fun k_ => some k_ ≠ (s_.1 : Value).ownBlock) (.slice mP t114.length mD) t114) ∧ (Kd.R (Kd.int .i64) 22 w' w.heap.size (fun k_ => some k_ ≠ (.slice mP t114.length mD : Value).ownBlock) s_.1 t119) ∧ (w'.heap[dR]? = some (.cells #[.int .i64 0, .int .i64 0, .slice none 0 0, .int .i64 0, .int .i64 0, .slice none 0 0] 28 (0, 0))) ∧ (w'.heap[bW]? = some (.cells #[.int .i64 t112, .int .i64 t113, .slice mP t114.length mD] 26 (0, 0))) ∧ (w'.heap[s_.2]? = some (.cells #[.int .i64 0, .int .i64 0, .slice none 0 0, .int .i64 0, .int .i64 0, .slice none 0 0] 28 (0, 0))) ∧ (w.heap.size ≤ s_.2) ∧ (w.heap.size ≤ s_.2) ∧ (dR ≠ s_.2) ∧ (s_.2 ≠ dR) ∧ (bW ≠ s_.2) ∧ (s_.2 ≠ bW) ∧ (Below w.heap.size w w')) ?_ ?_
     rotate_left
     · intro DJ
       refine YS (i := 3) (j := 7) (Ni := some 17) (Nj := some 8) #[true, true, true, true, false, true, false, false, false] #[true, true, true, false, false, true, false, true, false] rfl rfl rfl rfl (MR dF.out (by kernel_rfl)) (by decide) (by decide) (fun K hK => ?_) (fun K hK => ?_)
       · skip
         refine kU Try.func31 (by kernel_rfl) rfl #[.slice A0 l0.length c0] (by rfl) rfl rfl (by (try simp only [List.map_toArray, List.map_cons, List.map_nil]); first | done | rfl | (simp only [List.length_drop, List.length_take]; rfl)) ?_
         with_reducible refine (lJ.calls _ _ l0 t119 _ ?eY ?eX A4.out).mono ?_
         (case eY => repeat (first | exact (Kd.fB HR0.out HB.out) | (with_reducible refine Kd.fE ?_ _) | (with_reducible refine Kd.fD ?_ _) | (with_reducible refine Kd.gm ?_)))
         (case eX => exact XX.out)
         rintro e w16 ⟨AV, rfl, ho0, hb⟩
         refine ⟨_, rfl, ?_⟩
         have bT := ah.mk (Kd.pG (by (with_reducible repeat (first | apply Kd.bZ | apply Kd.bY | apply Kd.dA)); exact eG.out) (Kd.qK ho0) hb)
         have dD := ah.mk (Kd.jG (Kd.wE ho0 (Kd.Dc (by (with_reducible repeat (first | apply Kd.bZ | apply Kd.bY | apply Kd.dA)); exact eG.out))) (aW (by repeat (first | (with_reducible first | exact HB.out | apply au | apply af | apply ak | refine aG ?_ gU.out | refine aG ?_ iJ.out) | exact HB.out))))
         have dQ := ah.mk (bg (g := dR) (o := .cells #[.int .i64 0, .int .i64 0, .slice none 0 0, .int .i64 0, .int .i64 0, .slice none 0 0] 28 (0, 0)) (by (with_reducible repeat (first | refine ay ?_ _ | refine aC ?_ | refine az ?_ _)); exact dn.out) hb)
         have eH := ah.mk (bg (g := bW) (o := .cells #[.int .i64 t112, .int .i64 t113, .slice mP t114.length mD] 26 (0, 0)) (by (with_reducible repeat (first | refine ay ?_ _ | refine aC ?_ | refine az ?_ _)); exact b_.out) hb)
         have iw := ah.mk (aI (by repeat (first | (with_reducible first | exact HB.out | apply au | apply af | apply ak | refine aG ?_ gU.out | refine aG ?_ iJ.out) | exact HB.out)) hb)
         clear eG
         clear dn
         clear b_
         clear HB
         have eG := bT
         have jq := dD
         have dn := dQ
         have b_ := eH
         have HB := iw
         clear bT dD dQ eH iw
         (try clear hb)
         (try clear hb2)
         (try clear hk)
         (try clear hi)
         (try clear ho0)
         obtain ⟨UY, Uo, T_⟩ := Kd.iq jq.out
         (first | subst T_ | (injection T_ with tH zN tC; have zM := tH.symm; have zL := tC.symm; clear tH zN tC; subst zM; subst zL))
         refine hK.out _ _ ⟨(aj b_.out 0).trans rfl, (aj b_.out 1).trans rfl, (aj b_.out 2).trans rfl⟩ (fun hHeld => ?_)
         clear hK K
         refine iV (a' := ?_) ?_ ?_
         rotate_left
         · show Act.put _ (some 17) _ = _
           simp only [Act.put, List.setIfInBounds_toArray, List.set_cons_zero, List.set_cons_succ, aJ, aK]
           rfl
         refine bf (i := 4) (N := some 18) (v := ?_) (a' := ?_) #[true, true, true, true, true, true, false, false, false] rfl rfl (aN dF.out (by kernel_rfl)) (fun _ _ _ h => h) (Or.inl ⟨by rfl, ?_⟩) ?_ ?_
         rotate_left
         · intro w'
           go_simp
           with_reducible rfl
         rotate_left
         · simp only [Act.put, List.setIfInBounds_toArray, List.set_cons_zero, List.set_cons_succ, aJ, aK]
           rfl
         refine bf (i := 6) (N := some 20) (v := ?_) (a' := ?_) #[true, true, true, true, true, true, true, false, false] rfl rfl (aN dF.out (by kernel_rfl)) (fun _ _ _ h => h) (Or.inl ⟨by rfl, ?_⟩) ?_ ?_
         rotate_left
         · intro w'
           go_simp
           with_reducible rfl
         rotate_left
         · simp only [Act.put, List.setIfInBounds_toArray, List.set_cons_zero, List.set_cons_succ, aJ, aK]
           rfl
         refine nC (i := 7) (N := some 8) #[true, true, true, true, true, true, true, true, false] rfl rfl (iF dF.out (by kernel_rfl)) (by decide) (fun K hK => ?_)
         refine wL ?hg (N := 8) ?hd (cs := #[.int .i64 0, .int .i64 0, .slice none 0 0, .int .i64 0, .int .i64 0, .slice none 0 0]) (t := 28) ?hr ?_; (case hd => rfl); (case hg => rfl); (case hr => first | (go_simp; done) | (go_simp; rfl))
         intro bM hg w18 hbox hb
         have bT := ah.mk (Kd.iO (by (with_reducible repeat (first | apply Kd.bZ | apply Kd.bY | apply Kd.dA)); exact eG.out) hb)
         have dD := ah.mk (Kd.iO (by (with_reducible repeat (first | apply Kd.bZ | apply Kd.bY | apply Kd.dA)); exact jq.out) hb)
         have dQ := ah.mk (bg (g := dR) (o := .cells #[.int .i64 0, .int .i64 0, .slice none 0 0, .int .i64 0, .int .i64 0, .slice none 0 0] 28 (0, 0)) (by (with_reducible repeat (first | refine ay ?_ _ | refine aC ?_ | refine az ?_ _)); exact dn.out) hb)
         have eH := ah.mk (bg (g := bW) (o := .cells #[.int .i64 t112, .int .i64 t113, .slice mP t114.length mD] 26 (0, 0)) (by (with_reducible repeat (first | refine ay ?_ _ | refine aC ?_ | refine az ?_ _)); exact b_.out) hb)
         have iw := ah.mk (aI (by repeat (first | (with_reducible first | exact HB.out | apply au | apply af | apply ak | refine aG ?_ gU.out | refine aG ?_ iJ.out) | exact HB.out)) hb)
         have iQ := ah.mk (hbox)
         have jk := ah.mk ((by rw [hg]; exact (aW (by repeat (first | (with_reducible first | exact HB.out | apply au | apply af | apply ak | refine aG ?_ gU.out | refine aG ?_ iJ.out) | exact HB.out))) : w.heap.size ≤ bM))
         have mQ := ah.mk ((by rw [hg]; exact (aW (by repeat (first | (with_reducible first | exact HB.out | apply au | apply af | apply ak | refine aG ?_ gU.out | refine aG ?_ iJ.out) | exact HB.out))) : w.heap.size ≤ bM))
         have qA := ah.mk ((by rw [hg]; exact Nat.ne_of_lt (dP (g := dR) (o := .cells #[.int .i64 0, .int .i64 0, .slice none 0 0, .int .i64 0, .int .i64 0, .slice none 0 0] 28 (0, 0)) (by (with_reducible repeat (first | refine ay ?_ _ | refine aC ?_ | refine az ?_ _)); exact dn.out)) : dR ≠ bM))
         have uD := ah.mk ((by rw [hg]; exact Nat.ne_of_gt (dP (g := dR) (o := .cells #[.int .i64 0, .int .i64 0, .slice none 0 0, .int .i64 0, .int .i64 0, .slice none 0 0] 28 (0, 0)) (by (with_reducible repeat (first | refine ay ?_ _ | refine aC ?_ | refine az ?_ _)); exact dn.out)) : bM ≠ dR))
         have kP := ah.mk ((by rw [hg]; exact Nat.ne_of_lt (dP (g := bW) (o := .cells #[.int .i64 t112, .int .i64 t113, .slice mP t114.length mD] 26 (0, 0)) (by (with_reducible repeat (first | refine ay ?_ _ | refine aC ?_ | refine az ?_ _)); exact b_.out)) : bW ≠ bM))
         have rU := ah.mk ((by rw [hg]; exact Nat.ne_of_gt (dP (g := bW) (o := .cells #[.int .i64 t112, .int .i64 t113, .slice mP t114.length mD] 26 (0, 0)) (by (with_reducible repeat (first | refine ay ?_ _ | refine aC ?_ | refine az ?_ _)); exact b_.out)) : bM ≠ bW))
         clear eG
         clear jq
         clear dn
         clear b_
         clear HB
         have eG := bT
         have jq := dD
         have dn := dQ
         have b_ := eH
         have HB := iw
         have d_ := iQ
         have vY := jk
         have kR := mQ
         have dN := qA
         have fO := uD
         have bD := kP
         have fP := rU
         clear bT dD dQ eH iw iQ jk mQ qA uD kP rU
         clear hb hbox hg
         refine hK.out _ _ ⟨(aj b_.out 0).trans rfl, (aj b_.out 1).trans rfl, (aj b_.out 2).trans rfl⟩ (fun hHeld => ?_)
         clear hK K
         refine iV (a' := ?_) ?_ ?_
         rotate_left
         · show Act.put _ (some 8) _ = _
           simp only [Act.put, List.setIfInBounds_toArray, List.set_cons_zero, List.set_cons_succ, aJ, aK]
           rfl
         exact iV (by simp only [sN, Act.put, List.setIfInBounds_toArray, List.set_cons_zero, List.set_cons_succ]) (DJ (.slice UY t119.length Uo, bM) _ ⟨hHeld, (by (with_reducible repeat (first | apply Kd.bZ | apply Kd.bY | apply Kd.dA)); exact Kd.fQ eG.out (fun _ hk => hk.2)), (by (with_reducible repeat (first | apply Kd.bZ | apply Kd.bY | apply Kd.dA)); exact Kd.fQ jq.out (fun _ hk => hk.2)), (by (with_reducible repeat (first | refine ay ?_ _ | refine aC ?_ | refine az ?_ _)); exact dn.out), (by (with_reducible repeat (first | refine ay ?_ _ | refine aC ?_ | refine az ?_ _)); exact b_.out), (by (with_reducible repeat (first | refine ay ?_ _ | refine aC ?_ | refine az ?_ _)); exact d_.out), vY.out, kR.out, dN.out, fO.out, bD.out, fP.out, (by repeat (first | (with_reducible first | exact HB.out | apply au | apply af | apply ak | refine aG ?_ gU.out | refine aG ?_ iJ.out | refine aG ?_ kR.out) | exact HB.out))⟩)
       · skip
         refine wL ?hg (N := 8) ?hd (cs := #[.int .i64 0, .int .i64 0, .slice none 0 0, .int .i64 0, .int .i64 0, .slice none 0 0]) (t := 28) ?hr ?_; (case hd => rfl); (case hg => rfl); (case hr => first | (go_simp; done) | (go_simp; rfl))
         intro bM hg w16 hbox hb
         have bT := ah.mk (Kd.iO (by (with_reducible repeat (first | apply Kd.bZ | apply Kd.bY | apply Kd.dA)); exact eG.out) hb)
         have dD := ah.mk (bg (g := dR) (o := .cells #[.int .i64 0, .int .i64 0, .slice none 0 0, .int .i64 0, .int .i64 0, .slice none 0 0] 28 (0, 0)) (by (with_reducible repeat (first | refine ay ?_ _ | refine aC ?_ | refine az ?_ _)); exact dn.out) hb)
         have dQ := ah.mk (bg (g := bW) (o := .cells #[.int .i64 t112, .int .i64 t113, .slice mP t114.length mD] 26 (0, 0)) (by (with_reducible repeat (first | refine ay ?_ _ | refine aC ?_ | refine az ?_ _)); exact b_.out) hb)
         have eH := ah.mk (aI (by repeat (first | (with_reducible first | exact HB.out | apply au | apply af | apply ak | refine aG ?_ gU.out | refine aG ?_ iJ.out) | exact HB.out)) hb)
         have iw := ah.mk (hbox)
         have iQ := ah.mk ((by rw [hg]; exact (aW (by repeat (first | (with_reducible first | exact HB.out | apply au | apply af | apply ak | refine aG ?_ gU.out | refine aG ?_ iJ.out) | exact HB.out))) : w.heap.size ≤ bM))
         have jk := ah.mk ((by rw [hg]; exact (aW (by repeat (first | (with_reducible first | exact HB.out | apply au | apply af | apply ak | refine aG ?_ gU.out | refine aG ?_ iJ.out) | exact HB.out))) : w.heap.size ≤ bM))
         have mQ := ah.mk ((by rw [hg]; exact Nat.ne_of_lt (dP (g := dR) (o := .cells #[.int .i64 0, .int .i64 0, .slice none 0 0, .int .i64 0, .int .i64 0, .slice none 0 0] 28 (0, 0)) (by (with_reducible repeat (first | refine ay ?_ _ | refine aC ?_ | refine az ?_ _)); exact dn.out)) : dR ≠ bM))
         have qA := ah.mk ((by rw [hg]; exact Nat.ne_of_gt (dP (g := dR) (o := .cells #[.int .i64 0, .int .i64 0, .slice none 0 0, .int .i64 0, .int .i64 0, .slice none 0 0] 28 (0, 0)) (by (with_reducible repeat (first | refine ay ?_ _ | refine aC ?_ | refine az ?_ _)); exact dn.out)) : bM ≠ dR))
         have uD := ah.mk ((by rw [hg]; exact Nat.ne_of_lt (dP (g := bW) (o := .cells #[.int .i64 t112, .int .i64 t113, .slice mP t114.length mD] 26 (0, 0)) (by (with_reducible repeat (first | refine ay ?_ _ | refine aC ?_ | refine az ?_ _)); exact b_.out)) : bW ≠ bM))
         have kP := ah.mk ((by rw [hg]; exact Nat.ne_of_gt (dP (g := bW) (o := .cells #[.int .i64 t112, .int .i64 t113, .slice mP t114.length mD] 26 (0, 0)) (by (with_reducible repeat (first | refine ay ?_ _ | refine aC ?_ | refine az ?_ _)); exact b_.out)) : bM ≠ bW))
         clear eG
         clear dn
         clear b_
         clear HB
         have eG := bT
         have dn := dD
         have b_ := dQ
         have HB := eH
         have d_ := iw
         have vY := iQ
         have kR := jk
         have dN := mQ
         have fO := qA
         have bD := uD
         have fP := kP
         clear bT dD dQ eH iw iQ jk mQ qA uD kP
         clear hb hbox hg
         refine hK.out _ _ ⟨(aj b_.out 0).trans rfl, (aj b_.out 1).trans rfl, (aj b_.out 2).trans rfl⟩ (fun hHeld => ?_)
         clear hK K
         refine iV (a' := ?_) ?_ ?_
         rotate_left
         · show Act.put _ (some 8) _ = _
           simp only [Act.put, List.setIfInBounds_toArray, List.set_cons_zero, List.set_cons_succ, aJ, aK]
           rfl
         refine nC (i := 3) (N := some 17) #[true, true, true, true, false, true, false, true, false] rfl rfl (iF dF.out (by kernel_rfl)) (by decide) (fun K hK => ?_)
         refine kU Try.func31 (by kernel_rfl) rfl #[.slice A0 l0.length c0] (by rfl) rfl rfl (by (try simp only [List.map_toArray, List.map_cons, List.map_nil]); first | done | rfl | (simp only [List.length_drop, List.length_take]; rfl)) ?_
         with_reducible refine (lJ.calls _ _ l0 t119 _ ?eY ?eX A4.out).mono ?_
         (case eY => repeat (first | exact (Kd.fB HR0.out HB.out) | (with_reducible refine Kd.fE ?_ _) | (with_reducible refine Kd.fD ?_ _) | (with_reducible refine Kd.gm ?_)))
         (case eX => exact XX.out)
         rintro e X9 ⟨AV, rfl, ho0, hb⟩
         refine ⟨_, rfl, ?_⟩
         have bT := ah.mk (Kd.pG (by (with_reducible repeat (first | apply Kd.bZ | apply Kd.bY | apply Kd.dA)); exact eG.out) (Kd.qK ho0) hb)
         have dD := ah.mk (Kd.jG (Kd.wE ho0 (Kd.Dc (by (with_reducible repeat (first | apply Kd.bZ | apply Kd.bY | apply Kd.dA)); exact eG.out))) (aW (by repeat (first | (with_reducible first | exact HB.out | apply au | apply af | apply ak | refine aG ?_ gU.out | refine aG ?_ iJ.out | refine aG ?_ kR.out) | exact HB.out))))
         have dQ := ah.mk (bg (g := dR) (o := .cells #[.int .i64 0, .int .i64 0, .slice none 0 0, .int .i64 0, .int .i64 0, .slice none 0 0] 28 (0, 0)) (by (with_reducible repeat (first | refine ay ?_ _ | refine aC ?_ | refine az ?_ _)); exact dn.out) hb)
         have eH := ah.mk (bg (g := bW) (o := .cells #[.int .i64 t112, .int .i64 t113, .slice mP t114.length mD] 26 (0, 0)) (by (with_reducible repeat (first | refine ay ?_ _ | refine aC ?_ | refine az ?_ _)); exact b_.out) hb)
         have iw := ah.mk (bg (g := bM) (o := .cells #[.int .i64 0, .int .i64 0, .slice none 0 0, .int .i64 0, .int .i64 0, .slice none 0 0] 28 (0, 0)) (by (with_reducible repeat (first | refine ay ?_ _ | refine aC ?_ | refine az ?_ _)); exact d_.out) hb)
         have iQ := ah.mk (aI (by repeat (first | (with_reducible first | exact HB.out | apply au | apply af | apply ak | refine aG ?_ gU.out | refine aG ?_ iJ.out | refine aG ?_ kR.out) | exact HB.out)) hb)
         clear eG
         clear dn
         clear b_
         clear d_
         clear HB
         have eG := bT
         have jq := dD
         have dn := dQ
         have b_ := eH
         have d_ := iw
         have HB := iQ
         clear bT dD dQ eH iw iQ
         (try clear hb)
         (try clear hb2)
         (try clear hk)
         (try clear hi)
         (try clear ho0)
         obtain ⟨OB, JL, Bv⟩ := Kd.iq jq.out
         (first | subst Bv | (injection Bv with tH zN tC; have zM := tH.symm; have zL := tC.symm; clear tH zN tC; subst zM; subst zL))
         refine hK.out _ _ ⟨(aj b_.out 0).trans rfl, (aj b_.out 1).trans rfl, (aj b_.out 2).trans rfl⟩ (fun hHeld => ?_)
         clear hK K
         refine iV (a' := ?_) ?_ ?_
         rotate_left
         · show Act.put _ (some 17) _ = _
           simp only [Act.put, List.setIfInBounds_toArray, List.set_cons_zero, List.set_cons_succ, aJ, aK]
           rfl
         refine bf (i := 4) (N := some 18) (v := ?_) (a' := ?_) #[true, true, true, true, true, true, false, true, false] rfl rfl (aN dF.out (by kernel_rfl)) (fun _ _ _ h => h) (Or.inl ⟨by rfl, ?_⟩) ?_ ?_
         rotate_left
         · intro w'
           go_simp
           with_reducible rfl
         rotate_left
         · simp only [Act.put, List.setIfInBounds_toArray, List.set_cons_zero, List.set_cons_succ, aJ, aK]
           rfl
         refine bf (i := 6) (N := some 20) (v := ?_) (a' := ?_) #[true, true, true, true, true, true, true, true, false] rfl rfl (aN dF.out (by kernel_rfl)) (fun _ _ _ h => h) (Or.inl ⟨by rfl, ?_⟩) ?_ ?_
         rotate_left
         · intro w'
           go_simp
           with_reducible rfl
         rotate_left
         · simp only [Act.put, List.setIfInBounds_toArray, List.set_cons_zero, List.set_cons_succ, aJ, aK]
           rfl
         exact iV (by simp only [sN, Act.put, List.setIfInBounds_toArray, List.set_cons_zero, List.set_cons_succ]) (DJ (.slice OB t119.length JL, bM) _ ⟨hHeld, (by (with_reducible repeat (first | apply Kd.bZ | apply Kd.bY | apply Kd.dA)); exact Kd.fQ eG.out (fun _ hk => hk.2)), (by (with_reducible repeat (first | apply Kd.bZ | apply Kd.bY | apply Kd.dA)); exact Kd.fQ jq.out (fun _ hk => hk.2)), (by (with_reducible repeat (first | refine ay ?_ _ | refine aC ?_ | refine az ?_ _)); exact dn.out), (by (with_reducible repeat (first | refine ay ?_ _ | refine aC ?_ | refine az ?_ _)); exact b_.out), (by (with_reducible repeat (first | refine ay ?_ _ | refine aC ?_ | refine az ?_ _)); exact d_.out), vY.out, kR.out, dN.out, fO.out, bD.out, fP.out, (by repeat (first | (with_reducible first | exact HB.out | apply au | apply af | apply ak | refine aG ?_ gU.out | refine aG ?_ iJ.out | refine aG ?_ kR.out) | exact HB.out))⟩)
     rintro ⟨AV, bM⟩ Eb ⟨hS_, Yt, Yr, Yq, Yp, Yo, Yn, Ym, Yl, Yk, Yj, Lt, Ls⟩
     have bT : ah (Kd.R (Kd.int .i64) 22 Eb w.heap.size (fun k_ => some k_ ≠ (AV : Value).ownBlock) (.slice mP t114.length mD) t114) := ⟨Yt⟩
     have dD : ah (Kd.R (Kd.int .i64) 22 Eb w.heap.size (fun k_ => some k_ ≠ (.slice mP t114.length mD : Value).ownBlock) AV t119) := ⟨Yr⟩
     have dQ : ah (Eb.heap[dR]? = some (.cells #[.int .i64 0, .int .i64 0, .slice none 0 0, .int .i64 0, .int .i64 0, .slice none 0 0] 28 (0, 0))) := ⟨Yq⟩
     have eH : ah (Eb.heap[bW]? = some (.cells #[.int .i64 t112, .int .i64 t113, .slice mP t114.length mD] 26 (0, 0))) := ⟨Yp⟩
     have iw : ah (Eb.heap[bM]? = some (.cells #[.int .i64 0, .int .i64 0, .slice none 0 0, .int .i64 0, .int .i64 0, .slice none 0 0] 28 (0, 0))) := ⟨Yo⟩
     have iQ : ah (w.heap.size ≤ bM) := ⟨Yn⟩
     have jk : ah (w.heap.size ≤ bM) := ⟨Ym⟩
     have mQ : ah (dR ≠ bM) := ⟨Yl⟩
     have qA : ah (bM ≠ dR) := ⟨Yk⟩
     have uD : ah (bW ≠ bM) := ⟨Yj⟩
     have kP : ah (bM ≠ bW) := ⟨Lt⟩
     have rU : ah (Below w.heap.size w Eb) := ⟨Ls⟩
     clear eG
     clear dn
     clear b_
     clear HB
     clear Yt Yr Yq Yp Yo Yn Ym Yl Yk Yj Lt Ls
     have eG := bT
     have jq := dD
     have dn := dQ
     have b_ := eH
     have d_ := iw
     have vY := iQ
     have kR := jk
     have dN := mQ
     have fO := qA
     have bD := uD
     have fP := kP
     have HB := rU
     clear bT dD dQ eH iw iQ jk mQ qA uD kP rU
     have hHeld : Eb.cell? ⟨bW, 0, none⟩ = some (.int .i64 t112) ∧ Eb.cell? ⟨bW, 1, none⟩ = some (.int .i64 t113) ∧ Eb.cell? ⟨bW, 2, none⟩ = some (.slice mP t114.length mD) := hS_
     obtain ⟨wF, uo, LG⟩ := Kd.iq jq.out
     (first | subst LG | (injection LG with tH zN tC; have zM := tH.symm; have zL := tC.symm; clear tH zN tC; subst zM; subst zL))
     refine iV (a' := ?_) ?_ ?_
     rotate_left
     · simp only [sN, Act.put, List.setIfInBounds_toArray, List.set_cons_zero, List.set_cons_succ]
       rfl
     refine nC (i := 8) (N := none) #[true, true, true, true, true, true, true, true, true] rfl rfl (iF dF.out (by kernel_rfl)) (by decide) (fun K hK => ?_)
     have anQ : Eb.cell? ⟨bM, 0, none⟩ = some (.int .i64 0) := (aj d_.out 0).trans rfl
     have alc := aA d_.out 0
     have aeg := dN.out
     have aef := bD.out
     have aeR := fO.out
     have aeQ := fP.out
     have ah4 : Eb.cell? ⟨bM, 1, none⟩ = some (.int .i64 0) := (aj d_.out 1).trans rfl
     have abg := aA d_.out 1
     have Vz := dN.out
     have Vy := bD.out
     have VH := fO.out
     have VG := fP.out
     have ah3 : Eb.cell? ⟨bM, 2, none⟩ = some (.slice none 0 0) := (aj d_.out 2).trans rfl
     have abf := aA d_.out 2
     have Vx := dN.out
     have Vw := bD.out
     have VF := fO.out
     have VE := fP.out
     have anP : Eb.cell? ⟨bM, 3, none⟩ = some (.int .i64 0) := (aj d_.out 3).trans rfl
     have alb := aA d_.out 3
     have aee := dN.out
     have aed := bD.out
     have aeP := fO.out
     have aeO := fP.out
     have ah2 : Eb.cell? ⟨bM, 4, none⟩ = some (.int .i64 0) := (aj d_.out 4).trans rfl
     have abe := aA d_.out 4
     have Vu := dN.out
     have Vt := bD.out
     have VD := fO.out
     have VC := fP.out
     have anO : Eb.cell? ⟨bM, 5, none⟩ = some (.slice none 0 0) := (aj d_.out 5).trans rfl
     have ala := aA d_.out 5
     have aec := dN.out
     have aeb := bD.out
     have aeN := fO.out
     have aeM := fP.out
     refine Du (w1 := ?_) (by rfl) rfl ?_ ?_
     rotate_left
     · go_simp
       rfl
     refine hK.out _ _ ⟨((cell_far (p := ⟨bM, _, none⟩) bD.out _).trans (((cell_far (p := ⟨bM, _, none⟩) bD.out _).trans (((cell_far (p := ⟨bM, _, none⟩) bD.out _).trans (((cell_far (p := ⟨bM, _, none⟩) bD.out _).trans (((cell_far (p := ⟨bM, _, none⟩) bD.out _).trans (((cell_far (p := ⟨bM, _, none⟩) bD.out _).trans (hHeld.1)))))))))))), ((cell_far (p := ⟨bM, _, none⟩) bD.out _).trans (((cell_far (p := ⟨bM, _, none⟩) bD.out _).trans (((cell_far (p := ⟨bM, _, none⟩) bD.out _).trans (((cell_far (p := ⟨bM, _, none⟩) bD.out _).trans (((cell_far (p := ⟨bM, _, none⟩) bD.out _).trans (((cell_far (p := ⟨bM, _, none⟩) bD.out _).trans (hHeld.2.1)))))))))))), ((cell_far (p := ⟨bM, _, none⟩) bD.out _).trans (((cell_far (p := ⟨bM, _, none⟩) bD.out _).trans (((cell_far (p := ⟨bM, _, none⟩) bD.out _).trans (((cell_far (p := ⟨bM, _, none⟩) bD.out _).trans (((cell_far (p := ⟨bM, _, none⟩) bD.out _).trans (((cell_far (p := ⟨bM, _, none⟩) bD.out _).trans (hHeld.2.2))))))))))))⟩ (fun hHeld => ?_)
     clear hK K
     refine tJ (lW dF.out (by kernel_rfl)) ?_
     have akF := fO.out
     have ako := dN.out
     have Yg := fP.out
     have Yd := bD.out
     have WW : Eb.cell? ⟨bM, 0, none⟩ = some (.int .i64 0) := (aj d_.out 0).trans rfl
     have WV : Eb.cell? ⟨bM, 1, none⟩ = some (.int .i64 0) := (aj d_.out 1).trans rfl
     have WU : Eb.cell? ⟨bM, 2, none⟩ = some (.slice none 0 0) := (aj d_.out 2).trans rfl
     have ahc : Eb.cell? ⟨bM, 3, none⟩ = some (.int .i64 0) := (aj d_.out 3).trans rfl
     have ahb : Eb.cell? ⟨bM, 4, none⟩ = some (.int .i64 0) := (aj d_.out 4).trans rfl
     have aha : Eb.cell? ⟨bM, 5, none⟩ = some (.slice none 0 0) := (aj d_.out 5).trans rfl
     have VX := aA d_.out 0
     have VW := aA d_.out 1
     have VV := aA d_.out 2
     have afV := aA d_.out 3
     have afU := aA d_.out 4
     have afT := aA d_.out 5
     try go_wp2_with (first | (go_at_call 18; (with_reducible refine (bu.calls k (l0.length : Int) 1 _ _ t119 t112 t113 _ _ t114 true _ ?eY ?eX ?lZ ?nU A6.out).mono ?_); (case eY => refine (Kd.jB (e := 22) (base := w.heap.size) (ok := fun k_ => some k_ ≠ (.slice mP t114.length mD : Value).ownBlock) (n := t119.length) (c := uo) ?_).2.2; exact (by (with_reducible repeat (first | apply Kd.bZ | apply Kd.bY | apply Kd.dA)); exact (Kd.fQ (Kd.dM (p := ⟨bM, 5, none⟩) (Kd.dM (p := ⟨bM, 4, none⟩) (Kd.dM (p := ⟨bM, 3, none⟩) (Kd.dM (p := ⟨bM, 2, none⟩) (Kd.dM (p := ⟨bM, 1, none⟩) (Kd.dM (p := ⟨bM, 0, none⟩) (Kd.iM jq.out d_.out (by decide)) (fun _ hk => hk.2) (.int .i64 (l0.length : Int))) (fun _ hk => hk.2) (.int .i64 1)) (fun _ hk => hk.2) (.slice wF t119.length uo)) (fun _ hk => hk.2) (.int .i64 t112)) (fun _ hk => hk.2) (.int .i64 t113)) (fun _ hk => hk.2) (.slice mP t114.length mD)) (fun _ h_ => h_.1)))); (case eX => exact (Kd.jB jq.out).2.1); (case lZ => refine (Kd.jB (e := 22) (base := w.heap.size) (ok := fun k_ => some k_ ≠ (.slice wF t119.length uo : Value).ownBlock) (n := t114.length) (c := mD) ?_).2.2; exact (by (with_reducible repeat (first | apply Kd.bZ | apply Kd.bY | apply Kd.dA)); exact (Kd.fQ (Kd.dM (p := ⟨bM, 5, none⟩) (Kd.dM (p := ⟨bM, 4, none⟩) (Kd.dM (p := ⟨bM, 3, none⟩) (Kd.dM (p := ⟨bM, 2, none⟩) (Kd.dM (p := ⟨bM, 1, none⟩) (Kd.dM (p := ⟨bM, 0, none⟩) (Kd.iM eG.out d_.out (by decide)) (fun _ hk => hk.2) (.int .i64 (l0.length : Int))) (fun _ hk => hk.2) (.int .i64 1)) (fun _ hk => hk.2) (.slice wF t119.length uo)) (fun _ hk => hk.2) (.int .i64 t112)) (fun _ hk => hk.2) (.int .i64 t113)) (fun _ hk => hk.2) (.slice mP t114.length mD)) (fun _ h_ => h_.1)))); (case nU => exact (Kd.jB eG.out).2.1); rintro e MP ⟨rfl, hb⟩; have bT := ah.mk (Kd.iO (by (with_reducible repeat (first | apply Kd.bZ | apply Kd.bY | apply Kd.dA)); exact (Kd.fQ (Kd.dM (p := ⟨bM, 5, none⟩) (Kd.dM (p := ⟨bM, 4, none⟩) (Kd.dM (p := ⟨bM, 3, none⟩) (Kd.dM (p := ⟨bM, 2, none⟩) (Kd.dM (p := ⟨bM, 1, none⟩) (Kd.dM (p := ⟨bM, 0, none⟩) (Kd.iM eG.out d_.out (by decide)) (fun _ hk => hk.2) (.int .i64 (l0.length : Int))) (fun _ hk => hk.2) (.int .i64 1)) (fun _ hk => hk.2) (.slice wF t119.length uo)) (fun _ hk => hk.2) (.int .i64 t112)) (fun _ hk => hk.2) (.int .i64 t113)) (fun _ hk => hk.2) (.slice mP t114.length mD)) (fun _ h_ => h_.1))) hb); have dD := ah.mk (Kd.iO (by (with_reducible repeat (first | apply Kd.bZ | apply Kd.bY | apply Kd.dA)); exact (Kd.fQ (Kd.dM (p := ⟨bM, 5, none⟩) (Kd.dM (p := ⟨bM, 4, none⟩) (Kd.dM (p := ⟨bM, 3, none⟩) (Kd.dM (p := ⟨bM, 2, none⟩) (Kd.dM (p := ⟨bM, 1, none⟩) (Kd.dM (p := ⟨bM, 0, none⟩) (Kd.iM jq.out d_.out (by decide)) (fun _ hk => hk.2) (.int .i64 (l0.length : Int))) (fun _ hk => hk.2) (.int .i64 1)) (fun _ hk => hk.2) (.slice wF t119.length uo)) (fun _ hk => hk.2) (.int .i64 t112)) (fun _ hk => hk.2) (.int .i64 t113)) (fun _ hk => hk.2) (.slice mP t114.length mD)) (fun _ h_ => h_.1))) hb); have dQ := ah.mk (bg (g := dR) (o := .cells #[.int .i64 0, .int .i64 0, .slice none 0 0, .int .i64 0, .int .i64 0, .slice none 0 0] 28 (0, 0)) (by (with_reducible repeat (first | refine ay ?_ _ | refine aC ?_ | refine az ?_ _)); refine dL ?_ dN.out _; (with_reducible repeat (first | refine ay ?_ _ | refine aC ?_ | refine az ?_ _)); refine dL ?_ dN.out _; (with_reducible repeat (first | refine ay ?_ _ | refine aC ?_ | refine az ?_ _)); refine dL ?_ dN.out _; (with_reducible repeat (first | refine ay ?_ _ | refine aC ?_ | refine az ?_ _)); refine dL ?_ dN.out _; (with_reducible repeat (first | refine ay ?_ _ | refine aC ?_ | refine az ?_ _)); refine dL ?_ dN.out _; (with_reducible repeat (first | refine ay ?_ _ | refine aC ?_ | refine az ?_ _)); refine dL ?_ dN.out _; (with_reducible repeat (first | refine ay ?_ _ | refine aC ?_ | refine az ?_ _)); exact dn.out) hb); have eH := ah.mk (bg (g := bW) (o := .cells #[.int .i64 t112, .int .i64 t113, .slice mP t114.length mD] 26 (0, 0)) (by (with_reducible repeat (first | refine ay ?_ _ | refine aC ?_ | refine az ?_ _)); refine dL ?_ bD.out _; (with_reducible repeat (first | refine ay ?_ _ | refine aC ?_ | refine az ?_ _)); refine dL ?_ bD.out _; (with_reducible repeat (first | refine ay ?_ _ | refine aC ?_ | refine az ?_ _)); refine dL ?_ bD.out _; (with_reducible repeat (first | refine ay ?_ _ | refine aC ?_ | refine az ?_ _)); refine dL ?_ bD.out _; (with_reducible repeat (first | refine ay ?_ _ | refine aC ?_ | refine az ?_ _)); refine dL ?_ bD.out _; (with_reducible repeat (first | refine ay ?_ _ | refine aC ?_ | refine az ?_ _)); refine dL ?_ bD.out _; (with_reducible repeat (first | refine ay ?_ _ | refine aC ?_ | refine az ?_ _)); exact b_.out) hb); have iw := ah.mk (bg (g := bM) (o := .cells #[.int .i64 (l0.length : Int), .int .i64 1, .slice wF t119.length uo, .int .i64 t112, .int .i64 t113, .slice mP t114.length mD] 28 (0, 0)) (by (with_reducible repeat (first | refine ay ?_ _ | refine aC ?_ | refine az ?_ _)); refine bQ (cs := #[.int .i64 (l0.length : Int), .int .i64 1, .slice wF t119.length uo, .int .i64 t112, .int .i64 t113, .slice none 0 0]) ?_ 5 _ rfl; (with_reducible repeat (first | refine ay ?_ _ | refine aC ?_ | refine az ?_ _)); refine bQ (cs := #[.int .i64 (l0.length : Int), .int .i64 1, .slice wF t119.length uo, .int .i64 t112, .int .i64 0, .slice none 0 0]) ?_ 4 _ rfl; (with_reducible repeat (first | refine ay ?_ _ | refine aC ?_ | refine az ?_ _)); refine bQ (cs := #[.int .i64 (l0.length : Int), .int .i64 1, .slice wF t119.length uo, .int .i64 0, .int .i64 0, .slice none 0 0]) ?_ 3 _ rfl; (with_reducible repeat (first | refine ay ?_ _ | refine aC ?_ | refine az ?_ _)); refine bQ (cs := #[.int .i64 (l0.length : Int), .int .i64 1, .slice none 0 0, .int .i64 0, .int .i64 0, .slice none 0 0]) ?_ 2 _ rfl; (with_reducible repeat (first | refine ay ?_ _ | refine aC ?_ | refine az ?_ _)); refine bQ (cs := #[.int .i64 (l0.length : Int), .int .i64 0, .slice none 0 0, .int .i64 0, .int .i64 0, .slice none 0 0]) ?_ 1 _ rfl; (with_reducible repeat (first | refine ay ?_ _ | refine aC ?_ | refine az ?_ _)); refine bQ (cs := #[.int .i64 0, .int .i64 0, .slice none 0 0, .int .i64 0, .int .i64 0, .slice none 0 0]) ?_ 0 _ rfl; (with_reducible repeat (first | refine ay ?_ _ | refine aC ?_ | refine az ?_ _)); exact d_.out) hb); have iQ := ah.mk (aI (by repeat (first | (with_reducible first | exact HB.out | apply au | apply af | apply ak | refine aG ?_ gU.out | refine aG ?_ iJ.out | refine aG ?_ kR.out) | exact HB.out)) hb); clear eG; clear jq; clear dn; clear b_; clear d_; clear HB; have eG := bT; have jq := dD; have dn := dQ; have b_ := eH; have d_ := iw; have HB := iQ; clear bT dD dQ eH iw iQ; (try clear hb); (try clear hb2); (try clear hk); (try clear hi); have WT : MP.cell? ⟨bM, 0, none⟩ = some (.int .i64 (l0.length : Int)) := (aj d_.out 0).trans rfl; have WS : MP.cell? ⟨bM, 1, none⟩ = some (.int .i64 1) := (aj d_.out 1).trans rfl; have WR : MP.cell? ⟨bM, 2, none⟩ = some (.slice wF t119.length uo) := (aj d_.out 2).trans rfl; have ag7 : MP.cell? ⟨bM, 3, none⟩ = some (.int .i64 t112) := (aj d_.out 3).trans rfl; have ag6 : MP.cell? ⟨bM, 4, none⟩ = some (.int .i64 t113) := (aj d_.out 4).trans rfl; have ag5 : MP.cell? ⟨bM, 5, none⟩ = some (.slice mP t114.length mD) := (aj d_.out 5).trans rfl; have VU := aA d_.out 0; have VT := aA d_.out 1; have VS := aA d_.out 2; have afP := aA d_.out 3; have afO := aA d_.out 4; have afN := aA d_.out 5; have ag4 : MP.cell? ⟨dR, 0, none⟩ = some (.int .i64 0) := (aj dn.out 0).trans rfl; have ag3 : MP.cell? ⟨dR, 1, none⟩ = some (.int .i64 0) := (aj dn.out 1).trans rfl; have ag2 : MP.cell? ⟨dR, 2, none⟩ = some (.slice none 0 0) := (aj dn.out 2).trans rfl; have ag1 : MP.cell? ⟨dR, 3, none⟩ = some (.int .i64 0) := (aj dn.out 3).trans rfl; have ag0 : MP.cell? ⟨dR, 4, none⟩ = some (.int .i64 0) := (aj dn.out 4).trans rfl; have agZ : MP.cell? ⟨dR, 5, none⟩ = some (.slice none 0 0) := (aj dn.out 5).trans rfl; have afM := aA dn.out 0; have afL := aA dn.out 1; have afK := aA dn.out 2; have afJ := aA dn.out 3; have afI := aA dn.out 4; have afH := aA dn.out 5))
     refine bodyPost_ret (lQ rfl _ _ dR 28 #[.int .i64 (l0.length : Int), .int .i64 1, .slice wF t119.length uo, .int .i64 t112, .int .i64 t113, .slice mP t114.length mD] (0, 0) _ rfl (by (with_reducible repeat (first | refine ay ?_ _ | refine aC ?_ | refine az ?_ _)); refine bQ (cs := #[.int .i64 (l0.length : Int), .int .i64 1, .slice wF t119.length uo, .int .i64 t112, .int .i64 t113, .slice none 0 0]) ?_ 5 _ rfl; (with_reducible repeat (first | refine ay ?_ _ | refine aC ?_ | refine az ?_ _)); refine bQ (cs := #[.int .i64 (l0.length : Int), .int .i64 1, .slice wF t119.length uo, .int .i64 t112, .int .i64 0, .slice none 0 0]) ?_ 4 _ rfl; (with_reducible repeat (first | refine ay ?_ _ | refine aC ?_ | refine az ?_ _)); refine bQ (cs := #[.int .i64 (l0.length : Int), .int .i64 1, .slice wF t119.length uo, .int .i64 0, .int .i64 0, .slice none 0 0]) ?_ 3 _ rfl; (with_reducible repeat (first | refine ay ?_ _ | refine aC ?_ | refine az ?_ _)); refine bQ (cs := #[.int .i64 (l0.length : Int), .int .i64 1, .slice none 0 0, .int .i64 0, .int .i64 0, .slice none 0 0]) ?_ 2 _ rfl; (with_reducible repeat (first | refine ay ?_ _ | refine aC ?_ | refine az ?_ _)); refine bQ (cs := #[.int .i64 (l0.length : Int), .int .i64 0, .slice none 0 0, .int .i64 0, .int .i64 0, .slice none 0 0]) ?_ 1 _ rfl; (with_reducible repeat (first | refine ay ?_ _ | refine aC ?_ | refine az ?_ _)); refine bQ (cs := #[.int .i64 0, .int .i64 0, .slice none 0 0, .int .i64 0, .int .i64 0, .slice none 0 0]) ?_ 0 _ rfl; (with_reducible repeat (first | refine ay ?_ _ | refine aC ?_ | refine az ?_ _)); exact dn.out) Try.underlying28 rfl (by kernel_rfl)) rfl ?_
     exact ⟨_, _, by first | rfl | (simp [aU, aT] <;> rfl) | (simp [*, aU, aT] <;> rfl), by (with_reducible repeat (first | apply Kd.bZ | apply Kd.bY | apply Kd.dA)); exact Kd.fQ (Kd.dM (p := ⟨dR, 5, none⟩) (Kd.dM (p := ⟨dR, 4, none⟩) (Kd.dM (p := ⟨dR, 3, none⟩) (Kd.dM (p := ⟨dR, 2, none⟩) (Kd.dM (p := ⟨dR, 1, none⟩) (Kd.dM (p := ⟨dR, 0, none⟩) (Kd.iM jq.out dn.out (by decide)) (fun _ hk => hk.2) (.int .i64 (l0.length : Int))) (fun _ hk => hk.2) (.int .i64 1)) (fun _ hk => hk.2) (.slice wF t119.length uo)) (fun _ hk => hk.2) (.int .i64 t112)) (fun _ hk => hk.2) (.int .i64 t113)) (fun _ hk => hk.2) (.slice mP t114.length mD)) (fun _ hk => hk.1), by (with_reducible repeat (first | apply Kd.bZ | apply Kd.bY | apply Kd.dA)); exact Kd.fQ (Kd.dM (p := ⟨dR, 5, none⟩) (Kd.dM (p := ⟨dR, 4, none⟩) (Kd.dM (p := ⟨dR, 3, none⟩) (Kd.dM (p := ⟨dR, 2, none⟩) (Kd.dM (p := ⟨dR, 1, none⟩) (Kd.dM (p := ⟨dR, 0, none⟩) (Kd.iM eG.out dn.out (by decide)) (fun _ hk => hk.2) (.int .i64 (l0.length : Int))) (fun _ hk => hk.2) (.int .i64 1)) (fun _ hk => hk.2) (.slice wF t119.length uo)) (fun _ hk => hk.2) (.int .i64 t112)) (fun _ hk => hk.2) (.int .i64 t113)) (fun _ hk => hk.2) (.slice mP t114.length mD)) (fun _ hk => hk.1), by repeat (first | (with_reducible first | exact HB.out | apply au | apply af | apply ak | refine aG ?_ gU.out | refine aG ?_ iJ.out | refine aG ?_ kR.out) | exact HB.out)⟩
   · replace c7 := Bool.eq_false_iff.mpr c7
     subst c7
     have H1 : (some (0, 0, ([] : List Int), 0, 0, ([] : List Int), 1)) = some (r1, r2, r3, r4, r5, r6, r7) := by rw [if_neg (show ¬ (false = true) by decide)] at H; exact H
     clear H
     have H := H1
     clear H1
     simp only [Option.some.injEq, Prod.mk.injEq] at H
     obtain ⟨rfl, rfl, rfl, rfl, rfl, rfl, rfl⟩ := H
     go_enter Try.func12, Try.ntmps12
     try go_wp2_with (first | ((with_reducible refine dY (N := 4) rfl ?_); refine dH ?hg (N := 4) ?hd (cs := #[.int .i64 0, .int .i64 0, .slice none 0 0, .int .i64 0, .int .i64 0, .slice none 0 0]) (t := 28) ?hr ?_; (case hd => rfl); (case hg => rfl); (case hr => first | (go_simp; done) | (go_simp; rfl)); intro dR hg w33 hbox hb; have bT := ah.mk (aI (by repeat (first | (with_reducible first | exact HB.out | apply au | apply af | apply ak) | exact HB.out)) hb); have dD := ah.mk (hbox); have dQ := ah.mk ((by rw [hg]; exact (aW (by repeat (first | (with_reducible first | exact HB.out | apply au | apply af | apply ak) | exact HB.out))) : w.heap.size ≤ dR)); have eH := ah.mk ((by rw [hg]; exact (aW (by repeat (first | (with_reducible first | exact HB.out | apply au | apply af | apply ak) | exact HB.out))) : w.heap.size ≤ dR)); clear HB; have HB := bT; have dn := dD; have YM := dQ; have gU := eH; clear bT dD dQ eH; clear hb hbox hg) | ((with_reducible refine aV (f := 30) rfl ?_); refine cZ (some 11) rfl rfl Try.func30 (by kernel_rfl) rfl #[.slice A1 l1.length c1] rfl (by (try simp only [List.map_toArray, List.map_cons, List.map_nil]); first | done | rfl | (simp only [List.length_drop, List.length_take]; rfl)) ?_; (with_reducible refine (o8.calls _ _ l1 t112 t113 t114 t117 _ ?eY ?eX A3.out).mono ?_); (case eY => repeat (first | exact (Kd.fB HR1.out HB.out) | (with_reducible refine Kd.fE ?_ _) | (with_reducible refine Kd.fD ?_ _) | (with_reducible refine Kd.gm ?_))); (case eX => exact HC1.out); rintro e w34 ⟨aaC, rfl, ho0, hb⟩; refine ⟨_, rfl, ?_⟩; have bT := ah.mk (Kd.jG ho0 (aW (by repeat (first | (with_reducible first | exact HB.out | apply au | apply af | apply ak | refine aG ?_ gU.out) | exact HB.out)))); have dD := ah.mk (bg (g := dR) (o := .cells #[.int .i64 0, .int .i64 0, .slice none 0 0, .int .i64 0, .int .i64 0, .slice none 0 0] 28 (0, 0)) (by (with_reducible repeat (first | refine ay ?_ _ | refine aC ?_ | refine az ?_ _)); exact dn.out) hb); have dQ := ah.mk (aI (by repeat (first | (with_reducible first | exact HB.out | apply au | apply af | apply ak | refine aG ?_ gU.out) | exact HB.out)) hb); clear dn; clear HB; have eG := bT; have dn := dD; have HB := dQ; clear bT dD dQ; (try clear hb); (try clear hb2); (try clear hk); (try clear hi); (try clear ho0)) | ((with_reducible refine dY (N := 6) rfl ?_); refine dH ?hg (N := 6) ?hd (cs := #[.int .i64 0, .int .i64 0, .slice none 0 0]) (t := 26) ?hr ?_; (case hd => rfl); (case hg => rfl); (case hr => first | (go_simp; done) | (go_simp; rfl)); intro bW hg U8 hbox hb; have bT := ah.mk (Kd.iO (by (with_reducible repeat (first | apply Kd.bZ | apply Kd.bY | apply Kd.dA)); exact eG.out) hb); have dD := ah.mk (bg (g := dR) (o := .cells #[.int .i64 0, .int .i64 0, .slice none 0 0, .int .i64 0, .int .i64 0, .slice none 0 0] 28 (0, 0)) (by (with_reducible repeat (first | refine ay ?_ _ | refine aC ?_ | refine az ?_ _)); exact dn.out) hb); have dQ := ah.mk (aI (by repeat (first | (with_reducible first | exact HB.out | apply au | apply af | apply ak | refine aG ?_ gU.out) | exact HB.out)) hb); have eH := ah.mk (hbox); have iw := ah.mk ((by rw [hg]; exact (aW (by repeat (first | (with_reducible first | exact HB.out | apply au | apply af | apply ak | refine aG ?_ gU.out) | exact HB.out))) : w.heap.size ≤ bW)); have iQ := ah.mk ((by rw [hg]; exact (aW (by repeat (first | (with_reducible first | exact HB.out | apply au | apply af | apply ak | refine aG ?_ gU.out) | exact HB.out))) : w.heap.size ≤ bW)); have jk := ah.mk ((by rw [hg]; exact Nat.ne_of_lt (dP (g := dR) (o := .cells #[.int .i64 0, .int .i64 0, .slice none 0 0, .int .i64 0, .int .i64 0, .slice none 0 0] 28 (0, 0)) (by (with_reducible repeat (first | refine ay ?_ _ | refine aC ?_ | refine az ?_ _)); exact dn.out)) : dR ≠ bW)); have mQ := ah.mk ((by rw [hg]; exact Nat.ne_of_gt (dP (g := dR) (o := .cells #[.int .i64 0, .int .i64 0, .slice none 0 0, .int .i64 0, .int .i64 0, .slice none 0 0] 28 (0, 0)) (by (with_reducible repeat (first | refine ay ?_ _ | refine aC ?_ | refine az ?_ _)); exact dn.out)) : bW ≠ dR)); clear eG; clear dn; clear HB; have eG := bT; have dn := dD; have HB := dQ; have b_ := eH; have UQ := iw; have iJ := iQ; have kF := jk; have wV := mQ; clear bT dD dQ eH iw iQ jk mQ; clear hb hbox hg; have aa3 := wV.out; have aaV := kF.out; have agM : U8.cell? ⟨bW, 0, none⟩ = some (.int .i64 0) := (aj b_.out 0).trans rfl; have agL : U8.cell? ⟨bW, 1, none⟩ = some (.int .i64 0) := (aj b_.out 1).trans rfl; have agK : U8.cell? ⟨bW, 2, none⟩ = some (.slice none 0 0) := (aj b_.out 2).trans rfl; have afu := aA b_.out 0; have aft := aA b_.out 1; have afs := aA b_.out 2; obtain ⟨o7, oL, aiQ⟩ := Kd.iq eG.out; subst aiQ))
     have bT : ah (Kd.R (Kd.int .i64) 22 (((U8.setCell ⟨bW, 0, none⟩ (.int .i64 t112)).setCell ⟨bW, 1, none⟩ (.int .i64 t113)).setCell ⟨bW, 2, none⟩ (.slice o7 t114.length oL)) w.heap.size (fun _ => True) (.slice o7 t114.length oL) t114) := ⟨by (with_reducible repeat (first | apply Kd.bZ | apply Kd.bY | apply Kd.dA)); exact Kd.fQ (Kd.dM (p := ⟨bW, 2, none⟩) (Kd.dM (p := ⟨bW, 1, none⟩) (Kd.dM (p := ⟨bW, 0, none⟩) (Kd.iM eG.out b_.out (by decide)) (fun _ hk => hk.2) (.int .i64 t112)) (fun _ hk => hk.2) (.int .i64 t113)) (fun _ hk => hk.2) (.slice o7 t114.length oL)) (fun _ hk => trivial)⟩
     have dD : ah ((((U8.setCell ⟨bW, 0, none⟩ (.int .i64 t112)).setCell ⟨bW, 1, none⟩ (.int .i64 t113)).setCell ⟨bW, 2, none⟩ (.slice o7 t114.length oL)).heap[dR]? = some (.cells #[.int .i64 0, .int .i64 0, .slice none 0 0, .int .i64 0, .int .i64 0, .slice none 0 0] 28 (0, 0))) := ⟨by (with_reducible repeat (first | refine ay ?_ _ | refine aC ?_ | refine az ?_ _)); refine dL ?_ kF.out _; (with_reducible repeat (first | refine ay ?_ _ | refine aC ?_ | refine az ?_ _)); refine dL ?_ kF.out _; (with_reducible repeat (first | refine ay ?_ _ | refine aC ?_ | refine az ?_ _)); refine dL ?_ kF.out _; (with_reducible repeat (first | refine ay ?_ _ | refine aC ?_ | refine az ?_ _)); exact dn.out⟩
     have dQ : ah ((((U8.setCell ⟨bW, 0, none⟩ (.int .i64 t112)).setCell ⟨bW, 1, none⟩ (.int .i64 t113)).setCell ⟨bW, 2, none⟩ (.slice o7 t114.length oL)).heap[bW]? = some (.cells #[.int .i64 t112, .int .i64 t113, .slice o7 t114.length oL] 26 (0, 0))) := ⟨by (with_reducible repeat (first | refine ay ?_ _ | refine aC ?_ | refine az ?_ _)); refine bQ (cs := #[.int .i64 t112, .int .i64 t113, .slice none 0 0]) ?_ 2 _ rfl; (with_reducible repeat (first | refine ay ?_ _ | refine aC ?_ | refine az ?_ _)); refine bQ (cs := #[.int .i64 t112, .int .i64 0, .slice none 0 0]) ?_ 1 _ rfl; (with_reducible repeat (first | refine ay ?_ _ | refine aC ?_ | refine az ?_ _)); refine bQ (cs := #[.int .i64 0, .int .i64 0, .slice none 0 0]) ?_ 0 _ rfl; (with_reducible repeat (first | refine ay ?_ _ | refine aC ?_ | refine az ?_ _)); exact b_.out⟩
     have eH : ah (Below w.heap.size w (((U8.setCell ⟨bW, 0, none⟩ (.int .i64 t112)).setCell ⟨bW, 1, none⟩ (.int .i64 t113)).setCell ⟨bW, 2, none⟩ (.slice o7 t114.length oL))) := ⟨by repeat (first | (with_reducible first | exact HB.out | apply au | apply af | apply ak | refine aG ?_ gU.out | refine aG ?_ iJ.out) | exact HB.out)⟩
     (try clear eG)
     (try clear dn)
     (try clear b_)
     (try clear HB)
     generalize (((U8.setCell ⟨bW, 0, none⟩ (.int .i64 t112)).setCell ⟨bW, 1, none⟩ (.int .i64 t113)).setCell ⟨bW, 2, none⟩ (.slice o7 t114.length oL)) = w39 at bT dD dQ eH ⊢
     have eG := bT
     have dn := dD
     have b_ := dQ
     have HB := eH
     clear bT dD dQ eH
     have bT := ah.mk (Kd.dA eG.out)
     have dD := ah.mk (aC dn.out)
     have dQ := ah.mk (aC b_.out)
     have eH := ah.mk (ak HB.out)
     clear eG
     clear dn
     clear b_
     clear HB
     have eG := bT
     have dn := dD
     have b_ := dQ
     have HB := eH
     clear bT dD dQ eH
     refine oV (n := 9) (S := fun w' => w'.cell? ⟨bW, 0, none⟩ = some (.int .i64 t112) ∧ w'.cell? ⟨bW, 1, none⟩ = some (.int .i64 t113) ∧ w'.cell? ⟨bW, 2, none⟩ = some (.slice o7 t114.length oL)) (ds := []) #[false, false, false, false, false, false, false, false, false] (by kernel_rfl) rfl rfl ⟨(aj b_.out 0).trans rfl, (aj b_.out 1).trans rfl, (aj b_.out 2).trans rfl⟩ (fun hHeld => ?_); refine jJ gZ.GY gZ.zW (fun dF pI => ?_)
     generalize w39.drew = w40 at eG dn b_ HB hHeld ⊢
     refine bf (i := 0) (N := some 14) (v := ?_) (a' := ?_) #[true, false, false, false, false, false, false, false, false] rfl rfl (aN dF.out (by kernel_rfl)) (fun _ _ _ h => h) (Or.inl ⟨by rfl, ?_⟩) ?_ ?_
     rotate_left
     · intro w'
       go_simp
       with_reducible rfl
     rotate_left
     · simp only [Act.put, List.setIfInBounds_toArray, List.set_cons_zero, List.set_cons_succ, aJ, aK]
       rfl
     refine bf (i := 1) (N := some 15) (v := ?_) (a' := ?_) #[true, true, false, false, false, false, false, false, false] rfl rfl (aN dF.out (by kernel_rfl)) (fun _ _ _ h => h) (Or.inl ⟨by rfl, ?_⟩) ?_ ?_
     rotate_left
     · intro w'
       go_simp
       with_reducible rfl
     rotate_left
     · simp only [Act.put, List.setIfInBounds_toArray, List.set_cons_zero, List.set_cons_succ, aJ, aK]
       rfl
     refine bf (i := 2) (N := some 16) (v := ?_) (a' := ?_) #[true, true, true, false, false, false, false, false, false] rfl rfl (aN dF.out (by kernel_rfl)) (fun _ _ _ h => h) (Or.inl ⟨by rfl, ?_⟩) ?_ ?_
     rotate_left
     · intro w'
       go_simp
       with_reducible rfl
     rotate_left
     · simp only [Act.put, List.setIfInBounds_toArray, List.set_cons_zero, List.set_cons_succ, aJ, aK]
       rfl
     refine iP (i := 5) (N := some 19) (v := ?_) (a' := ?_) #[true, true, true, false, false, true, false, false, false] rfl rfl (eF dF.out pI.out (by kernel_rfl)) (fun _ _ _ h => h) (Or.inl ⟨by rfl, ?_⟩) hHeld ?_ ?_
     rotate_left
     · rintro w' ⟨s0, s1, s2⟩
       go_simp
       with_reducible rfl
     rotate_left
     · simp only [Act.put, List.setIfInBounds_toArray, List.set_cons_zero, List.set_cons_succ, aJ, aK]
       rfl
     refine TD (σ := Value × Nat) 1 #[true, true, true, true, true, true, true, true, false] (fun s_ => [(17, s_.1), (8, .pointer (some ⟨s_.2, 0, none⟩)), (18, .agg #[.int .i64 (l0.length : Int), .int .i64 1, s_.1]), (20, .agg #[.int .i64 (l0.length : Int), .int .i64 1, s_.1, .int .i64 t112, .int .i64 t113, .slice o7 t114.length oL])]) (fun s_ w' => (w'.cell? ⟨bW, 0, none⟩ = some (.int .i64 t112) ∧ w'.cell? ⟨bW, 1, none⟩ = some (.int .i64 t113) ∧ w'.cell? ⟨bW, 2, none⟩ = some (.slice o7 t114.length oL)) ∧ (Kd.R (Kd.int .i64) 22 w' w.heap.size (fun k_ => some k_ ≠ (s_.1 : Value).ownBlock) (.slice o7 t114.length oL) t114) ∧ (Kd.R (Kd.int .i64) 22 w' w.heap.size (fun k_ => some k_ ≠ (.slice o7 t114.length oL : Value).ownBlock) s_.1 t119) ∧ (w'.heap[dR]? = some (.cells #[.int .i64 0, .int .i64 0, .slice none 0 0, .int .i64 0, .int .i64 0, .slice none 0 0] 28 (0, 0))) ∧ (w'.heap[bW]? = some (.cells #[.int .i64 t112, .int .i64 t113, .slice o7 t114.length oL] 26 (0, 0))) ∧ (w'.heap[s_.2]? = some (.cells #[.int .i64 0, .int .i64 0, .slice none 0 0, .int .i64 0, .int .i64 0, .slice none 0 0] 28 (0, 0))) ∧ (w.heap.size ≤ s_.2) ∧ (w.heap.size ≤ s_.2) ∧ (dR ≠ s_.2) ∧ (s_.2 ≠ dR) ∧ (bW ≠ s_.2) ∧ (s_.2 ≠ bW) ∧ (Below w.heap.size w w')) ?_ ?_
     rotate_left
     · intro DJ
       refine YS (i := 3) (j := 7) (Ni := some 17) (Nj := some 8) #[true, true, true, true, false, true, false, false, false] #[true, true, true, false, false, true, false, true, false] rfl rfl rfl rfl (MR dF.out (by kernel_rfl)) (by decide) (by decide) (fun K hK => ?_) (fun K hK => ?_)
       · skip
         refine kU Try.func31 (by kernel_rfl) rfl #[.slice A0 l0.length c0] (by rfl) rfl rfl (by (try simp only [List.map_toArray, List.map_cons, List.map_nil]); first | done | rfl | (simp only [List.length_drop, List.length_take]; rfl)) ?_
         with_reducible refine (lJ.calls _ _ l0 t119 _ ?eY ?eX A4.out).mono ?_
         (case eY => repeat (first | exact (Kd.fB HR0.out HB.out) | (with_reducible refine Kd.fE ?_ _) | (with_reducible refine Kd.fD ?_ _) | (with_reducible refine Kd.gm ?_)))
         (case eX => exact XX.out)
         rintro e w41 ⟨AV, rfl, ho0, hb⟩
         refine ⟨_, rfl, ?_⟩
         have bT := ah.mk (Kd.pG (by (with_reducible repeat (first | apply Kd.bZ | apply Kd.bY | apply Kd.dA)); exact eG.out) (Kd.qK ho0) hb)
         have dD := ah.mk (Kd.jG (Kd.wE ho0 (Kd.Dc (by (with_reducible repeat (first | apply Kd.bZ | apply Kd.bY | apply Kd.dA)); exact eG.out))) (aW (by repeat (first | (with_reducible first | exact HB.out | apply au | apply af | apply ak | refine aG ?_ gU.out | refine aG ?_ iJ.out) | exact HB.out))))
         have dQ := ah.mk (bg (g := dR) (o := .cells #[.int .i64 0, .int .i64 0, .slice none 0 0, .int .i64 0, .int .i64 0, .slice none 0 0] 28 (0, 0)) (by (with_reducible repeat (first | refine ay ?_ _ | refine aC ?_ | refine az ?_ _)); exact dn.out) hb)
         have eH := ah.mk (bg (g := bW) (o := .cells #[.int .i64 t112, .int .i64 t113, .slice o7 t114.length oL] 26 (0, 0)) (by (with_reducible repeat (first | refine ay ?_ _ | refine aC ?_ | refine az ?_ _)); exact b_.out) hb)
         have iw := ah.mk (aI (by repeat (first | (with_reducible first | exact HB.out | apply au | apply af | apply ak | refine aG ?_ gU.out | refine aG ?_ iJ.out) | exact HB.out)) hb)
         clear eG
         clear dn
         clear b_
         clear HB
         have eG := bT
         have jq := dD
         have dn := dQ
         have b_ := eH
         have HB := iw
         clear bT dD dQ eH iw
         (try clear hb)
         (try clear hb2)
         (try clear hk)
         (try clear hi)
         (try clear ho0)
         obtain ⟨XZ, XD, Xz⟩ := Kd.iq jq.out
         (first | subst Xz | (injection Xz with tH zN tC; have zM := tH.symm; have zL := tC.symm; clear tH zN tC; subst zM; subst zL))
         refine hK.out _ _ ⟨(aj b_.out 0).trans rfl, (aj b_.out 1).trans rfl, (aj b_.out 2).trans rfl⟩ (fun hHeld => ?_)
         clear hK K
         refine iV (a' := ?_) ?_ ?_
         rotate_left
         · show Act.put _ (some 17) _ = _
           simp only [Act.put, List.setIfInBounds_toArray, List.set_cons_zero, List.set_cons_succ, aJ, aK]
           rfl
         refine bf (i := 4) (N := some 18) (v := ?_) (a' := ?_) #[true, true, true, true, true, true, false, false, false] rfl rfl (aN dF.out (by kernel_rfl)) (fun _ _ _ h => h) (Or.inl ⟨by rfl, ?_⟩) ?_ ?_
         rotate_left
         · intro w'
           go_simp
           with_reducible rfl
         rotate_left
         · simp only [Act.put, List.setIfInBounds_toArray, List.set_cons_zero, List.set_cons_succ, aJ, aK]
           rfl
         refine bf (i := 6) (N := some 20) (v := ?_) (a' := ?_) #[true, true, true, true, true, true, true, false, false] rfl rfl (aN dF.out (by kernel_rfl)) (fun _ _ _ h => h) (Or.inl ⟨by rfl, ?_⟩) ?_ ?_
         rotate_left
         · intro w'
           go_simp
           with_reducible rfl
         rotate_left
         · simp only [Act.put, List.setIfInBounds_toArray, List.set_cons_zero, List.set_cons_succ, aJ, aK]
           rfl
         refine nC (i := 7) (N := some 8) #[true, true, true, true, true, true, true, true, false] rfl rfl (iF dF.out (by kernel_rfl)) (by decide) (fun K hK => ?_)
         refine wL ?hg (N := 8) ?hd (cs := #[.int .i64 0, .int .i64 0, .slice none 0 0, .int .i64 0, .int .i64 0, .slice none 0 0]) (t := 28) ?hr ?_; (case hd => rfl); (case hg => rfl); (case hr => first | (go_simp; done) | (go_simp; rfl))
         intro bM hg w43 hbox hb
         have bT := ah.mk (Kd.iO (by (with_reducible repeat (first | apply Kd.bZ | apply Kd.bY | apply Kd.dA)); exact eG.out) hb)
         have dD := ah.mk (Kd.iO (by (with_reducible repeat (first | apply Kd.bZ | apply Kd.bY | apply Kd.dA)); exact jq.out) hb)
         have dQ := ah.mk (bg (g := dR) (o := .cells #[.int .i64 0, .int .i64 0, .slice none 0 0, .int .i64 0, .int .i64 0, .slice none 0 0] 28 (0, 0)) (by (with_reducible repeat (first | refine ay ?_ _ | refine aC ?_ | refine az ?_ _)); exact dn.out) hb)
         have eH := ah.mk (bg (g := bW) (o := .cells #[.int .i64 t112, .int .i64 t113, .slice o7 t114.length oL] 26 (0, 0)) (by (with_reducible repeat (first | refine ay ?_ _ | refine aC ?_ | refine az ?_ _)); exact b_.out) hb)
         have iw := ah.mk (aI (by repeat (first | (with_reducible first | exact HB.out | apply au | apply af | apply ak | refine aG ?_ gU.out | refine aG ?_ iJ.out) | exact HB.out)) hb)
         have iQ := ah.mk (hbox)
         have jk := ah.mk ((by rw [hg]; exact (aW (by repeat (first | (with_reducible first | exact HB.out | apply au | apply af | apply ak | refine aG ?_ gU.out | refine aG ?_ iJ.out) | exact HB.out))) : w.heap.size ≤ bM))
         have mQ := ah.mk ((by rw [hg]; exact (aW (by repeat (first | (with_reducible first | exact HB.out | apply au | apply af | apply ak | refine aG ?_ gU.out | refine aG ?_ iJ.out) | exact HB.out))) : w.heap.size ≤ bM))
         have qA := ah.mk ((by rw [hg]; exact Nat.ne_of_lt (dP (g := dR) (o := .cells #[.int .i64 0, .int .i64 0, .slice none 0 0, .int .i64 0, .int .i64 0, .slice none 0 0] 28 (0, 0)) (by (with_reducible repeat (first | refine ay ?_ _ | refine aC ?_ | refine az ?_ _)); exact dn.out)) : dR ≠ bM))
         have uD := ah.mk ((by rw [hg]; exact Nat.ne_of_gt (dP (g := dR) (o := .cells #[.int .i64 0, .int .i64 0, .slice none 0 0, .int .i64 0, .int .i64 0, .slice none 0 0] 28 (0, 0)) (by (with_reducible repeat (first | refine ay ?_ _ | refine aC ?_ | refine az ?_ _)); exact dn.out)) : bM ≠ dR))
         have kP := ah.mk ((by rw [hg]; exact Nat.ne_of_lt (dP (g := bW) (o := .cells #[.int .i64 t112, .int .i64 t113, .slice o7 t114.length oL] 26 (0, 0)) (by (with_reducible repeat (first | refine ay ?_ _ | refine aC ?_ | refine az ?_ _)); exact b_.out)) : bW ≠ bM))
         have rU := ah.mk ((by rw [hg]; exact Nat.ne_of_gt (dP (g := bW) (o := .cells #[.int .i64 t112, .int .i64 t113, .slice o7 t114.length oL] 26 (0, 0)) (by (with_reducible repeat (first | refine ay ?_ _ | refine aC ?_ | refine az ?_ _)); exact b_.out)) : bM ≠ bW))
         clear eG
         clear jq
         clear dn
         clear b_
         clear HB
         have eG := bT
         have jq := dD
         have dn := dQ
         have b_ := eH
         have HB := iw
         have d_ := iQ
         have vY := jk
         have kR := mQ
         have dN := qA
         have fO := uD
         have bD := kP
         have fP := rU
         clear bT dD dQ eH iw iQ jk mQ qA uD kP rU
         clear hb hbox hg
         refine hK.out _ _ ⟨(aj b_.out 0).trans rfl, (aj b_.out 1).trans rfl, (aj b_.out 2).trans rfl⟩ (fun hHeld => ?_)
         clear hK K
         refine iV (a' := ?_) ?_ ?_
         rotate_left
         · show Act.put _ (some 8) _ = _
           simp only [Act.put, List.setIfInBounds_toArray, List.set_cons_zero, List.set_cons_succ, aJ, aK]
           rfl
         exact iV (by simp only [sN, Act.put, List.setIfInBounds_toArray, List.set_cons_zero, List.set_cons_succ]) (DJ (.slice XZ t119.length XD, bM) _ ⟨hHeld, (by (with_reducible repeat (first | apply Kd.bZ | apply Kd.bY | apply Kd.dA)); exact Kd.fQ eG.out (fun _ hk => hk.2)), (by (with_reducible repeat (first | apply Kd.bZ | apply Kd.bY | apply Kd.dA)); exact Kd.fQ jq.out (fun _ hk => hk.2)), (by (with_reducible repeat (first | refine ay ?_ _ | refine aC ?_ | refine az ?_ _)); exact dn.out), (by (with_reducible repeat (first | refine ay ?_ _ | refine aC ?_ | refine az ?_ _)); exact b_.out), (by (with_reducible repeat (first | refine ay ?_ _ | refine aC ?_ | refine az ?_ _)); exact d_.out), vY.out, kR.out, dN.out, fO.out, bD.out, fP.out, (by repeat (first | (with_reducible first | exact HB.out | apply au | apply af | apply ak | refine aG ?_ gU.out | refine aG ?_ iJ.out | refine aG ?_ kR.out) | exact HB.out))⟩)
       · skip
         refine wL ?hg (N := 8) ?hd (cs := #[.int .i64 0, .int .i64 0, .slice none 0 0, .int .i64 0, .int .i64 0, .slice none 0 0]) (t := 28) ?hr ?_; (case hd => rfl); (case hg => rfl); (case hr => first | (go_simp; done) | (go_simp; rfl))
         intro bM hg w41 hbox hb
         have bT := ah.mk (Kd.iO (by (with_reducible repeat (first | apply Kd.bZ | apply Kd.bY | apply Kd.dA)); exact eG.out) hb)
         have dD := ah.mk (bg (g := dR) (o := .cells #[.int .i64 0, .int .i64 0, .slice none 0 0, .int .i64 0, .int .i64 0, .slice none 0 0] 28 (0, 0)) (by (with_reducible repeat (first | refine ay ?_ _ | refine aC ?_ | refine az ?_ _)); exact dn.out) hb)
         have dQ := ah.mk (bg (g := bW) (o := .cells #[.int .i64 t112, .int .i64 t113, .slice o7 t114.length oL] 26 (0, 0)) (by (with_reducible repeat (first | refine ay ?_ _ | refine aC ?_ | refine az ?_ _)); exact b_.out) hb)
         have eH := ah.mk (aI (by repeat (first | (with_reducible first | exact HB.out | apply au | apply af | apply ak | refine aG ?_ gU.out | refine aG ?_ iJ.out) | exact HB.out)) hb)
         have iw := ah.mk (hbox)
         have iQ := ah.mk ((by rw [hg]; exact (aW (by repeat (first | (with_reducible first | exact HB.out | apply au | apply af | apply ak | refine aG ?_ gU.out | refine aG ?_ iJ.out) | exact HB.out))) : w.heap.size ≤ bM))
         have jk := ah.mk ((by rw [hg]; exact (aW (by repeat (first | (with_reducible first | exact HB.out | apply au | apply af | apply ak | refine aG ?_ gU.out | refine aG ?_ iJ.out) | exact HB.out))) : w.heap.size ≤ bM))
         have mQ := ah.mk ((by rw [hg]; exact Nat.ne_of_lt (dP (g := dR) (o := .cells #[.int .i64 0, .int .i64 0, .slice none 0 0, .int .i64 0, .int .i64 0, .slice none 0 0] 28 (0, 0)) (by (with_reducible repeat (first | refine ay ?_ _ | refine aC ?_ | refine az ?_ _)); exact dn.out)) : dR ≠ bM))
         have qA := ah.mk ((by rw [hg]; exact Nat.ne_of_gt (dP (g := dR) (o := .cells #[.int .i64 0, .int .i64 0, .slice none 0 0, .int .i64 0, .int .i64 0, .slice none 0 0] 28 (0, 0)) (by (with_reducible repeat (first | refine ay ?_ _ | refine aC ?_ | refine az ?_ _)); exact dn.out)) : bM ≠ dR))
         have uD := ah.mk ((by rw [hg]; exact Nat.ne_of_lt (dP (g := bW) (o := .cells #[.int .i64 t112, .int .i64 t113, .slice o7 t114.length oL] 26 (0, 0)) (by (with_reducible repeat (first | refine ay ?_ _ | refine aC ?_ | refine az ?_ _)); exact b_.out)) : bW ≠ bM))
         have kP := ah.mk ((by rw [hg]; exact Nat.ne_of_gt (dP (g := bW) (o := .cells #[.int .i64 t112, .int .i64 t113, .slice o7 t114.length oL] 26 (0, 0)) (by (with_reducible repeat (first | refine ay ?_ _ | refine aC ?_ | refine az ?_ _)); exact b_.out)) : bM ≠ bW))
         clear eG
         clear dn
         clear b_
         clear HB
         have eG := bT
         have dn := dD
         have b_ := dQ
         have HB := eH
         have d_ := iw
         have vY := iQ
         have kR := jk
         have dN := mQ
         have fO := qA
         have bD := uD
         have fP := kP
         clear bT dD dQ eH iw iQ jk mQ qA uD kP
         clear hb hbox hg
         refine hK.out _ _ ⟨(aj b_.out 0).trans rfl, (aj b_.out 1).trans rfl, (aj b_.out 2).trans rfl⟩ (fun hHeld => ?_)
         clear hK K
         refine iV (a' := ?_) ?_ ?_
         rotate_left
         · show Act.put _ (some 8) _ = _
           simp only [Act.put, List.setIfInBounds_toArray, List.set_cons_zero, List.set_cons_succ, aJ, aK]
           rfl
         refine nC (i := 3) (N := some 17) #[true, true, true, true, false, true, false, true, false] rfl rfl (iF dF.out (by kernel_rfl)) (by decide) (fun K hK => ?_)
         refine kU Try.func31 (by kernel_rfl) rfl #[.slice A0 l0.length c0] (by rfl) rfl rfl (by (try simp only [List.map_toArray, List.map_cons, List.map_nil]); first | done | rfl | (simp only [List.length_drop, List.length_take]; rfl)) ?_
         with_reducible refine (lJ.calls _ _ l0 t119 _ ?eY ?eX A4.out).mono ?_
         (case eY => repeat (first | exact (Kd.fB HR0.out HB.out) | (with_reducible refine Kd.fE ?_ _) | (with_reducible refine Kd.fD ?_ _) | (with_reducible refine Kd.gm ?_)))
         (case eX => exact XX.out)
         rintro e w42 ⟨AV, rfl, ho0, hb⟩
         refine ⟨_, rfl, ?_⟩
         have bT := ah.mk (Kd.pG (by (with_reducible repeat (first | apply Kd.bZ | apply Kd.bY | apply Kd.dA)); exact eG.out) (Kd.qK ho0) hb)
         have dD := ah.mk (Kd.jG (Kd.wE ho0 (Kd.Dc (by (with_reducible repeat (first | apply Kd.bZ | apply Kd.bY | apply Kd.dA)); exact eG.out))) (aW (by repeat (first | (with_reducible first | exact HB.out | apply au | apply af | apply ak | refine aG ?_ gU.out | refine aG ?_ iJ.out | refine aG ?_ kR.out) | exact HB.out))))
         have dQ := ah.mk (bg (g := dR) (o := .cells #[.int .i64 0, .int .i64 0, .slice none 0 0, .int .i64 0, .int .i64 0, .slice none 0 0] 28 (0, 0)) (by (with_reducible repeat (first | refine ay ?_ _ | refine aC ?_ | refine az ?_ _)); exact dn.out) hb)
         have eH := ah.mk (bg (g := bW) (o := .cells #[.int .i64 t112, .int .i64 t113, .slice o7 t114.length oL] 26 (0, 0)) (by (with_reducible repeat (first | refine ay ?_ _ | refine aC ?_ | refine az ?_ _)); exact b_.out) hb)
         have iw := ah.mk (bg (g := bM) (o := .cells #[.int .i64 0, .int .i64 0, .slice none 0 0, .int .i64 0, .int .i64 0, .slice none 0 0] 28 (0, 0)) (by (with_reducible repeat (first | refine ay ?_ _ | refine aC ?_ | refine az ?_ _)); exact d_.out) hb)
         have iQ := ah.mk (aI (by repeat (first | (with_reducible first | exact HB.out | apply au | apply af | apply ak | refine aG ?_ gU.out | refine aG ?_ iJ.out | refine aG ?_ kR.out) | exact HB.out)) hb)
         clear eG
         clear dn
         clear b_
         clear d_
         clear HB
         have eG := bT
         have jq := dD
         have dn := dQ
         have b_ := eH
         have d_ := iw
         have HB := iQ
         clear bT dD dQ eH iw iQ
         (try clear hb)
         (try clear hb2)
         (try clear hk)
         (try clear hi)
         (try clear ho0)
         obtain ⟨ajT, ai2, abq⟩ := Kd.iq jq.out
         (first | subst abq | (injection abq with tH zN tC; have zM := tH.symm; have zL := tC.symm; clear tH zN tC; subst zM; subst zL))
         refine hK.out _ _ ⟨(aj b_.out 0).trans rfl, (aj b_.out 1).trans rfl, (aj b_.out 2).trans rfl⟩ (fun hHeld => ?_)
         clear hK K
         refine iV (a' := ?_) ?_ ?_
         rotate_left
         · show Act.put _ (some 17) _ = _
           simp only [Act.put, List.setIfInBounds_toArray, List.set_cons_zero, List.set_cons_succ, aJ, aK]
           rfl
         refine bf (i := 4) (N := some 18) (v := ?_) (a' := ?_) #[true, true, true, true, true, true, false, true, false] rfl rfl (aN dF.out (by kernel_rfl)) (fun _ _ _ h => h) (Or.inl ⟨by rfl, ?_⟩) ?_ ?_
         rotate_left
         · intro w'
           go_simp
           with_reducible rfl
         rotate_left
         · simp only [Act.put, List.setIfInBounds_toArray, List.set_cons_zero, List.set_cons_succ, aJ, aK]
           rfl
         refine bf (i := 6) (N := some 20) (v := ?_) (a' := ?_) #[true, true, true, true, true, true, true, true, false] rfl rfl (aN dF.out (by kernel_rfl)) (fun _ _ _ h => h) (Or.inl ⟨by rfl, ?_⟩) ?_ ?_
         rotate_left
         · intro w'
           go_simp
           with_reducible rfl
         rotate_left
         · simp only [Act.put, List.setIfInBounds_toArray, List.set_cons_zero, List.set_cons_succ, aJ, aK]
           rfl
         exact iV (by simp only [sN, Act.put, List.setIfInBounds_toArray, List.set_cons_zero, List.set_cons_succ]) (DJ (.slice ajT t119.length ai2, bM) _ ⟨hHeld, (by (with_reducible repeat (first | apply Kd.bZ | apply Kd.bY | apply Kd.dA)); exact Kd.fQ eG.out (fun _ hk => hk.2)), (by (with_reducible repeat (first | apply Kd.bZ | apply Kd.bY | apply Kd.dA)); exact Kd.fQ jq.out (fun _ hk => hk.2)), (by (with_reducible repeat (first | refine ay ?_ _ | refine aC ?_ | refine az ?_ _)); exact dn.out), (by (with_reducible repeat (first | refine ay ?_ _ | refine aC ?_ | refine az ?_ _)); exact b_.out), (by (with_reducible repeat (first | refine ay ?_ _ | refine aC ?_ | refine az ?_ _)); exact d_.out), vY.out, kR.out, dN.out, fO.out, bD.out, fP.out, (by repeat (first | (with_reducible first | exact HB.out | apply au | apply af | apply ak | refine aG ?_ gU.out | refine aG ?_ iJ.out | refine aG ?_ kR.out) | exact HB.out))⟩)
     rintro ⟨AV, bM⟩ BR ⟨hS_, Yt, Yr, Yq, Yp, Yo, Yn, Ym, Yl, Yk, Yj, Lt, Ls⟩
     have bT : ah (Kd.R (Kd.int .i64) 22 BR w.heap.size (fun k_ => some k_ ≠ (AV : Value).ownBlock) (.slice o7 t114.length oL) t114) := ⟨Yt⟩
     have dD : ah (Kd.R (Kd.int .i64) 22 BR w.heap.size (fun k_ => some k_ ≠ (.slice o7 t114.length oL : Value).ownBlock) AV t119) := ⟨Yr⟩
     have dQ : ah (BR.heap[dR]? = some (.cells #[.int .i64 0, .int .i64 0, .slice none 0 0, .int .i64 0, .int .i64 0, .slice none 0 0] 28 (0, 0))) := ⟨Yq⟩
     have eH : ah (BR.heap[bW]? = some (.cells #[.int .i64 t112, .int .i64 t113, .slice o7 t114.length oL] 26 (0, 0))) := ⟨Yp⟩
     have iw : ah (BR.heap[bM]? = some (.cells #[.int .i64 0, .int .i64 0, .slice none 0 0, .int .i64 0, .int .i64 0, .slice none 0 0] 28 (0, 0))) := ⟨Yo⟩
     have iQ : ah (w.heap.size ≤ bM) := ⟨Yn⟩
     have jk : ah (w.heap.size ≤ bM) := ⟨Ym⟩
     have mQ : ah (dR ≠ bM) := ⟨Yl⟩
     have qA : ah (bM ≠ dR) := ⟨Yk⟩
     have uD : ah (bW ≠ bM) := ⟨Yj⟩
     have kP : ah (bM ≠ bW) := ⟨Lt⟩
     have rU : ah (Below w.heap.size w BR) := ⟨Ls⟩
     clear eG
     clear dn
     clear b_
     clear HB
     clear Yt Yr Yq Yp Yo Yn Ym Yl Yk Yj Lt Ls
     have eG := bT
     have jq := dD
     have dn := dQ
     have b_ := eH
     have d_ := iw
     have vY := iQ
     have kR := jk
     have dN := mQ
     have fO := qA
     have bD := uD
     have fP := kP
     have HB := rU
     clear bT dD dQ eH iw iQ jk mQ qA uD kP rU
     have hHeld : BR.cell? ⟨bW, 0, none⟩ = some (.int .i64 t112) ∧ BR.cell? ⟨bW, 1, none⟩ = some (.int .i64 t113) ∧ BR.cell? ⟨bW, 2, none⟩ = some (.slice o7 t114.length oL) := hS_
     obtain ⟨JZ, Hg, abp⟩ := Kd.iq jq.out
     (first | subst abp | (injection abp with tH zN tC; have zM := tH.symm; have zL := tC.symm; clear tH zN tC; subst zM; subst zL))
     refine iV (a' := ?_) ?_ ?_
     rotate_left
     · simp only [sN, Act.put, List.setIfInBounds_toArray, List.set_cons_zero, List.set_cons_succ]
       rfl
     refine nC (i := 8) (N := none) #[true, true, true, true, true, true, true, true, true] rfl rfl (iF dF.out (by kernel_rfl)) (by decide) (fun K hK => ?_)
     have anH : BR.cell? ⟨bM, 0, none⟩ = some (.int .i64 0) := (aj d_.out 0).trans rfl
     have ak4 := aA d_.out 0
     have ad5 := dN.out
     have ad4 := bD.out
     have aeF := fO.out
     have aeE := fP.out
     have anG : BR.cell? ⟨bM, 1, none⟩ = some (.int .i64 0) := (aj d_.out 1).trans rfl
     have ak3 := aA d_.out 1
     have ad3 := dN.out
     have ad2 := bD.out
     have aeD := fO.out
     have aeC := fP.out
     have anF : BR.cell? ⟨bM, 2, none⟩ = some (.slice none 0 0) := (aj d_.out 2).trans rfl
     have ak2 := aA d_.out 2
     have ad1 := dN.out
     have adZ := bD.out
     have aeB := fO.out
     have aeA := fP.out
     have anE : BR.cell? ⟨bM, 3, none⟩ = some (.int .i64 0) := (aj d_.out 3).trans rfl
     have ak1 := aA d_.out 3
     have adY := dN.out
     have adX := bD.out
     have aez := fO.out
     have aey := fP.out
     have anD : BR.cell? ⟨bM, 4, none⟩ = some (.int .i64 0) := (aj d_.out 4).trans rfl
     have ak0 := aA d_.out 4
     have adW := dN.out
     have adV := bD.out
     have aex := fO.out
     have aew := fP.out
     have anC : BR.cell? ⟨bM, 5, none⟩ = some (.slice none 0 0) := (aj d_.out 5).trans rfl
     have akZ := aA d_.out 5
     have adU := dN.out
     have adT := bD.out
     have aev := fO.out
     have aeu := fP.out
     refine Du (w1 := ?_) (by rfl) rfl ?_ ?_
     rotate_left
     · go_simp
       rfl
     refine hK.out _ _ ⟨((cell_far (p := ⟨bM, _, none⟩) bD.out _).trans (((cell_far (p := ⟨bM, _, none⟩) bD.out _).trans (((cell_far (p := ⟨bM, _, none⟩) bD.out _).trans (((cell_far (p := ⟨bM, _, none⟩) bD.out _).trans (((cell_far (p := ⟨bM, _, none⟩) bD.out _).trans (((cell_far (p := ⟨bM, _, none⟩) bD.out _).trans (hHeld.1)))))))))))), ((cell_far (p := ⟨bM, _, none⟩) bD.out _).trans (((cell_far (p := ⟨bM, _, none⟩) bD.out _).trans (((cell_far (p := ⟨bM, _, none⟩) bD.out _).trans (((cell_far (p := ⟨bM, _, none⟩) bD.out _).trans (((cell_far (p := ⟨bM, _, none⟩) bD.out _).trans (((cell_far (p := ⟨bM, _, none⟩) bD.out _).trans (hHeld.2.1)))))))))))), ((cell_far (p := ⟨bM, _, none⟩) bD.out _).trans (((cell_far (p := ⟨bM, _, none⟩) bD.out _).trans (((cell_far (p := ⟨bM, _, none⟩) bD.out _).trans (((cell_far (p := ⟨bM, _, none⟩) bD.out _).trans (((cell_far (p := ⟨bM, _, none⟩) bD.out _).trans (((cell_far (p := ⟨bM, _, none⟩) bD.out _).trans (hHeld.2.2))))))))))))⟩ (fun hHeld => ?_)
     clear hK K
     refine tJ (lW dF.out (by kernel_rfl)) ?_
     have akx := fO.out
     have akg := dN.out
     have akw := fP.out
     have akf := bD.out
     have agu : BR.cell? ⟨bM, 0, none⟩ = some (.int .i64 0) := (aj d_.out 0).trans rfl
     have agt : BR.cell? ⟨bM, 1, none⟩ = some (.int .i64 0) := (aj d_.out 1).trans rfl
     have ags : BR.cell? ⟨bM, 2, none⟩ = some (.slice none 0 0) := (aj d_.out 2).trans rfl
     have agr : BR.cell? ⟨bM, 3, none⟩ = some (.int .i64 0) := (aj d_.out 3).trans rfl
     have agq : BR.cell? ⟨bM, 4, none⟩ = some (.int .i64 0) := (aj d_.out 4).trans rfl
     have agp : BR.cell? ⟨bM, 5, none⟩ = some (.slice none 0 0) := (aj d_.out 5).trans rfl
     have afc := aA d_.out 0
     have afb := aA d_.out 1
     have afa := aA d_.out 2
     have ae_ := aA d_.out 3
     have ae9 := aA d_.out 4
     have ae8 := aA d_.out 5
     try go_wp2_with (first | (go_at_call 18; (with_reducible refine (bu.calls k (l0.length : Int) 1 _ _ t119 t112 t113 _ _ t114 false _ ?eY ?eX ?lZ ?nU A6.out).mono ?_); (case eY => refine (Kd.jB (e := 22) (base := w.heap.size) (ok := fun k_ => some k_ ≠ (.slice o7 t114.length oL : Value).ownBlock) (n := t119.length) (c := Hg) ?_).2.2; exact (by (with_reducible repeat (first | apply Kd.bZ | apply Kd.bY | apply Kd.dA)); exact (Kd.fQ (Kd.dM (p := ⟨bM, 5, none⟩) (Kd.dM (p := ⟨bM, 4, none⟩) (Kd.dM (p := ⟨bM, 3, none⟩) (Kd.dM (p := ⟨bM, 2, none⟩) (Kd.dM (p := ⟨bM, 1, none⟩) (Kd.dM (p := ⟨bM, 0, none⟩) (Kd.iM jq.out d_.out (by decide)) (fun _ hk => hk.2) (.int .i64 (l0.length : Int))) (fun _ hk => hk.2) (.int .i64 1)) (fun _ hk => hk.2) (.slice JZ t119.length Hg)) (fun _ hk => hk.2) (.int .i64 t112)) (fun _ hk => hk.2) (.int .i64 t113)) (fun _ hk => hk.2) (.slice o7 t114.length oL)) (fun _ h_ => h_.1)))); (case eX => exact (Kd.jB jq.out).2.1); (case lZ => refine (Kd.jB (e := 22) (base := w.heap.size) (ok := fun k_ => some k_ ≠ (.slice JZ t119.length Hg : Value).ownBlock) (n := t114.length) (c := oL) ?_).2.2; exact (by (with_reducible repeat (first | apply Kd.bZ | apply Kd.bY | apply Kd.dA)); exact (Kd.fQ (Kd.dM (p := ⟨bM, 5, none⟩) (Kd.dM (p := ⟨bM, 4, none⟩) (Kd.dM (p := ⟨bM, 3, none⟩) (Kd.dM (p := ⟨bM, 2, none⟩) (Kd.dM (p := ⟨bM, 1, none⟩) (Kd.dM (p := ⟨bM, 0, none⟩) (Kd.iM eG.out d_.out (by decide)) (fun _ hk => hk.2) (.int .i64 (l0.length : Int))) (fun _ hk => hk.2) (.int .i64 1)) (fun _ hk => hk.2) (.slice JZ t119.length Hg)) (fun _ hk => hk.2) (.int .i64 t112)) (fun _ hk => hk.2) (.int .i64 t113)) (fun _ hk => hk.2) (.slice o7 t114.length oL)) (fun _ h_ => h_.1)))); (case nU => exact (Kd.jB eG.out).2.1); rintro e w55 ⟨rfl, hb⟩; have bT := ah.mk (Kd.iO (by (with_reducible repeat (first | apply Kd.bZ | apply Kd.bY | apply Kd.dA)); exact (Kd.fQ (Kd.dM (p := ⟨bM, 5, none⟩) (Kd.dM (p := ⟨bM, 4, none⟩) (Kd.dM (p := ⟨bM, 3, none⟩) (Kd.dM (p := ⟨bM, 2, none⟩) (Kd.dM (p := ⟨bM, 1, none⟩) (Kd.dM (p := ⟨bM, 0, none⟩) (Kd.iM eG.out d_.out (by decide)) (fun _ hk => hk.2) (.int .i64 (l0.length : Int))) (fun _ hk => hk.2) (.int .i64 1)) (fun _ hk => hk.2) (.slice JZ t119.length Hg)) (fun _ hk => hk.2) (.int .i64 t112)) (fun _ hk => hk.2) (.int .i64 t113)) (fun _ hk => hk.2) (.slice o7 t114.length oL)) (fun _ h_ => h_.1))) hb); have dD := ah.mk (Kd.iO (by (with_reducible repeat (first | apply Kd.bZ | apply Kd.bY | apply Kd.dA)); exact (Kd.fQ (Kd.dM (p := ⟨bM, 5, none⟩) (Kd.dM (p := ⟨bM, 4, none⟩) (Kd.dM (p := ⟨bM, 3, none⟩) (Kd.dM (p := ⟨bM, 2, none⟩) (Kd.dM (p := ⟨bM, 1, none⟩) (Kd.dM (p := ⟨bM, 0, none⟩) (Kd.iM jq.out d_.out (by decide)) (fun _ hk => hk.2) (.int .i64 (l0.length : Int))) (fun _ hk => hk.2) (.int .i64 1)) (fun _ hk => hk.2) (.slice JZ t119.length Hg)) (fun _ hk => hk.2) (.int .i64 t112)) (fun _ hk => hk.2) (.int .i64 t113)) (fun _ hk => hk.2) (.slice o7 t114.length oL)) (fun _ h_ => h_.1))) hb); have dQ := ah.mk (bg (g := dR) (o := .cells #[.int .i64 0, .int .i64 0, .slice none 0 0, .int .i64 0, .int .i64 0, .slice none 0 0] 28 (0, 0)) (by (with_reducible repeat (first | refine ay ?_ _ | refine aC ?_ | refine az ?_ _)); refine dL ?_ dN.out _; (with_reducible repeat (first | refine ay ?_ _ | refine aC ?_ | refine az ?_ _)); refine dL ?_ dN.out _; (with_reducible repeat (first | refine ay ?_ _ | refine aC ?_ | refine az ?_ _)); refine dL ?_ dN.out _; (with_reducible repeat (first | refine ay ?_ _ | refine aC ?_ | refine az ?_ _)); refine dL ?_ dN.out _; (with_reducible repeat (first | refine ay ?_ _ | refine aC ?_ | refine az ?_ _)); refine dL ?_ dN.out _; (with_reducible repeat (first | refine ay ?_ _ | refine aC ?_ | refine az ?_ _)); refine dL ?_ dN.out _; (with_reducible repeat (first | refine ay ?_ _ | refine aC ?_ | refine az ?_ _)); exact dn.out) hb); have eH := ah.mk (bg (g := bW) (o := .cells #[.int .i64 t112, .int .i64 t113, .slice o7 t114.length oL] 26 (0, 0)) (by (with_reducible repeat (first | refine ay ?_ _ | refine aC ?_ | refine az ?_ _)); refine dL ?_ bD.out _; (with_reducible repeat (first | refine ay ?_ _ | refine aC ?_ | refine az ?_ _)); refine dL ?_ bD.out _; (with_reducible repeat (first | refine ay ?_ _ | refine aC ?_ | refine az ?_ _)); refine dL ?_ bD.out _; (with_reducible repeat (first | refine ay ?_ _ | refine aC ?_ | refine az ?_ _)); refine dL ?_ bD.out _; (with_reducible repeat (first | refine ay ?_ _ | refine aC ?_ | refine az ?_ _)); refine dL ?_ bD.out _; (with_reducible repeat (first | refine ay ?_ _ | refine aC ?_ | refine az ?_ _)); refine dL ?_ bD.out _; (with_reducible repeat (first | refine ay ?_ _ | refine aC ?_ | refine az ?_ _)); exact b_.out) hb); have iw := ah.mk (bg (g := bM) (o := .cells #[.int .i64 (l0.length : Int), .int .i64 1, .slice JZ t119.length Hg, .int .i64 t112, .int .i64 t113, .slice o7 t114.length oL] 28 (0, 0)) (by (with_reducible repeat (first | refine ay ?_ _ | refine aC ?_ | refine az ?_ _)); refine bQ (cs := #[.int .i64 (l0.length : Int), .int .i64 1, .slice JZ t119.length Hg, .int .i64 t112, .int .i64 t113, .slice none 0 0]) ?_ 5 _ rfl; (with_reducible repeat (first | refine ay ?_ _ | refine aC ?_ | refine az ?_ _)); refine bQ (cs := #[.int .i64 (l0.length : Int), .int .i64 1, .slice JZ t119.length Hg, .int .i64 t112, .int .i64 0, .slice none 0 0]) ?_ 4 _ rfl; (with_reducible repeat (first | refine ay ?_ _ | refine aC ?_ | refine az ?_ _)); refine bQ (cs := #[.int .i64 (l0.length : Int), .int .i64 1, .slice JZ t119.length Hg, .int .i64 0, .int .i64 0, .slice none 0 0]) ?_ 3 _ rfl; (with_reducible repeat (first | refine ay ?_ _ | refine aC ?_ | refine az ?_ _)); refine bQ (cs := #[.int .i64 (l0.length : Int), .int .i64 1, .slice none 0 0, .int .i64 0, .int .i64 0, .slice none 0 0]) ?_ 2 _ rfl; (with_reducible repeat (first | refine ay ?_ _ | refine aC ?_ | refine az ?_ _)); refine bQ (cs := #[.int .i64 (l0.length : Int), .int .i64 0, .slice none 0 0, .int .i64 0, .int .i64 0, .slice none 0 0]) ?_ 1 _ rfl; (with_reducible repeat (first | refine ay ?_ _ | refine aC ?_ | refine az ?_ _)); refine bQ (cs := #[.int .i64 0, .int .i64 0, .slice none 0 0, .int .i64 0, .int .i64 0, .slice none 0 0]) ?_ 0 _ rfl; (with_reducible repeat (first | refine ay ?_ _ | refine aC ?_ | refine az ?_ _)); exact d_.out) hb); have iQ := ah.mk (aI (by repeat (first | (with_reducible first | exact HB.out | apply au | apply af | apply ak | refine aG ?_ gU.out | refine aG ?_ iJ.out | refine aG ?_ kR.out) | exact HB.out)) hb); clear eG; clear jq; clear dn; clear b_; clear d_; clear HB; have eG := bT; have jq := dD; have dn := dQ; have b_ := eH; have d_ := iw; have HB := iQ; clear bT dD dQ eH iw iQ; (try clear hb); (try clear hb2); (try clear hk); (try clear hi); have agn : w55.cell? ⟨dR, 0, none⟩ = some (.int .i64 0) := (aj dn.out 0).trans rfl; have agm : w55.cell? ⟨dR, 1, none⟩ = some (.int .i64 0) := (aj dn.out 1).trans rfl; have agl : w55.cell? ⟨dR, 2, none⟩ = some (.slice none 0 0) := (aj dn.out 2).trans rfl; have agk : w55.cell? ⟨dR, 3, none⟩ = some (.int .i64 0) := (aj dn.out 3).trans rfl; have agj : w55.cell? ⟨dR, 4, none⟩ = some (.int .i64 0) := (aj dn.out 4).trans rfl; have agi : w55.cell? ⟨dR, 5, none⟩ = some (.slice none 0 0) := (aj dn.out 5).trans rfl; have ae7 := aA dn.out 0; have ae6 := aA dn.out 1; have ae5 := aA dn.out 2; have ae4 := aA dn.out 3; have ae3 := aA dn.out 4; have ae2 := aA dn.out 5))
     refine bodyPost_ret (lQ rfl _ _ dR 28 #[.int .i64 0, .int .i64 0, .slice none 0 0, .int .i64 0, .int .i64 0, .slice none 0 0] (0, 0) _ rfl (by (with_reducible repeat (first | refine ay ?_ _ | refine aC ?_ | refine az ?_ _)); refine bQ (cs := #[.int .i64 0, .int .i64 0, .slice none 0 0, .int .i64 0, .int .i64 0, .slice none 0 0]) ?_ 5 _ rfl; (with_reducible repeat (first | refine ay ?_ _ | refine aC ?_ | refine az ?_ _)); refine bQ (cs := #[.int .i64 0, .int .i64 0, .slice none 0 0, .int .i64 0, .int .i64 0, .slice none 0 0]) ?_ 4 _ rfl; (with_reducible repeat (first | refine ay ?_ _ | refine aC ?_ | refine az ?_ _)); refine bQ (cs := #[.int .i64 0, .int .i64 0, .slice none 0 0, .int .i64 0, .int .i64 0, .slice none 0 0]) ?_ 3 _ rfl; (with_reducible repeat (first | refine ay ?_ _ | refine aC ?_ | refine az ?_ _)); refine bQ (cs := #[.int .i64 0, .int .i64 0, .slice none 0 0, .int .i64 0, .int .i64 0, .slice none 0 0]) ?_ 2 _ rfl; (with_reducible repeat (first | refine ay ?_ _ | refine aC ?_ | refine az ?_ _)); refine bQ (cs := #[.int .i64 0, .int .i64 0, .slice none 0 0, .int .i64 0, .int .i64 0, .slice none 0 0]) ?_ 1 _ rfl; (with_reducible repeat (first | refine ay ?_ _ | refine aC ?_ | refine az ?_ _)); refine bQ (cs := #[.int .i64 0, .int .i64 0, .slice none 0 0, .int .i64 0, .int .i64 0, .slice none 0 0]) ?_ 0 _ rfl; (with_reducible repeat (first | refine ay ?_ _ | refine aC ?_ | refine az ?_ _)); exact dn.out) Try.underlying28 rfl (by kernel_rfl)) rfl ?_
     exact ⟨_, _, by first | rfl | (simp [aU, aT] <;> rfl) | (simp [*, aU, aT] <;> rfl), by first | exact Kd.qV _ _ _ _ _ | exact Kd.vV _ _ _ _ _ | exact Kd.vP _ _ _ _ _ | exact Kd.vU _ _ _ _ _ | exact Kd.vS _ _ _ _ _, by first | exact Kd.qV _ _ _ _ _ | exact Kd.vV _ _ _ _ _ | exact Kd.vP _ _ _ _ _ | exact Kd.vU _ _ _ _ _ | exact Kd.vS _ _ _ _ _, by repeat (first | (with_reducible first | exact HB.out | apply au | apply af | apply ak | refine aG ?_ gU.out | refine aG ?_ iJ.out | refine aG ?_ kR.out) | exact HB.out)⟩
 · rw [if_neg c5] at H
   have uT : (t117 == 0) = false := beq_eq_false_iff_ne.mpr c5
   have ZA : (t117 != 0) = true := bne_iff_ne.mpr c5
   simp only [Option.some.injEq, Prod.mk.injEq] at H
   obtain ⟨rfl, rfl, rfl, rfl, rfl, rfl, rfl⟩ := H
   go_enter Try.func12, Try.ntmps12
   try go_wp2_with (first | ((with_reducible refine dY (N := 4) rfl ?_); refine dH ?hg (N := 4) ?hd (cs := #[.int .i64 0, .int .i64 0, .slice none 0 0, .int .i64 0, .int .i64 0, .slice none 0 0]) (t := 28) ?hr ?_; (case hd => rfl); (case hg => rfl); (case hr => first | (go_simp; done) | (go_simp; rfl)); intro dR hg w57 hbox hb; have bT := ah.mk (aI (by repeat (first | (with_reducible first | exact HB.out | apply au | apply af | apply ak) | exact HB.out)) hb); have dD := ah.mk (hbox); have dQ := ah.mk ((by rw [hg]; exact (aW (by repeat (first | (with_reducible first | exact HB.out | apply au | apply af | apply ak) | exact HB.out))) : w.heap.size ≤ dR)); have eH := ah.mk ((by rw [hg]; exact (aW (by repeat (first | (with_reducible first | exact HB.out | apply au | apply af | apply ak) | exact HB.out))) : w.heap.size ≤ dR)); clear HB; have HB := bT; have dn := dD; have YM := dQ; have gU := eH; clear bT dD dQ eH; clear hb hbox hg) | ((with_reducible refine aV (f := 30) rfl ?_); refine cZ (some 11) rfl rfl Try.func30 (by kernel_rfl) rfl #[.slice A1 l1.length c1] rfl (by (try simp only [List.map_toArray, List.map_cons, List.map_nil]); first | done | rfl | (simp only [List.length_drop, List.length_take]; rfl)) ?_; (with_reducible refine (o8.calls _ _ l1 t112 t113 t114 t117 _ ?eY ?eX A3.out).mono ?_); (case eY => repeat (first | exact (Kd.fB HR1.out HB.out) | (with_reducible refine Kd.fE ?_ _) | (with_reducible refine Kd.fD ?_ _) | (with_reducible refine Kd.gm ?_))); (case eX => exact HC1.out); rintro e w58 ⟨aaC, rfl, ho0, hb⟩; refine ⟨_, rfl, ?_⟩; have bT := ah.mk (Kd.jG ho0 (aW (by repeat (first | (with_reducible first | exact HB.out | apply au | apply af | apply ak | refine aG ?_ gU.out) | exact HB.out)))); have dD := ah.mk (bg (g := dR) (o := .cells #[.int .i64 0, .int .i64 0, .slice none 0 0, .int .i64 0, .int .i64 0, .slice none 0 0] 28 (0, 0)) (by (with_reducible repeat (first | refine ay ?_ _ | refine aC ?_ | refine az ?_ _)); exact dn.out) hb); have dQ := ah.mk (aI (by repeat (first | (with_reducible first | exact HB.out | apply au | apply af | apply ak | refine aG ?_ gU.out) | exact HB.out)) hb); clear dn; clear HB; have eG := bT; have dn := dD; have HB := dQ; clear bT dD dQ; (try clear hb); (try clear hb2); (try clear hk); (try clear hi); (try clear ho0)) | ((with_reducible refine dY (N := 6) rfl ?_); refine dH ?hg (N := 6) ?hd (cs := #[.int .i64 0, .int .i64 0, .slice none 0 0]) (t := 26) ?hr ?_; (case hd => rfl); (case hg => rfl); (case hr => first | (go_simp; done) | (go_simp; rfl)); intro bW hg X5 hbox hb; have bT := ah.mk (Kd.iO (by (with_reducible repeat (first | apply Kd.bZ | apply Kd.bY | apply Kd.dA)); exact eG.out) hb); have dD := ah.mk (bg (g := dR) (o := .cells #[.int .i64 0, .int .i64 0, .slice none 0 0, .int .i64 0, .int .i64 0, .slice none 0 0] 28 (0, 0)) (by (with_reducible repeat (first | refine ay ?_ _ | refine aC ?_ | refine az ?_ _)); exact dn.out) hb); have dQ := ah.mk (aI (by repeat (first | (with_reducible first | exact HB.out | apply au | apply af | apply ak | refine aG ?_ gU.out) | exact HB.out)) hb); have eH := ah.mk (hbox); have iw := ah.mk ((by rw [hg]; exact (aW (by repeat (first | (with_reducible first | exact HB.out | apply au | apply af | apply ak | refine aG ?_ gU.out) | exact HB.out))) : w.heap.size ≤ bW)); have iQ := ah.mk ((by rw [hg]; exact (aW (by repeat (first | (with_reducible first | exact HB.out | apply au | apply af | apply ak | refine aG ?_ gU.out) | exact HB.out))) : w.heap.size ≤ bW)); have jk := ah.mk ((by rw [hg]; exact Nat.ne_of_lt (dP (g := dR) (o := .cells #[.int .i64 0, .int .i64 0, .slice none 0 0, .int .i64 0, .int .i64 0, .slice none 0 0] 28 (0, 0)) (by (with_reducible repeat (first | refine ay ?_ _ | refine aC ?_ | refine az ?_ _)); exact dn.out)) : dR ≠ bW)); have mQ := ah.mk ((by rw [hg]; exact Nat.ne_of_gt (dP (g := dR) (o := .cells #[.int .i64 0, .int .i64 0, .slice none 0 0, .int .i64 0, .int .i64 0, .slice none 0 0] 28 (0, 0)) (by (with_reducible repeat (first | refine ay ?_ _ | refine aC ?_ | refine az ?_ _)); exact dn.out)) : bW ≠ dR)); clear eG; clear dn; clear HB; have eG := bT; have dn := dD; have HB := dQ; have b_ := eH; have UQ := iw; have iJ := iQ; have kF := jk; have wV := mQ; clear bT dD dQ eH iw iQ jk mQ; clear hb hbox hg; have akv := wV.out; have ake := kF.out; have agh : X5.cell? ⟨bW, 0, none⟩ = some (.int .i64 0) := (aj b_.out 0).trans rfl; have agf : X5.cell? ⟨bW, 1, none⟩ = some (.int .i64 0) := (aj b_.out 1).trans rfl; have age : X5.cell? ⟨bW, 2, none⟩ = some (.slice none 0 0) := (aj b_.out 2).trans rfl; have ae1 := aA b_.out 0; have ae0 := aA b_.out 1; have aeZ := aA b_.out 2; obtain ⟨sF, rY, aiP⟩ := Kd.iq eG.out; subst aiP))
   have bT : ah (Kd.R (Kd.int .i64) 22 (((X5.setCell ⟨bW, 0, none⟩ (.int .i64 t112)).setCell ⟨bW, 1, none⟩ (.int .i64 t113)).setCell ⟨bW, 2, none⟩ (.slice sF t114.length rY)) w.heap.size (fun _ => True) (.slice sF t114.length rY) t114) := ⟨by (with_reducible repeat (first | apply Kd.bZ | apply Kd.bY | apply Kd.dA)); exact Kd.fQ (Kd.dM (p := ⟨bW, 2, none⟩) (Kd.dM (p := ⟨bW, 1, none⟩) (Kd.dM (p := ⟨bW, 0, none⟩) (Kd.iM eG.out b_.out (by decide)) (fun _ hk => hk.2) (.int .i64 t112)) (fun _ hk => hk.2) (.int .i64 t113)) (fun _ hk => hk.2) (.slice sF t114.length rY)) (fun _ hk => trivial)⟩
   have dD : ah ((((X5.setCell ⟨bW, 0, none⟩ (.int .i64 t112)).setCell ⟨bW, 1, none⟩ (.int .i64 t113)).setCell ⟨bW, 2, none⟩ (.slice sF t114.length rY)).heap[dR]? = some (.cells #[.int .i64 0, .int .i64 0, .slice none 0 0, .int .i64 0, .int .i64 0, .slice none 0 0] 28 (0, 0))) := ⟨by (with_reducible repeat (first | refine ay ?_ _ | refine aC ?_ | refine az ?_ _)); refine dL ?_ kF.out _; (with_reducible repeat (first | refine ay ?_ _ | refine aC ?_ | refine az ?_ _)); refine dL ?_ kF.out _; (with_reducible repeat (first | refine ay ?_ _ | refine aC ?_ | refine az ?_ _)); refine dL ?_ kF.out _; (with_reducible repeat (first | refine ay ?_ _ | refine aC ?_ | refine az ?_ _)); exact dn.out⟩
   have dQ : ah ((((X5.setCell ⟨bW, 0, none⟩ (.int .i64 t112)).setCell ⟨bW, 1, none⟩ (.int .i64 t113)).setCell ⟨bW, 2, none⟩ (.slice sF t114.length rY)).heap[bW]? = some (.cells #[.int .i64 t112, .int .i64 t113, .slice sF t114.length rY] 26 (0, 0))) := ⟨by (with_reducible repeat (first | refine ay ?_ _ | refine aC ?_ | refine az ?_ _)); refine bQ (cs := #[.int .i64 t112, .int .i64 t113, .slice none 0 0]) ?_ 2 _ rfl; (with_reducible repeat (first | refine ay ?_ _ | refine aC ?_ | refine az ?_ _)); refine bQ (cs := #[.int .i64 t112, .int .i64 0, .slice none 0 0]) ?_ 1 _ rfl; (with_reducible repeat (first | refine ay ?_ _ | refine aC ?_ | refine az ?_ _)); refine bQ (cs := #[.int .i64 0, .int .i64 0, .slice none 0 0]) ?_ 0 _ rfl; (with_reducible repeat (first | refine ay ?_ _ | refine aC ?_ | refine az ?_ _)); exact b_.out⟩
   have eH : ah (Below w.heap.size w (((X5.setCell ⟨bW, 0, none⟩ (.int .i64 t112)).setCell ⟨bW, 1, none⟩ (.int .i64 t113)).setCell ⟨bW, 2, none⟩ (.slice sF t114.length rY))) := ⟨by repeat (first | (with_reducible first | exact HB.out | apply au | apply af | apply ak | refine aG ?_ gU.out | refine aG ?_ iJ.out) | exact HB.out)⟩
   (try clear eG)
   (try clear dn)
   (try clear b_)
   (try clear HB)
   generalize (((X5.setCell ⟨bW, 0, none⟩ (.int .i64 t112)).setCell ⟨bW, 1, none⟩ (.int .i64 t113)).setCell ⟨bW, 2, none⟩ (.slice sF t114.length rY)) = w63 at bT dD dQ eH ⊢
   have eG := bT
   have dn := dD
   have b_ := dQ
   have HB := eH
   clear bT dD dQ eH
   have bT := ah.mk (Kd.dA eG.out)
   have dD := ah.mk (aC dn.out)
   have dQ := ah.mk (aC b_.out)
   have eH := ah.mk (ak HB.out)
   clear eG
   clear dn
   clear b_
   clear HB
   have eG := bT
   have dn := dD
   have b_ := dQ
   have HB := eH
   clear bT dD dQ eH
   refine oV (n := 9) (S := fun w' => w'.cell? ⟨bW, 0, none⟩ = some (.int .i64 t112) ∧ w'.cell? ⟨bW, 1, none⟩ = some (.int .i64 t113) ∧ w'.cell? ⟨bW, 2, none⟩ = some (.slice sF t114.length rY)) (ds := []) #[false, false, false, false, false, false, false, false, false] (by kernel_rfl) rfl rfl ⟨(aj b_.out 0).trans rfl, (aj b_.out 1).trans rfl, (aj b_.out 2).trans rfl⟩ (fun hHeld => ?_); refine jJ gZ.GY gZ.zW (fun dF pI => ?_)
   generalize w63.drew = zZ at eG dn b_ HB hHeld ⊢
   refine bf (i := 0) (N := some 14) (v := ?_) (a' := ?_) #[true, false, false, false, false, false, false, false, false] rfl rfl (aN dF.out (by kernel_rfl)) (fun _ _ _ h => h) (Or.inl ⟨by rfl, ?_⟩) ?_ ?_
   rotate_left
   · intro w'
     go_simp
     with_reducible rfl
   rotate_left
   · simp only [Act.put, List.setIfInBounds_toArray, List.set_cons_zero, List.set_cons_succ, aJ, aK]
     rfl
   refine bf (i := 1) (N := some 15) (v := ?_) (a' := ?_) #[true, true, false, false, false, false, false, false, false] rfl rfl (aN dF.out (by kernel_rfl)) (fun _ _ _ h => h) (Or.inl ⟨by rfl, ?_⟩) ?_ ?_
   rotate_left
   · intro w'
     go_simp
     with_reducible rfl
   rotate_left
   · simp only [Act.put, List.setIfInBounds_toArray, List.set_cons_zero, List.set_cons_succ, aJ, aK]
     rfl
   refine bf (i := 2) (N := some 16) (v := ?_) (a' := ?_) #[true, true, true, false, false, false, false, false, false] rfl rfl (aN dF.out (by kernel_rfl)) (fun _ _ _ h => h) (Or.inl ⟨by rfl, ?_⟩) ?_ ?_
   rotate_left
   · intro w'
     go_simp
     with_reducible rfl
   rotate_left
   · simp only [Act.put, List.setIfInBounds_toArray, List.set_cons_zero, List.set_cons_succ, aJ, aK]
     rfl
   refine iP (i := 5) (N := some 19) (v := ?_) (a' := ?_) #[true, true, true, false, false, true, false, false, false] rfl rfl (eF dF.out pI.out (by kernel_rfl)) (fun _ _ _ h => h) (Or.inl ⟨by rfl, ?_⟩) hHeld ?_ ?_
   rotate_left
   · rintro w' ⟨s0, s1, s2⟩
     go_simp
     with_reducible rfl
   rotate_left
   · simp only [Act.put, List.setIfInBounds_toArray, List.set_cons_zero, List.set_cons_succ, aJ, aK]
     rfl
   refine TD (σ := Value × Nat) 1 #[true, true, true, true, true, true, true, true, false] (fun s_ => [(17, s_.1), (8, .pointer (some ⟨s_.2, 0, none⟩)), (18, .agg #[.int .i64 (l0.length : Int), .int .i64 1, s_.1]), (20, .agg #[.int .i64 (l0.length : Int), .int .i64 1, s_.1, .int .i64 t112, .int .i64 t113, .slice sF t114.length rY])]) (fun s_ w' => (w'.cell? ⟨bW, 0, none⟩ = some (.int .i64 t112) ∧ w'.cell? ⟨bW, 1, none⟩ = some (.int .i64 t113) ∧ w'.cell? ⟨bW, 2, none⟩ = some (.slice sF t114.length rY)) ∧ (Kd.R (Kd.int .i64) 22 w' w.heap.size (fun k_ => some k_ ≠ (s_.1 : Value).ownBlock) (.slice sF t114.length rY) t114) ∧ (Kd.R (Kd.int .i64) 22 w' w.heap.size (fun k_ => some k_ ≠ (.slice sF t114.length rY : Value).ownBlock) s_.1 t119) ∧ (w'.heap[dR]? = some (.cells #[.int .i64 0, .int .i64 0, .slice none 0 0, .int .i64 0, .int .i64 0, .slice none 0 0] 28 (0, 0))) ∧ (w'.heap[bW]? = some (.cells #[.int .i64 t112, .int .i64 t113, .slice sF t114.length rY] 26 (0, 0))) ∧ (w'.heap[s_.2]? = some (.cells #[.int .i64 0, .int .i64 0, .slice none 0 0, .int .i64 0, .int .i64 0, .slice none 0 0] 28 (0, 0))) ∧ (w.heap.size ≤ s_.2) ∧ (w.heap.size ≤ s_.2) ∧ (dR ≠ s_.2) ∧ (s_.2 ≠ dR) ∧ (bW ≠ s_.2) ∧ (s_.2 ≠ bW) ∧ (Below w.heap.size w w')) ?_ ?_
   rotate_left
   · intro DJ
     refine YS (i := 3) (j := 7) (Ni := some 17) (Nj := some 8) #[true, true, true, true, false, true, false, false, false] #[true, true, true, false, false, true, false, true, false] rfl rfl rfl rfl (MR dF.out (by kernel_rfl)) (by decide) (by decide) (fun K hK => ?_) (fun K hK => ?_)
     · skip
       refine kU Try.func31 (by kernel_rfl) rfl #[.slice A0 l0.length c0] (by rfl) rfl rfl (by (try simp only [List.map_toArray, List.map_cons, List.map_nil]); first | done | rfl | (simp only [List.length_drop, List.length_take]; rfl)) ?_
       with_reducible refine (lJ.calls _ _ l0 t119 _ ?eY ?eX A4.out).mono ?_
       (case eY => repeat (first | exact (Kd.fB HR0.out HB.out) | (with_reducible refine Kd.fE ?_ _) | (with_reducible refine Kd.fD ?_ _) | (with_reducible refine Kd.gm ?_)))
       (case eX => exact XX.out)
       rintro e w65 ⟨AV, rfl, ho0, hb⟩
       refine ⟨_, rfl, ?_⟩
       have bT := ah.mk (Kd.pG (by (with_reducible repeat (first | apply Kd.bZ | apply Kd.bY | apply Kd.dA)); exact eG.out) (Kd.qK ho0) hb)
       have dD := ah.mk (Kd.jG (Kd.wE ho0 (Kd.Dc (by (with_reducible repeat (first | apply Kd.bZ | apply Kd.bY | apply Kd.dA)); exact eG.out))) (aW (by repeat (first | (with_reducible first | exact HB.out | apply au | apply af | apply ak | refine aG ?_ gU.out | refine aG ?_ iJ.out) | exact HB.out))))
       have dQ := ah.mk (bg (g := dR) (o := .cells #[.int .i64 0, .int .i64 0, .slice none 0 0, .int .i64 0, .int .i64 0, .slice none 0 0] 28 (0, 0)) (by (with_reducible repeat (first | refine ay ?_ _ | refine aC ?_ | refine az ?_ _)); exact dn.out) hb)
       have eH := ah.mk (bg (g := bW) (o := .cells #[.int .i64 t112, .int .i64 t113, .slice sF t114.length rY] 26 (0, 0)) (by (with_reducible repeat (first | refine ay ?_ _ | refine aC ?_ | refine az ?_ _)); exact b_.out) hb)
       have iw := ah.mk (aI (by repeat (first | (with_reducible first | exact HB.out | apply au | apply af | apply ak | refine aG ?_ gU.out | refine aG ?_ iJ.out) | exact HB.out)) hb)
       clear eG
       clear dn
       clear b_
       clear HB
       have eG := bT
       have jq := dD
       have dn := dQ
       have b_ := eH
       have HB := iw
       clear bT dD dQ eH iw
       (try clear hb)
       (try clear hb2)
       (try clear hk)
       (try clear hi)
       (try clear ho0)
       obtain ⟨ajS, ai1, abo⟩ := Kd.iq jq.out
       (first | subst abo | (injection abo with tH zN tC; have zM := tH.symm; have zL := tC.symm; clear tH zN tC; subst zM; subst zL))
       refine hK.out _ _ ⟨(aj b_.out 0).trans rfl, (aj b_.out 1).trans rfl, (aj b_.out 2).trans rfl⟩ (fun hHeld => ?_)
       clear hK K
       refine iV (a' := ?_) ?_ ?_
       rotate_left
       · show Act.put _ (some 17) _ = _
         simp only [Act.put, List.setIfInBounds_toArray, List.set_cons_zero, List.set_cons_succ, aJ, aK]
         rfl
       refine bf (i := 4) (N := some 18) (v := ?_) (a' := ?_) #[true, true, true, true, true, true, false, false, false] rfl rfl (aN dF.out (by kernel_rfl)) (fun _ _ _ h => h) (Or.inl ⟨by rfl, ?_⟩) ?_ ?_
       rotate_left
       · intro w'
         go_simp
         with_reducible rfl
       rotate_left
       · simp only [Act.put, List.setIfInBounds_toArray, List.set_cons_zero, List.set_cons_succ, aJ, aK]
         rfl
       refine bf (i := 6) (N := some 20) (v := ?_) (a' := ?_) #[true, true, true, true, true, true, true, false, false] rfl rfl (aN dF.out (by kernel_rfl)) (fun _ _ _ h => h) (Or.inl ⟨by rfl, ?_⟩) ?_ ?_
       rotate_left
       · intro w'
         go_simp
         with_reducible rfl
       rotate_left
       · simp only [Act.put, List.setIfInBounds_toArray, List.set_cons_zero, List.set_cons_succ, aJ, aK]
         rfl
       refine nC (i := 7) (N := some 8) #[true, true, true, true, true, true, true, true, false] rfl rfl (iF dF.out (by kernel_rfl)) (by decide) (fun K hK => ?_)
       refine wL ?hg (N := 8) ?hd (cs := #[.int .i64 0, .int .i64 0, .slice none 0 0, .int .i64 0, .int .i64 0, .slice none 0 0]) (t := 28) ?hr ?_; (case hd => rfl); (case hg => rfl); (case hr => first | (go_simp; done) | (go_simp; rfl))
       intro bM hg w67 hbox hb
       have bT := ah.mk (Kd.iO (by (with_reducible repeat (first | apply Kd.bZ | apply Kd.bY | apply Kd.dA)); exact eG.out) hb)
       have dD := ah.mk (Kd.iO (by (with_reducible repeat (first | apply Kd.bZ | apply Kd.bY | apply Kd.dA)); exact jq.out) hb)
       have dQ := ah.mk (bg (g := dR) (o := .cells #[.int .i64 0, .int .i64 0, .slice none 0 0, .int .i64 0, .int .i64 0, .slice none 0 0] 28 (0, 0)) (by (with_reducible repeat (first | refine ay ?_ _ | refine aC ?_ | refine az ?_ _)); exact dn.out) hb)
       have eH := ah.mk (bg (g := bW) (o := .cells #[.int .i64 t112, .int .i64 t113, .slice sF t114.length rY] 26 (0, 0)) (by (with_reducible repeat (first | refine ay ?_ _ | refine aC ?_ | refine az ?_ _)); exact b_.out) hb)
       have iw := ah.mk (aI (by repeat (first | (with_reducible first | exact HB.out | apply au | apply af | apply ak | refine aG ?_ gU.out | refine aG ?_ iJ.out) | exact HB.out)) hb)
       have iQ := ah.mk (hbox)
       have jk := ah.mk ((by rw [hg]; exact (aW (by repeat (first | (with_reducible first | exact HB.out | apply au | apply af | apply ak | refine aG ?_ gU.out | refine aG ?_ iJ.out) | exact HB.out))) : w.heap.size ≤ bM))
       have mQ := ah.mk ((by rw [hg]; exact (aW (by repeat (first | (with_reducible first | exact HB.out | apply au | apply af | apply ak | refine aG ?_ gU.out | refine aG ?_ iJ.out) | exact HB.out))) : w.heap.size ≤ bM))
       have qA := ah.mk ((by rw [hg]; exact Nat.ne_of_lt (dP (g := dR) (o := .cells #[.int .i64 0, .int .i64 0, .slice none 0 0, .int .i64 0, .int .i64 0, .slice none 0 0] 28 (0, 0)) (by (with_reducible repeat (first | refine ay ?_ _ | refine aC ?_ | refine az ?_ _)); exact dn.out)) : dR ≠ bM))
       have uD := ah.mk ((by rw [hg]; exact Nat.ne_of_gt (dP (g := dR) (o := .cells #[.int .i64 0, .int .i64 0, .slice none 0 0, .int .i64 0, .int .i64 0, .slice none 0 0] 28 (0, 0)) (by (with_reducible repeat (first | refine ay ?_ _ | refine aC ?_ | refine az ?_ _)); exact dn.out)) : bM ≠ dR))
       have kP := ah.mk ((by rw [hg]; exact Nat.ne_of_lt (dP (g := bW) (o := .cells #[.int .i64 t112, .int .i64 t113, .slice sF t114.length rY] 26 (0, 0)) (by (with_reducible repeat (first | refine ay ?_ _ | refine aC ?_ | refine az ?_ _)); exact b_.out)) : bW ≠ bM))
       have rU := ah.mk ((by rw [hg]; exact Nat.ne_of_gt (dP (g := bW) (o := .cells #[.int .i64 t112, .int .i64 t113, .slice sF t114.length rY] 26 (0, 0)) (by (with_reducible repeat (first | refine ay ?_ _ | refine aC ?_ | refine az ?_ _)); exact b_.out)) : bM ≠ bW))
       clear eG
       clear jq
       clear dn
       clear b_
       clear HB
       have eG := bT
       have jq := dD
       have dn := dQ
       have b_ := eH
       have HB := iw
       have d_ := iQ
       have vY := jk
       have kR := mQ
       have dN := qA
       have fO := uD
       have bD := kP
       have fP := rU
       clear bT dD dQ eH iw iQ jk mQ qA uD kP rU
       clear hb hbox hg
       refine hK.out _ _ ⟨(aj b_.out 0).trans rfl, (aj b_.out 1).trans rfl, (aj b_.out 2).trans rfl⟩ (fun hHeld => ?_)
       clear hK K
       refine iV (a' := ?_) ?_ ?_
       rotate_left
       · show Act.put _ (some 8) _ = _
         simp only [Act.put, List.setIfInBounds_toArray, List.set_cons_zero, List.set_cons_succ, aJ, aK]
         rfl
       exact iV (by simp only [sN, Act.put, List.setIfInBounds_toArray, List.set_cons_zero, List.set_cons_succ]) (DJ (.slice ajS t119.length ai1, bM) _ ⟨hHeld, (by (with_reducible repeat (first | apply Kd.bZ | apply Kd.bY | apply Kd.dA)); exact Kd.fQ eG.out (fun _ hk => hk.2)), (by (with_reducible repeat (first | apply Kd.bZ | apply Kd.bY | apply Kd.dA)); exact Kd.fQ jq.out (fun _ hk => hk.2)), (by (with_reducible repeat (first | refine ay ?_ _ | refine aC ?_ | refine az ?_ _)); exact dn.out), (by (with_reducible repeat (first | refine ay ?_ _ | refine aC ?_ | refine az ?_ _)); exact b_.out), (by (with_reducible repeat (first | refine ay ?_ _ | refine aC ?_ | refine az ?_ _)); exact d_.out), vY.out, kR.out, dN.out, fO.out, bD.out, fP.out, (by repeat (first | (with_reducible first | exact HB.out | apply au | apply af | apply ak | refine aG ?_ gU.out | refine aG ?_ iJ.out | refine aG ?_ kR.out) | exact HB.out))⟩)
     · skip
       refine wL ?hg (N := 8) ?hd (cs := #[.int .i64 0, .int .i64 0, .slice none 0 0, .int .i64 0, .int .i64 0, .slice none 0 0]) (t := 28) ?hr ?_; (case hd => rfl); (case hg => rfl); (case hr => first | (go_simp; done) | (go_simp; rfl))
       intro bM hg w65 hbox hb
       have bT := ah.mk (Kd.iO (by (with_reducible repeat (first | apply Kd.bZ | apply Kd.bY | apply Kd.dA)); exact eG.out) hb)
       have dD := ah.mk (bg (g := dR) (o := .cells #[.int .i64 0, .int .i64 0, .slice none 0 0, .int .i64 0, .int .i64 0, .slice none 0 0] 28 (0, 0)) (by (with_reducible repeat (first | refine ay ?_ _ | refine aC ?_ | refine az ?_ _)); exact dn.out) hb)
       have dQ := ah.mk (bg (g := bW) (o := .cells #[.int .i64 t112, .int .i64 t113, .slice sF t114.length rY] 26 (0, 0)) (by (with_reducible repeat (first | refine ay ?_ _ | refine aC ?_ | refine az ?_ _)); exact b_.out) hb)
       have eH := ah.mk (aI (by repeat (first | (with_reducible first | exact HB.out | apply au | apply af | apply ak | refine aG ?_ gU.out | refine aG ?_ iJ.out) | exact HB.out)) hb)
       have iw := ah.mk (hbox)
       have iQ := ah.mk ((by rw [hg]; exact (aW (by repeat (first | (with_reducible first | exact HB.out | apply au | apply af | apply ak | refine aG ?_ gU.out | refine aG ?_ iJ.out) | exact HB.out))) : w.heap.size ≤ bM))
       have jk := ah.mk ((by rw [hg]; exact (aW (by repeat (first | (with_reducible first | exact HB.out | apply au | apply af | apply ak | refine aG ?_ gU.out | refine aG ?_ iJ.out) | exact HB.out))) : w.heap.size ≤ bM))
       have mQ := ah.mk ((by rw [hg]; exact Nat.ne_of_lt (dP (g := dR) (o := .cells #[.int .i64 0, .int .i64 0, .slice none 0 0, .int .i64 0, .int .i64 0, .slice none 0 0] 28 (0, 0)) (by (with_reducible repeat (first | refine ay ?_ _ | refine aC ?_ | refine az ?_ _)); exact dn.out)) : dR ≠ bM))
       have qA := ah.mk ((by rw [hg]; exact Nat.ne_of_gt (dP (g := dR) (o := .cells #[.int .i64 0, .int .i64 0, .slice none 0 0, .int .i64 0, .int .i64 0, .slice none 0 0] 28 (0, 0)) (by (with_reducible repeat (first | refine ay ?_ _ | refine aC ?_ | refine az ?_ _)); exact dn.out)) : bM ≠ dR))
       have uD := ah.mk ((by rw [hg]; exact Nat.ne_of_lt (dP (g := bW) (o := .cells #[.int .i64 t112, .int .i64 t113, .slice sF t114.length rY] 26 (0, 0)) (by (with_reducible repeat (first | refine ay ?_ _ | refine aC ?_ | refine az ?_ _)); exact b_.out)) : bW ≠ bM))
       have kP := ah.mk ((by rw [hg]; exact Nat.ne_of_gt (dP (g := bW) (o := .cells #[.int .i64 t112, .int .i64 t113, .slice sF t114.length rY] 26 (0, 0)) (by (with_reducible repeat (first | refine ay ?_ _ | refine aC ?_ | refine az ?_ _)); exact b_.out)) : bM ≠ bW))
       clear eG
       clear dn
       clear b_
       clear HB
       have eG := bT
       have dn := dD
       have b_ := dQ
       have HB := eH
       have d_ := iw
       have vY := iQ
       have kR := jk
       have dN := mQ
       have fO := qA
       have bD := uD
       have fP := kP
       clear bT dD dQ eH iw iQ jk mQ qA uD kP
       clear hb hbox hg
       refine hK.out _ _ ⟨(aj b_.out 0).trans rfl, (aj b_.out 1).trans rfl, (aj b_.out 2).trans rfl⟩ (fun hHeld => ?_)
       clear hK K
       refine iV (a' := ?_) ?_ ?_
       rotate_left
       · show Act.put _ (some 8) _ = _
         simp only [Act.put, List.setIfInBounds_toArray, List.set_cons_zero, List.set_cons_succ, aJ, aK]
         rfl
       refine nC (i := 3) (N := some 17) #[true, true, true, true, false, true, false, true, false] rfl rfl (iF dF.out (by kernel_rfl)) (by decide) (fun K hK => ?_)
       refine kU Try.func31 (by kernel_rfl) rfl #[.slice A0 l0.length c0] (by rfl) rfl rfl (by (try simp only [List.map_toArray, List.map_cons, List.map_nil]); first | done | rfl | (simp only [List.length_drop, List.length_take]; rfl)) ?_
       with_reducible refine (lJ.calls _ _ l0 t119 _ ?eY ?eX A4.out).mono ?_
       (case eY => repeat (first | exact (Kd.fB HR0.out HB.out) | (with_reducible refine Kd.fE ?_ _) | (with_reducible refine Kd.fD ?_ _) | (with_reducible refine Kd.gm ?_)))
       (case eX => exact XX.out)
       rintro e w66 ⟨AV, rfl, ho0, hb⟩
       refine ⟨_, rfl, ?_⟩
       have bT := ah.mk (Kd.pG (by (with_reducible repeat (first | apply Kd.bZ | apply Kd.bY | apply Kd.dA)); exact eG.out) (Kd.qK ho0) hb)
       have dD := ah.mk (Kd.jG (Kd.wE ho0 (Kd.Dc (by (with_reducible repeat (first | apply Kd.bZ | apply Kd.bY | apply Kd.dA)); exact eG.out))) (aW (by repeat (first | (with_reducible first | exact HB.out | apply au | apply af | apply ak | refine aG ?_ gU.out | refine aG ?_ iJ.out | refine aG ?_ kR.out) | exact HB.out))))
       have dQ := ah.mk (bg (g := dR) (o := .cells #[.int .i64 0, .int .i64 0, .slice none 0 0, .int .i64 0, .int .i64 0, .slice none 0 0] 28 (0, 0)) (by (with_reducible repeat (first | refine ay ?_ _ | refine aC ?_ | refine az ?_ _)); exact dn.out) hb)
       have eH := ah.mk (bg (g := bW) (o := .cells #[.int .i64 t112, .int .i64 t113, .slice sF t114.length rY] 26 (0, 0)) (by (with_reducible repeat (first | refine ay ?_ _ | refine aC ?_ | refine az ?_ _)); exact b_.out) hb)
       have iw := ah.mk (bg (g := bM) (o := .cells #[.int .i64 0, .int .i64 0, .slice none 0 0, .int .i64 0, .int .i64 0, .slice none 0 0] 28 (0, 0)) (by (with_reducible repeat (first | refine ay ?_ _ | refine aC ?_ | refine az ?_ _)); exact d_.out) hb)
       have iQ := ah.mk (aI (by repeat (first | (with_reducible first | exact HB.out | apply au | apply af | apply ak | refine aG ?_ gU.out | refine aG ?_ iJ.out | refine aG ?_ kR.out) | exact HB.out)) hb)
       clear eG
       clear dn
       clear b_
       clear d_
       clear HB
       have eG := bT
       have jq := dD
       have dn := dQ
       have b_ := eH
       have d_ := iw
       have HB := iQ
       clear bT dD dQ eH iw iQ
       (try clear hb)
       (try clear hb2)
       (try clear hk)
       (try clear hi)
       (try clear ho0)
       obtain ⟨ajR, ai0, abn⟩ := Kd.iq jq.out
       (first | subst abn | (injection abn with tH zN tC; have zM := tH.symm; have zL := tC.symm; clear tH zN tC; subst zM; subst zL))
       refine hK.out _ _ ⟨(aj b_.out 0).trans rfl, (aj b_.out 1).trans rfl, (aj b_.out 2).trans rfl⟩ (fun hHeld => ?_)
       clear hK K
       refine iV (a' := ?_) ?_ ?_
       rotate_left
       · show Act.put _ (some 17) _ = _
         simp only [Act.put, List.setIfInBounds_toArray, List.set_cons_zero, List.set_cons_succ, aJ, aK]
         rfl
       refine bf (i := 4) (N := some 18) (v := ?_) (a' := ?_) #[true, true, true, true, true, true, false, true, false] rfl rfl (aN dF.out (by kernel_rfl)) (fun _ _ _ h => h) (Or.inl ⟨by rfl, ?_⟩) ?_ ?_
       rotate_left
       · intro w'
         go_simp
         with_reducible rfl
       rotate_left
       · simp only [Act.put, List.setIfInBounds_toArray, List.set_cons_zero, List.set_cons_succ, aJ, aK]
         rfl
       refine bf (i := 6) (N := some 20) (v := ?_) (a' := ?_) #[true, true, true, true, true, true, true, true, false] rfl rfl (aN dF.out (by kernel_rfl)) (fun _ _ _ h => h) (Or.inl ⟨by rfl, ?_⟩) ?_ ?_
       rotate_left
       · intro w'
         go_simp
         with_reducible rfl
       rotate_left
       · simp only [Act.put, List.setIfInBounds_toArray, List.set_cons_zero, List.set_cons_succ, aJ, aK]
         rfl
       exact iV (by simp only [sN, Act.put, List.setIfInBounds_toArray, List.set_cons_zero, List.set_cons_succ]) (DJ (.slice ajR t119.length ai0, bM) _ ⟨hHeld, (by (with_reducible repeat (first | apply Kd.bZ | apply Kd.bY | apply Kd.dA)); exact Kd.fQ eG.out (fun _ hk => hk.2)), (by (with_reducible repeat (first | apply Kd.bZ | apply Kd.bY | apply Kd.dA)); exact Kd.fQ jq.out (fun _ hk => hk.2)), (by (with_reducible repeat (first | refine ay ?_ _ | refine aC ?_ | refine az ?_ _)); exact dn.out), (by (with_reducible repeat (first | refine ay ?_ _ | refine aC ?_ | refine az ?_ _)); exact b_.out), (by (with_reducible repeat (first | refine ay ?_ _ | refine aC ?_ | refine az ?_ _)); exact d_.out), vY.out, kR.out, dN.out, fO.out, bD.out, fP.out, (by repeat (first | (with_reducible first | exact HB.out | apply au | apply af | apply ak | refine aG ?_ gU.out | refine aG ?_ iJ.out | refine aG ?_ kR.out) | exact HB.out))⟩)
   rintro ⟨AV, bM⟩ GU ⟨hS_, Yt, Yr, Yq, Yp, Yo, Yn, Ym, Yl, Yk, Yj, Lt, Ls⟩
   have bT : ah (Kd.R (Kd.int .i64) 22 GU w.heap.size (fun k_ => some k_ ≠ (AV : Value).ownBlock) (.slice sF t114.length rY) t114) := ⟨Yt⟩
   have dD : ah (Kd.R (Kd.int .i64) 22 GU w.heap.size (fun k_ => some k_ ≠ (.slice sF t114.length rY : Value).ownBlock) AV t119) := ⟨Yr⟩
   have dQ : ah (GU.heap[dR]? = some (.cells #[.int .i64 0, .int .i64 0, .slice none 0 0, .int .i64 0, .int .i64 0, .slice none 0 0] 28 (0, 0))) := ⟨Yq⟩
   have eH : ah (GU.heap[bW]? = some (.cells #[.int .i64 t112, .int .i64 t113, .slice sF t114.length rY] 26 (0, 0))) := ⟨Yp⟩
   have iw : ah (GU.heap[bM]? = some (.cells #[.int .i64 0, .int .i64 0, .slice none 0 0, .int .i64 0, .int .i64 0, .slice none 0 0] 28 (0, 0))) := ⟨Yo⟩
   have iQ : ah (w.heap.size ≤ bM) := ⟨Yn⟩
   have jk : ah (w.heap.size ≤ bM) := ⟨Ym⟩
   have mQ : ah (dR ≠ bM) := ⟨Yl⟩
   have qA : ah (bM ≠ dR) := ⟨Yk⟩
   have uD : ah (bW ≠ bM) := ⟨Yj⟩
   have kP : ah (bM ≠ bW) := ⟨Lt⟩
   have rU : ah (Below w.heap.size w GU) := ⟨Ls⟩
   clear eG
   clear dn
   clear b_
   clear HB
   clear Yt Yr Yq Yp Yo Yn Ym Yl Yk Yj Lt Ls
   have eG := bT
   have jq := dD
   have dn := dQ
   have b_ := eH
   have d_ := iw
   have vY := iQ
   have kR := jk
   have dN := mQ
   have fO := qA
   have bD := uD
   have fP := kP
   have HB := rU
   clear bT dD dQ eH iw iQ jk mQ qA uD kP rU
   have hHeld : GU.cell? ⟨bW, 0, none⟩ = some (.int .i64 t112) ∧ GU.cell? ⟨bW, 1, none⟩ = some (.int .i64 t113) ∧ GU.cell? ⟨bW, 2, none⟩ = some (.slice sF t114.length rY) := hS_
   obtain ⟨aoM, aon, abm⟩ := Kd.iq jq.out
   (first | subst abm | (injection abm with tH zN tC; have zM := tH.symm; have zL := tC.symm; clear tH zN tC; subst zM; subst zL))
   refine iV (a' := ?_) ?_ ?_
   rotate_left
   · simp only [sN, Act.put, List.setIfInBounds_toArray, List.set_cons_zero, List.set_cons_succ]
     rfl
   refine nC (i := 8) (N := none) #[true, true, true, true, true, true, true, true, true] rfl rfl (iF dF.out (by kernel_rfl)) (by decide) (fun K hK => ?_)
   have anB : GU.cell? ⟨bM, 0, none⟩ = some (.int .i64 0) := (aj d_.out 0).trans rfl
   have akY := aA d_.out 0
   have adS := dN.out
   have adR := bD.out
   have aet := fO.out
   have aes := fP.out
   have anA : GU.cell? ⟨bM, 1, none⟩ = some (.int .i64 0) := (aj d_.out 1).trans rfl
   have akX := aA d_.out 1
   have adQ := dN.out
   have adP := bD.out
   have aer := fO.out
   have aep := fP.out
   have anz : GU.cell? ⟨bM, 2, none⟩ = some (.slice none 0 0) := (aj d_.out 2).trans rfl
   have akW := aA d_.out 2
   have adO := dN.out
   have adN := bD.out
   have aeo := fO.out
   have aen := fP.out
   have anx : GU.cell? ⟨bM, 3, none⟩ = some (.int .i64 0) := (aj d_.out 3).trans rfl
   have akV := aA d_.out 3
   have adM := dN.out
   have adL := bD.out
   have aem := fO.out
   have ael := fP.out
   have anw : GU.cell? ⟨bM, 4, none⟩ = some (.int .i64 0) := (aj d_.out 4).trans rfl
   have akU := aA d_.out 4
   have adK := dN.out
   have adJ := bD.out
   have aek := fO.out
   have aej := fP.out
   have anv : GU.cell? ⟨bM, 5, none⟩ = some (.slice none 0 0) := (aj d_.out 5).trans rfl
   have akT := aA d_.out 5
   have adI := dN.out
   have adH := bD.out
   have aei := fO.out
   have aeh := fP.out
   refine Du (w1 := ?_) (by rfl) rfl ?_ ?_
   rotate_left
   · go_simp
     rfl
   refine hK.out _ _ ⟨((cell_far (p := ⟨bM, _, none⟩) bD.out _).trans (((cell_far (p := ⟨bM, _, none⟩) bD.out _).trans (((cell_far (p := ⟨bM, _, none⟩) bD.out _).trans (((cell_far (p := ⟨bM, _, none⟩) bD.out _).trans (((cell_far (p := ⟨bM, _, none⟩) bD.out _).trans (((cell_far (p := ⟨bM, _, none⟩) bD.out _).trans (hHeld.1)))))))))))), ((cell_far (p := ⟨bM, _, none⟩) bD.out _).trans (((cell_far (p := ⟨bM, _, none⟩) bD.out _).trans (((cell_far (p := ⟨bM, _, none⟩) bD.out _).trans (((cell_far (p := ⟨bM, _, none⟩) bD.out _).trans (((cell_far (p := ⟨bM, _, none⟩) bD.out _).trans (((cell_far (p := ⟨bM, _, none⟩) bD.out _).trans (hHeld.2.1)))))))))))), ((cell_far (p := ⟨bM, _, none⟩) bD.out _).trans (((cell_far (p := ⟨bM, _, none⟩) bD.out _).trans (((cell_far (p := ⟨bM, _, none⟩) bD.out _).trans (((cell_far (p := ⟨bM, _, none⟩) bD.out _).trans (((cell_far (p := ⟨bM, _, none⟩) bD.out _).trans (((cell_far (p := ⟨bM, _, none⟩) bD.out _).trans (hHeld.2.2))))))))))))⟩ (fun hHeld => ?_)
   clear hK K
   refine tJ (lW dF.out (by kernel_rfl)) ?_
   have aku := dN.out
   have akd := fO.out
   have agd : GU.cell? ⟨dR, 0, none⟩ = some (.int .i64 0) := (aj dn.out 0).trans rfl
   have agc : GU.cell? ⟨dR, 1, none⟩ = some (.int .i64 0) := (aj dn.out 1).trans rfl
   have agb : GU.cell? ⟨dR, 2, none⟩ = some (.slice none 0 0) := (aj dn.out 2).trans rfl
   have aga : GU.cell? ⟨dR, 3, none⟩ = some (.int .i64 0) := (aj dn.out 3).trans rfl
   have af_ : GU.cell? ⟨dR, 4, none⟩ = some (.int .i64 0) := (aj dn.out 4).trans rfl
   have af9 : GU.cell? ⟨dR, 5, none⟩ = some (.slice none 0 0) := (aj dn.out 5).trans rfl
   have aeY := aA dn.out 0
   have aeX := aA dn.out 1
   have aeW := aA dn.out 2
   have aeV := aA dn.out 3
   have aeU := aA dn.out 4
   have aeT := aA dn.out 5
   try go_wp2
   refine bodyPost_ret (lQ rfl _ _ dR 28 #[.int .i64 0, .int .i64 0, .slice none 0 0, .int .i64 0, .int .i64 0, .slice none 0 0] (0, 0) _ rfl (by (with_reducible repeat (first | refine ay ?_ _ | refine aC ?_ | refine az ?_ _)); refine bQ (cs := #[.int .i64 0, .int .i64 0, .slice none 0 0, .int .i64 0, .int .i64 0, .slice none 0 0]) ?_ 5 _ rfl; (with_reducible repeat (first | refine ay ?_ _ | refine aC ?_ | refine az ?_ _)); refine bQ (cs := #[.int .i64 0, .int .i64 0, .slice none 0 0, .int .i64 0, .int .i64 0, .slice none 0 0]) ?_ 4 _ rfl; (with_reducible repeat (first | refine ay ?_ _ | refine aC ?_ | refine az ?_ _)); refine bQ (cs := #[.int .i64 0, .int .i64 0, .slice none 0 0, .int .i64 0, .int .i64 0, .slice none 0 0]) ?_ 3 _ rfl; (with_reducible repeat (first | refine ay ?_ _ | refine aC ?_ | refine az ?_ _)); refine bQ (cs := #[.int .i64 0, .int .i64 0, .slice none 0 0, .int .i64 0, .int .i64 0, .slice none 0 0]) ?_ 2 _ rfl; (with_reducible repeat (first | refine ay ?_ _ | refine aC ?_ | refine az ?_ _)); refine bQ (cs := #[.int .i64 0, .int .i64 0, .slice none 0 0, .int .i64 0, .int .i64 0, .slice none 0 0]) ?_ 1 _ rfl; (with_reducible repeat (first | refine ay ?_ _ | refine aC ?_ | refine az ?_ _)); refine bQ (cs := #[.int .i64 0, .int .i64 0, .slice none 0 0, .int .i64 0, .int .i64 0, .slice none 0 0]) ?_ 0 _ rfl; (with_reducible repeat (first | refine ay ?_ _ | refine aC ?_ | refine az ?_ _)); refine dL ?_ dN.out _; (with_reducible repeat (first | refine ay ?_ _ | refine aC ?_ | refine az ?_ _)); refine dL ?_ dN.out _; (with_reducible repeat (first | refine ay ?_ _ | refine aC ?_ | refine az ?_ _)); refine dL ?_ dN.out _; (with_reducible repeat (first | refine ay ?_ _ | refine aC ?_ | refine az ?_ _)); refine dL ?_ dN.out _; (with_reducible repeat (first | refine ay ?_ _ | refine aC ?_ | refine az ?_ _)); refine dL ?_ dN.out _; (with_reducible repeat (first | refine ay ?_ _ | refine aC ?_ | refine az ?_ _)); refine dL ?_ dN.out _; (with_reducible repeat (first | refine ay ?_ _ | refine aC ?_ | refine az ?_ _)); exact dn.out) Try.underlying28 rfl (by kernel_rfl)) rfl ?_
   exact ⟨_, _, by first | rfl | (simp [aU, aT] <;> rfl) | (simp [*, aU, aT] <;> rfl), by first | exact Kd.qV _ _ _ _ _ | exact Kd.vV _ _ _ _ _ | exact Kd.vP _ _ _ _ _ | exact Kd.vU _ _ _ _ _ | exact Kd.vS _ _ _ _ _, by first | exact Kd.qV _ _ _ _ _ | exact Kd.vV _ _ _ _ _ | exact Kd.vP _ _ _ _ _ | exact Kd.vU _ _ _ _ _ | exact Kd.vS _ _ _ _ _, by repeat (first | (with_reducible first | exact HB.out | apply au | apply af | apply ak | refine aG ?_ gU.out | refine aG ?_ iJ.out | refine aG ?_ kR.out) | exact HB.out)⟩
end Go.Proofs.Ytninmcmajbfccaa.PR

