import Derived.Test.YtbchepdaomhgeaaMQ
/- MirrorFrees: the walk. -/
namespace Go.Proofs.Ytbchepdaomhgeaa.MM
open Go.RowKit
set_option linter.unusedVariables false
set_option linter.unusedSimpArgs false
theorem end0 {w w3 : World} {B n : Nat} {d0 d : Dk} {s0 s : Value} {l : List Ot} (N : Row w3 B 26 (d0.row s0)) (hS : Sl w3 s l) (hg : ∀ g, s.ownBlock = some g → B < g) (hb : Below n w w3) (hn : n ≤ B) :
    Row (fillD w3 B d s) B 26 (d.row s) ∧ Sl (fillD w3 B d s) s l ∧ Below n w (fillD w3 B d s) :=
  ⟨N.fill7 _ _ _ _ _ _ _, hS.fill7 (fun g h => by have := hg g h; omega) _ _ _ _ _ _ _, Below.fill7 hb hn _ _ _ _ _ _ _⟩
set_option maxRecDepth 100000 in
set_option maxHeartbeats 200000000 in
theorem frees_walk (A : Option Addr) (c : Nat) (ys : List Vc) (w : World) (hw : Vts w w.heap.size A ys) :
    Calls Try.prog 7 #[.slice A ys.length c] w fun e w' => e = .returned (.bool true) ∧ Below w.heap.size w w' := by
  have HW := Lib.hid hw
  clear hw
  go_enter Try.func7, Try.ntmps7
  go_wp2_with fail
  refine (shown_calls _).mono ?_
  rintro e w1 ⟨rfl, hb⟩
  have HB1 := Lib.hid hb
  clear hb
  by_cases hn : (ys.length : Int) > 60
  · go_wp2
    go_ret
    exact ⟨rfl, HB1.out⟩
  have hd : decide ((ys.length : Int) > 60) = false := decide_eq_false hn
  have HN := Lib.hid (show ys.length ≤ 60 by omega)
  clear hn
  go_wp2_with fail
  refine (new_calls 1 0 _).mono ?_
  rw [known_in (n := 1) (by omega) (by omega), known_in (n := 0) (by omega) (by omega)]
  rintro e w2 ⟨rfl, hb⟩
  have HB2 := Lib.hid (HB1.out.trans (hb.mono HB1.out.size))
  clear hb HB1
  go_wp2_with fail
  go_loopw [5, 6, 7] (fun la to i wr => ∃ (k : Nat) (d : Dk) (s : Value) (l : List Ot) (last told : Int), k ≤ ys.length ∧ i = .int .i64 k ∧ la = .int .i64 last ∧ to = .int .i64 told ∧ Hid (FI d l last told) ∧ Hid (Row wr w2.heap.size 26 (d.row s)) ∧ Hid (Sl wr s l) ∧ Hid (∀ g, s.ownBlock = some g → w2.heap.size < g) ∧ Hid (Below w.heap.size w wr)) (fun _ _ i _ => ys.length - (intOf i).toNat)
  case atStart => exact ⟨0, ⟨1, 0, 0, -1, 0, 0⟩, .slice none 0 0, [], 0, 0, by omega, rfl, rfl, rfl, Lib.hid FI.init, Lib.hid (Row.new w2 26 _), Lib.hid ⟨none, 0, rfl, by simp, fun _ => rfl, Wts.nil _ _ _⟩, Lib.hid (fun g h => by simp [Value.ownBlock] at h), Lib.hid (HB2.out.alloc HB2.out.size _)⟩
  case round =>
    obtain ⟨k, d, s, l, last, told, hk, rfl, rfl, rfl, F, R, S, G, B⟩ := hrel
    by_cases hkl : k = ys.length
    · subst hkl
      go_wp2
      go_ret
      exact ⟨rfl, B.out⟩
    have hlt : (k : Int) < ys.length := by omega
    have hk0 : (0 : Int) ≤ k := by omega
    obtain ⟨bq, oq, rfl, hbq, hc⟩ := (HW.out.below B.out) (by intro e; subst e; simp at hlt; omega)
    obtain ⟨v, hv⟩ : ∃ v, ys[k]? = some v := ⟨ys[k]'(by omega), List.getElem?_eq_getElem (by omega)⟩
    obtain ⟨x0, x1, x2⟩ := hc k v hv
    obtain ⟨what, a, b⟩ := v
    dsimp only at x0 x1 x2
    have STEP : Hid (k + 1 ≤ ys.length ∧ ys.length - (k + 1) < ys.length - k) := Lib.hid (by omega)
    have hw64 : IntKind.i64.wrap ((k : Int) + 1) = (k : Int) + 1 := by have := HN.out; simp [IntKind.wrap, IntKind.bits, IntKind.signed]; omega
    clear hc hv hk hkl
    obtain ⟨As, cs, rfl, _, _, _⟩ := id S.out
    have R4 := Lib.hid (R.out.alloc (.cells #[.int .i64 what, .int .i64 a, .int .i64 b] 49))
    have R8 := Lib.hid (Row.new wr 49 #[.int .i64 what, .int .i64 a, .int .i64 b])
    have S4 := Lib.hid (S.out.alloc (.cells #[.int .i64 what, .int .i64 a, .int .i64 b] 49))
    have B4 := Lib.hid (B.out.alloc B.out.size (.cells #[.int .i64 what, .int .i64 a, .int .i64 b] 49))
    have cr := R.out.cell
    have lr := R.out.lt
    have NB := Lib.hid (Nat.le_trans HB2.out.size (Nat.le_refl _))
    have BB := Lib.hid B.out.size
    have W2 : Hid (w.heap.size ≤ w2.heap.size) := Lib.hid HB2.out.size
    have hq0 : Hid (0 ≤ d.seq) := Lib.hid (inB_iff.1 (right_iff.1 F.out.right).2.2.2.1).1
    have LR : Hid (w2.heap.size < wr.heap.size) := Lib.hid lr
    clear R S B
    by_cases q0 : what = 0
    · subst q0
      have hwk : IntKind.i64.wrap (d.k + 1) = d.k + 1 := by have := inB_iff.1 (right_iff.1 F.out.right).2.1; simp [IntKind.wrap, IntKind.bits, IntKind.signed]; omega
      by_cases hfl : l.length ≥ 64 ∨ d.k ≥ 4611686018427387904
      · have HFL := Lib.hid hfl
        clear hfl
        have hf : l.length ≥ 64 ∨ d.k ≥ 4611686018427387904 := HFL.out
        have hl64 : l.length ≤ 64 := by have := (right_iff.1 F.out.right).2.2.2.2.2.2.2.2.1; omega
        go_wp2_with fail
        refine (addFull_calls d As l.length cs (d.k + 1) 0 0 _ hl64 hf).mono ?_
        rintro e w3 ⟨rfl, hb⟩
        have R3 := Lib.hid (R4.out.below hb R4.out.lt)
        have Q8 := Lib.hid (R8.out.below hb R8.out.lt)
        have B3 := Lib.hid (B4.out.trans (hb.mono B4.out.size))
        have S3 := Lib.hid (S4.out.below hb)
        have G3 := G
        clear hb cr lr
        have c3 := R3.out.cell
        have f3 := R3.out.free
        have l3 := R3.out.lt
        have c8 := Q8.out.cell
        have l8 := Q8.out.lt
        obtain ⟨z1, z2, z3⟩ := end1 (d := d) (s := (.slice As l.length cs)) (l := l) R3.out S3.out G3.out B3.out W2.out (.cells (Dk.row d (.slice As l.length cs)) 26)
        have RN := Lib.hid z1
        have SN := Lib.hid z2
        have BN := Lib.hid z3
        have GN := G3
        clear z1 z2 z3
        clear hf hl64
        have cR := RN.out.cell
        have lR := RN.out.lt
        clear NB BB
        go_wp2_with fail
        refine (refRight_calls d (.slice As l.length cs) l _ SN.out).mono ?_
        rw [show Dk.right d l = true from F.out.right]
        rintro e wt ⟨rfl, hb⟩
        have RT := Lib.hid (RN.out.below hb RN.out.lt)
        have ST := Lib.hid (SN.out.below hb)
        have BT := Lib.hid (BN.out.trans (hb.mono BN.out.size))
        clear hb
        go_wp2
        go_roundw
        case rel => exact ⟨k + 1, d, (.slice As l.length cs), l, last, told, STEP.out.1, by go_num, rfl, rfl, Lib.hid F.out, RT, ST, GN, BT⟩
        case measure => exact meas STEP.out.2
      · have HF : Hid (l.length < 64 ∧ d.k < 4611686018427387904) := Lib.hid (by omega)
        clear hfl
        go_wp2_with fail
        refine (add_calls d (.slice As l.length cs) l (d.k + 1) 0 0 _ S4.out HF.out.1 HF.out.2 (inB_iff.1 (right_iff.1 F.out.right).2.1).1).mono ?_
        rintro e w3 ⟨s', rfl, hs', hg', hb⟩
        obtain ⟨A3, c3', rfl, _, _, _⟩ := id hs'
        have el : (l ++ [(⟨d.k + 1, d.k + 1, 0, 0⟩ : Ot)]).length = l.length + 1 := by simp
        rw [el] at hs' hg' ⊢
        clear el
        have R3 := Lib.hid (R4.out.below hb R4.out.lt)
        have Q8 := Lib.hid (R8.out.below hb R8.out.lt)
        have B3 := Lib.hid (B4.out.trans (hb.mono B4.out.size))
        have S3 := Lib.hid hs'
        have G3 := Lib.hid (fun g (h : (Value.slice A3 (l.length + 1) c3').ownBlock = some g) => Nat.lt_of_lt_of_le (show w2.heap.size < (wr.alloc (.cells #[.int .i64 0, .int .i64 a, .int .i64 b] 49)).heap.size by have := LR.out; simp; omega) (hg' g h))
        clear hb cr lr hs' hg'
        have c3 := R3.out.cell
        have f3 := R3.out.free
        have l3 := R3.out.lt
        have c8 := Q8.out.cell
        have l8 := Q8.out.lt
        obtain ⟨z1, z2, z3⟩ := end1 (d := (⟨d.gen, d.k + 1, d.acked, d.peer, d.stage, d.seq⟩ : Dk)) (s := (.slice A3 (l.length + 1) c3')) (l := (l ++ [(⟨d.k + 1, d.k + 1, 0, 0⟩ : Ot)])) R3.out S3.out G3.out B3.out W2.out (.cells (Dk.row (⟨d.gen, d.k + 1, d.acked, d.peer, d.stage, d.seq⟩ : Dk) (.slice A3 (l.length + 1) c3')) 26)
        have RN := Lib.hid z1
        have SN := Lib.hid z2
        have BN := Lib.hid z3
        have GN := G3
        clear z1 z2 z3
        have FN : FI (⟨d.gen, d.k + 1, d.acked, d.peer, d.stage, d.seq⟩ : Dk) (l ++ [(⟨d.k + 1, d.k + 1, 0, 0⟩ : Ot)]) last told := F.out.add HF.out.2 HF.out.1
        have cR := RN.out.cell
        have lR := RN.out.lt
        clear NB BB
        go_wp2_with fail
        refine (refRight_calls (⟨d.gen, d.k + 1, d.acked, d.peer, d.stage, d.seq⟩ : Dk) (.slice A3 (l.length + 1) c3') (l ++ [(⟨d.k + 1, d.k + 1, 0, 0⟩ : Ot)]) _ SN.out).mono ?_
        rw [show Dk.right (⟨d.gen, d.k + 1, d.acked, d.peer, d.stage, d.seq⟩ : Dk) (l ++ [(⟨d.k + 1, d.k + 1, 0, 0⟩ : Ot)]) = true from FN.right]
        rintro e wt ⟨rfl, hb⟩
        have RT := Lib.hid (RN.out.below hb RN.out.lt)
        have ST := Lib.hid (SN.out.below hb)
        have BT := Lib.hid (BN.out.trans (hb.mono BN.out.size))
        clear hb
        go_wp2
        go_roundw
        case rel => exact ⟨k + 1, (⟨d.gen, d.k + 1, d.acked, d.peer, d.stage, d.seq⟩ : Dk), (.slice A3 (l.length + 1) c3'), (l ++ [(⟨d.k + 1, d.k + 1, 0, 0⟩ : Ot)]), last, told, STEP.out.1, by go_num, rfl, rfl, Lib.hid FN, RT, ST, GN, BT⟩
        case measure => exact meas STEP.out.2
    have e0 : (what == 0) = false := by simp [q0]
    by_cases q1 : what = 1
    · subst q1
      have FW := F.out.want a
      clear q0
      cases hwa : d.wants a
      · rw [hwa] at FW
        have HWA := Lib.hid hwa
        clear hwa
        rw [if_neg (by decide)] at FW
        have FWH := Lib.hid FW
        clear FW
        go_wp2_with fail
        refine (Want_calls d (.slice As l.length cs) a _ hq0.out ⟨_, _, _, rfl⟩).mono ?_
        rw [HWA.out]
        rintro e w3 ⟨rfl, hb⟩
        have R3 := Lib.hid (R4.out.below hb R4.out.lt)
        have Q8 := Lib.hid (R8.out.below hb R8.out.lt)
        have B3 := Lib.hid (B4.out.trans (hb.mono B4.out.size))
        have S3 := Lib.hid (S4.out.below hb)
        have G3 := G
        clear hb cr lr
        have c3 := R3.out.cell
        have f3 := R3.out.free
        have l3 := R3.out.lt
        have c8 := Q8.out.cell
        have l8 := Q8.out.lt
        obtain ⟨z1, z2, z3⟩ := end1 (d := (d.wanted a)) (s := (.slice As l.length cs)) (l := l) R3.out S3.out G3.out B3.out W2.out (.cells (Dk.row (d.wanted a) (.slice As l.length cs)) 26)
        have RN := Lib.hid z1
        have SN := Lib.hid z2
        have BN := Lib.hid z3
        have GN := G3
        clear z1 z2 z3
        have cR := RN.out.cell
        have lR := RN.out.lt
        clear NB BB
        go_wp2_with fail
        refine (refRight_calls (d.wanted a) (.slice As l.length cs) l _ SN.out).mono ?_
        rw [show Dk.right (d.wanted a) l = true from FWH.out.right]
        rintro e wt ⟨rfl, hb⟩
        have RT := Lib.hid (RN.out.below hb RN.out.lt)
        have ST := Lib.hid (SN.out.below hb)
        have BT := Lib.hid (BN.out.trans (hb.mono BN.out.size))
        clear hb
        go_wp2
        go_roundw
        case rel => exact ⟨k + 1, (d.wanted a), (.slice As l.length cs), l, last, told, STEP.out.1, by go_num, rfl, rfl, Lib.hid FWH.out, RT, ST, GN, BT⟩
        case measure => exact meas STEP.out.2
      · rw [hwa] at FW
        have HWA := Lib.hid hwa
        clear hwa
        rw [if_pos rfl] at FW
        have FWH := Lib.hid FW
        clear FW
        go_wp2_with fail
        refine (Want_calls d (.slice As l.length cs) a _ hq0.out ⟨_, _, _, rfl⟩).mono ?_
        rw [HWA.out]
        rintro e w3 ⟨rfl, hb⟩
        have R3 := Lib.hid (R4.out.below hb R4.out.lt)
        have Q8 := Lib.hid (R8.out.below hb R8.out.lt)
        have B3 := Lib.hid (B4.out.trans (hb.mono B4.out.size))
        have S3 := Lib.hid (S4.out.below hb)
        have G3 := G
        clear hb cr lr
        have c3 := R3.out.cell
        have f3 := R3.out.free
        have l3 := R3.out.lt
        have c8 := Q8.out.cell
        have l8 := Q8.out.lt
        obtain ⟨z1, z2, z3⟩ := end1 (d := (d.wanted a)) (s := (.slice As l.length cs)) (l := l) R3.out S3.out G3.out B3.out W2.out (.cells (Dk.row (d.wanted a) (.slice As l.length cs)) 26)
        have RN := Lib.hid z1
        have SN := Lib.hid z2
        have BN := Lib.hid z3
        have GN := G3
        clear z1 z2 z3
        have cR := RN.out.cell
        have lR := RN.out.lt
        clear NB BB
        go_wp2_with fail
        refine (refRight_calls (d.wanted a) (.slice As l.length cs) l _ SN.out).mono ?_
        rw [show Dk.right (d.wanted a) l = true from FWH.out.right]
        rintro e wt ⟨rfl, hb⟩
        have RT := Lib.hid (RN.out.below hb RN.out.lt)
        have ST := Lib.hid (SN.out.below hb)
        have BT := Lib.hid (BN.out.trans (hb.mono BN.out.size))
        clear hb
        go_wp2
        go_roundw
        case rel => exact ⟨k + 1, (d.wanted a), (.slice As l.length cs), l, last, 0, STEP.out.1, by go_num, rfl, rfl, Lib.hid FWH.out, RT, ST, GN, BT⟩
        case measure => exact meas STEP.out.2
    have e1 : (what == 1) = false := by simp [q1]
    by_cases q2 : what = 2
    · subst q2
      clear q0 q1
      have FA := Lib.hid (F.out.ack a b)
      go_wp2_with fail
      refine (Ack_calls d (.slice As l.length cs) a b _ hq0.out ⟨_, _, _, rfl⟩).mono ?_
      rintro e w3 ⟨rfl, hb⟩
      have R3 := Lib.hid (R4.out.below hb R4.out.lt)
      have Q8 := Lib.hid (R8.out.below hb R8.out.lt)
      have B3 := Lib.hid (B4.out.trans (hb.mono B4.out.size))
      have S3 := Lib.hid (S4.out.below hb)
      have G3 := G
      clear hb cr lr
      have c3 := R3.out.cell
      have f3 := R3.out.free
      have l3 := R3.out.lt
      have c8 := Q8.out.cell
      have l8 := Q8.out.lt
      obtain ⟨z1, z2, z3⟩ := end0 (d := (d.ack a b)) (s := (.slice As l.length cs)) (l := l) R3.out S3.out G3.out B3.out W2.out
      have RN := Lib.hid z1
      have SN := Lib.hid z2
      have BN := Lib.hid z3
      have GN := G3
      clear z1 z2 z3
      have QN := Lib.hid (Q8.out.far7 (C := w2.heap.size) (a := I (d.ack a b).gen) (b := I (d.ack a b).k) (c := I (d.ack a b).acked) (d := I (d.ack a b).peer) (e := I (d.ack a b).stage) (f := I (d.ack a b).seq) (g := .slice As l.length cs) (by have := LR.out; omega))
      generalize hna : d.ack a b = n at *
      clear hna
      have c9 := QN.out.cell
      have l9 := QN.out.lt
      clear c8 l8
      rename_i K3 aK3 K2 aK2 K1 aK1 K0 aK0
      have TAIL : ∀ (told2 : Int) (v8 v9 v10 v11 v12 v13 v14 v15 v16 v17 v24 v25 v26 v27 v28 v29 v30 v31 v32 v33 v34 v35 v36 v37 v38 v39 v40 v41 v42 v43 v44 v45 v46 v47 v48 v49 v50 v51 v52 v53 v54 v55 v56 v57 v58 v59 v60 v61 v62 v63 v64 v65 v66 v67 v68 v69 v70 v71 v72 v73 v74 v75 v76 v77 v78 v79 v80 v81 v82 v83 v84 v85 v86 v87 v88 v89 v90 v91 v92 v93 v94 v95 v96 v97 v98 v99 v100 v101 v102 v103 v104 v105 v106 v107 v108 v109 v110 v111 v112 v113 v114 v115 v116 v117 v118 v119 v120 v121 v122 v123 v124 v125 v126 v127 v128 v129 v130 v131 v132 v133 v134 v135 v136 v137 v138 v139 v140 v141 v142 v143 v144 v145 v146 v147 v148 v149 v150 v151 v152 v153 v154 v155 v156 v157 v158 v159 v160 v161 v162 v163 v164 v165 v166 v167 v168 v169 v170 v171 v172 v173 v174 v175 v176 v177 v178 v179 v180 v181 v182 v183 : Value), FI n l last told2 → K2 { tmps := #[Value.slice (some { block := bq, off := oq }) ys.length c, undef, u2, Value.bool true, Value.pointer (some { block := w2.heap.size, off := 0 }), Value.int IntKind.i64 last, Value.int IntKind.i64 told2, Value.int IntKind.i64 (k : Int), v8, v9, v10, v11, v12, v13, v14, v15, v16, v17, Value.bool true, Value.slice (some { block := bq, off := oq }) ys.length c, Value.int IntKind.i64 (ys.length : Int), Value.bool false, undef, Dk.val ⟨1, 0, 0, -1, 0, 0⟩ (Value.slice none 0 0), v24, v25, v26, v27, v28, v29, v30, v31, v32, v33, v34, v35, v36, v37, v38, v39, v40, v41, v42, v43, v44, v45, v46, v47, v48, v49, v50, v51, v52, v53, v54, v55, v56, v57, v58, v59, v60, v61, v62, v63, v64, v65, v66, v67, v68, v69, v70, v71, v72, v73, v74, v75, v76, v77, v78, v79, v80, v81, v82, v83, v84, v85, v86, v87, v88, v89, v90, v91, v92, v93, v94, v95, v96, v97, v98, v99, v100, v101, v102, v103, v104, v105, v106, v107, v108, v109, v110, v111, v112, v113, v114, v115, v116, v117, v118, v119, v120, v121, v122, v123, v124, v125, v126, v127, v128, v129, v130, v131, v132, v133, v134, v135, v136, v137, v138, v139, v140, v141, v142, v143, v144, v145, v146, v147, v148, v149, v150, v151, v152, v153, v154, v155, v156, v157, v158, v159, v160, v161, v162, v163, v164, v165, v166, v167, v168, v169, v170, v171, v172, v173, v174, v175, v176, v177, v178, v179, v180, v181, v182, v183, undef], defers := [] } (fillD w3 w2.heap.size n (.slice As l.length cs)) := by
        intro told2 v8 v9 v10 v11 v12 v13 v14 v15 v16 v17 v24 v25 v26 v27 v28 v29 v30 v31 v32 v33 v34 v35 v36 v37 v38 v39 v40 v41 v42 v43 v44 v45 v46 v47 v48 v49 v50 v51 v52 v53 v54 v55 v56 v57 v58 v59 v60 v61 v62 v63 v64 v65 v66 v67 v68 v69 v70 v71 v72 v73 v74 v75 v76 v77 v78 v79 v80 v81 v82 v83 v84 v85 v86 v87 v88 v89 v90 v91 v92 v93 v94 v95 v96 v97 v98 v99 v100 v101 v102 v103 v104 v105 v106 v107 v108 v109 v110 v111 v112 v113 v114 v115 v116 v117 v118 v119 v120 v121 v122 v123 v124 v125 v126 v127 v128 v129 v130 v131 v132 v133 v134 v135 v136 v137 v138 v139 v140 v141 v142 v143 v144 v145 v146 v147 v148 v149 v150 v151 v152 v153 v154 v155 v156 v157 v158 v159 v160 v161 v162 v163 v164 v165 v166 v167 v168 v169 v170 v171 v172 v173 v174 v175 v176 v177 v178 v179 v180 v181 v182 v183 FX
        have FY := Lib.hid FX
        clear FX
        refine aK2 _ _ ?_
        have cR := RN.out.cell
        have lR := RN.out.lt
        clear NB BB
        go_wp2_with fail
        refine (refRight_calls n (.slice As l.length cs) l _ SN.out).mono ?_
        rw [show Dk.right n l = true from FY.out.right]
        rintro e wt ⟨rfl, hb⟩
        have RT := Lib.hid (RN.out.below hb RN.out.lt)
        have ST := Lib.hid (SN.out.below hb)
        have BT := Lib.hid (BN.out.trans (hb.mono BN.out.size))
        clear hb
        go_wp2
        go_roundw
        case rel => exact ⟨k + 1, n, (.slice As l.length cs), l, last, told2, STEP.out.1, by go_num, rfl, rfl, Lib.hid FY.out, RT, ST, GN, BT⟩
        case measure => exact meas STEP.out.2
      replace TAIL := Lib.hid TAIL
      clear aK2
      cases t1 : (d.stage == 1)
      · cases t2 : (d.stage == 2)
        · have FX := FA.out
          rw [if_neg (by simp [tells, t1, t2])] at FX
          clear NB BB
          go_wp2
          exact TAIL.out _ _ _ _ _ _ _ _ _ _ _ _ _ _ _ _ _ _ _ _ _ _ _ _ _ _ _ _ _ _ _ _ _ _ _ _ _ _ _ _ _ _ _ _ _ _ _ _ _ _ _ _ _ _ _ _ _ _ _ _ _ _ _ _ _ _ _ _ _ _ _ _ _ _ _ _ _ _ _ _ _ _ _ _ _ _ _ _ _ _ _ _ _ _ _ _ _ _ _ _ _ _ _ _ _ _ _ _ _ _ _ _ _ _ _ _ _ _ _ _ _ _ _ _ _ _ _ _ _ _ _ _ _ _ _ _ _ _ _ _ _ _ _ _ _ _ _ _ _ _ _ _ _ _ _ _ _ _ _ _ _ _ _ _ _ _ _ _ _ _ _ FX
        · skip
          cases g1 : decide (b > told)
          · have FX := FA.out
            rw [if_neg (by simp [tells, t1, t2, g1])] at FX
            clear NB BB
            go_wp2
            exact TAIL.out _ _ _ _ _ _ _ _ _ _ _ _ _ _ _ _ _ _ _ _ _ _ _ _ _ _ _ _ _ _ _ _ _ _ _ _ _ _ _ _ _ _ _ _ _ _ _ _ _ _ _ _ _ _ _ _ _ _ _ _ _ _ _ _ _ _ _ _ _ _ _ _ _ _ _ _ _ _ _ _ _ _ _ _ _ _ _ _ _ _ _ _ _ _ _ _ _ _ _ _ _ _ _ _ _ _ _ _ _ _ _ _ _ _ _ _ _ _ _ _ _ _ _ _ _ _ _ _ _ _ _ _ _ _ _ _ _ _ _ _ _ _ _ _ _ _ _ _ _ _ _ _ _ _ _ _ _ _ _ _ _ _ _ _ _ _ _ _ _ _ _ FX
          · cases g2 : decide (b ≤ n.k)
            · have FX := FA.out
              rw [if_neg (by simp [tells, t1, t2, g1, g2])] at FX
              clear NB BB
              go_wp2
              exact TAIL.out _ _ _ _ _ _ _ _ _ _ _ _ _ _ _ _ _ _ _ _ _ _ _ _ _ _ _ _ _ _ _ _ _ _ _ _ _ _ _ _ _ _ _ _ _ _ _ _ _ _ _ _ _ _ _ _ _ _ _ _ _ _ _ _ _ _ _ _ _ _ _ _ _ _ _ _ _ _ _ _ _ _ _ _ _ _ _ _ _ _ _ _ _ _ _ _ _ _ _ _ _ _ _ _ _ _ _ _ _ _ _ _ _ _ _ _ _ _ _ _ _ _ _ _ _ _ _ _ _ _ _ _ _ _ _ _ _ _ _ _ _ _ _ _ _ _ _ _ _ _ _ _ _ _ _ _ _ _ _ _ _ _ _ _ _ _ _ _ _ _ _ FX
            · cases g3 : (a == n.peer)
              · have FX := FA.out
                rw [if_neg (by simp [tells, t1, t2, g1, g2, g3])] at FX
                clear NB BB
                go_wp2
                exact TAIL.out _ _ _ _ _ _ _ _ _ _ _ _ _ _ _ _ _ _ _ _ _ _ _ _ _ _ _ _ _ _ _ _ _ _ _ _ _ _ _ _ _ _ _ _ _ _ _ _ _ _ _ _ _ _ _ _ _ _ _ _ _ _ _ _ _ _ _ _ _ _ _ _ _ _ _ _ _ _ _ _ _ _ _ _ _ _ _ _ _ _ _ _ _ _ _ _ _ _ _ _ _ _ _ _ _ _ _ _ _ _ _ _ _ _ _ _ _ _ _ _ _ _ _ _ _ _ _ _ _ _ _ _ _ _ _ _ _ _ _ _ _ _ _ _ _ _ _ _ _ _ _ _ _ _ _ _ _ _ _ _ _ _ _ _ _ _ _ _ _ _ _ FX
              · have FX := FA.out
                rw [if_pos (by simp [tells, t1, t2, g1, g2, g3])] at FX
                clear NB BB
                go_wp2
                exact TAIL.out _ _ _ _ _ _ _ _ _ _ _ _ _ _ _ _ _ _ _ _ _ _ _ _ _ _ _ _ _ _ _ _ _ _ _ _ _ _ _ _ _ _ _ _ _ _ _ _ _ _ _ _ _ _ _ _ _ _ _ _ _ _ _ _ _ _ _ _ _ _ _ _ _ _ _ _ _ _ _ _ _ _ _ _ _ _ _ _ _ _ _ _ _ _ _ _ _ _ _ _ _ _ _ _ _ _ _ _ _ _ _ _ _ _ _ _ _ _ _ _ _ _ _ _ _ _ _ _ _ _ _ _ _ _ _ _ _ _ _ _ _ _ _ _ _ _ _ _ _ _ _ _ _ _ _ _ _ _ _ _ _ _ _ _ _ _ _ _ _ _ _ FX
      · skip
        cases g1 : decide (b > told)
        · have FX := FA.out
          rw [if_neg (by simp [tells, t1, g1])] at FX
          clear NB BB
          go_wp2
          exact TAIL.out _ _ _ _ _ _ _ _ _ _ _ _ _ _ _ _ _ _ _ _ _ _ _ _ _ _ _ _ _ _ _ _ _ _ _ _ _ _ _ _ _ _ _ _ _ _ _ _ _ _ _ _ _ _ _ _ _ _ _ _ _ _ _ _ _ _ _ _ _ _ _ _ _ _ _ _ _ _ _ _ _ _ _ _ _ _ _ _ _ _ _ _ _ _ _ _ _ _ _ _ _ _ _ _ _ _ _ _ _ _ _ _ _ _ _ _ _ _ _ _ _ _ _ _ _ _ _ _ _ _ _ _ _ _ _ _ _ _ _ _ _ _ _ _ _ _ _ _ _ _ _ _ _ _ _ _ _ _ _ _ _ _ _ _ _ _ _ _ _ _ _ FX
        · cases g2 : decide (b ≤ n.k)
          · have FX := FA.out
            rw [if_neg (by simp [tells, t1, g1, g2])] at FX
            clear NB BB
            go_wp2
            exact TAIL.out _ _ _ _ _ _ _ _ _ _ _ _ _ _ _ _ _ _ _ _ _ _ _ _ _ _ _ _ _ _ _ _ _ _ _ _ _ _ _ _ _ _ _ _ _ _ _ _ _ _ _ _ _ _ _ _ _ _ _ _ _ _ _ _ _ _ _ _ _ _ _ _ _ _ _ _ _ _ _ _ _ _ _ _ _ _ _ _ _ _ _ _ _ _ _ _ _ _ _ _ _ _ _ _ _ _ _ _ _ _ _ _ _ _ _ _ _ _ _ _ _ _ _ _ _ _ _ _ _ _ _ _ _ _ _ _ _ _ _ _ _ _ _ _ _ _ _ _ _ _ _ _ _ _ _ _ _ _ _ _ _ _ _ _ _ _ _ _ _ _ _ FX
          · cases g3 : (a == n.peer)
            · have FX := FA.out
              rw [if_neg (by simp [tells, t1, g1, g2, g3])] at FX
              clear NB BB
              go_wp2
              exact TAIL.out _ _ _ _ _ _ _ _ _ _ _ _ _ _ _ _ _ _ _ _ _ _ _ _ _ _ _ _ _ _ _ _ _ _ _ _ _ _ _ _ _ _ _ _ _ _ _ _ _ _ _ _ _ _ _ _ _ _ _ _ _ _ _ _ _ _ _ _ _ _ _ _ _ _ _ _ _ _ _ _ _ _ _ _ _ _ _ _ _ _ _ _ _ _ _ _ _ _ _ _ _ _ _ _ _ _ _ _ _ _ _ _ _ _ _ _ _ _ _ _ _ _ _ _ _ _ _ _ _ _ _ _ _ _ _ _ _ _ _ _ _ _ _ _ _ _ _ _ _ _ _ _ _ _ _ _ _ _ _ _ _ _ _ _ _ _ _ _ _ _ _ FX
            · have FX := FA.out
              rw [if_pos (by simp [tells, t1, g1, g2, g3])] at FX
              clear NB BB
              go_wp2
              exact TAIL.out _ _ _ _ _ _ _ _ _ _ _ _ _ _ _ _ _ _ _ _ _ _ _ _ _ _ _ _ _ _ _ _ _ _ _ _ _ _ _ _ _ _ _ _ _ _ _ _ _ _ _ _ _ _ _ _ _ _ _ _ _ _ _ _ _ _ _ _ _ _ _ _ _ _ _ _ _ _ _ _ _ _ _ _ _ _ _ _ _ _ _ _ _ _ _ _ _ _ _ _ _ _ _ _ _ _ _ _ _ _ _ _ _ _ _ _ _ _ _ _ _ _ _ _ _ _ _ _ _ _ _ _ _ _ _ _ _ _ _ _ _ _ _ _ _ _ _ _ _ _ _ _ _ _ _ _ _ _ _ _ _ _ _ _ _ _ _ _ _ _ _ FX
    have e2 : (what == 2) = false := by simp [q2]
    by_cases q3 : what = 3
    · subst q3
      clear q0 q1 q2
      have FD := Lib.hid F.out.drop
      go_wp2_with fail
      refine (Drop_calls d (.slice As l.length cs) _ hq0.out ⟨_, _, _, rfl⟩).mono ?_
      rintro e w3 ⟨rfl, hb⟩
      have R3 := Lib.hid (R4.out.below hb R4.out.lt)
      have Q8 := Lib.hid (R8.out.below hb R8.out.lt)
      have B3 := Lib.hid (B4.out.trans (hb.mono B4.out.size))
      have S3 := Lib.hid (S4.out.below hb)
      have G3 := G
      clear hb cr lr
      have c3 := R3.out.cell
      have f3 := R3.out.free
      have l3 := R3.out.lt
      have c8 := Q8.out.cell
      have l8 := Q8.out.lt
      obtain ⟨z1, z2, z3⟩ := end0 (d := d.drop) (s := (.slice As l.length cs)) (l := l) R3.out S3.out G3.out B3.out W2.out
      have RN := Lib.hid z1
      have SN := Lib.hid z2
      have BN := Lib.hid z3
      have GN := G3
      clear z1 z2 z3
      have cR := RN.out.cell
      have lR := RN.out.lt
      clear NB BB
      go_wp2_with fail
      refine (refRight_calls d.drop (.slice As l.length cs) l _ SN.out).mono ?_
      rw [show Dk.right d.drop l = true from FD.out.right]
      rintro e wt ⟨rfl, hb⟩
      have RT := Lib.hid (RN.out.below hb RN.out.lt)
      have ST := Lib.hid (SN.out.below hb)
      have BT := Lib.hid (BN.out.trans (hb.mono BN.out.size))
      clear hb
      go_wp2
      go_roundw
      case rel => exact ⟨k + 1, d.drop, (.slice As l.length cs), l, last, told, STEP.out.1, by go_num, rfl, rfl, Lib.hid FD.out, RT, ST, GN, BT⟩
      case measure => exact meas STEP.out.2
    have e3 : (what == 3) = false := by simp [q3]
    by_cases q4 : what = 4
    · subst q4
      clear q0 q1 q2 q3
      have FT := Lib.hid (F.out.told_ a b)
      go_wp2_with fail
      refine (Told_calls d (.slice As l.length cs) a b _ ⟨_, _, _, rfl⟩).mono ?_
      rintro e w3 ⟨rfl, hb⟩
      have R3 := Lib.hid (R4.out.below hb R4.out.lt)
      have Q8 := Lib.hid (R8.out.below hb R8.out.lt)
      have B3 := Lib.hid (B4.out.trans (hb.mono B4.out.size))
      have S3 := Lib.hid (S4.out.below hb)
      have G3 := G
      clear hb cr lr
      have c3 := R3.out.cell
      have f3 := R3.out.free
      have l3 := R3.out.lt
      have c8 := Q8.out.cell
      have l8 := Q8.out.lt
      obtain ⟨z1, z2, z3⟩ := end0 (d := (d.told a b)) (s := (.slice As l.length cs)) (l := l) R3.out S3.out G3.out B3.out W2.out
      have RN := Lib.hid z1
      have SN := Lib.hid z2
      have BN := Lib.hid z3
      have GN := G3
      clear z1 z2 z3
      have cR := RN.out.cell
      have lR := RN.out.lt
      clear NB BB
      go_wp2_with fail
      refine (refRight_calls (d.told a b) (.slice As l.length cs) l _ SN.out).mono ?_
      rw [show Dk.right (d.told a b) l = true from FT.out.right]
      rintro e wt ⟨rfl, hb⟩
      have RT := Lib.hid (RN.out.below hb RN.out.lt)
      have ST := Lib.hid (SN.out.below hb)
      have BT := Lib.hid (BN.out.trans (hb.mono BN.out.size))
      clear hb
      go_wp2
      go_roundw
      case rel => exact ⟨k + 1, (d.told a b), (.slice As l.length cs), l, last, told, STEP.out.1, by go_num, rfl, rfl, Lib.hid FT.out, RT, ST, GN, BT⟩
      case measure => exact meas STEP.out.2
    have e4 : (what == 4) = false := by simp [q4]
    by_cases q5 : what = 5
    case neg =>
      have e5 : (what == 5) = false := by simp [q5]
      clear q0 q1 q2 q3 q4 q5
      have RN := R4
      have SN := S4
      have BN := B4
      have GN := G
      clear NB BB
      go_wp2_with fail
      refine (refRight_calls d (.slice As l.length cs) l _ SN.out).mono ?_
      rw [show Dk.right d l = true from F.out.right]
      rintro e wt ⟨rfl, hb⟩
      have RT := Lib.hid (RN.out.below hb RN.out.lt)
      have ST := Lib.hid (SN.out.below hb)
      have BT := Lib.hid (BN.out.trans (hb.mono BN.out.size))
      clear hb
      go_wp2
      go_roundw
      case rel => exact ⟨k + 1, d, (.slice As l.length cs), l, last, told, STEP.out.1, by go_num, rfl, rfl, Lib.hid F.out, RT, ST, GN, BT⟩
      case measure => exact meas STEP.out.2
    subst q5
    clear q0 q1 q2 q3 q4
    go_wp2_with fail
    refine (bound_calls d (.slice As l.length cs) _).mono ?_
    rintro e w3 ⟨rfl, hb⟩
    have R3 := Lib.hid (R4.out.below hb R4.out.lt)
    have Q8 := Lib.hid (R8.out.below hb R8.out.lt)
    have B3 := Lib.hid (B4.out.trans (hb.mono B4.out.size))
    have S3 := Lib.hid (S4.out.below hb)
    have G3 := G
    clear hb cr lr
    have c3 := R3.out.cell
    have f3 := R3.out.free
    have l3 := R3.out.lt
    have c8 := Q8.out.cell
    have l8 := Q8.out.lt
    have hl64 : Hid (l.length ≤ 64) := Lib.hid (by have := (right_iff.1 F.out.right).2.2.2.2.2.2.2.2.1; omega)
    go_wp2_with fail
    refine (free_calls' d (.slice As l.length cs) l _ S3.out hl64.out).mono ?_
    rintro e w4 ⟨s2, v, rfl, hs2, hv, ho2, hov, hb⟩
    have FF := Lib.hid F.out.free
    have LC : Hid ((l.take (cutAt d.bound l)).length = cutAt d.bound l) := Lib.hid (by rw [List.length_take]; have := cut_le_length d.bound l; omega)
    have LE0 : Hid (cutAt d.bound l ≤ l.length) := Lib.hid (cut_le_length d.bound l)
    have FR : Hid (∀ (j : Nat) (o : Ot), (l.take (cutAt d.bound l))[j]? = some o → lastK last l j < o.k ∧ o.k ≤ d.bound ∧ o = ⟨o.k, o.k, 0, 0⟩ ∧ ((d.stage = 2 ∨ d.stage = 3) → o.k ≤ told)) := Lib.hid (fun j o h => F.out.freed h)
    have LK : Hid (∀ (j : Nat) (o : Ot), (l.take (cutAt d.bound l))[j]? = some o → lastK last l (j + 1) = o.k) := Lib.hid (fun j o h => lastK_succ (cut_le h).2)
    generalize l.take (cutAt d.bound l) = l1 at *
    generalize l.drop (cutAt d.bound l) = l2 at *
    generalize cutAt d.bound l = ct at *
    generalize hbd : d.bound = bd at *
    clear hbd
    obtain ⟨A2, c2, rfl, _, _, _⟩ := id hs2
    obtain ⟨A3, c3', rfl, _, _, _⟩ := id hv
    have RW := Lib.hid (R3.out.below hb R3.out.lt)
    have BW := Lib.hid (B3.out.trans (hb.mono B3.out.size))
    have GW := Lib.hid (fun g (h : (Value.slice A2 l2.length c2).ownBlock = some g) => G3.out g (ho2 g h))
    have SW := Lib.hid hs2
    have VW := Lib.hid (hv.fill7 (C := w2.heap.size) (fun g h => by have := hov g h; have := R3.out.lt; omega) (I d.gen) (I d.k) (I d.acked) (I d.peer) (I d.stage) (I d.seq) (.slice A2 l2.length c2))
    obtain ⟨z1, z2, z3⟩ := end1 (d := d) (s := .slice A2 l2.length c2) (l := l2) RW.out SW.out GW.out BW.out W2.out (.cells (d.row (.slice A2 l2.length c2)) 26)
    have VN := Lib.hid (VW.out.alloc (.cells (d.row (.slice A2 l2.length c2)) 26))
    have RX := Lib.hid z1
    have SX := Lib.hid z2
    have BX := Lib.hid z3
    have L1 : Hid (l1.length ≤ 64) := Lib.hid (by have := hl64.out; have := LC.out; have := LE0.out; omega)
    have rw0 := RW.out.cell
    have rwf := RW.out.free
    have rwl := RW.out.lt
    clear z1 z2 z3 hb hs2 hv ho2 hov VW c3 f3 l3 c8 l8
    go_wp2_with fail
    change Code.wp Try.prog _ _ _ ((fillD w4 w2.heap.size d (.slice A2 l2.length c2)).alloc (.cells (d.row (.slice A2 l2.length c2)) 26))
    generalize (fillD w4 w2.heap.size d (.slice A2 l2.length c2)).alloc (.cells (d.row (.slice A2 l2.length c2)) 26) = w5 at RX SX BX VN ⊢
    clear rw0 rwf rwl
    go_loopw [5, 17] (fun la i wq => ∃ j : Nat, j ≤ l1.length ∧ i = .int .i64 j ∧ la = .int .i64 (lastK last l j) ∧ Hid (Below w5.heap.size w5 wq)) (fun _ i _ => l1.length - (intOf i).toNat)
    case atStart => exact ⟨0, by omega, rfl, rfl, Lib.hid (Below.refl _ _)⟩
    case round =>
      obtain ⟨j, hj, rfl, rfl, Q⟩ := hrel
      by_cases hjl : j = l1.length
      · subst hjl
        have ec := LC.out
        rw [ec]
        have RN := Lib.hid (RX.out.below Q.out RX.out.lt)
        have SN := Lib.hid (SX.out.below Q.out)
        have BN := Lib.hid (BX.out.trans (Q.out.mono BX.out.size))
        have GN := GW
        clear ec
        have cR := RN.out.cell
        have lR := RN.out.lt
        clear NB BB
        go_wp2_with fail
        refine (refRight_calls d (.slice A2 l2.length c2) l2 _ SN.out).mono ?_
        rw [show Dk.right d l2 = true from FF.out.right]
        rintro e wt ⟨rfl, hb⟩
        have RT := Lib.hid (RN.out.below hb RN.out.lt)
        have ST := Lib.hid (SN.out.below hb)
        have BT := Lib.hid (BN.out.trans (hb.mono BN.out.size))
        clear hb
        go_wp2
        go_roundw
        case rel => exact ⟨k + 1, d, (.slice A2 l2.length c2), l2, (lastK last l ct), told, STEP.out.1, by go_num, rfl, rfl, Lib.hid FF.out, RT, ST, GN, BT⟩
        case measure => exact meas STEP.out.2
      · have hlt1 : (j : Int) < l1.length := by omega
        have hj0 : (0 : Int) ≤ j := by omega
        obtain ⟨o, ho⟩ : ∃ o, l1[j]? = some o := ⟨l1[j]'(by omega), List.getElem?_eq_getElem (by omega)⟩
        obtain ⟨h1, h2, h3, h4⟩ := FR.out j o ho
        have hls := LK.out j o ho
        obtain ⟨bv, ov, rfl, xv⟩ := (VN.out.below Q.out).at_ ho
        rw [h3] at xv
        generalize o.k = ok at *
        have HLS := Lib.hid hls
        have ST1 : Hid (j + 1 ≤ l1.length ∧ l1.length - (j + 1) < l1.length - j) := Lib.hid (by omega)
        have hj64 : IntKind.i64.wrap ((j : Int) + 1) = (j : Int) + 1 := by have := L1.out; simp [IntKind.wrap, IntKind.bits, IntKind.signed]; omega
        have v1 : decide (ok ≤ lastK last l j) = false := decide_eq_false (by omega)
        have v2 : decide (ok > bd) = false := decide_eq_false (by omega)
        have e33 : ∀ w, (Op.equalIn 10000 33 (.agg #[I ok, I 0, I 0]) (.agg #[I ok, I 0, I 0])).run Try.prog w = .ok true w := fun w => by have h := eq33 9998 ok 0 0 ok 0 0 w; simpa using h
        have XV : Hid (OC wr.drew bv (ov + j * 4) ⟨ok, ok, 0, 0⟩) := Lib.hid xv
        have xv := XV.out
        have QD := Lib.hid Q.out.drew
        have H4 := Lib.hid h4
        clear h1 h2 h3 h4 hls ho hj hjl
        go_wp2
        go_region_held3 (fun w' => OC w' bv (ov + j * 4) ⟨ok, ok, 0, 0⟩) (first | with_reducible exact XV.out | go_keep) (fail)
        all_goals
          cases t2 : (d.stage == 2)
          · cases t3 : (d.stage == 3)
            · go_wp2
              go_roundw
              case rel => exact ⟨j + 1, ST1.out.1, by go_num, by rw [HLS.out], QD⟩
              case measure => exact meas ST1.out.2
            · have v4 : decide (ok > told) = false := decide_eq_false (by have := H4.out (.inr (by simpa using t3)); omega)
              go_wp2
              go_roundw
              case rel => exact ⟨j + 1, ST1.out.1, by go_num, by rw [HLS.out], QD⟩
              case measure => exact meas ST1.out.2
          · have v4 : decide (ok > told) = false := decide_eq_false (by have := H4.out (.inl (by simpa using t2)); omega)
            go_wp2
            go_roundw
            case rel => exact ⟨j + 1, ST1.out.1, by go_num, by rw [HLS.out], QD⟩
            case measure => exact meas ST1.out.2
end Go.Proofs.Ytbchepdaomhgeaa.MM
