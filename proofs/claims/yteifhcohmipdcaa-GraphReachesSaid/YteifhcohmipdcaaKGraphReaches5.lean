/-
  GraphReaches answers true, whatever the input: part 5 of the proof. Conditions: none.
-/
import Derived.Test.YteifhcohmipdcaaKGraphReaches4
/-
  THE GRAPH FUNCTIONS, 16: condensed. Conditions: a valid graph. (Printed by w16.py.)
-/
namespace Go.Proofs.Yteifhcohmipdcaa
open Go.Abs
set_option linter.unusedSimpArgs false
set_option linter.unusedVariables false

set_option maxHeartbeats 1000000 in
theorem condensed0 (g : Gr) (hv : g.valid = true) : ACalls Try.prog 55 [encG g] AHeap.nil (fun r H => Frz H r (.tup [encS g.comps, encS g.cedges])) := by
  refine acalls_body TT_ok Try.func55 rfl rfl (by simp [Try.ntmps55]) ?_
  rw [Try.ntmps55]
  obtain ⟨σ, hσ⟩ : ∃ σ, σ = st0 [encG g] := ⟨_, rfl⟩
  rw [← hσ]
  have h0_0 := congrFun hσ 0
  simp [st0] at h0_0
  clear hσ
  obtain ⟨H, hH⟩ : ∃ H, H = AHeap.nil := ⟨_, rfl⟩
  rw [← hH]
  have hn_0 : H.n = 0 := by rw [hH]; rfl
  have hst_0 : H.st = 1 := by rw [hH]; rfl
  clear hH
  refine stp_reg TT_ok (by rfl) fun K hK => ?_
  simp [h0_0, hn_0, hst_0, encG]
  try refine And.intro (by first | omega | rfl) ?_
  refine hK _ _ fun σ1 hσ H1 hH => ?_
  clear hK K
  have h1_1 := congrFun hσ 1
  simp [] at h1_1
  clear hσ
  have g0_1 := gt_of hH 0
  simp [hn_0, hst_0] at g0_1
  have hn_1 := congrArg AHeap.n hH
  simp [hn_0, hst_0] at hn_1
  have hst_1 := congrArg AHeap.st hH
  simp [hn_0, hst_0] at hst_1
  clear hH
  obtain ⟨hb1, hb2⟩ := valid_nodes hv
  refine stp_reg TT_ok (by rfl) fun K hK => ?_
  simp [h1_1, g0_1, encG, encG]
  try refine And.intro (by first | omega | rfl) ?_
  refine stp_call (succs_ok g hv) ?_
  simp [h1_1, g0_1, encG, encG]
  try refine And.intro (by first | omega | rfl) ?_
  refine hK _ _ fun σ2 hσ H2 hH => ?_
  clear hK K
  have h4_2 := congrFun hσ 4
  simp [] at h4_2
  clear hσ
  replace hH : H1 = H2 := Eq.symm hH
  subst hH
  refine stp_reg TT_ok (by rfl) fun K hK => ?_
  simp [h4_2, g0_1, hn_1, hst_1, encG]
  try refine And.intro (by first | omega | rfl) ?_
  refine (number_ok g hv _).mono ?_
  rintro r Hx ⟨rfl, cmp, cnt, hnum, rfl⟩
  obtain ⟨cn, rfl⟩ : ∃ cn : Nat, cnt = cn := ⟨cnt.toNat, by have := hnum.cnt; omega⟩
  have hcl := hnum.len
  have hcn := hnum.cnt
  simp [h4_2, g0_1, hn_1, hst_1, encG]
  try refine And.intro (by first | omega | rfl) ?_
  refine hK _ _ fun σ3 hσ H3 hH => ?_
  clear hK K
  have h4_3 := congrFun hσ 4
  have h5_3 := congrFun hσ 5
  have h6_3 := congrFun hσ 6
  simp [h4_2] at h4_3 h5_3 h6_3
  clear hσ
  have g0_3 := gt_of hH 0
  have g1_3 := gt_of hH 1
  simp [g0_1, hn_1, hst_1] at g0_3 g1_3
  have hn_3 := congrArg AHeap.n hH
  simp [hn_1, hst_1] at hn_3
  have hst_3 := congrArg AHeap.st hH
  simp [hn_1, hst_1] at hst_3
  clear hH
  refine stp_reg TT_ok (by rfl) fun K hK => ?_
  simp [h6_3, g0_3, g1_3, hn_3, hst_3, encG]
  try refine And.intro (by first | omega | rfl) ?_
  refine FunRowW.at (repeat_w (-1) cn (by omega)) ?hf ?_
  case hf => exact FrzL.cons (frz_ints (xs := [-1]) (by simp [h6_3, g0_3, g1_3, hn_3, hst_3, encG]; rfl) rfl) (FrzL.cons (.pure (pu_int _ _)) (FrzL.nil _))
  simp [h6_3, g0_3, g1_3, hn_3, hst_3, encG]
  try refine And.intro (by first | omega | rfl) ?_
  refine hK _ _ fun σ4 hσ H4 hH => ?_
  clear hK K
  have h4_4 := congrFun hσ 4
  have h5_4 := congrFun hσ 5
  have h7_4 := congrFun hσ 7
  simp [h4_3, h5_3] at h4_4 h5_4 h7_4
  clear hσ
  have g0_4 := gt_of hH 0
  have g1_4 := gt_of hH 1
  have g2_4 := gt_of hH 2
  have g3_4 := gt_of hH 3
  have g4_4 := gt_of hH 4
  simp [g0_3, g1_3, hn_3, hst_3] at g0_4 g1_4 g2_4 g3_4 g4_4
  have hn_4 := congrArg AHeap.n hH
  simp [hn_3, hst_3] at hn_4
  have hst_4 := congrArg AHeap.st hH
  simp [hn_3, hst_3] at hst_4
  clear hH
  refine stp_reg TT_ok (by rfl) fun K hK => ?_
  simp [g0_4, g1_4, g2_4, g3_4, g4_4, encG]
  try refine And.intro (by first | omega | rfl) ?_
  refine hK _ _ fun σ5 hσ H5 hH => ?_
  clear hK K
  have h4_5 := congrFun hσ 4
  have h5_5 := congrFun hσ 5
  have h7_5 := congrFun hσ 7
  have h8_5 := congrFun hσ 8
  simp [h4_4, h5_4, h7_4] at h4_5 h5_5 h7_5 h8_5
  clear hσ
  replace hH : H4 = H5 := Eq.symm hH
  subst hH
  refine awp_seq ?_
  refine stp_reg TT_ok (by rfl) fun K hK => ?_
  simp [h5_5, g0_4, g1_4, g2_4, g3_4, g4_4, encG]
  try refine And.intro (by first | omega | rfl) ?_
  refine hK _ _ fun σ6 hσ H6 hH => ?_
  clear hK K
  have h4_6 := congrFun hσ 4
  have h5_6 := congrFun hσ 5
  have h7_6 := congrFun hσ 7
  have h8_6 := congrFun hσ 8
  have h26_6 := congrFun hσ 26
  have h27_6 := congrFun hσ 27
  have h28_6 := congrFun hσ 28
  simp [h4_5, h5_5, h7_5, h8_5] at h4_6 h5_6 h7_6 h8_6 h26_6 h27_6 h28_6
  clear hσ
  replace hH : H4 = H6 := Eq.symm hH
  subst hH
  refine awp_block ?_
  refine awp_loopV (fun n σ' H' => ∃ (i : Nat) (v : AV) (vs : List AV) (pl : List Int), n = g.nodes.length - i ∧ σ' 4 = σ6 4 ∧ σ' 5 = σ6 5 ∧ σ' 7 = σ6 7 ∧ σ' 8 = v ∧ σ' 26 = σ6 26 ∧ σ' 27 = σ6 27 ∧ σ' 28 = (AV.int IntKind.i64) i ∧ H'.get 1 = H4.get 1 ∧ H'.get 3 = some (.row 3 1 0 (pl.map (AV.int IntKind.i64))) ∧ H'.get 4 = H4.get 4 ∧ H'.st = H4.st ∧ (i ≤ g.nodes.length) ∧ (RowsV 5 v vs (g.ndL i) H') ∧ (pl.length = cn) ∧ (PlOk g cmp pl i)) ?_ ?_
  · refine ⟨_, 0, .nils, [], List.replicate cn (-1), rfl, rfl, rfl, rfl, (by simp [h8_6]), rfl, rfl, (by simp [h28_6]), rfl, (by simp [g3_4]), rfl, rfl, ?_, ?_, ?_, ?_⟩
    · first | omega | (simp; done) | assumption
    · exact ⟨⟨by rfl, fun i v l h => by simp at h, fun i j id g n g' n' h => by simp at h⟩, .inl ⟨rfl, rfl⟩⟩
    · simp
    · intro u hu
      have h1 := hnum.rng u ⟨by omega, by omega⟩
      have h2 : (gt cmp u).toNat < cn := by omega
      rw [if_neg (by omega)]
      show (List.replicate cn (-1 : Int)).getD (gt cmp u).toNat 0 = -1
      rw [List.getD_eq_getElem?_getD, List.getElem?_replicate, if_pos h2]; rfl
  · rintro n1 σ7 H7 ⟨i, v, vs, pl, hn1, q4_7, q5_7, q7_7, h8_7, q26_7, q27_7, h28_7, qg1_7, g3_7, qg4_7, qst_7, p1, p2, p3, p4⟩
    have h4_7 := q4_7.trans h4_6
    have h5_7 := q5_7.trans h5_6
    have h7_7 := q7_7.trans h7_6
    have h26_7 := q26_7.trans h26_6
    have h27_7 := q27_7.trans h27_6
    have g1_7 := qg1_7.trans g1_4
    have g4_7 := qg4_7.trans g4_4
    have hst_7 := qst_7.trans hst_4
    have hvl : vs.length = g.rank i := by rw [p2.rows.len]; simp [Gr.ndL, Gr.rank]
    have hrl := reps_len g i
    have hrl2 : g.rank i ≤ i := hrl
    refine stp_reg TT_ok (by rfl) fun K hK => ?_
    simp [h27_7, h28_7, g1_7, g3_7, g4_7, encG]
    try refine And.intro (by first | omega | rfl) ?_
    refine hK _ _ fun σ8 hσ H8 hH => ?_
    clear hK K
    have h4_8 := congrFun hσ 4
    have h5_8 := congrFun hσ 5
    have h7_8 := congrFun hσ 7
    have h8_8 := congrFun hσ 8
    have h26_8 := congrFun hσ 26
    have h27_8 := congrFun hσ 27
    have h28_8 := congrFun hσ 28
    have h29_8 := congrFun hσ 29
    simp [h4_7, h5_7, h7_7, h8_7, h26_7, h27_7, h28_7] at h4_8 h5_8 h7_8 h8_8 h26_8 h27_8 h28_8 h29_8
    clear hσ
    replace hH : H7 = H8 := Eq.symm hH
    subst hH
    refine awp_seq ?_
    refine awp_cond _ (by simp only [aeval_tmp]; exact h29_8) (fun hc29 => ?_) (fun hc29 => ?_)
    · try simp at hc29
      have hlt : i < g.nodes.length := by simpa [hcl] using hc29
      have hir : inR g.nodes.length (i : Int) := ⟨by omega, by omega⟩
      have hlt2 : i < cmp.length := by omega
      have hgi : cmp[i] = gt cmp i := by simp [gt, hlt2]
      obtain ⟨c, hc⟩ : ∃ c, gt cmp i = c := ⟨_, rfl⟩
      obtain ⟨c1, c2⟩ := hnum.rng i hir
      rw [hc] at hgi c1 c2
      have c3 : c.toNat < cn := by omega
      have c4 : c.toNat < pl.length := by omega
      have hplc := p4 i hlt
      rw [hc] at hplc
      have hgs := grp_spec hv hlt
      refine awp_skip ?_
      refine q_seq ?_
      refine awp_seq ?_
      refine awp_block ?_
      refine stp_reg TT_ok (by rfl) fun K hK => ?_
      simp [h26_8, h28_8, g1_7, g3_7, g4_7, encG, hlt, hlt2, hgi, hcl]
      try refine And.intro (by first | omega | rfl) ?_
      refine hK _ _ fun σ9 hσ H9 hH => ?_
      clear hK K
      have h4_9 := congrFun hσ 4
      have h5_9 := congrFun hσ 5
      have h7_9 := congrFun hσ 7
      have h8_9 := congrFun hσ 8
      have h9_9 := congrFun hσ 9
      have h10_9 := congrFun hσ 10
      have h26_9 := congrFun hσ 26
      have h27_9 := congrFun hσ 27
      have h28_9 := congrFun hσ 28
      simp [h4_8, h5_8, h7_8, h8_8, h26_8, h27_8, h28_8] at h4_9 h5_9 h7_9 h8_9 h9_9 h10_9 h26_9 h27_9 h28_9
      clear hσ
      replace hH : H7 = H9 := Eq.symm hH
      subst hH
      refine stp_cut (fun σ' H' => ∃ (v2 : AV) (vs2 : List AV) (pl2 : List Int), σ' 4 = σ9 4 ∧ σ' 5 = σ9 5 ∧ σ' 7 = σ9 7 ∧ σ' 8 = v2 ∧ σ' 9 = σ9 9 ∧ σ' 10 = σ9 10 ∧ σ' 26 = σ9 26 ∧ σ' 27 = σ9 27 ∧ σ' 28 = σ9 28 ∧ H'.get 1 = H7.get 1 ∧ H'.get 3 = some (.row 3 1 0 (pl2.map (AV.int IntKind.i64))) ∧ H'.get 4 = H7.get 4 ∧ H'.st = H7.st ∧ (RowsV 5 v2 vs2 (if g.grp i = i then g.ndL i ++ [[]] else g.ndL i) H') ∧ (pl2.length = cn) ∧ (PlOk g cmp pl2 (i + 1))) ?_ ?_
      · skip
        by_cases hgg : g.grp i = i
        · skip
          refine stp_reg TT_ok (by rfl) fun K hK => ?_
          simp [h7_9, h10_9, g1_7, g3_7, g4_7, hgg, beq_iff_eq.2 hgg, encG, c1, c2, c3, gt_elem c4, p3]
          try refine And.intro (by first | omega | rfl) ?_
          refine hK _ _ fun σ11 hσ H11 hH => ?_
          clear hK K
          have h4_11 := congrFun hσ 4
          have h5_11 := congrFun hσ 5
          have h7_11 := congrFun hσ 7
          have h8_11 := congrFun hσ 8
          have h9_11 := congrFun hσ 9
          have h10_11 := congrFun hσ 10
          have h26_11 := congrFun hσ 26
          have h27_11 := congrFun hσ 27
          have h28_11 := congrFun hσ 28
          have h37_11 := congrFun hσ 37
          simp [h4_9, h5_9, h7_9, h8_9, h9_9, h10_9, h26_9, h27_9, h28_9] at h4_11 h5_11 h7_11 h8_11 h9_11 h10_11 h26_11 h27_11 h28_11 h37_11
          clear hσ
          replace hH : H7 = H11 := Eq.symm hH
          subst hH
          refine stp_true (by simp [aeval_tmp, h37_11, hgg, beq_iff_eq.2 hgg, encG, hplc, hgg]) ?_
          rcases p2.top with ⟨rfl, hvs⟩ | ⟨iv, gv, rfl, hb, hlo, hne⟩
          · skip
            refine stp_reg TT_ok (by rfl) fun K hK => ?_
            simp [h7_11, h8_11, h10_11, g1_7, g3_7, g4_7, hgg, beq_iff_eq.2 hgg, encG, c1, c2, c3, p3]
            try refine And.intro (by first | omega | rfl) ?_
            refine hK _ _ fun σ12 hσ H12 hH => ?_
            clear hK K
            have h4_12 := congrFun hσ 4
            have h5_12 := congrFun hσ 5
            have h7_12 := congrFun hσ 7
            have h8_12 := congrFun hσ 8
            have h9_12 := congrFun hσ 9
            have h10_12 := congrFun hσ 10
            have h26_12 := congrFun hσ 26
            have h27_12 := congrFun hσ 27
            have h28_12 := congrFun hσ 28
            simp [h4_11, h5_11, h7_11, h8_11, h9_11, h10_11, h26_11, h27_11, h28_11] at h4_12 h5_12 h7_12 h8_12 h9_12 h10_12 h26_12 h27_12 h28_12
            clear hσ
            have g1_12 := gt_of hH 1
            have g3_12 := gt_of hH 3
            have g4_12 := gt_of hH 4
            simp [g1_7, g3_7, g4_7, hst_7, hgg, beq_iff_eq.2 hgg] at g1_12 g3_12 g4_12
            have hst_12 := congrArg AHeap.st hH
            simp [hst_7] at hst_12
            have ka : ∀ j, j ≠ 3 → H12.get j = H7.get j := fun j h1 => by rw [hH]; simp [h1]
            clear hH
            refine awp_ok fun hok => ?_
            obtain ⟨m13, hn_m13⟩ : ∃ m, H12.n = m := ⟨_, rfl⟩
            have hf_m13_0 := hok.free 0
            simp [hn_m13, hst_12] at hf_m13_0
            have nx1 := ne_get hf_m13_0 g1_12
            have nx2 := ne_get hf_m13_0 g3_12
            have nx3 := ne_get hf_m13_0 g4_12
            have hf_m13_1 := hok.free 1
            simp [hn_m13, hst_12] at hf_m13_1
            have nx4 := ne_get hf_m13_1 g1_12
            have nx5 : ¬ m13 = 0 ∧ ¬ 0 = m13 := by omega
            have nx6 := ne_get hf_m13_1 g3_12
            have nx7 : ¬ m13 = 2 ∧ ¬ 2 = m13 := by omega
            have nx8 := ne_get hf_m13_1 g4_12
            have nx9 : ¬ m13 = 3 ∧ ¬ 3 = m13 := by omega
            refine stp_regl TT_ok (by rfl) fun K hK => ?_
            simp [h8_12, g1_12, g3_12, g4_12, hn_m13, hst_12, hgg, beq_iff_eq.2 hgg, nx1, nx2, nx3, nx4, nx5, nx6, nx7, nx8, nx9, encG]
            try refine And.intro (by first | omega | rfl) ?_
            refine hK _ _ fun σ14 hσ H14 hH => ?_
            clear hK K
            have h4_14 := congrFun hσ 4
            have h5_14 := congrFun hσ 5
            have h7_14 := congrFun hσ 7
            have h8_14 := congrFun hσ 8
            have h9_14 := congrFun hσ 9
            have h10_14 := congrFun hσ 10
            have h26_14 := congrFun hσ 26
            have h27_14 := congrFun hσ 27
            have h28_14 := congrFun hσ 28
            simp [h4_12, h5_12, h7_12, h9_12, h10_12, h26_12, h27_12, h28_12] at h4_14 h5_14 h7_14 h8_14 h9_14 h10_14 h26_14 h27_14 h28_14
            clear hσ
            have g1_14 := gt_of hH 1
            have g3_14 := gt_of hH 3
            have g4_14 := gt_of hH 4
            have gm13_14 := gt_of hH m13
            have g_m13_1__14 := gt_of hH (m13 + 1)
            simp [g1_12, g3_12, g4_12, hn_m13, hst_12, hgg, beq_iff_eq.2 hgg, nx1, nx2, nx3, nx4, nx5, nx6, nx7, nx8, nx9] at g1_14 g3_14 g4_14 gm13_14 g_m13_1__14
            have hst_14 := congrArg AHeap.st hH
            simp [hst_12] at hst_14
            have kb : ∀ j, H12.get j ≠ none → H14.get j = H12.get j := fun j hj => by
              rw [hH]; have hjm : ¬ j = m13 := by { intro e; rw [e, hf_m13_0] at hj; exact hj rfl }
              have hjn : ¬ j = (m13 + 1) := by { intro e; rw [e, hf_m13_1] at hj; exact hj rfl }
              simp [hn_m13, hst_12, hjm, hjn]
            clear hH
            have hr0 : g.rank i = 0 := by rw [← hvl, hvs]; rfl
            refine ⟨rfl, .sl (m13 + 1) 0 0 1, [.nils], pl.set c.toNat (g.rank i), (h4_14.trans h4_9.symm), (h5_14.trans h5_9.symm), (h7_14.trans h7_9.symm), (by simp [h8_14, hr0]), (h9_14.trans h9_9.symm), (h10_14.trans h10_9.symm), (h26_14.trans h26_9.symm), (h27_14.trans h27_9.symm), (h28_14.trans h28_9.symm), (g1_14.trans g1_7.symm), (by simp [g3_14, hr0]), (g4_14.trans g4_7.symm), (hst_14.trans hst_7.symm), ?_, ?_, ?_⟩
            · subst hvs
              rw [if_pos hgg]
              exact p2.pushed (by rw [g_m13_1__14]; rfl) (by omega) (.inr rfl) fun j h5 hj h1 => by rw [kb j (by rw [ka j (by omega)]; exact hj), ka j (by omega)]
            · simpa using p3
            · rw [← hc]; exact p4.new hv hnum p3 hlt hgg
          · skip
            have nx10 : ¬ iv = 1 ∧ ¬ 1 = iv := by omega
            have nx11 : ¬ iv = 3 ∧ ¬ 3 = iv := by omega
            have nx12 : ¬ iv = 4 ∧ ¬ 4 = iv := by omega
            refine stp_reg TT_ok (by rfl) fun K hK => ?_
            simp [h7_11, h8_11, h10_11, g1_7, g3_7, g4_7, hb, hgg, beq_iff_eq.2 hgg, nx10, nx11, nx12, encG, c1, c2, c3, p3, show vs.length ≤ 1024 by omega]
            try refine And.intro (by first | omega | rfl) ?_
            refine hK _ _ fun σ15 hσ H15 hH => ?_
            clear hK K
            have h4_15 := congrFun hσ 4
            have h5_15 := congrFun hσ 5
            have h7_15 := congrFun hσ 7
            have h8_15 := congrFun hσ 8
            have h9_15 := congrFun hσ 9
            have h10_15 := congrFun hσ 10
            have h26_15 := congrFun hσ 26
            have h27_15 := congrFun hσ 27
            have h28_15 := congrFun hσ 28
            simp [h4_11, h5_11, h7_11, h8_11, h9_11, h10_11, h26_11, h27_11, h28_11] at h4_15 h5_15 h7_15 h8_15 h9_15 h10_15 h26_15 h27_15 h28_15
            clear hσ
            have g1_15 := gt_of hH 1
            have g3_15 := gt_of hH 3
            have g4_15 := gt_of hH 4
            have giv_15 := gt_of hH iv
            simp [g1_7, g3_7, g4_7, hb, hst_7, hgg, beq_iff_eq.2 hgg, nx10, nx11, nx12] at g1_15 g3_15 g4_15 giv_15
            have hst_15 := congrArg AHeap.st hH
            simp [hst_7] at hst_15
            have ka : ∀ j, j ≠ 3 → H15.get j = H7.get j := fun j h1 => by rw [hH]; simp [h1]
            clear hH
            refine awp_ok fun hok => ?_
            obtain ⟨m16, hn_m16⟩ : ∃ m, H15.n = m := ⟨_, rfl⟩
            have hf_m16_0 := hok.free 0
            simp [hn_m16, hst_15] at hf_m16_0
            have nx13 := ne_get hf_m16_0 g1_15
            have nx14 := ne_get hf_m16_0 g3_15
            have nx15 := ne_get hf_m16_0 g4_15
            have nx16 := ne_get hf_m16_0 giv_15
            refine stp_regl TT_ok (by rfl) fun K hK => ?_
            simp [h8_15, g1_15, g3_15, g4_15, giv_15, hn_m16, hst_15, hgg, beq_iff_eq.2 hgg, nx10, nx11, nx12, nx13, nx14, nx15, nx16, encG, show vs.length ≤ 9223372036854775806 by omega, show (vs.length + 1) * 24 ≤ 140737488355328 by omega]
            try refine And.intro (by first | omega | rfl) ?_
            refine hK _ _ fun σ17 hσ H17 hH => ?_
            clear hK K
            have h4_17 := congrFun hσ 4
            have h5_17 := congrFun hσ 5
            have h7_17 := congrFun hσ 7
            have h8_17 := congrFun hσ 8
            have h9_17 := congrFun hσ 9
            have h10_17 := congrFun hσ 10
            have h26_17 := congrFun hσ 26
            have h27_17 := congrFun hσ 27
            have h28_17 := congrFun hσ 28
            simp [h4_15, h5_15, h7_15, h9_15, h10_15, h26_15, h27_15, h28_15] at h4_17 h5_17 h7_17 h8_17 h9_17 h10_17 h26_17 h27_17 h28_17
            clear hσ
            have g1_17 := gt_of hH 1
            have g3_17 := gt_of hH 3
            have g4_17 := gt_of hH 4
            have giv_17 := gt_of hH iv
            have gm16_17 := gt_of hH m16
            simp [g1_15, g3_15, g4_15, giv_15, hn_m16, hst_15, hgg, beq_iff_eq.2 hgg, nx10, nx11, nx12, nx13, nx14, nx15, nx16] at g1_17 g3_17 g4_17 giv_17 gm16_17
            have hst_17 := congrArg AHeap.st hH
            simp [hst_15] at hst_17
            have kb : ∀ j, H15.get j ≠ none → j ≠ iv → H17.get j = H15.get j := fun j hj h1 => by
              rw [hH]; have hjm : ¬ j = m16 := by { intro e; rw [e, hf_m16_0] at hj; exact hj rfl }
              simp [hn_m16, hjm, h1]
            clear hH
            refine ⟨rfl, .sl iv (gv + 1) 0 (vs.length + 1), vs ++ [.nils], pl.set c.toNat (g.rank i), (h4_17.trans h4_9.symm), (h5_17.trans h5_9.symm), (h7_17.trans h7_9.symm), (by simp [h8_17, hvl]), (h9_17.trans h9_9.symm), (h10_17.trans h10_9.symm), (h26_17.trans h26_9.symm), (h27_17.trans h27_9.symm), (h28_17.trans h28_9.symm), (g1_17.trans g1_7.symm), (by simp [g3_17, hvl]), (g4_17.trans g4_7.symm), (hst_17.trans hst_7.symm), ?_, ?_, ?_⟩
            · rw [if_pos hgg]
              exact p2.pushed (by rw [giv_17]) hlo (.inl ⟨_, rfl⟩) fun j h5 hj h1 => by rw [kb j (by rw [ka j (by omega)]; exact hj) h1, ka j (by omega)]
            · simpa using p3
            · rw [← hc]; exact p4.new hv hnum p3 hlt hgg
        · skip
          refine stp_reg TT_ok (by rfl) fun K hK => ?_
          simp [h7_9, h10_9, g1_7, g3_7, g4_7, hgg, beq_eq_false_iff_ne.2 hgg, encG, c1, c2, c3, gt_elem c4, p3]
          try refine And.intro (by first | omega | rfl) ?_
          refine hK _ _ fun σ18 hσ H18 hH => ?_
          clear hK K
          have h4_18 := congrFun hσ 4
          have h5_18 := congrFun hσ 5
          have h7_18 := congrFun hσ 7
          have h8_18 := congrFun hσ 8
          have h9_18 := congrFun hσ 9
          have h10_18 := congrFun hσ 10
          have h26_18 := congrFun hσ 26
          have h27_18 := congrFun hσ 27
          have h28_18 := congrFun hσ 28
          have h37_18 := congrFun hσ 37
          simp [h4_9, h5_9, h7_9, h8_9, h9_9, h10_9, h26_9, h27_9, h28_9] at h4_18 h5_18 h7_18 h8_18 h9_18 h10_18 h26_18 h27_18 h28_18 h37_18
          clear hσ
          replace hH : H7 = H18 := Eq.symm hH
          subst hH
          refine stp_false (by simp [aeval_tmp, h37_18, hgg, beq_eq_false_iff_ne.2 hgg, encG, hplc, show g.grp i < i by omega]) ?_
          refine awp_skip ?_
          refine ⟨rfl, v, vs, pl, (h4_18.trans h4_9.symm), (h5_18.trans h5_9.symm), (h7_18.trans h7_9.symm), (by simp [h8_18]), (h9_18.trans h9_9.symm), (h10_18.trans h10_9.symm), (h26_18.trans h26_9.symm), (h27_18.trans h27_9.symm), (h28_18.trans h28_9.symm), (g1_7.trans g1_7.symm), (by simp [g3_7]), (g4_7.trans g4_7.symm), (hst_7.trans hst_7.symm), ?_, ?_, ?_⟩
          · rw [if_neg hgg]; exact p2
          · first | omega | assumption | (simp; done)
          · exact p4.old hv hlt hgg
      · rintro σ10 H10 ⟨v2, vs2, pl2, q4_10, q5_10, q7_10, h8_10, q9_10, q10_10, q26_10, q27_10, q28_10, qg1_10, g3_10, qg4_10, qst_10, q1, q2, q3⟩
        have h4_10 := q4_10.trans h4_9
        have h5_10 := q5_10.trans h5_9
        have h7_10 := q7_10.trans h7_9
        have h9_10 := q9_10.trans h9_9
        have h10_10 := q10_10.trans h10_9
        have h26_10 := q26_10.trans h26_9
        have h27_10 := q27_10.trans h27_9
        have h28_10 := q28_10.trans h28_9
        have g1_10 := qg1_10.trans g1_7
        have g4_10 := qg4_10.trans g4_7
        have hst_10 := qst_10.trans hst_7
        have q3i := q3 i hlt
        rw [hc, if_pos (by omega)] at q3i
        obtain ⟨ls2, hls2⟩ : ∃ ls2, (if g.grp i = i then g.ndL i ++ [[]] else g.ndL i) = ls2 := ⟨_, rfl⟩
        have hlr : ls2[g.rank (g.grp i)]? = some (g.mem i (g.grp i)) ∧ g.ndL (i + 1) = ls2.set (g.rank (g.grp i)) (g.mem i (g.grp i) ++ [(i : Int)]) := by
          by_cases hgg : g.grp i = i
          · have hme : g.mem i (g.grp i) = [] := by
              simp only [Gr.mem, List.map_eq_nil_iff, List.filter_eq_nil_iff, List.mem_range, decide_eq_true_eq]
              intro w hw e
              have := grp_spec hv (v := w) (by omega)
              omega
            rw [if_pos hgg] at hls2
            subst hls2
            rw [hme, hgg]
            have hl : (g.ndL i).length = g.rank i := by simp [Gr.ndL, Gr.rank]
            exact ⟨by rw [← hl]; simp, ndL_new hgg fun w hw e => by have := grp_spec hv (v := w) (by omega); omega⟩
          · rw [if_neg hgg] at hls2
            subst hls2
            refine ⟨?_, ndL_old hv hlt (by omega)⟩
            rw [Gr.ndL, List.getElem?_map, reps_rank (by omega) (grp_grp hv hlt)]; rfl
        rw [hls2] at q1
        obtain ⟨r, hr⟩ : ∃ r, g.rank (g.grp i) = r := ⟨_, rfl⟩
        rw [hr] at hlr q3i
        obtain ⟨hlr1, hlr2⟩ := hlr
        have hvs2 : vs2.length = ls2.length := q1.rows.len
        have hrl3 := (List.getElem?_eq_some_iff.1 hlr1).1
        have hml := mem_len g i (g.grp i)
        have c5 : c.toNat < pl2.length := by omega
        have hrv : r < vs2.length := by omega
        have hvk : vs2[r]? = some vs2[r] := List.getElem?_eq_getElem hrv
        have hok := q1.rows.own _ _ _ hvk hlr1
        obtain ⟨iv, gv, rfl, htop, hlo, hne⟩ : ∃ iv gv : Nat, v2 = AV.sl iv gv 0 vs2.length ∧ H10.get iv = some (.row 26 1 gv vs2) ∧ 5 ≤ iv ∧ ∀ i x g' n : Nat, vs2[i]? = some (AV.sl x g' 0 n) → x ≠ iv := by
          rcases q1.top with ⟨_, e⟩ | h
          · rw [e] at hrv; exact absurd hrv (Nat.not_lt_zero _)
          · exact h
        rcases hok with ⟨hvn, hnil⟩ | ⟨id, gn, rest, hvn, hb, hid⟩
        · skip
          have nx17 : ¬ iv = 1 ∧ ¬ 1 = iv := by omega
          have nx18 : ¬ iv = 3 ∧ ¬ 3 = iv := by omega
          have nx19 : ¬ iv = 4 ∧ ¬ 4 = iv := by omega
          refine awp_ok fun hok => ?_
          obtain ⟨m19, hn_m19⟩ : ∃ m, H10.n = m := ⟨_, rfl⟩
          have hf_m19_13 := hok.free 13
          simp [hn_m19, hst_10] at hf_m19_13
          have nx20 := ne_get hf_m19_13 g1_10
          have nx21 := ne_get hf_m19_13 g3_10
          have nx22 := ne_get hf_m19_13 g4_10
          have nx23 := ne_get hf_m19_13 htop
          have hf_m19_14 := hok.free 14
          simp [hn_m19, hst_10] at hf_m19_14
          have nx24 := ne_get hf_m19_14 g1_10
          have nx25 := ne_get hf_m19_14 g3_10
          have nx26 := ne_get hf_m19_14 g4_10
          have nx27 := ne_get hf_m19_14 htop
          refine stp_lexl true TT_ok mixed (by rfl) (by rfl) (by kernel_rfl) (by rfl) fun U hU K hK => ?_
          simp [h7_10, h8_10, h9_10, h10_10, g1_10, g3_10, g4_10, htop, hn_m19, hst_10, nx17, nx18, nx19, nx20, nx21, nx22, nx23, nx24, nx25, nx26, nx27, encG, c1, c2, c3, gt_elem c5, q2, q3i, hrv, hvn]
          try refine And.intro (by first | omega | rfl) ?_
          refine hK _ _ _ (by rw [hU.trans (by kernel_rfl : _ = [(0, 1), (0, 2), (1, 2), (0, 3), (0, 4), (0, 5), (1, 5), (2, 5), (3, 5), (4, 5), (0, 6), (1, 6), (2, 6), (3, 6), (4, 6), (5, 6), (0, 7), (1, 7), (2, 7), (3, 7), (4, 7), (5, 7), (6, 7), (0, 8), (1, 8), (2, 8), (3, 8), (4, 8), (5, 8), (0, 9), (1, 9), (2, 9), (3, 9), (4, 9), (5, 9), (0, 10), (1, 10), (2, 10), (3, 10), (4, 10), (0, 11), (1, 11), (2, 11), (3, 11), (4, 11), (0, 12), (1, 12), (2, 12), (3, 12), (4, 12), (5, 12), (6, 12), (7, 12), (8, 12), (9, 12), (10, 12), (11, 12), (0, 13), (1, 13), (2, 13), (3, 13), (4, 13), (5, 13), (6, 13), (7, 13), (8, 13), (9, 13), (10, 13), (11, 13), (0, 14), (1, 14), (2, 14), (3, 14), (4, 14)])]; simp [logOk, ftFree, h7_10, h8_10, h9_10, h10_10, g1_10, g3_10, g4_10, htop, hn_m19, hst_10, nx17, nx18, nx19, nx20, nx21, nx22, nx23, nx24, nx25, nx26, nx27, encG, c1, c2, c3, gt_elem c5, q2, q3i, hrv, hvn]) fun σ20 hσ H20 hH => ?_
          clear hK K hU U
          have h4_20 := congrFun hσ 4
          have h5_20 := congrFun hσ 5
          have h7_20 := congrFun hσ 7
          have h8_20 := congrFun hσ 8
          have h26_20 := congrFun hσ 26
          have h27_20 := congrFun hσ 27
          have h28_20 := congrFun hσ 28
          simp [h4_10, h5_10, h7_10, h8_10, h26_10, h27_10, h28_10] at h4_20 h5_20 h7_20 h8_20 h26_20 h27_20 h28_20
          clear hσ
          have g1_20 := gt_of hH 1
          have g3_20 := gt_of hH 3
          have g4_20 := gt_of hH 4
          have giv_20 := gt_of hH iv
          have g_m19_13__20 := gt_of hH (m19 + 13)
          have g_m19_14__20 := gt_of hH (m19 + 14)
          simp [g1_10, g3_10, g4_10, htop, hn_m19, hst_10, nx17, nx18, nx19, nx20, nx21, nx22, nx23, nx24, nx25, nx26, nx27] at g1_20 g3_20 g4_20 giv_20 g_m19_13__20 g_m19_14__20
          have hst_20 := congrArg AHeap.st hH
          simp [hst_10] at hst_20
          have kb : ∀ j, H10.get j ≠ none → j ≠ iv → H20.get j = H10.get j := fun j hj h1 => by
            rw [hH]; have hjm : ¬ j = (m19 + 13) := by { intro e; rw [e, hf_m19_13] at hj; exact hj rfl }
            have hjn : ¬ j = (m19 + 14) := by { intro e; rw [e, hf_m19_14] at hj; exact hj rfl }
            simp [hn_m19, hjm, hjn, h1]
          clear hH
          refine q_block ?_
          refine q_seq ?_
          refine stp_regl TT_ok (by rfl) fun K hK => ?_
          simp [h28_20, g1_20, g3_20, g4_20, giv_20, g_m19_13__20, g_m19_14__20, nx17, nx18, nx19, nx20, nx21, nx22, nx23, nx24, nx25, nx26, nx27, encG, wrap_ok (n := (i : Int) + 1) (by omega) (by omega)]
          try refine And.intro (by first | omega | rfl) ?_
          refine hK _ _ fun σ21 hσ H21 hH => ?_
          clear hK K
          have h4_21 := congrFun hσ 4
          have h5_21 := congrFun hσ 5
          have h7_21 := congrFun hσ 7
          have h8_21 := congrFun hσ 8
          have h26_21 := congrFun hσ 26
          have h27_21 := congrFun hσ 27
          have h28_21 := congrFun hσ 28
          simp [h4_20, h5_20, h7_20, h8_20, h26_20, h27_20] at h4_21 h5_21 h7_21 h8_21 h26_21 h27_21 h28_21
          clear hσ
          replace hH : H20 = H21 := Eq.symm hH
          subst hH
          refine ⟨_, ?_, i + 1, .sl iv gv 0 vs2.length, vs2.set r (.sl (m19 + 14) 0 0 1), pl2, rfl, (h4_21.trans h4_6.symm), (h5_21.trans h5_6.symm), (h7_21.trans h7_6.symm), (by simp [h8_21]), (h26_21.trans h26_6.symm), (h27_21.trans h27_6.symm), (by simp [h28_21]), (g1_20.trans g1_4.symm), (by simp [g3_20]), (g4_20.trans g4_4.symm), (hst_20.trans hst_4.symm), ?_, ?_, ?_, ?_⟩
          · subst hn1; omega
          · first | omega | assumption | (simp; done)
          · rw [hlr2]
            have hnil2 : g.mem i (g.grp i) = [] := List.map_eq_nil_iff.1 hnil
            refine q1.setR (by rw [giv_20]) (OwnR.mk (rest := []) g_m19_14__20 (by simp [hnil2]) (by simp [hnil2]) (by omega)) (fun g' n' e => by cases e; omega) fun j id g' n' hj hvj => ?_
            obtain ⟨u1, u2⟩ := q1.rows.used hvj
            refine ⟨kb id u1 (hne _ _ _ _ hvj), fun g'' n'' e => ?_⟩
            cases e; exact u1 hf_m19_14
          · exact q2
          · exact q3
        · skip
          rw [hvn] at hvk
          have hiv : ¬ id = iv := hne _ _ _ _ hvk
          have nx28 : ¬ iv = 1 ∧ ¬ 1 = iv := by omega
          have nx29 : ¬ iv = 3 ∧ ¬ 3 = iv := by omega
          have nx30 : ¬ iv = 4 ∧ ¬ 4 = iv := by omega
          have nx31 : ¬ id = 1 ∧ ¬ 1 = id := by omega
          have nx32 : ¬ id = 3 ∧ ¬ 3 = id := by omega
          have nx33 : ¬ id = 4 ∧ ¬ 4 = id := by omega
          refine awp_ok fun hok => ?_
          obtain ⟨m22, hn_m22⟩ : ∃ m, H10.n = m := ⟨_, rfl⟩
          have hf_m22_13 := hok.free 13
          simp [hn_m22, hst_10] at hf_m22_13
          have nx34 := ne_get hf_m22_13 g1_10
          have nx35 := ne_get hf_m22_13 g3_10
          have nx36 := ne_get hf_m22_13 g4_10
          have nx37 := ne_get hf_m22_13 htop
          have nx38 := ne_get hf_m22_13 hb
          refine stp_lexl true TT_ok mixed (by rfl) (by rfl) (by kernel_rfl) (by rfl) fun U hU K hK => ?_
          simp [h7_10, h8_10, h9_10, h10_10, g1_10, g3_10, g4_10, htop, hb, hn_m22, hst_10, hiv, Ne.symm hiv, nx28, nx29, nx30, nx31, nx32, nx33, nx34, nx35, nx36, nx37, nx38, encG, c1, c2, c3, gt_elem c5, q2, q3i, hrv, hvn, show (g.mem i (g.grp i)).length ≤ 9223372036854775806 by omega, show ((g.mem i (g.grp i)).length + 1) * 8 ≤ 140737488355328 by omega]
          try refine And.intro (by first | omega | rfl) ?_
          refine hK _ _ _ (by rw [hU.trans (by kernel_rfl : _ = [(0, 1), (0, 2), (1, 2), (0, 3), (0, 4), (0, 5), (1, 5), (2, 5), (3, 5), (4, 5), (0, 6), (1, 6), (2, 6), (3, 6), (4, 6), (5, 6), (0, 7), (1, 7), (2, 7), (3, 7), (4, 7), (5, 7), (6, 7), (0, 8), (1, 8), (2, 8), (3, 8), (4, 8), (5, 8), (0, 9), (1, 9), (2, 9), (3, 9), (4, 9), (5, 9), (0, 10), (1, 10), (2, 10), (3, 10), (4, 10), (0, 11), (1, 11), (2, 11), (3, 11), (4, 11), (0, 12), (1, 12), (2, 12), (3, 12), (4, 12), (5, 12), (6, 12), (7, 12), (8, 12), (9, 12), (10, 12), (11, 12), (0, 13), (1, 13), (2, 13), (3, 13), (4, 13), (5, 13), (6, 13), (7, 13), (8, 13), (9, 13), (10, 13), (11, 13), (0, 14), (1, 14), (2, 14), (3, 14), (4, 14)])]; simp [logOk, ftFree, h7_10, h8_10, h9_10, h10_10, g1_10, g3_10, g4_10, htop, hb, hn_m22, hst_10, hiv, Ne.symm hiv, nx28, nx29, nx30, nx31, nx32, nx33, nx34, nx35, nx36, nx37, nx38, encG, c1, c2, c3, gt_elem c5, q2, q3i, hrv, hvn, show (g.mem i (g.grp i)).length ≤ 9223372036854775806 by omega, show ((g.mem i (g.grp i)).length + 1) * 8 ≤ 140737488355328 by omega]) fun σ23 hσ H23 hH => ?_
          clear hK K hU U
          have h4_23 := congrFun hσ 4
          have h5_23 := congrFun hσ 5
          have h7_23 := congrFun hσ 7
          have h8_23 := congrFun hσ 8
          have h26_23 := congrFun hσ 26
          have h27_23 := congrFun hσ 27
          have h28_23 := congrFun hσ 28
          simp [h4_10, h5_10, h7_10, h8_10, h26_10, h27_10, h28_10] at h4_23 h5_23 h7_23 h8_23 h26_23 h27_23 h28_23
          clear hσ
          have g1_23 := gt_of hH 1
          have g3_23 := gt_of hH 3
          have g4_23 := gt_of hH 4
          have giv_23 := gt_of hH iv
          have gid_23 := gt_of hH id
          have g_m22_13__23 := gt_of hH (m22 + 13)
          simp [g1_10, g3_10, g4_10, htop, hb, hn_m22, hst_10, hiv, Ne.symm hiv, nx28, nx29, nx30, nx31, nx32, nx33, nx34, nx35, nx36, nx37, nx38] at g1_23 g3_23 g4_23 giv_23 gid_23 g_m22_13__23
          have hst_23 := congrArg AHeap.st hH
          simp [hst_10] at hst_23
          have kb : ∀ j, H10.get j ≠ none → j ≠ iv → j ≠ id → H23.get j = H10.get j := fun j hj h1 h2 => by
            rw [hH]; have hjm : ¬ j = (m22 + 13) := by { intro e; rw [e, hf_m22_13] at hj; exact hj rfl }
            simp [hn_m22, hst_23, hjm, h1, h2]
          clear hH
          refine q_block ?_
          refine q_seq ?_
          refine stp_regl TT_ok (by rfl) fun K hK => ?_
          simp [h28_23, g1_23, g3_23, g4_23, giv_23, gid_23, g_m22_13__23, hiv, Ne.symm hiv, nx28, nx29, nx30, nx31, nx32, nx33, nx34, nx35, nx36, nx37, nx38, encG, wrap_ok (n := (i : Int) + 1) (by omega) (by omega)]
          try refine And.intro (by first | omega | rfl) ?_
          refine hK _ _ fun σ24 hσ H24 hH => ?_
          clear hK K
          have h4_24 := congrFun hσ 4
          have h5_24 := congrFun hσ 5
          have h7_24 := congrFun hσ 7
          have h8_24 := congrFun hσ 8
          have h26_24 := congrFun hσ 26
          have h27_24 := congrFun hσ 27
          have h28_24 := congrFun hσ 28
          simp [h4_23, h5_23, h7_23, h8_23, h26_23, h27_23] at h4_24 h5_24 h7_24 h8_24 h26_24 h27_24 h28_24
          clear hσ
          replace hH : H23 = H24 := Eq.symm hH
          subst hH
          refine ⟨_, ?_, i + 1, .sl iv gv 0 vs2.length, vs2.set r (.sl id (gn + 1) 0 ((g.mem i (g.grp i)).length + 1)), pl2, rfl, (h4_24.trans h4_6.symm), (h5_24.trans h5_6.symm), (h7_24.trans h7_6.symm), (by simp [h8_24]), (h26_24.trans h26_6.symm), (h27_24.trans h27_6.symm), (by simp [h28_24]), (g1_23.trans g1_4.symm), (by simp [g3_23]), (g4_23.trans g4_4.symm), (hst_23.trans hst_4.symm), ?_, ?_, ?_, ?_⟩
          · subst hn1; omega
          · first | omega | assumption | (simp; done)
          · rw [hlr2]
            refine q1.setR (by rw [giv_23]) (OwnR.mk (rest := []) gid_23 (by simp) (by simp) (by omega)) (fun g' n' e => by cases e; exact hiv rfl) fun j id' g' n' hj hvj => ?_
            obtain ⟨u1, u2⟩ := q1.rows.used hvj
            have u4 : id' ≠ id := fun e => hj (by subst e; exact q1.rows.ne _ _ _ _ _ _ _ hvj hvk)
            refine ⟨kb id' u1 (hne _ _ _ _ hvj) u4, fun g'' n'' e => ?_⟩
            cases e; exact u4 rfl
          · exact q2
          · exact q3
    · try simp at hc29
      have hie : i = g.nodes.length := by have := hc29; omega
      subst hie
      obtain ⟨Hc, hHc⟩ : ∃ Hc, Hc = H7 := ⟨_, rfl⟩
      have hpl : ∀ u : Int, inR g.nodes.length u → gt pl (gt cmp u) = g.rank (g.grp u.toNat) := fun u hu => by
        have := p4 u.toNat (in_toNat hu)
        rw [toNat_cast hu, if_pos (grp_spec hv (in_toNat hu)).2.1] at this
        exact this
      refine awp_exit ?_
      refine q_seq_exit ?_
      refine q_loop_exit ?_
      refine q_block_hit ?_
      refine q_seq ?_
      refine stp_cut (fun σ' H' => ∃ (ir : Nat) (ic : Nat), σ' 4 = σ8 4 ∧ σ' 5 = σ8 5 ∧ σ' 7 = σ8 7 ∧ σ' 8 = σ8 8 ∧ σ' 11 = .ptr ic 0 0 0 ∧ H'.get 1 = H7.get 1 ∧ H'.get 3 = H7.get 3 ∧ H'.get 4 = H7.get 4 ∧ H'.get ir = some (.row 26 1 0 (List.replicate vs.length AV.nils)) ∧ H'.get ic = some (.row 53 1 0 [.sl ir 0 0 vs.length]) ∧ H'.st = H7.st ∧ (5 ≤ ir) ∧ (5 ≤ ic) ∧ (¬ ir = ic) ∧ (Hc.get ir = none) ∧ (Hc.get ic = none) ∧ (∀ j, Hc.get j ≠ none → H'.get j = Hc.get j)) ?_ ?_
      · skip
        rcases p2.top with ⟨rfl, hvs⟩ | ⟨iv, gv, rfl, hb, hlo, hne⟩
        · skip
          refine awp_ok fun hok => ?_
          obtain ⟨m26, hn_m26⟩ : ∃ m, H7.n = m := ⟨_, rfl⟩
          have hf_m26_0 := hok.free 0
          simp [hn_m26, hst_7] at hf_m26_0
          have nx39 := ne_get hf_m26_0 g1_7
          have nx40 := ne_get hf_m26_0 g3_7
          have nx41 := ne_get hf_m26_0 g4_7
          have hf_m26_1 := hok.free 1
          simp [hn_m26, hst_7] at hf_m26_1
          have nx42 := ne_get hf_m26_1 g1_7
          have nx43 : ¬ m26 = 0 ∧ ¬ 0 = m26 := by omega
          have nx44 := ne_get hf_m26_1 g3_7
          have nx45 : ¬ m26 = 2 ∧ ¬ 2 = m26 := by omega
          have nx46 := ne_get hf_m26_1 g4_7
          have nx47 : ¬ m26 = 3 ∧ ¬ 3 = m26 := by omega
          refine stp_regl TT_ok (by rfl) fun K hK => ?_
          simp [h8_8, g1_7, g3_7, g4_7, hn_m26, hst_7, nx39, nx40, nx41, nx42, nx43, nx44, nx45, nx46, nx47, encG, hvs]
          try refine And.intro (by first | omega | rfl) ?_
          refine hK _ _ fun σ27 hσ H27 hH => ?_
          clear hK K
          have h4_27 := congrFun hσ 4
          have h5_27 := congrFun hσ 5
          have h7_27 := congrFun hσ 7
          have h8_27 := congrFun hσ 8
          have h11_27 := congrFun hσ 11
          simp [h4_8, h5_8, h7_8, h8_8] at h4_27 h5_27 h7_27 h8_27 h11_27
          clear hσ
          have g1_27 := gt_of hH 1
          have g3_27 := gt_of hH 3
          have g4_27 := gt_of hH 4
          have gm26_27 := gt_of hH m26
          have g_m26_1__27 := gt_of hH (m26 + 1)
          simp [g1_7, g3_7, g4_7, hn_m26, hst_7, nx39, nx40, nx41, nx42, nx43, nx44, nx45, nx46, nx47] at g1_27 g3_27 g4_27 gm26_27 g_m26_1__27
          have hst_27 := congrArg AHeap.st hH
          simp [hst_7] at hst_27
          have kb : ∀ j, H7.get j ≠ none → H27.get j = H7.get j := fun j hj => by
            rw [hH]; have hjm : ¬ j = m26 := by { intro e; rw [e, hf_m26_0] at hj; exact hj rfl }
            have hjn : ¬ j = (m26 + 1) := by { intro e; rw [e, hf_m26_1] at hj; exact hj rfl }
            simp [hn_m26, hst_7, hjm, hjn]
          clear hH
          refine ⟨rfl, m26, (m26 + 1), (h4_27.trans h4_8.symm), (h5_27.trans h5_8.symm), (h7_27.trans h7_8.symm), (h8_27.trans h8_8.symm), (by simp [h11_27]), (g1_27.trans g1_7.symm), (g3_27.trans g3_7.symm), (g4_27.trans g4_7.symm), (by rw [gm26_27, hvs]; rfl), (by rw [g_m26_1__27, hvs]; rfl), (hst_27.trans hst_7.symm), ?_, ?_, ?_, ?_, ?_, ?_⟩
          · first | omega | assumption | (simp; done)
          · first | omega | assumption | (simp; done)
          · first | omega | assumption | (simp; done)
          · rw [hHc]; exact hf_m26_0
          · rw [hHc]; exact hf_m26_1
          · rw [hHc]; exact kb
        · skip
          have nx48 : ¬ iv = 1 ∧ ¬ 1 = iv := by omega
          have nx49 : ¬ iv = 3 ∧ ¬ 3 = iv := by omega
          have nx50 : ¬ iv = 4 ∧ ¬ 4 = iv := by omega
          refine awp_ok fun hok => ?_
          obtain ⟨m28, hn_m28⟩ : ∃ m, H7.n = m := ⟨_, rfl⟩
          have hf_m28_0 := hok.free 0
          simp [hn_m28, hst_7] at hf_m28_0
          have nx51 := ne_get hf_m28_0 g1_7
          have nx52 := ne_get hf_m28_0 g3_7
          have nx53 := ne_get hf_m28_0 g4_7
          have nx54 := ne_get hf_m28_0 hb
          have hf_m28_1 := hok.free 1
          simp [hn_m28, hst_7] at hf_m28_1
          have nx55 := ne_get hf_m28_1 g1_7
          have nx56 : ¬ m28 = 0 ∧ ¬ 0 = m28 := by omega
          have nx57 := ne_get hf_m28_1 g3_7
          have nx58 : ¬ m28 = 2 ∧ ¬ 2 = m28 := by omega
          have nx59 := ne_get hf_m28_1 g4_7
          have nx60 : ¬ m28 = 3 ∧ ¬ 3 = m28 := by omega
          have nx61 := ne_get hf_m28_1 hb
          refine stp_regl TT_ok (by rfl) fun K hK => ?_
          simp [h8_8, g1_7, g3_7, g4_7, hb, hn_m28, hst_7, nx48, nx49, nx50, nx51, nx52, nx53, nx54, nx55, nx56, nx57, nx58, nx59, nx60, nx61, encG, show (vs.length : Int) ≤ 281474976710656 by omega, show (24 : Int) * (vs.length : Int) ≤ 281474976710656 by omega]
          try refine And.intro (by first | omega | rfl) ?_
          refine hK _ _ fun σ29 hσ H29 hH => ?_
          clear hK K
          have h4_29 := congrFun hσ 4
          have h5_29 := congrFun hσ 5
          have h7_29 := congrFun hσ 7
          have h8_29 := congrFun hσ 8
          have h11_29 := congrFun hσ 11
          simp [h4_8, h5_8, h7_8, h8_8] at h4_29 h5_29 h7_29 h8_29 h11_29
          clear hσ
          have g1_29 := gt_of hH 1
          have g3_29 := gt_of hH 3
          have g4_29 := gt_of hH 4
          have giv_29 := gt_of hH iv
          have gm28_29 := gt_of hH m28
          have g_m28_1__29 := gt_of hH (m28 + 1)
          simp [g1_7, g3_7, g4_7, hb, hn_m28, hst_7, nx48, nx49, nx50, nx51, nx52, nx53, nx54, nx55, nx56, nx57, nx58, nx59, nx60, nx61] at g1_29 g3_29 g4_29 giv_29 gm28_29 g_m28_1__29
          have hst_29 := congrArg AHeap.st hH
          simp [hst_7] at hst_29
          have kb : ∀ j, H7.get j ≠ none → H29.get j = H7.get j := fun j hj => by
            rw [hH]; have hjm : ¬ j = m28 := by { intro e; rw [e, hf_m28_0] at hj; exact hj rfl }
            have hjn : ¬ j = (m28 + 1) := by { intro e; rw [e, hf_m28_1] at hj; exact hj rfl }
            simp [hn_m28, hst_7, hjm, hjn]
          clear hH
          refine ⟨rfl, m28, (m28 + 1), (h4_29.trans h4_8.symm), (h5_29.trans h5_8.symm), (h7_29.trans h7_8.symm), (h8_29.trans h8_8.symm), (by simp [h11_29]), (g1_29.trans g1_7.symm), (g3_29.trans g3_7.symm), (g4_29.trans g4_7.symm), gm28_29, g_m28_1__29, (hst_29.trans hst_7.symm), ?_, ?_, ?_, ?_, ?_, ?_⟩
          · first | omega | assumption | (simp; done)
          · first | omega | assumption | (simp; done)
          · first | omega | assumption | (simp; done)
          · rw [hHc]; exact hf_m28_0
          · rw [hHc]; exact hf_m28_1
          · rw [hHc]; exact kb
      · rintro σ25 H25 ⟨ir, ic, q4_25, q5_25, q7_25, q8_25, h11_25, qg1_25, qg3_25, qg4_25, gir_25, gic_25, qst_25, b1, b2, b3, b4, b5, b6⟩
        have h4_25 := q4_25.trans h4_8
        have h5_25 := q5_25.trans h5_8
        have h7_25 := q7_25.trans h7_8
        have h8_25 := q8_25.trans h8_8
        have g1_25 := qg1_25.trans g1_7
        have g3_25 := qg3_25.trans g3_7
        have g4_25 := qg4_25.trans g4_7
        have hst_25 := qst_25.trans hst_7
        have z1 : ¬ ir = 1 := by omega
        have y1 : ¬ ic = 1 := by omega
        have z3 : ¬ ir = 3 := by omega
        have y3 : ¬ ic = 3 := by omega
        have z4 : ¬ ir = 4 := by omega
        have y4 : ¬ ic = 4 := by omega
        refine awp_seq ?_
        refine stp_reg TT_ok (by rfl) fun K hK => ?_
        simp [h5_25, g1_25, g3_25, g4_25, gir_25, gic_25, b3, Ne.symm b3, z1, Ne.symm z1, y1, Ne.symm y1, z3, Ne.symm z3, y3, Ne.symm y3, z4, Ne.symm z4, y4, Ne.symm y4, encG]
        try refine And.intro (by first | omega | rfl) ?_
        refine hK _ _ fun σ30 hσ H30 hH => ?_
        clear hK K
        have h4_30 := congrFun hσ 4
        have h5_30 := congrFun hσ 5
        have h7_30 := congrFun hσ 7
        have h8_30 := congrFun hσ 8
        have h11_30 := congrFun hσ 11
        have h66_30 := congrFun hσ 66
        have h67_30 := congrFun hσ 67
        have h68_30 := congrFun hσ 68
        simp [h4_25, h5_25, h7_25, h8_25, h11_25] at h4_30 h5_30 h7_30 h8_30 h11_30 h66_30 h67_30 h68_30
        clear hσ
        replace hH : H25 = H30 := Eq.symm hH
        subst hH
        refine awp_block ?_
        refine awp_loopV (fun n σ' H' => ∃ (i2 : Nat) (ws : List AV), n = g.nodes.length - i2 ∧ σ' 4 = σ30 4 ∧ σ' 5 = σ30 5 ∧ σ' 7 = σ30 7 ∧ σ' 8 = σ30 8 ∧ σ' 11 = σ30 11 ∧ σ' 66 = σ30 66 ∧ σ' 67 = σ30 67 ∧ σ' 68 = (AV.int IntKind.i64) i2 ∧ H'.get 1 = H25.get 1 ∧ H'.get 3 = H25.get 3 ∧ H'.get 4 = H25.get 4 ∧ H'.get ir = some (.row 26 1 0 ws) ∧ H'.get ic = H25.get ic ∧ H'.st = H25.st ∧ (i2 ≤ g.nodes.length) ∧ (Rows 5 ws (g.ceU i2) H') ∧ (∀ j, Hc.get j ≠ none → H'.get j = Hc.get j) ∧ (∀ i id g n : Nat, ws[i]? = some (AV.sl id g 0 n) → Hc.get id = none ∧ id ≠ ir ∧ id ≠ ic)) ?_ ?_
        · refine ⟨_, 0, List.replicate vs.length AV.nils, rfl, rfl, rfl, rfl, rfl, rfl, rfl, rfl, (by simp [h68_30]), rfl, rfl, rfl, (by simp [gir_25]), rfl, rfl, ?_, ?_, ?_, ?_⟩
          · first | omega | (simp; done) | assumption
          · rw [ceU_zero, show (g.reps g.nodes.length).length = vs.length from hvl.symm]; exact rows_nil _ _ _
          · exact b6
          · intro i id g n h
            rw [List.getElem?_replicate] at h
            split at h <;> simp at h
        · rintro n2 σ31 H31 ⟨i2, ws, hn2, q4_31, q5_31, q7_31, q8_31, q11_31, q66_31, q67_31, h68_31, qg1_31, qg3_31, qg4_31, gir_31, qgic_31, qst_31, s1, s2, s3, s4⟩
          have h4_31 := q4_31.trans h4_30
          have h5_31 := q5_31.trans h5_30
          have h7_31 := q7_31.trans h7_30
          have h8_31 := q8_31.trans h8_30
          have h11_31 := q11_31.trans h11_30
          have h66_31 := q66_31.trans h66_30
          have h67_31 := q67_31.trans h67_30
          have g1_31 := qg1_31.trans g1_25
          have g3_31 := qg3_31.trans g3_25
          have g4_31 := qg4_31.trans g4_25
          have gic_31 := qgic_31.trans gic_25
          have hst_31 := qst_31.trans hst_25
          have hwl : ws.length = vs.length := by rw [s2.len, hvl]; simp [Gr.ceU, Gr.rank]
          refine stp_reg TT_ok (by rfl) fun K hK => ?_
          simp [h67_31, h68_31, g1_31, g3_31, g4_31, gir_31, gic_31, b3, Ne.symm b3, z1, Ne.symm z1, y1, Ne.symm y1, z3, Ne.symm z3, y3, Ne.symm y3, z4, Ne.symm z4, y4, Ne.symm y4, encG]
          try refine And.intro (by first | omega | rfl) ?_
          refine hK _ _ fun σ32 hσ H32 hH => ?_
          clear hK K
          have h4_32 := congrFun hσ 4
          have h5_32 := congrFun hσ 5
          have h7_32 := congrFun hσ 7
          have h8_32 := congrFun hσ 8
          have h11_32 := congrFun hσ 11
          have h66_32 := congrFun hσ 66
          have h67_32 := congrFun hσ 67
          have h68_32 := congrFun hσ 68
          have h69_32 := congrFun hσ 69
          simp [h4_31, h5_31, h7_31, h8_31, h11_31, h66_31, h67_31, h68_31] at h4_32 h5_32 h7_32 h8_32 h11_32 h66_32 h67_32 h68_32 h69_32
          clear hσ
          replace hH : H31 = H32 := Eq.symm hH
          subst hH
          refine awp_seq ?_
          refine awp_cond _ (by simp only [aeval_tmp]; exact h69_32) (fun hc69 => ?_) (fun hc69 => ?_)
          · try simp at hc69
            have hlt : i2 < g.nodes.length := by simpa [hcl] using hc69
            have hir : inR g.nodes.length (i2 : Int) := ⟨by omega, by omega⟩
            have hlt2 : i2 < cmp.length := by omega
            have hgi : cmp[i2] = gt cmp i2 := by simp [gt, hlt2]
            obtain ⟨c, hc⟩ : ∃ c, gt cmp i2 = c := ⟨_, rfl⟩
            obtain ⟨c1, c2⟩ := hnum.rng i2 hir
            have hplc := hpl i2 hir
            rw [hc] at hgi c1 c2 hplc
            simp only [Int.toNat_natCast] at hplc
            have c3 : c.toNat < cn := by omega
            have c4 : c.toNat < pl.length := by omega
            have hgs := grp_spec hv hlt
            obtain ⟨r, hr⟩ : ∃ r, g.rank (g.grp i2) = r := ⟨_, rfl⟩
            rw [hr] at hplc
            have hrv : r < vs.length := by rw [← hr, hvl]; exact rank_lt hgs.2.1 (grp_grp hv hlt)
            refine awp_skip ?_
            refine q_seq ?_
            refine awp_seq ?_
            refine awp_block ?_
            refine awp_ok fun hok => ?_
            obtain ⟨m33, hn_m33⟩ : ∃ m, H31.n = m := ⟨_, rfl⟩
            have hf_m33_0 := hok.free 0
            simp [hn_m33, hst_31] at hf_m33_0
            have nx62 := ne_get hf_m33_0 g1_31
            have nx63 := ne_get hf_m33_0 g3_31
            have nx64 := ne_get hf_m33_0 g4_31
            have nx65 := ne_get hf_m33_0 gir_31
            have nx66 := ne_get hf_m33_0 gic_31
            refine stp_reg TT_ok (by rfl) fun K hK => ?_
            simp [h66_32, h68_32, g1_31, g3_31, g4_31, gir_31, gic_31, hn_m33, hst_31, b3, Ne.symm b3, z1, Ne.symm z1, y1, Ne.symm y1, z3, Ne.symm z3, y3, Ne.symm y3, z4, Ne.symm z4, y4, Ne.symm y4, nx62, nx63, nx64, nx65, nx66, encG, hlt, hlt2, hgi, hcl]
            try refine And.intro (by first | omega | rfl) ?_
            refine hK _ _ fun σ34 hσ H34 hH => ?_
            clear hK K
            have h4_34 := congrFun hσ 4
            have h5_34 := congrFun hσ 5
            have h7_34 := congrFun hσ 7
            have h8_34 := congrFun hσ 8
            have h11_34 := congrFun hσ 11
            have h12_34 := congrFun hσ 12
            have h13_34 := congrFun hσ 13
            have h66_34 := congrFun hσ 66
            have h67_34 := congrFun hσ 67
            have h68_34 := congrFun hσ 68
            simp [h4_32, h5_32, h7_32, h8_32, h11_32, h66_32, h67_32, h68_32] at h4_34 h5_34 h7_34 h8_34 h11_34 h12_34 h13_34 h66_34 h67_34 h68_34
            clear hσ
            have g1_34 := gt_of hH 1
            have g3_34 := gt_of hH 3
            have g4_34 := gt_of hH 4
            have gir_34 := gt_of hH ir
            have gic_34 := gt_of hH ic
            have gm33_34 := gt_of hH m33
            simp [g1_31, g3_31, g4_31, gir_31, gic_31, hn_m33, hst_31, b3, Ne.symm b3, z1, Ne.symm z1, y1, Ne.symm y1, z3, Ne.symm z3, y3, Ne.symm y3, z4, Ne.symm z4, y4, Ne.symm y4, nx62, nx63, nx64, nx65, nx66] at g1_34 g3_34 g4_34 gir_34 gic_34 gm33_34
            have hst_34 := congrArg AHeap.st hH
            simp [hst_31] at hst_34
            have kc : ∀ j, H31.get j ≠ none → H34.get j = H31.get j := fun j hj => by
              rw [hH]; have hjm : ¬ j = m33 := by { intro e; rw [e, hf_m33_0] at hj; exact hj rfl }
              simp [hn_m33, hst_31, hjm]
            have hcm : Hc.get m33 = none := by
              cases hq : Hc.get m33 with
              | none => rfl
              | some b => have := s3 m33 (by rw [hq]; simp); rw [hf_m33_0, hq] at this; cases this
            clear hH
            refine stp_reg TT_ok (by rfl) fun K hK => ?_
            simp [h4_34, h12_34, g1_34, g3_34, g4_34, gir_34, gic_34, gm33_34, b3, Ne.symm b3, z1, Ne.symm z1, y1, Ne.symm y1, z3, Ne.symm z3, y3, Ne.symm y3, z4, Ne.symm z4, y4, Ne.symm y4, nx62, nx63, nx64, nx65, nx66, encG]
            try refine And.intro (by first | omega | rfl) ?_
            refine stp_call (of_ok g.succs i2 0) ?_
            simp [h4_34, h12_34, g1_34, g3_34, g4_34, gir_34, gic_34, gm33_34, b3, Ne.symm b3, z1, Ne.symm z1, y1, Ne.symm y1, z3, Ne.symm z3, y3, Ne.symm y3, z4, Ne.symm z4, y4, Ne.symm y4, nx62, nx63, nx64, nx65, nx66, encG]
            try refine And.intro (by first | omega | rfl) ?_
            refine hK _ _ fun σ35 hσ H35 hH => ?_
            clear hK K
            have h4_35 := congrFun hσ 4
            have h5_35 := congrFun hσ 5
            have h7_35 := congrFun hσ 7
            have h8_35 := congrFun hσ 8
            have h11_35 := congrFun hσ 11
            have h13_35 := congrFun hσ 13
            have h66_35 := congrFun hσ 66
            have h67_35 := congrFun hσ 67
            have h68_35 := congrFun hσ 68
            have h75_35 := congrFun hσ 75
            simp [h4_34, h5_34, h7_34, h8_34, h11_34, h13_34, h66_34, h67_34, h68_34] at h4_35 h5_35 h7_35 h8_35 h11_35 h13_35 h66_35 h67_35 h68_35 h75_35
            clear hσ
            replace hH : H34 = H35 := Eq.symm hH
            subst hH
            refine awp_block ?_
            have hin : ∀ i id g n : Nat, ws[i]? = some (AV.sl id g 0 n) → Hc.get id = none ∧ id ≠ ir ∧ id ≠ ic ∧ id ≠ m33 ∧ H34.get id ≠ none := fun i id g n h => by
              obtain ⟨a, b, c⟩ := s4 i id g n h
              have hu := (s2.used h).1
              exact ⟨a, b, c, fun e => by subst e; exact hu hf_m33_0, by rw [kc id hu]; exact hu⟩
            have s2b := s2.keep (H' := H34) fun j _ hj => kc j hj
            have s3b : ∀ j, Hc.get j ≠ none → H34.get j = Hc.get j := fun j hj => by rw [kc j (by rw [s3 j hj]; exact hj), s3 j hj]
            refine awp_ok fun hok36 => ?_
            obtain ⟨k36, hn_k36⟩ : ∃ m, H34.n = m := ⟨_, rfl⟩
            have hf_k36 := hok36.now
            rw [hn_k36] at hf_k36
            have nx67 := ne_get hf_k36 g1_34
            have nx68 := ne_get hf_k36 g3_34
            have nx69 := ne_get hf_k36 g4_34
            have nx70 := ne_get hf_k36 gir_34
            have nx71 := ne_get hf_k36 gic_34
            have nx72 := ne_get hf_k36 gm33_34
            refine stp_rangeOf k36 hn_k36 (by rw [aeval_tmp]; exact h75_35) (by decide) (by omega : (0 : Int) ≤ (i2 : Int)) (show g.succs[((i2 : Nat) : Int).toNat]? = some (g.succ i2) from succs_get hir) (Nat.le_trans (succ_len _ _) (by omega)) (fun pre H' => ∃ (ws2 : List AV), H'.get 1 = H34.get 1 ∧ H'.get 3 = H34.get 3 ∧ H'.get 4 = H34.get 4 ∧ H'.get ir = some (.row 26 1 0 ws2) ∧ H'.get ic = H34.get ic ∧ H'.get m33 = H34.get m33 ∧ H'.st = H34.st ∧ (Rows 5 ws2 (g.ceM i2 pre) H') ∧ (∀ j, Hc.get j ≠ none → H'.get j = Hc.get j) ∧ (∀ i id g n : Nat, ws2[i]? = some (AV.sl id g 0 n) → Hc.get id = none ∧ id ≠ ir ∧ id ≠ ic ∧ id ≠ m33 ∧ id ≠ k36)) ?_ ?_ ?_
            · intro b36 H36 hH
              have hkeep : ∀ j, H34.get j ≠ none → H36.get j = H34.get j := fun j hj => by rw [hH, alloc_get, if_neg (fun e => hj (by rw [e]; exact hok36.now))]
              refine ⟨ws, (by rw [hH]; simp [g1_34, g3_34, g4_34, gir_34, gic_34, gm33_34, hn_k36, hst_34, b3, Ne.symm b3, z1, Ne.symm z1, y1, Ne.symm y1, z3, Ne.symm z3, y3, Ne.symm y3, z4, Ne.symm z4, y4, Ne.symm y4, nx62, nx63, nx64, nx65, nx66, nx67, nx68, nx69, nx70, nx71, nx72]), (by rw [hH]; simp [g1_34, g3_34, g4_34, gir_34, gic_34, gm33_34, hn_k36, hst_34, b3, Ne.symm b3, z1, Ne.symm z1, y1, Ne.symm y1, z3, Ne.symm z3, y3, Ne.symm y3, z4, Ne.symm z4, y4, Ne.symm y4, nx62, nx63, nx64, nx65, nx66, nx67, nx68, nx69, nx70, nx71, nx72]), (by rw [hH]; simp [g1_34, g3_34, g4_34, gir_34, gic_34, gm33_34, hn_k36, hst_34, b3, Ne.symm b3, z1, Ne.symm z1, y1, Ne.symm y1, z3, Ne.symm z3, y3, Ne.symm y3, z4, Ne.symm z4, y4, Ne.symm y4, nx62, nx63, nx64, nx65, nx66, nx67, nx68, nx69, nx70, nx71, nx72]), (by rw [hH]; simp [g1_34, g3_34, g4_34, gir_34, gic_34, gm33_34, hn_k36, hst_34, b3, Ne.symm b3, z1, Ne.symm z1, y1, Ne.symm y1, z3, Ne.symm z3, y3, Ne.symm y3, z4, Ne.symm z4, y4, Ne.symm y4, nx62, nx63, nx64, nx65, nx66, nx67, nx68, nx69, nx70, nx71, nx72]), (by rw [hH]; simp [g1_34, g3_34, g4_34, gir_34, gic_34, gm33_34, hn_k36, hst_34, b3, Ne.symm b3, z1, Ne.symm z1, y1, Ne.symm y1, z3, Ne.symm z3, y3, Ne.symm y3, z4, Ne.symm z4, y4, Ne.symm y4, nx62, nx63, nx64, nx65, nx66, nx67, nx68, nx69, nx70, nx71, nx72]), (by rw [hH]; simp [g1_34, g3_34, g4_34, gir_34, gic_34, gm33_34, hn_k36, hst_34, b3, Ne.symm b3, z1, Ne.symm z1, y1, Ne.symm y1, z3, Ne.symm z3, y3, Ne.symm y3, z4, Ne.symm z4, y4, Ne.symm y4, nx62, nx63, nx64, nx65, nx66, nx67, nx68, nx69, nx70, nx71, nx72]), (by rw [hH]; rfl), ?_, ?_, ?_⟩
              · rw [ceM_nil hv hlt]; exact s2b.keep fun j _ hj => hkeep j hj
              · exact fun j hj => by rw [hkeep j (by rw [s3b j hj]; exact hj), s3b j hj]
              · exact fun i id g n h => by
                  obtain ⟨a, b, c, d, e⟩ := hin i id g n h
                  exact ⟨a, b, c, d, fun e2 => by subst e2; exact e hf_k36⟩
            · rintro busy rdy pre x H36 ⟨post, hpost⟩ ⟨ws2, qg1_36, qg3_36, qg4_36, gir_36, qgic_36, qgm33_36, qst_36, u1, u2, u3⟩ hrdy_36 σ36 hσ
              have g1_36 := qg1_36.trans g1_34
              have g3_36 := qg3_36.trans g3_34
              have g4_36 := qg4_36.trans g4_34
              have gic_36 := qgic_36.trans gic_34
              have gm33_36 := qgm33_36.trans gm33_34
              have hst_36 := qst_36.trans hst_34
              have h5_36 := congrFun hσ 5
              simp [h5_35] at h5_36
              have h7_36 := congrFun hσ 7
              simp [h7_35] at h7_36
              have h11_36 := congrFun hσ 11
              simp [h11_35] at h11_36
              have h13_36 := congrFun hσ 13
              simp [h13_35] at h13_36
              have h76_36 := congrFun hσ 76
              simp [] at h76_36
              clear hσ
              rw [geL0_succ hv] at hpost
              have hxs : x ∈ g.succ i2 := by rw [hpost]; simp
              have hxe : ((i2 : Int), x) ∈ g.edges := (succ_mem hv).1 hxs
              have hxr : inR g.nodes.length x := (valid_edge hv hxe).2
              obtain ⟨x1, x2⟩ := hxr
              have x3 : x.toNat < cmp.length := by omega
              obtain ⟨cx, hcx⟩ : ∃ cx, gt cmp x = cx := ⟨_, rfl⟩
              obtain ⟨c5, c6⟩ := hnum.rng x ⟨x1, x2⟩
              have hplx := hpl x ⟨x1, x2⟩
              have hcg := cmp_grp hv hnum (u := x) (w := (i2 : Int)) ⟨x1, x2⟩ hir
              simp only [Int.toNat_natCast] at hcg
              rw [hcx] at c5 c6 hplx hcg
              rw [hc] at hcg
              have hgx : cmp[x.toNat] = cx := by rw [gt_elem x3, hcx]
              have c7 : cx.toNat < cn := by omega
              have c8 : cx.toNat < pl.length := by omega
              have hw2l : ws2.length = vs.length := by rw [u1.len, hvl]; simp [Gr.ceM, Gr.ceU, Gr.rank]
              have hpl2 : pre.length ≤ g.nodes.length := by
                have h1 := succ_len g i2
                rw [hpost] at h1; simp at h1; omega
              have hce : (g.ceR i2 (g.grp i2) ++ g.ceP i2 pre).length ≤ 2000000 := by
                have h1 := ceR_len g i2 (g.grp i2)
                have h2 := ceP_len g i2 pre
                have h3 : i2 * g.nodes.length ≤ 1024 * 1024 := Nat.mul_le_mul (by omega) hb1
                rw [List.length_append]; omega
              have hcm2 := ceM_get hv hlt pre
              rw [hr] at hcm2
              obtain ⟨lr, hlr⟩ : ∃ lr, g.ceR i2 (g.grp i2) ++ g.ceP i2 pre = lr := ⟨_, rfl⟩
              rw [hlr] at hcm2 hce
              have hrv2 : r < ws2.length := by omega
              have hcL : Hc.get k36 = none := by
                cases hq : Hc.get k36 with
                | none => rfl
                | some b => have := s3b k36 (by rw [hq]; simp); rw [hf_k36, hq] at this; cases this
              have hwk : ws2[r]? = some ws2[r] := List.getElem?_eq_getElem hrv2
              have hok := u1.own _ _ _ hwk hcm2
              refine stp_regl TT_ok (by rfl) fun K hK => ?_
              simp [h76_36, g1_36, g3_36, g4_36, gir_36, gic_36, gm33_36, hrdy_36, b3, Ne.symm b3, z1, Ne.symm z1, y1, Ne.symm y1, z3, Ne.symm z3, y3, Ne.symm y3, z4, Ne.symm z4, y4, Ne.symm y4, nx62, nx63, nx64, nx65, nx66, nx67, nx68, nx69, nx70, nx71, nx72, encG]
              try refine And.intro (by first | omega | rfl) ?_
              refine hK _ _ fun σ37 hσ H37 hH => ?_
              clear hK K
              have h5_37 := congrFun hσ 5
              have h7_37 := congrFun hσ 7
              have h11_37 := congrFun hσ 11
              have h13_37 := congrFun hσ 13
              have h14_37 := congrFun hσ 14
              simp [h5_36, h7_36, h11_36, h13_36] at h5_37 h7_37 h11_37 h13_37 h14_37
              clear hσ
              replace hH : H36 = H37 := Eq.symm hH
              subst hH
              refine q_ra hrdy_36 fun H38 hH => ?_
              have hkeep : ∀ j, j ≠ k36 → H38.get j = H36.get j := fun j hj => by rw [hH, put_getH, if_neg hj]
              have g1_39 := gt_of hH 1
              have g3_39 := gt_of hH 3
              have g4_39 := gt_of hH 4
              have gir_39 := gt_of hH ir
              have gic_39 := gt_of hH ic
              have gm33_39 := gt_of hH m33
              have gk36_39 := gt_of hH k36
              simp [g1_36, g3_36, g4_36, gir_36, gic_36, gm33_36, hrdy_36, hst_36, b3, Ne.symm b3, z1, Ne.symm z1, y1, Ne.symm y1, z3, Ne.symm z3, y3, Ne.symm y3, z4, Ne.symm z4, y4, Ne.symm y4, nx62, nx63, nx64, nx65, nx66, nx67, nx68, nx69, nx70, nx71, nx72] at g1_39 g3_39 g4_39 gir_39 gic_39 gm33_39 gk36_39
              have hst_39 : H38.st = _ := (congrArg AHeap.st hH).trans hst_36
              have hka := hkeep
              clear hkeep hH
              refine awp_block ?_
              refine stp_reg TT_ok (by rfl) fun K hK => ?_
              simp [h5_37, h14_37, g1_39, g3_39, g4_39, gir_39, gic_39, gm33_39, gk36_39, b3, Ne.symm b3, z1, Ne.symm z1, y1, Ne.symm y1, z3, Ne.symm z3, y3, Ne.symm y3, z4, Ne.symm z4, y4, Ne.symm y4, nx62, nx63, nx64, nx65, nx66, nx67, nx68, nx69, nx70, nx71, nx72, encG, x1, x2, x3, hgx, hcl]
              try refine And.intro (by first | omega | rfl) ?_
              refine hK _ _ fun σ40 hσ H40 hH => ?_
              clear hK K
              have h7_40 := congrFun hσ 7
              have h11_40 := congrFun hσ 11
              have h13_40 := congrFun hσ 13
              have h15_40 := congrFun hσ 15
              simp [h7_37, h11_37, h13_37] at h7_40 h11_40 h13_40 h15_40
              clear hσ
              replace hH : H38 = H40 := Eq.symm hH
              subst hH
              by_cases hs : cx = c
              · skip
                refine stp_reg TT_ok (by rfl) fun K hK => ?_
                simp [h13_40, h15_40, g1_39, g3_39, g4_39, gir_39, gic_39, gm33_39, gk36_39, b3, Ne.symm b3, z1, Ne.symm z1, y1, Ne.symm y1, z3, Ne.symm z3, y3, Ne.symm y3, z4, Ne.symm z4, y4, Ne.symm y4, nx62, nx63, nx64, nx65, nx66, nx67, nx68, nx69, nx70, nx71, nx72, hs, beq_iff_eq.2 hs, encG]
                try refine And.intro (by first | omega | rfl) ?_
                refine hK _ _ fun σ41 hσ H41 hH => ?_
                clear hK K
                have h7_41 := congrFun hσ 7
                have h11_41 := congrFun hσ 11
                have h13_41 := congrFun hσ 13
                have h15_41 := congrFun hσ 15
                have h83_41 := congrFun hσ 83
                simp [h7_40, h11_40, h13_40, h15_40] at h7_41 h11_41 h13_41 h15_41 h83_41
                clear hσ
                replace hH : H38 = H41 := Eq.symm hH
                subst hH
                refine stp_false (by simp [aeval_tmp, h83_41, b3, Ne.symm b3, z1, Ne.symm z1, y1, Ne.symm y1, z3, Ne.symm z3, y3, Ne.symm y3, z4, Ne.symm z4, y4, Ne.symm y4, nx62, nx63, nx64, nx65, nx66, nx67, nx68, nx69, nx70, nx71, nx72, hs, beq_iff_eq.2 hs, encG]) ?_
                refine awp_skip ?_
                refine q_block ?_
                refine q_rb gk36_39 fun H42 hH => ?_
                have hkeep : ∀ j, j ≠ k36 → H42.get j = H38.get j := fun j hj => by rw [hH, put_getH, if_neg hj]
                refine ⟨ws2, (by rw [hH]; simp [g1_39, g3_39, g4_39, gir_39, gic_39, gm33_39, gk36_39, hst_39, b3, Ne.symm b3, z1, Ne.symm z1, y1, Ne.symm y1, z3, Ne.symm z3, y3, Ne.symm y3, z4, Ne.symm z4, y4, Ne.symm y4, nx62, nx63, nx64, nx65, nx66, nx67, nx68, nx69, nx70, nx71, nx72, hs, beq_iff_eq.2 hs, g1_34]), (by rw [hH]; simp [g1_39, g3_39, g4_39, gir_39, gic_39, gm33_39, gk36_39, hst_39, b3, Ne.symm b3, z1, Ne.symm z1, y1, Ne.symm y1, z3, Ne.symm z3, y3, Ne.symm y3, z4, Ne.symm z4, y4, Ne.symm y4, nx62, nx63, nx64, nx65, nx66, nx67, nx68, nx69, nx70, nx71, nx72, hs, beq_iff_eq.2 hs, g3_34]), (by rw [hH]; simp [g1_39, g3_39, g4_39, gir_39, gic_39, gm33_39, gk36_39, hst_39, b3, Ne.symm b3, z1, Ne.symm z1, y1, Ne.symm y1, z3, Ne.symm z3, y3, Ne.symm y3, z4, Ne.symm z4, y4, Ne.symm y4, nx62, nx63, nx64, nx65, nx66, nx67, nx68, nx69, nx70, nx71, nx72, hs, beq_iff_eq.2 hs, g4_34]), (by rw [hH]; simp [g1_39, g3_39, g4_39, gir_39, gic_39, gm33_39, gk36_39, hst_39, b3, Ne.symm b3, z1, Ne.symm z1, y1, Ne.symm y1, z3, Ne.symm z3, y3, Ne.symm y3, z4, Ne.symm z4, y4, Ne.symm y4, nx62, nx63, nx64, nx65, nx66, nx67, nx68, nx69, nx70, nx71, nx72, hs, beq_iff_eq.2 hs]), (by rw [hH]; simp [g1_39, g3_39, g4_39, gir_39, gic_39, gm33_39, gk36_39, hst_39, b3, Ne.symm b3, z1, Ne.symm z1, y1, Ne.symm y1, z3, Ne.symm z3, y3, Ne.symm y3, z4, Ne.symm z4, y4, Ne.symm y4, nx62, nx63, nx64, nx65, nx66, nx67, nx68, nx69, nx70, nx71, nx72, hs, beq_iff_eq.2 hs, gic_34]), (by rw [hH]; simp [g1_39, g3_39, g4_39, gir_39, gic_39, gm33_39, gk36_39, hst_39, b3, Ne.symm b3, z1, Ne.symm z1, y1, Ne.symm y1, z3, Ne.symm z3, y3, Ne.symm y3, z4, Ne.symm z4, y4, Ne.symm y4, nx62, nx63, nx64, nx65, nx66, nx67, nx68, nx69, nx70, nx71, nx72, hs, beq_iff_eq.2 hs, gm33_34]), ((congrArg AHeap.st hH).trans (hst_39.trans hst_34.symm)), ?_, ?_, ?_⟩
                · rw [ceM_same (hcg.1 hs)]
                  exact u1.keepR fun i id g n h => by
                    obtain ⟨_, _, _, _, v5⟩ := u3 i id g n h
                    rw [hkeep id v5, hka id v5]
                · exact fun j hj => by
                    have hjl : j ≠ k36 := fun e => by subst e; exact hj (hcL)
                    rw [hkeep j hjl, hka j hjl, u2 j hj]
                · exact u3
              · skip
                refine stp_reg TT_ok (by rfl) fun K hK => ?_
                simp [h13_40, h15_40, g1_39, g3_39, g4_39, gir_39, gic_39, gm33_39, gk36_39, b3, Ne.symm b3, z1, Ne.symm z1, y1, Ne.symm y1, z3, Ne.symm z3, y3, Ne.symm y3, z4, Ne.symm z4, y4, Ne.symm y4, nx62, nx63, nx64, nx65, nx66, nx67, nx68, nx69, nx70, nx71, nx72, hs, beq_eq_false_iff_ne.2 hs, encG]
                try refine And.intro (by first | omega | rfl) ?_
                refine hK _ _ fun σ43 hσ H43 hH => ?_
                clear hK K
                have h7_43 := congrFun hσ 7
                have h11_43 := congrFun hσ 11
                have h13_43 := congrFun hσ 13
                have h15_43 := congrFun hσ 15
                have h83_43 := congrFun hσ 83
                simp [h7_40, h11_40, h13_40, h15_40] at h7_43 h11_43 h13_43 h15_43 h83_43
                clear hσ
                replace hH : H38 = H43 := Eq.symm hH
                subst hH
                refine stp_true (by simp [aeval_tmp, h83_43, b3, Ne.symm b3, z1, Ne.symm z1, y1, Ne.symm y1, z3, Ne.symm z3, y3, Ne.symm y3, z4, Ne.symm z4, y4, Ne.symm y4, nx62, nx63, nx64, nx65, nx66, nx67, nx68, nx69, nx70, nx71, nx72, hs, beq_eq_false_iff_ne.2 hs, encG]) ?_
                rcases hok with ⟨hvn, hnil⟩ | ⟨id, gn, rest, hvn, hb, hid⟩
                · skip
                  refine awp_ok fun hok => ?_
                  obtain ⟨m44, hn_m44⟩ : ∃ m, H38.n = m := ⟨_, rfl⟩
                  have hf_m44_16 := hok.free 16
                  simp [hn_m44, hst_39] at hf_m44_16
                  have nx73 := ne_get hf_m44_16 g1_39
                  have nx74 := ne_get hf_m44_16 g3_39
                  have nx75 := ne_get hf_m44_16 g4_39
                  have nx76 := ne_get hf_m44_16 gir_39
                  have nx77 := ne_get hf_m44_16 gic_39
                  have nx78 := ne_get hf_m44_16 gm33_39
                  have nx79 := ne_get hf_m44_16 gk36_39
                  have hf_m44_17 := hok.free 17
                  simp [hn_m44, hst_39] at hf_m44_17
                  have nx80 := ne_get hf_m44_17 g1_39
                  have nx81 := ne_get hf_m44_17 g3_39
                  have nx82 := ne_get hf_m44_17 g4_39
                  have nx83 := ne_get hf_m44_17 gir_39
                  have nx84 := ne_get hf_m44_17 gic_39
                  have nx85 := ne_get hf_m44_17 gm33_39
                  have nx86 := ne_get hf_m44_17 gk36_39
                  refine stp_lexl true TT_ok mixed (by rfl) (by rfl) (by kernel_rfl) (by rfl) fun U hU K hK => ?_
                  simp [h7_43, h11_43, h13_43, h15_43, g1_39, g3_39, g4_39, gir_39, gic_39, gm33_39, gk36_39, hn_m44, hst_39, b3, Ne.symm b3, z1, Ne.symm z1, y1, Ne.symm y1, z3, Ne.symm z3, y3, Ne.symm y3, z4, Ne.symm z4, y4, Ne.symm y4, nx62, nx63, nx64, nx65, nx66, nx67, nx68, nx69, nx70, nx71, nx72, hs, beq_eq_false_iff_ne.2 hs, nx73, nx74, nx75, nx76, nx77, nx78, nx79, nx80, nx81, nx82, nx83, nx84, nx85, nx86, encG, c1, c2, c3, c5, c6, c7, gt_elem c4, gt_elem c8, p3, hplc, hplx, hrv, hrv2, hw2l, hvn]
                  try refine And.intro (by first | omega | rfl) ?_
                  refine hK _ _ _ (by rw [hU.trans (by kernel_rfl : _ = [(0, 1), (0, 2), (1, 2), (0, 3), (0, 4), (0, 5), (1, 5), (2, 5), (3, 5), (4, 5), (0, 6), (1, 6), (2, 6), (3, 6), (4, 6), (5, 6), (0, 7), (1, 7), (2, 7), (3, 7), (4, 7), (5, 7), (6, 7), (0, 8), (1, 8), (2, 8), (3, 8), (4, 8), (5, 8), (0, 9), (1, 9), (2, 9), (3, 9), (4, 9), (5, 9), (0, 10), (1, 10), (2, 10), (3, 10), (4, 10), (0, 11), (1, 11), (2, 11), (3, 11), (4, 11), (0, 12), (1, 12), (2, 12), (3, 12), (4, 12), (5, 12), (6, 12), (7, 12), (8, 12), (9, 12), (10, 12), (11, 12), (0, 13), (1, 13), (2, 13), (3, 13), (4, 13), (5, 13), (6, 13), (7, 13), (8, 13), (9, 13), (10, 13), (11, 13), (12, 13), (0, 14), (1, 14), (2, 14), (3, 14), (4, 14), (5, 14), (6, 14), (7, 14), (8, 14), (9, 14), (10, 14), (11, 14), (0, 15), (1, 15), (2, 15), (3, 15), (4, 15), (5, 15), (6, 15), (7, 15), (8, 15), (9, 15), (10, 15), (11, 15), (0, 16), (1, 16), (2, 16), (3, 16), (4, 16), (5, 16), (6, 16), (7, 16), (8, 16), (9, 16), (10, 16), (11, 16), (0, 17), (1, 17), (2, 17), (3, 17), (4, 17)])]; simp [logOk, ftFree, h7_43, h11_43, h13_43, h15_43, g1_39, g3_39, g4_39, gir_39, gic_39, gm33_39, gk36_39, hn_m44, hst_39, b3, Ne.symm b3, z1, Ne.symm z1, y1, Ne.symm y1, z3, Ne.symm z3, y3, Ne.symm y3, z4, Ne.symm z4, y4, Ne.symm y4, nx62, nx63, nx64, nx65, nx66, nx67, nx68, nx69, nx70, nx71, nx72, hs, beq_eq_false_iff_ne.2 hs, nx73, nx74, nx75, nx76, nx77, nx78, nx79, nx80, nx81, nx82, nx83, nx84, nx85, nx86, encG, c1, c2, c3, c5, c6, c7, gt_elem c4, gt_elem c8, p3, hplc, hplx, hrv, hrv2, hw2l, hvn]) fun σ45 hσ H45 hH => ?_
                  clear hK K hU U
                  clear hσ
                  have g1_45 := gt_of hH 1
                  have g3_45 := gt_of hH 3
                  have g4_45 := gt_of hH 4
                  have gir_45 := gt_of hH ir
                  have gic_45 := gt_of hH ic
                  have gm33_45 := gt_of hH m33
                  have gk36_45 := gt_of hH k36
                  have g_m44_16__45 := gt_of hH (m44 + 16)
                  have g_m44_17__45 := gt_of hH (m44 + 17)
                  simp [g1_39, g3_39, g4_39, gir_39, gic_39, gm33_39, gk36_39, hn_m44, hst_39, b3, Ne.symm b3, z1, Ne.symm z1, y1, Ne.symm y1, z3, Ne.symm z3, y3, Ne.symm y3, z4, Ne.symm z4, y4, Ne.symm y4, nx62, nx63, nx64, nx65, nx66, nx67, nx68, nx69, nx70, nx71, nx72, hs, beq_eq_false_iff_ne.2 hs, nx73, nx74, nx75, nx76, nx77, nx78, nx79, nx80, nx81, nx82, nx83, nx84, nx85, nx86] at g1_45 g3_45 g4_45 gir_45 gic_45 gm33_45 gk36_45 g_m44_16__45 g_m44_17__45
                  have hst_45 := congrArg AHeap.st hH
                  simp [hst_39] at hst_45
                  have kb : ∀ j, H38.get j ≠ none → j ≠ ir → H45.get j = H38.get j := fun j hj h1 => by
                    rw [hH]; have hjm : ¬ j = (m44 + 16) := by { intro e; rw [e, hf_m44_16] at hj; exact hj rfl }
                    have hjn : ¬ j = (m44 + 17) := by { intro e; rw [e, hf_m44_17] at hj; exact hj rfl }
                    simp [hn_m44, hjm, hjn, h1]
                  clear hH
                  refine q_block ?_
                  refine q_rb gk36_45 fun H46 hH => ?_
                  have hkeep : ∀ j, j ≠ k36 → H46.get j = H45.get j := fun j hj => by rw [hH, put_getH, if_neg hj]
                  have hmL : ¬ m44 + 17 = k36 := by omega
                  have hcn17 : Hc.get (m44 + 17) = none := by
                    cases hq : Hc.get (m44 + 17) with
                    | none => rfl
                    | some b =>
                      have q1 := u2 (m44 + 17) (by rw [hq]; simp)
                      rw [← hka (m44 + 17) hmL, hf_m44_17, hq] at q1; cases q1
                  refine ⟨ws2.set r (.sl (m44 + 17) 0 0 1), (by rw [hH]; simp [g1_45, g3_45, g4_45, gir_45, gic_45, gm33_45, gk36_45, g_m44_16__45, g_m44_17__45, hst_45, b3, Ne.symm b3, z1, Ne.symm z1, y1, Ne.symm y1, z3, Ne.symm z3, y3, Ne.symm y3, z4, Ne.symm z4, y4, Ne.symm y4, nx62, nx63, nx64, nx65, nx66, nx67, nx68, nx69, nx70, nx71, nx72, hs, beq_eq_false_iff_ne.2 hs, nx73, nx74, nx75, nx76, nx77, nx78, nx79, nx80, nx81, nx82, nx83, nx84, nx85, nx86, g1_34]), (by rw [hH]; simp [g1_45, g3_45, g4_45, gir_45, gic_45, gm33_45, gk36_45, g_m44_16__45, g_m44_17__45, hst_45, b3, Ne.symm b3, z1, Ne.symm z1, y1, Ne.symm y1, z3, Ne.symm z3, y3, Ne.symm y3, z4, Ne.symm z4, y4, Ne.symm y4, nx62, nx63, nx64, nx65, nx66, nx67, nx68, nx69, nx70, nx71, nx72, hs, beq_eq_false_iff_ne.2 hs, nx73, nx74, nx75, nx76, nx77, nx78, nx79, nx80, nx81, nx82, nx83, nx84, nx85, nx86, g3_34]), (by rw [hH]; simp [g1_45, g3_45, g4_45, gir_45, gic_45, gm33_45, gk36_45, g_m44_16__45, g_m44_17__45, hst_45, b3, Ne.symm b3, z1, Ne.symm z1, y1, Ne.symm y1, z3, Ne.symm z3, y3, Ne.symm y3, z4, Ne.symm z4, y4, Ne.symm y4, nx62, nx63, nx64, nx65, nx66, nx67, nx68, nx69, nx70, nx71, nx72, hs, beq_eq_false_iff_ne.2 hs, nx73, nx74, nx75, nx76, nx77, nx78, nx79, nx80, nx81, nx82, nx83, nx84, nx85, nx86, g4_34]), (by rw [hH]; simp [g1_45, g3_45, g4_45, gir_45, gic_45, gm33_45, gk36_45, g_m44_16__45, g_m44_17__45, hst_45, b3, Ne.symm b3, z1, Ne.symm z1, y1, Ne.symm y1, z3, Ne.symm z3, y3, Ne.symm y3, z4, Ne.symm z4, y4, Ne.symm y4, nx62, nx63, nx64, nx65, nx66, nx67, nx68, nx69, nx70, nx71, nx72, hs, beq_eq_false_iff_ne.2 hs, nx73, nx74, nx75, nx76, nx77, nx78, nx79, nx80, nx81, nx82, nx83, nx84, nx85, nx86]), (by rw [hH]; simp [g1_45, g3_45, g4_45, gir_45, gic_45, gm33_45, gk36_45, g_m44_16__45, g_m44_17__45, hst_45, b3, Ne.symm b3, z1, Ne.symm z1, y1, Ne.symm y1, z3, Ne.symm z3, y3, Ne.symm y3, z4, Ne.symm z4, y4, Ne.symm y4, nx62, nx63, nx64, nx65, nx66, nx67, nx68, nx69, nx70, nx71, nx72, hs, beq_eq_false_iff_ne.2 hs, nx73, nx74, nx75, nx76, nx77, nx78, nx79, nx80, nx81, nx82, nx83, nx84, nx85, nx86, gic_34]), (by rw [hH]; simp [g1_45, g3_45, g4_45, gir_45, gic_45, gm33_45, gk36_45, g_m44_16__45, g_m44_17__45, hst_45, b3, Ne.symm b3, z1, Ne.symm z1, y1, Ne.symm y1, z3, Ne.symm z3, y3, Ne.symm y3, z4, Ne.symm z4, y4, Ne.symm y4, nx62, nx63, nx64, nx65, nx66, nx67, nx68, nx69, nx70, nx71, nx72, hs, beq_eq_false_iff_ne.2 hs, nx73, nx74, nx75, nx76, nx77, nx78, nx79, nx80, nx81, nx82, nx83, nx84, nx85, nx86, gm33_34]), ((congrArg AHeap.st hH).trans (hst_45.trans hst_34.symm)), ?_, ?_, ?_⟩
                  · rw [ceM_other (fun e => hs (hcg.2 e)), hr, hlr]
                    have hnil2 : lr = [] := List.map_eq_nil_iff.1 hnil
                    refine u1.set (OwnR.mk (rest := []) (by rw [hkeep _ hmL]; exact g_m44_17__45) (by simp [hnil2, hplx]) (by simp [hnil2]) (by omega)) fun j id g' n' hj hvj => ?_
                    obtain ⟨_, v2, _, _, v5⟩ := u3 _ _ _ _ hvj
                    obtain ⟨w1, w2⟩ := u1.used hvj
                    refine ⟨by rw [hkeep id v5, kb id (by rw [hka id v5]; exact w1) v2, hka id v5], fun g'' n'' e => ?_⟩
                    cases e; rw [← hka _ v5] at w1; exact w1 hf_m44_17
                  · exact fun j hj => by
                      have hjl : j ≠ k36 := fun e => by subst e; exact hj (hcL)
                      have hji : j ≠ ir := fun e => by subst e; exact hj b4
                      rw [hkeep j hjl, kb j (by rw [hka j hjl, u2 j hj]; exact hj) hji, hka j hjl, u2 j hj]
                  · exact fun i id g n h => by
                      rcases set_get h with h | h
                      · exact u3 i id g n h
                      · cases h
                        exact ⟨hcn17, by omega, by omega, by omega, by omega⟩
                · skip
                  rw [hvn] at hwk
                  obtain ⟨v1, v2, v3, v4, v5⟩ := u3 _ _ _ _ hwk
                  have hb2 := (hka id v5).trans hb
                  have w1 : ¬ id = 1 := by omega
                  have nx87 : ¬ id = 1 ∧ ¬ 1 = id := by omega
                  have nx88 : ¬ id = 3 ∧ ¬ 3 = id := by omega
                  have nx89 : ¬ id = 4 ∧ ¬ 4 = id := by omega
                  refine awp_ok fun hok => ?_
                  obtain ⟨m47, hn_m47⟩ : ∃ m, H38.n = m := ⟨_, rfl⟩
                  have hf_m47_16 := hok.free 16
                  simp [hn_m47, hst_39] at hf_m47_16
                  have nx90 := ne_get hf_m47_16 g1_39
                  have nx91 := ne_get hf_m47_16 g3_39
                  have nx92 := ne_get hf_m47_16 g4_39
                  have nx93 := ne_get hf_m47_16 gir_39
                  have nx94 := ne_get hf_m47_16 gic_39
                  have nx95 := ne_get hf_m47_16 gm33_39
                  have nx96 := ne_get hf_m47_16 gk36_39
                  have nx97 := ne_get hf_m47_16 hb2
                  refine stp_lexl true TT_ok mixed (by rfl) (by rfl) (by kernel_rfl) (by rfl) fun U hU K hK => ?_
                  simp [h7_43, h11_43, h13_43, h15_43, g1_39, g3_39, g4_39, gir_39, gic_39, gm33_39, gk36_39, hb2, hn_m47, hst_39, b3, Ne.symm b3, z1, Ne.symm z1, y1, Ne.symm y1, z3, Ne.symm z3, y3, Ne.symm y3, z4, Ne.symm z4, y4, Ne.symm y4, nx62, nx63, nx64, nx65, nx66, nx67, nx68, nx69, nx70, nx71, nx72, hs, beq_eq_false_iff_ne.2 hs, v2, Ne.symm v2, v3, Ne.symm v3, v4, Ne.symm v4, v5, Ne.symm v5, nx87, nx88, nx89, nx90, nx91, nx92, nx93, nx94, nx95, nx96, nx97, encG, c1, c2, c3, c5, c6, c7, gt_elem c4, gt_elem c8, p3, hplc, hplx, hrv, hrv2, hw2l, hvn, show lr.length ≤ 9223372036854775806 by omega, show (lr.length + 1) * 8 ≤ 140737488355328 by omega]
                  try refine And.intro (by first | omega | rfl) ?_
                  refine hK _ _ _ (by rw [hU.trans (by kernel_rfl : _ = [(0, 1), (0, 2), (1, 2), (0, 3), (0, 4), (0, 5), (1, 5), (2, 5), (3, 5), (4, 5), (0, 6), (1, 6), (2, 6), (3, 6), (4, 6), (5, 6), (0, 7), (1, 7), (2, 7), (3, 7), (4, 7), (5, 7), (6, 7), (0, 8), (1, 8), (2, 8), (3, 8), (4, 8), (5, 8), (0, 9), (1, 9), (2, 9), (3, 9), (4, 9), (5, 9), (0, 10), (1, 10), (2, 10), (3, 10), (4, 10), (0, 11), (1, 11), (2, 11), (3, 11), (4, 11), (0, 12), (1, 12), (2, 12), (3, 12), (4, 12), (5, 12), (6, 12), (7, 12), (8, 12), (9, 12), (10, 12), (11, 12), (0, 13), (1, 13), (2, 13), (3, 13), (4, 13), (5, 13), (6, 13), (7, 13), (8, 13), (9, 13), (10, 13), (11, 13), (12, 13), (0, 14), (1, 14), (2, 14), (3, 14), (4, 14), (5, 14), (6, 14), (7, 14), (8, 14), (9, 14), (10, 14), (11, 14), (0, 15), (1, 15), (2, 15), (3, 15), (4, 15), (5, 15), (6, 15), (7, 15), (8, 15), (9, 15), (10, 15), (11, 15), (0, 16), (1, 16), (2, 16), (3, 16), (4, 16), (5, 16), (6, 16), (7, 16), (8, 16), (9, 16), (10, 16), (11, 16), (0, 17), (1, 17), (2, 17), (3, 17), (4, 17)])]; simp [logOk, ftFree, h7_43, h11_43, h13_43, h15_43, g1_39, g3_39, g4_39, gir_39, gic_39, gm33_39, gk36_39, hb2, hn_m47, hst_39, b3, Ne.symm b3, z1, Ne.symm z1, y1, Ne.symm y1, z3, Ne.symm z3, y3, Ne.symm y3, z4, Ne.symm z4, y4, Ne.symm y4, nx62, nx63, nx64, nx65, nx66, nx67, nx68, nx69, nx70, nx71, nx72, hs, beq_eq_false_iff_ne.2 hs, v2, Ne.symm v2, v3, Ne.symm v3, v4, Ne.symm v4, v5, Ne.symm v5, nx87, nx88, nx89, nx90, nx91, nx92, nx93, nx94, nx95, nx96, nx97, encG, c1, c2, c3, c5, c6, c7, gt_elem c4, gt_elem c8, p3, hplc, hplx, hrv, hrv2, hw2l, hvn, show lr.length ≤ 9223372036854775806 by omega, show (lr.length + 1) * 8 ≤ 140737488355328 by omega]) fun σ48 hσ H48 hH => ?_
                  clear hK K hU U
                  clear hσ
                  have g1_48 := gt_of hH 1
                  have g3_48 := gt_of hH 3
                  have g4_48 := gt_of hH 4
                  have gir_48 := gt_of hH ir
                  have gic_48 := gt_of hH ic
                  have gm33_48 := gt_of hH m33
                  have gk36_48 := gt_of hH k36
                  have gid_48 := gt_of hH id
                  have g_m47_16__48 := gt_of hH (m47 + 16)
                  simp [g1_39, g3_39, g4_39, gir_39, gic_39, gm33_39, gk36_39, hb2, hn_m47, hst_39, b3, Ne.symm b3, z1, Ne.symm z1, y1, Ne.symm y1, z3, Ne.symm z3, y3, Ne.symm y3, z4, Ne.symm z4, y4, Ne.symm y4, nx62, nx63, nx64, nx65, nx66, nx67, nx68, nx69, nx70, nx71, nx72, hs, beq_eq_false_iff_ne.2 hs, v2, Ne.symm v2, v3, Ne.symm v3, v4, Ne.symm v4, v5, Ne.symm v5, nx87, nx88, nx89, nx90, nx91, nx92, nx93, nx94, nx95, nx96, nx97] at g1_48 g3_48 g4_48 gir_48 gic_48 gm33_48 gk36_48 gid_48 g_m47_16__48
                  have hst_48 := congrArg AHeap.st hH
                  simp [hst_39] at hst_48
                  have kb : ∀ j, H38.get j ≠ none → j ≠ ir → j ≠ id → H48.get j = H38.get j := fun j hj h1 h2 => by
                    rw [hH]; have hjm : ¬ j = (m47 + 16) := by { intro e; rw [e, hf_m47_16] at hj; exact hj rfl }
                    simp [hn_m47, hst_48, hjm, h1, h2]
                  clear hH
                  refine q_block ?_
                  refine q_rb gk36_48 fun H49 hH => ?_
                  have hkeep : ∀ j, j ≠ k36 → H49.get j = H48.get j := fun j hj => by rw [hH, put_getH, if_neg hj]
                  refine ⟨ws2.set r (.sl id (gn + 1) 0 (lr.length + 1)), (by rw [hH]; simp [g1_48, g3_48, g4_48, gir_48, gic_48, gm33_48, gk36_48, gid_48, g_m47_16__48, hst_48, b3, Ne.symm b3, z1, Ne.symm z1, y1, Ne.symm y1, z3, Ne.symm z3, y3, Ne.symm y3, z4, Ne.symm z4, y4, Ne.symm y4, nx62, nx63, nx64, nx65, nx66, nx67, nx68, nx69, nx70, nx71, nx72, hs, beq_eq_false_iff_ne.2 hs, v2, Ne.symm v2, v3, Ne.symm v3, v4, Ne.symm v4, v5, Ne.symm v5, nx87, nx88, nx89, nx90, nx91, nx92, nx93, nx94, nx95, nx96, nx97, g1_34]), (by rw [hH]; simp [g1_48, g3_48, g4_48, gir_48, gic_48, gm33_48, gk36_48, gid_48, g_m47_16__48, hst_48, b3, Ne.symm b3, z1, Ne.symm z1, y1, Ne.symm y1, z3, Ne.symm z3, y3, Ne.symm y3, z4, Ne.symm z4, y4, Ne.symm y4, nx62, nx63, nx64, nx65, nx66, nx67, nx68, nx69, nx70, nx71, nx72, hs, beq_eq_false_iff_ne.2 hs, v2, Ne.symm v2, v3, Ne.symm v3, v4, Ne.symm v4, v5, Ne.symm v5, nx87, nx88, nx89, nx90, nx91, nx92, nx93, nx94, nx95, nx96, nx97, g3_34]), (by rw [hH]; simp [g1_48, g3_48, g4_48, gir_48, gic_48, gm33_48, gk36_48, gid_48, g_m47_16__48, hst_48, b3, Ne.symm b3, z1, Ne.symm z1, y1, Ne.symm y1, z3, Ne.symm z3, y3, Ne.symm y3, z4, Ne.symm z4, y4, Ne.symm y4, nx62, nx63, nx64, nx65, nx66, nx67, nx68, nx69, nx70, nx71, nx72, hs, beq_eq_false_iff_ne.2 hs, v2, Ne.symm v2, v3, Ne.symm v3, v4, Ne.symm v4, v5, Ne.symm v5, nx87, nx88, nx89, nx90, nx91, nx92, nx93, nx94, nx95, nx96, nx97, g4_34]), (by rw [hH]; simp [g1_48, g3_48, g4_48, gir_48, gic_48, gm33_48, gk36_48, gid_48, g_m47_16__48, hst_48, b3, Ne.symm b3, z1, Ne.symm z1, y1, Ne.symm y1, z3, Ne.symm z3, y3, Ne.symm y3, z4, Ne.symm z4, y4, Ne.symm y4, nx62, nx63, nx64, nx65, nx66, nx67, nx68, nx69, nx70, nx71, nx72, hs, beq_eq_false_iff_ne.2 hs, v2, Ne.symm v2, v3, Ne.symm v3, v4, Ne.symm v4, v5, Ne.symm v5, nx87, nx88, nx89, nx90, nx91, nx92, nx93, nx94, nx95, nx96, nx97]), (by rw [hH]; simp [g1_48, g3_48, g4_48, gir_48, gic_48, gm33_48, gk36_48, gid_48, g_m47_16__48, hst_48, b3, Ne.symm b3, z1, Ne.symm z1, y1, Ne.symm y1, z3, Ne.symm z3, y3, Ne.symm y3, z4, Ne.symm z4, y4, Ne.symm y4, nx62, nx63, nx64, nx65, nx66, nx67, nx68, nx69, nx70, nx71, nx72, hs, beq_eq_false_iff_ne.2 hs, v2, Ne.symm v2, v3, Ne.symm v3, v4, Ne.symm v4, v5, Ne.symm v5, nx87, nx88, nx89, nx90, nx91, nx92, nx93, nx94, nx95, nx96, nx97, gic_34]), (by rw [hH]; simp [g1_48, g3_48, g4_48, gir_48, gic_48, gm33_48, gk36_48, gid_48, g_m47_16__48, hst_48, b3, Ne.symm b3, z1, Ne.symm z1, y1, Ne.symm y1, z3, Ne.symm z3, y3, Ne.symm y3, z4, Ne.symm z4, y4, Ne.symm y4, nx62, nx63, nx64, nx65, nx66, nx67, nx68, nx69, nx70, nx71, nx72, hs, beq_eq_false_iff_ne.2 hs, v2, Ne.symm v2, v3, Ne.symm v3, v4, Ne.symm v4, v5, Ne.symm v5, nx87, nx88, nx89, nx90, nx91, nx92, nx93, nx94, nx95, nx96, nx97, gm33_34]), ((congrArg AHeap.st hH).trans (hst_48.trans hst_34.symm)), ?_, ?_, ?_⟩
                  · rw [ceM_other (fun e => hs (hcg.2 e)), hr, hlr]
                    refine u1.set (OwnR.mk (rest := []) (by rw [hkeep _ v5]; exact gid_48) (by simp [hplx]) (by simp) (by omega)) fun j id' g' n' hj hvj => ?_
                    obtain ⟨_, a2, _, _, a5⟩ := u3 _ _ _ _ hvj
                    obtain ⟨w1, w2⟩ := u1.used hvj
                    have u4 : id' ≠ id := fun e => hj (by subst e; exact u1.ne _ _ _ _ _ _ _ hvj hwk)
                    refine ⟨by rw [hkeep id' a5, kb id' (by rw [hka id' a5]; exact w1) a2 u4, hka id' a5], fun g'' n'' e => ?_⟩
                    cases e; exact u4 rfl
                  · exact fun j hj => by
                      have hjl : j ≠ k36 := fun e => by subst e; exact hj (hcL)
                      have hji : j ≠ ir := fun e => by subst e; exact hj b4
                      have hjd : j ≠ id := fun e => by subst e; exact hj v1
                      rw [hkeep j hjl, kb j (by rw [hka j hjl, u2 j hj]; exact hj) hji hjd, hka j hjl, u2 j hj]
                  · exact fun i id2 g n h => by
                      rcases set_get h with h | h
                      · exact u3 i id2 g n h
                      · cases h
                        exact ⟨v1, v2, v3, v4, v5⟩
            · rintro rdy b36 H36 ⟨ws2, qg1_36, qg3_36, qg4_36, gir_36, qgic_36, qgm33_36, qst_36, u1, u2, u3⟩ hrdy_36 Hd36 hH
              have g1_36 := qg1_36.trans g1_34
              have g3_36 := qg3_36.trans g3_34
              have g4_36 := qg4_36.trans g4_34
              have gic_36 := qgic_36.trans gic_34
              have gm33_36 := qgm33_36.trans gm33_34
              have hst_36 := qst_36.trans hst_34
              have hkeep : ∀ j, j ≠ k36 → Hd36.get j = H36.get j := fun j hj => by rw [hH, put_getH, if_neg hj]
              have g1_50 := gt_of hH 1
              have g3_50 := gt_of hH 3
              have g4_50 := gt_of hH 4
              have gir_50 := gt_of hH ir
              have gic_50 := gt_of hH ic
              have gm33_50 := gt_of hH m33
              simp [g1_36, g3_36, g4_36, gir_36, gic_36, gm33_36, hst_36, b3, Ne.symm b3, z1, Ne.symm z1, y1, Ne.symm y1, z3, Ne.symm z3, y3, Ne.symm y3, z4, Ne.symm z4, y4, Ne.symm y4, nx62, nx63, nx64, nx65, nx66, nx67, nx68, nx69, nx70, nx71, nx72] at g1_50 g3_50 g4_50 gir_50 gic_50 gm33_50
              have hst_50 : Hd36.st = _ := (congrArg AHeap.st hH).trans hst_36
              have hcL : Hc.get k36 = none := by
                cases hq : Hc.get k36 with
                | none => rfl
                | some b => have := s3b k36 (by rw [hq]; simp); rw [hf_k36, hq] at this; cases this
              have u2b : ∀ j, Hc.get j ≠ none → Hd36.get j = Hc.get j := fun j hj => by
                have hjl : j ≠ k36 := fun e => by subst e; exact hj (hcL)
                rw [hkeep j hjl, u2 j hj]
              have u1b := u1.keepR (H' := Hd36) fun i id g n h => by
                obtain ⟨_, _, _, _, v5⟩ := u3 i id g n h
                rw [hkeep id v5]
              rw [geL0_succ hv, ceM_all hv hlt] at u1b
              clear hH
              refine q_block ?_
              refine q_block ?_
              refine q_seq ?_
              refine stp_regl TT_ok (by rfl) fun K hK => ?_
              simp [h68_35, g1_50, g3_50, g4_50, gir_50, gic_50, gm33_50, b3, Ne.symm b3, z1, Ne.symm z1, y1, Ne.symm y1, z3, Ne.symm z3, y3, Ne.symm y3, z4, Ne.symm z4, y4, Ne.symm y4, nx62, nx63, nx64, nx65, nx66, nx67, nx68, nx69, nx70, nx71, nx72, encG, wrap_ok (n := (i2 : Int) + 1) (by omega) (by omega)]
              try refine And.intro (by first | omega | rfl) ?_
              refine hK _ _ fun σ51 hσ H51 hH => ?_
              clear hK K
              have h4_51 := congrFun hσ 4
              have h5_51 := congrFun hσ 5
              have h7_51 := congrFun hσ 7
              have h8_51 := congrFun hσ 8
              have h11_51 := congrFun hσ 11
              have h66_51 := congrFun hσ 66
              have h67_51 := congrFun hσ 67
              have h68_51 := congrFun hσ 68
              simp [h4_35, h5_35, h7_35, h8_35, h11_35, h66_35, h67_35] at h4_51 h5_51 h7_51 h8_51 h11_51 h66_51 h67_51 h68_51
              clear hσ
              replace hH : Hd36 = H51 := Eq.symm hH
              subst hH
              refine ⟨_, ?_, i2 + 1, ws2, rfl, (h4_51.trans h4_30.symm), (h5_51.trans h5_30.symm), (h7_51.trans h7_30.symm), (h8_51.trans h8_30.symm), (h11_51.trans h11_30.symm), (h66_51.trans h66_30.symm), (h67_51.trans h67_30.symm), (by simp [h68_51]), (g1_50.trans g1_25.symm), (g3_50.trans g3_25.symm), (g4_50.trans g4_25.symm), (by simp [gir_50]), (gic_50.trans gic_25.symm), (hst_50.trans hst_25.symm), ?_, ?_, ?_, ?_⟩
              · subst hn2; omega
              · first | omega | assumption | (simp; done)
              · exact u1b
              · exact u2b
              · exact fun i id g n h => by
                  obtain ⟨a, b, c, _⟩ := u3 i id g n h
                  exact ⟨a, b, c⟩
          · try simp at hc69
            have hie : i2 = g.nodes.length := by have := hc69; omega
            subst hie
            have p2b := p2.keep (H' := H31) fun id hid => by rw [s3 id (by rw [hHc]; exact hid), hHc]
            refine awp_exit ?_
            refine q_seq_exit ?_
            refine q_loop_exit ?_
            refine q_block_hit ?_
            refine q_seq ?_
            refine stp_lex false TT_ok mixed (by rfl) (by rfl) (by kernel_rfl) (by rfl) fun U hU K hK => ?_
            simp [h8_32, h11_32, g1_31, g3_31, g4_31, gir_31, gic_31, b3, Ne.symm b3, z1, Ne.symm z1, y1, Ne.symm y1, z3, Ne.symm z3, y3, Ne.symm y3, z4, Ne.symm z4, y4, Ne.symm y4, encG]
            try refine And.intro (by first | omega | rfl) ?_
            refine hK _ _ _ (by subst hU; kernel_rfl) fun σ52 hσ H52 hH => ?_
            clear hK K hU U
            have h2_52 := congrFun hσ 2
            have h3_52 := congrFun hσ 3
            simp [] at h2_52 h3_52
            clear hσ
            replace hH : H31 = H52 := Eq.symm hH
            subst hH
            refine awp_ret ?_
            refine q_fin2 h2_52 h3_52 ?_
            exact .tup rfl fun j x y hx hy => by
              match j, hx, hy with
              | 0, hx, hy => simp at hx hy; subst hx; subst hy; exact p2b.frz
              | 1, hx, hy => simp at hx hy; subst hx; subst hy; exact s2.frz gir_31 hwl.symm

theorem condensed_ok (g : Gr) (hv : g.valid = true) : Fun1 Try.prog 55 [encG g] (.tup [encS g.comps, encS g.cedges]) :=
  fun1_frz (condensed0 g hv) (pu_cons (pu_graph g) pu_nil) (.tup (pu_cons (pu_encS _) (pu_cons (pu_encS _) pu_nil)))

end Go.Proofs.Yteifhcohmipdcaa

/-
  THE GRAPH FUNCTIONS, plain law 14: the order of a list of successors. Conditions: none.
-/
namespace Go.Proofs.Yteifhcohmipdcaa
open Go.Abs
set_option linter.unusedSimpArgs false
set_option linter.unusedVariables false
def readyAt (ss : List (List Int)) (l : List Int) (i : Nat) : Bool := !decide ((i : Int) ∈ l) && (ss.getD i []).all fun x => decide (x ∈ l)
def pickN (ss : List (List Int)) (l : List Int) : Nat := ((List.range ss.length).find? (readyAt ss l)).getD 0
def listedL (ss : List (List Int)) : Nat → List Int
  | 0 => []
  | k + 1 => listedL ss k ++ [(pickN ss (listedL ss k) : Int)]
theorem listed_len (ss : List (List Int)) : ∀ k, (listedL ss k).length = k
  | 0 => rfl
  | k + 1 => by rw [listedL, List.length_append, listed_len ss k]; rfl
theorem pickN_found {ss : List (List Int)} {l : List Int} {i : Nat} (h : i < ss.length) (hr : readyAt ss l i = true) (hb : ∀ j, j < i → readyAt ss l j = false) : pickN ss l = i := by
  have : (List.range ss.length).find? (readyAt ss l) = some i := by
    rw [List.find?_range_eq_some]
    exact ⟨hr, List.mem_range.2 h, fun j hj => by rw [hb j hj]; rfl⟩
  rw [pickN, this]; rfl
theorem pickN_none {ss : List (List Int)} {l : List Int} (hb : ∀ j, j < ss.length → readyAt ss l j = false) : pickN ss l = 0 := by
  have : (List.range ss.length).find? (readyAt ss l) = none := by
    rw [List.find?_eq_none]
    intro j hj; rw [hb j (List.mem_range.1 hj)]; simp
  rw [pickN, this]; rfl
theorem pickN_lt {ss : List (List Int)} {l : List Int} (h : 0 < ss.length) : pickN ss l < ss.length := by
  rw [pickN]
  cases hf : (List.range ss.length).find? (readyAt ss l) with
  | none => exact h
  | some i => exact List.mem_range.1 (List.mem_of_find?_eq_some hf)
def doneL (n : Nat) (l : List Int) : List Bool := (List.range n).map fun i : Nat => decide ((i : Int) ∈ l)
theorem doneL_len (n : Nat) (l : List Int) : (doneL n l).length = n := by simp [doneL]
theorem doneL_get {n : Nat} {l : List Int} {i : Nat} (h : i < n) : (doneL n l)[i]? = some (decide ((i : Int) ∈ l)) := by simp [doneL, h]
theorem doneL_set {n : Nat} {l : List Int} {k : Nat} : (doneL n l).set k true = doneL n (l ++ [(k : Int)]) := by
  refine List.ext_getElem? fun i => ?_
  rw [List.getElem?_set]
  by_cases hi : i < n
  · by_cases hk : k = i
    · subst hk; rw [if_pos rfl, if_pos (by rw [doneL_len]; exact hi)]; rw [doneL_get hi]; simp only [List.mem_append, List.mem_singleton, or_true, decide_true]
    · rw [if_neg hk, doneL_get hi, doneL_get hi]
      have : ¬ (i : Int) = (k : Int) := by omega
      simp only [List.mem_append, List.mem_singleton, this, or_false]
  · rw [List.getElem?_eq_none (l := doneL n (l ++ [(k : Int)])) (by rw [doneL_len]; omega)]
    split
    · rw [if_neg (by rw [doneL_len]; omega)]
    · rw [List.getElem?_eq_none (by rw [doneL_len]; omega)]
theorem doneL_at {n : Nat} {l : List Int} {x : Int} (h : inR n x) : (doneL n l).getD x.toNat false = decide (x ∈ l) := by
  rw [List.getD_eq_getElem?_getD, doneL_get (in_toNat h), toNat_cast h]; rfl
theorem doneL_zero (n : Nat) : doneL n [] = List.replicate n false := by
  refine List.ext_getElem? fun i => ?_
  rw [List.getElem?_replicate]
  by_cases hi : i < n
  · rw [doneL_get hi, if_pos hi]; simp
  · rw [List.getElem?_eq_none (by rw [doneL_len]; omega), if_neg hi]
theorem frz_bools {H : AHeap} {id g n : Nat} {e : TypeId} {bs : List Bool} (hb : H.get id = some (.row e 1 g (bs.map .bool))) (hn : n = bs.length) : Frz H (.sl id g 0 n) (.ro (bs.map .bool)) :=
  frz_row hb (by simp [hn]) (fun x hx => by obtain ⟨b, _, rfl⟩ := List.mem_map.1 hx; exact .bool _) (fun x hx v hv => by obtain ⟨b, _, rfl⟩ := List.mem_map.1 hx; simp only [AV.cells, List.mem_singleton] at hv; subst hv; rfl)
end Go.Proofs.Yteifhcohmipdcaa

/-
  THE GRAPH FUNCTIONS, 17: listed. Conditions: successors in range. (Printed by w17.py.)
-/
namespace Go.Proofs.Yteifhcohmipdcaa
open Go.Abs
set_option linter.unusedSimpArgs false
set_option linter.unusedVariables false
def capD (n : Nat) (l : List Int) : AV := .rop [.ro ((doneL n l).map .bool)]
theorem pu_capD (n : Nat) (l : List Int) : Pu (capD n l) := .rop (pu_cons (pu_bools _) pu_nil)

set_option maxHeartbeats 1000000 in
theorem listed1_0 (n : Nat) (l : List Int) (x : Int) (hx : inR n x) : ACalls Try.prog 66 [(AV.int IntKind.i64) x, capD n l] AHeap.nil (fun r _ => r = .bool (!decide (x ∈ l))) := by
  obtain ⟨x1, x2⟩ := hx
  have hdl := doneL_len n l
  have x3 : x.toNat < (doneL n l).length := by omega
  have hel : (doneL n l)[x.toNat] = decide (x ∈ l) := by
    have := doneL_at (l := l) ⟨x1, x2⟩
    rwa [List.getD_eq_getElem?_getD, List.getElem?_eq_getElem x3] at this
  refine acalls_body TT_ok Try.func66 rfl rfl (by simp [Try.ntmps66]) ?_
  rw [Try.ntmps66]
  obtain ⟨σ, hσ⟩ : ∃ σ, σ = st0 [(AV.int IntKind.i64) x, capD n l] := ⟨_, rfl⟩
  rw [← hσ]
  have h0_0 := congrFun hσ 0
  simp [st0] at h0_0
  have h1_0 := congrFun hσ 1
  simp [st0] at h1_0
  clear hσ
  obtain ⟨H, hH⟩ : ∃ H, H = AHeap.nil := ⟨_, rfl⟩
  rw [← hH]
  have hn_0 : H.n = 0 := by rw [hH]; rfl
  have hst_0 : H.st = 1 := by rw [hH]; rfl
  clear hH
  refine stp_reg TT_ok (by rfl) fun K hK => ?_
  simp [capD]
  try refine And.intro (by first | omega | rfl) ?_
  refine hK _ _ fun σ1 hσ H1 hH => ?_
  clear hK K
  have h0_1 := congrFun hσ 0
  have h1_1 := congrFun hσ 1
  simp [h0_0, h1_0] at h0_1 h1_1
  clear hσ
  replace hH : H = H1 := Eq.symm hH
  subst hH
  refine stp_reg TT_ok (by rfl) fun K hK => ?_
  simp [h0_1, h1_1, capD, x1, x2, x3, hdl, hel]
  try refine And.intro (by first | omega | rfl) ?_
  refine hK _ _ fun σ2 hσ H2 hH => ?_
  clear hK K
  have h3_2 := congrFun hσ 3
  simp [] at h3_2
  clear hσ
  replace hH : H = H2 := Eq.symm hH
  subst hH
  refine awp_ret ?_
  refine q_fin1 h3_2 ?_
  first | rfl | (simp; done)

theorem listed1_ok (n : Nat) (l : List Int) (x : Int) (hx : inR n x) : Fun1 Try.prog 66 [(AV.int IntKind.i64) x, capD n l] (.bool (!decide (x ∈ l))) :=
  fun1_pure (listed1_0 n l x hx) (pu_cons (pu_int _ _) (pu_cons (pu_capD n l) pu_nil)) (.bool _)

set_option maxHeartbeats 1000000 in
theorem listed0 (ss : List (List Int)) (hb : ss.length ≤ 100000) (hs : ∀ l ∈ ss, l.length ≤ 100000 ∧ ∀ x ∈ l, inR ss.length x) : ACalls Try.prog 54 [encS ss] AHeap.nil (fun r H => OwnR 3 1 2 ((listedL ss ss.length).map (AV.int IntKind.i64)) r H) := by
  refine acalls_body TT_ok Try.func54 rfl rfl (by simp [Try.ntmps54]) ?_
  rw [Try.ntmps54]
  obtain ⟨σ, hσ⟩ : ∃ σ, σ = st0 [encS ss] := ⟨_, rfl⟩
  rw [← hσ]
  have h0_0 := congrFun hσ 0
  simp [st0] at h0_0
  clear hσ
  obtain ⟨H, hH⟩ : ∃ H, H = AHeap.nil := ⟨_, rfl⟩
  rw [← hH]
  have hn_0 : H.n = 0 := by rw [hH]; rfl
  have hst_0 : H.st = 1 := by rw [hH]; rfl
  clear hH
  refine stp_reg TT_ok (by rfl) fun K hK => ?_
  simp [encS]
  try refine And.intro (by first | omega | rfl) ?_
  refine hK _ _ fun σ1 hσ H1 hH => ?_
  clear hK K
  have h0_1 := congrFun hσ 0
  simp [h0_0] at h0_1
  clear hσ
  replace hH : H = H1 := Eq.symm hH
  subst hH
  refine stp_reg TT_ok (by rfl) fun K hK => ?_
  simp [h0_1, hn_0, hst_0, encS, show (ss.length : Int) ≤ 281474976710656 by omega]
  try refine And.intro (by first | omega | rfl) ?_
  refine hK _ _ fun σ2 hσ H2 hH => ?_
  clear hK K
  have h0_2 := congrFun hσ 0
  have h3_2 := congrFun hσ 3
  simp [h0_1] at h0_2 h3_2
  clear hσ
  have g0_2 := gt_of hH 0
  have g1_2 := gt_of hH 1
  simp [hn_0, hst_0] at g0_2 g1_2
  have hn_2 := congrArg AHeap.n hH
  simp [hn_0, hst_0] at hn_2
  have hst_2 := congrArg AHeap.st hH
  simp [hn_0, hst_0] at hst_2
  clear hH
  refine stp_reg TT_ok (by rfl) fun K hK => ?_
  simp [g0_2, g1_2, encS]
  try refine And.intro (by first | omega | rfl) ?_
  refine hK _ _ fun σ3 hσ H3 hH => ?_
  clear hK K
  have h0_3 := congrFun hσ 0
  have h3_3 := congrFun hσ 3
  have h4_3 := congrFun hσ 4
  simp [h0_2, h3_2] at h0_3 h3_3 h4_3
  clear hσ
  replace hH : H2 = H3 := Eq.symm hH
  subst hH
  refine awp_seq ?_
  refine awp_block ?_
  refine awp_loopV (fun n σ' H' => ∃ (k : Nat) (v : AV) (bs : List Bool), n = ss.length - k ∧ σ' 0 = σ3 0 ∧ σ' 3 = σ3 3 ∧ σ' 4 = v ∧ H'.get 0 = some (.row 4 1 0 (bs.map .bool)) ∧ H'.get 1 = H2.get 1 ∧ H'.st = H2.st ∧ (k ≤ ss.length) ∧ (OwnR 3 1 2 ((listedL ss k).map (AV.int IntKind.i64)) v H') ∧ (doneL ss.length (listedL ss k) = bs)) ?_ ?_
  · refine ⟨_, 0, .nils, List.replicate ss.length false, rfl, rfl, rfl, (by simp [h4_3]), (by simp [g0_2]), rfl, rfl, ?_, ?_, ?_⟩
    · first | omega | (simp; done) | assumption
    · exact .inl ⟨rfl, rfl⟩
    · exact doneL_zero _
  · rintro n1 σ4 H4 ⟨k, v, bs, hn1, q0_4, q3_4, h4_4, g0_4, qg1_4, qst_4, p1, p2, hbs⟩
    have h0_4 := q0_4.trans h0_3
    have h3_4 := q3_4.trans h3_3
    have g1_4 := qg1_4.trans g1_2
    have hst_4 := qst_4.trans hst_2
    have hll := listed_len ss k
    have hdl := doneL_len ss.length (listedL ss k)
    obtain ⟨l, hl⟩ : ∃ l, listedL ss k = l := ⟨_, rfl⟩
    rw [hl] at hll hdl p2 hbs
    rw [hbs] at hdl
    refine awp_seq ?_
    refine stp_cut (fun σ' H' => σ' 0 = σ4 0 ∧ σ' 3 = σ4 3 ∧ σ' 4 = σ4 4 ∧ σ' 14 = .bool (decide ((k : Int) < ss.length)) ∧ H' = H4) ?_ ?_
    · skip
      rcases p2 with ⟨hvn, hnil⟩ | ⟨id, gn, rest, hvn, hb2, hid⟩
      · skip
        subst hvn
        have hk0 : k = 0 := by rw [List.map_eq_nil_iff] at hnil; rw [← hll, hnil]; rfl
        refine stp_regl TT_ok (by rfl) fun K hK => ?_
        simp [h0_4, h4_4, g0_4, g1_4, encS, hk0]
        try refine And.intro (by first | omega | rfl) ?_
        refine hK _ _ fun σ6 hσ H6 hH => ?_
        clear hK K
        have h0_6 := congrFun hσ 0
        have h3_6 := congrFun hσ 3
        have h4_6 := congrFun hσ 4
        have h14_6 := congrFun hσ 14
        simp [h0_4, h3_4, h4_4] at h0_6 h3_6 h4_6 h14_6
        clear hσ
        replace hH : H4 = H6 := Eq.symm hH
        subst hH
        refine ⟨rfl, (h0_6.trans h0_4.symm), (h3_6.trans h3_4.symm), (h4_6.trans h4_4.symm), (by simp [h14_6, hk0]), rfl⟩
      · skip
        rw [List.length_map] at hvn
        subst hvn
        have nx1 : ¬ id = 0 ∧ ¬ 0 = id := by omega
        have nx2 : ¬ id = 1 ∧ ¬ 1 = id := by omega
        refine stp_regl TT_ok (by rfl) fun K hK => ?_
        simp [h0_4, h4_4, g0_4, g1_4, hb2, nx1, nx2, encS, hll, List.length_map]
        try refine And.intro (by first | omega | rfl) ?_
        refine hK _ _ fun σ7 hσ H7 hH => ?_
        clear hK K
        have h0_7 := congrFun hσ 0
        have h3_7 := congrFun hσ 3
        have h4_7 := congrFun hσ 4
        have h14_7 := congrFun hσ 14
        simp [h0_4, h3_4, h4_4] at h0_7 h3_7 h4_7 h14_7
        clear hσ
        replace hH : H4 = H7 := Eq.symm hH
        subst hH
        refine ⟨rfl, (h0_7.trans h0_4.symm), (h3_7.trans h3_4.symm), (h4_7.trans h4_4.symm), (by simp [h14_7]), rfl⟩
    · rintro σ5 H5 ⟨q0_5, q3_5, q4_5, h14_5, hHq⟩
      replace hHq := hHq.symm
      subst hHq
      have h0_5 := q0_5.trans h0_4
      have h3_5 := q3_5.trans h3_4
      have h4_5 := q4_5.trans h4_4
      refine awp_cond _ (by simp only [aeval_tmp]; exact h14_5) (fun hc14 => ?_) (fun hc14 => ?_)
      · try simp at hc14
        have hlt : k < ss.length := by simpa using hc14
        refine awp_skip ?_
        refine q_seq ?_
        refine awp_block ?_
        refine stp_reg TT_ok (by rfl) fun K hK => ?_
        simp [g0_4, g1_4, encS]
        try refine And.intro (by first | omega | rfl) ?_
        refine hK _ _ fun σ8 hσ H8 hH => ?_
        clear hK K
        have h0_8 := congrFun hσ 0
        have h3_8 := congrFun hσ 3
        have h4_8 := congrFun hσ 4
        have h5_8 := congrFun hσ 5
        simp [h0_5, h3_5, h4_5] at h0_8 h3_8 h4_8 h5_8
        clear hσ
        replace hH : H4 = H8 := Eq.symm hH
        subst hH
        refine awp_seq ?_
        refine stp_reg TT_ok (by rfl) fun K hK => ?_
        simp [h0_8, g0_4, g1_4, encS]
        try refine And.intro (by first | omega | rfl) ?_
        refine hK _ _ fun σ9 hσ H9 hH => ?_
        clear hK K
        have h0_9 := congrFun hσ 0
        have h3_9 := congrFun hσ 3
        have h4_9 := congrFun hσ 4
        have h5_9 := congrFun hσ 5
        have h16_9 := congrFun hσ 16
        have h17_9 := congrFun hσ 17
        simp [h0_8, h3_8, h4_8, h5_8] at h0_9 h3_9 h4_9 h5_9 h16_9 h17_9
        clear hσ
        replace hH : H4 = H9 := Eq.symm hH
        subst hH
        refine awp_block ?_
        refine awp_loopV (fun n σ' H' => ∃ (i : Nat), n = ss.length - i ∧ σ' 0 = σ9 0 ∧ σ' 3 = σ9 3 ∧ σ' 4 = σ9 4 ∧ σ' 5 = (AV.int IntKind.i64) 0 ∧ σ' 16 = σ9 16 ∧ σ' 17 = (AV.int IntKind.i64) i ∧ H' = H4 ∧ (i ≤ ss.length) ∧ (∀ j, j < i → readyAt ss l j = false)) ?_ ?_
        · refine ⟨_, 0, rfl, rfl, rfl, rfl, (by simp [h5_9]), rfl, (by simp [h17_9]), rfl, ?_, ?_⟩
          · first | omega | (simp; done) | assumption
          · intro j hj; omega
        · rintro n2 σ10 H10 ⟨i, hn2, q0_10, q3_10, q4_10, h5_10, q16_10, h17_10, hHq, q1, q2⟩
          have h0_10 := q0_10.trans h0_9
          have h3_10 := q3_10.trans h3_9
          have h4_10 := q4_10.trans h4_9
          have h16_10 := q16_10.trans h16_9
          replace hHq := hHq.symm
          subst hHq
          refine stp_reg TT_ok (by rfl) fun K hK => ?_
          simp [h16_10, h17_10, g0_4, g1_4, encS]
          try refine And.intro (by first | omega | rfl) ?_
          refine hK _ _ fun σ11 hσ H11 hH => ?_
          clear hK K
          have h0_11 := congrFun hσ 0
          have h3_11 := congrFun hσ 3
          have h4_11 := congrFun hσ 4
          have h5_11 := congrFun hσ 5
          have h16_11 := congrFun hσ 16
          have h17_11 := congrFun hσ 17
          have h18_11 := congrFun hσ 18
          simp [h0_10, h3_10, h4_10, h5_10, h16_10, h17_10] at h0_11 h3_11 h4_11 h5_11 h16_11 h17_11 h18_11
          clear hσ
          replace hH : H4 = H11 := Eq.symm hH
          subst hH
          refine awp_seq ?_
          refine awp_cond _ (by simp only [aeval_tmp]; exact h18_11) (fun hc18 => ?_) (fun hc18 => ?_)
          · try simp at hc18
            have hil : i < ss.length := by simpa using hc18
            obtain ⟨li, hli⟩ : ∃ li, ss[i] = li := ⟨_, rfl⟩
            have hge : (ss.map fun l => AV.ro (l.map (AV.int IntKind.i64)))[i]? = some (.ro (li.map (AV.int IntKind.i64))) := by rw [List.getElem?_map, List.getElem?_eq_getElem hil, hli]; rfl
            obtain ⟨hli1, hli2⟩ := hs li (by rw [← hli]; exact List.getElem_mem hil)
            have hil2 : i < bs.length := by omega
            have hel : bs[i] = decide ((i : Int) ∈ l) := by have := doneL_get (l := l) hil; rw [hbs, List.getElem?_eq_getElem hil2] at this; exact Option.some.inj this
            have hrd : readyAt ss l i = (!decide ((i : Int) ∈ l) && li.all fun x => decide (x ∈ l)) := by rw [readyAt, List.getD_eq_getElem?_getD, List.getElem?_eq_getElem hil, hli]; rfl
            refine awp_skip ?_
            refine q_seq ?_
            refine awp_seq ?_
            refine awp_block ?_
            refine stp_reg TT_ok (by rfl) fun K hK => ?_
            simp [h17_11, g0_4, g1_4, encS]
            try refine And.intro (by first | omega | rfl) ?_
            refine hK _ _ fun σ12 hσ H12 hH => ?_
            clear hK K
            have h0_12 := congrFun hσ 0
            have h3_12 := congrFun hσ 3
            have h4_12 := congrFun hσ 4
            have h5_12 := congrFun hσ 5
            have h6_12 := congrFun hσ 6
            have h16_12 := congrFun hσ 16
            have h17_12 := congrFun hσ 17
            simp [h0_11, h3_11, h4_11, h5_11, h16_11, h17_11] at h0_12 h3_12 h4_12 h5_12 h6_12 h16_12 h17_12
            clear hσ
            replace hH : H4 = H12 := Eq.symm hH
            subst hH
            by_cases hd : (i : Int) ∈ l
            · skip
              refine stp_reg TT_ok (by rfl) fun K hK => ?_
              simp [h0_12, h3_12, h6_12, g0_4, g1_4, hd, encS, hge, hil, hil2, hel, hdl, hli]
              try refine And.intro (by first | omega | rfl) ?_
              refine hK _ _ fun σ13 hσ H13 hH => ?_
              clear hK K
              have h0_13 := congrFun hσ 0
              have h3_13 := congrFun hσ 3
              have h4_13 := congrFun hσ 4
              have h5_13 := congrFun hσ 5
              have h6_13 := congrFun hσ 6
              have h16_13 := congrFun hσ 16
              have h17_13 := congrFun hσ 17
              have h33_13 := congrFun hσ 33
              simp [h0_12, h3_12, h4_12, h5_12, h6_12, h16_12, h17_12] at h0_13 h3_13 h4_13 h5_13 h6_13 h16_13 h17_13 h33_13
              clear hσ
              replace hH : H4 = H13 := Eq.symm hH
              subst hH
              refine stp_false (by simp [aeval_tmp, h33_13, hd, encS]) ?_
              refine awp_skip ?_
              refine q_block ?_
              refine q_seq ?_
              refine stp_regl TT_ok (by rfl) fun K hK => ?_
              simp [h17_13, g0_4, g1_4, hd, encS, wrap_ok (n := (i : Int) + 1) (by omega) (by omega)]
              try refine And.intro (by first | omega | rfl) ?_
              refine hK _ _ fun σ14 hσ H14 hH => ?_
              clear hK K
              have h0_14 := congrFun hσ 0
              have h3_14 := congrFun hσ 3
              have h4_14 := congrFun hσ 4
              have h5_14 := congrFun hσ 5
              have h16_14 := congrFun hσ 16
              have h17_14 := congrFun hσ 17
              simp [h0_13, h3_13, h4_13, h5_13, h16_13] at h0_14 h3_14 h4_14 h5_14 h16_14 h17_14
              clear hσ
              replace hH : H4 = H14 := Eq.symm hH
              subst hH
              refine ⟨_, ?_, i + 1, rfl, (h0_14.trans h0_9.symm), (h3_14.trans h3_9.symm), (h4_14.trans h4_9.symm), (by simp [h5_14]), (h16_14.trans h16_9.symm), (by simp [h17_14]), rfl, ?_, ?_⟩
              · subst hn2; omega
              · first | omega | assumption | (simp; done)
              · intro j hj
                by_cases e : j = i
                · subst e; rw [hrd]; simp [hd]
                · exact q2 j (by omega)
            · skip
              refine stp_reg TT_ok (by rfl) fun K hK => ?_
              simp [h0_12, h3_12, h6_12, g0_4, g1_4, hd, encS, hge, hil, hil2, hel, hdl, hli]
              try refine And.intro (by first | omega | rfl) ?_
              refine FunW.at (containsFuncI_w li 66 [capD ss.length l] (fun x => !decide (x ∈ l)) (fun x hx => listed1_ok _ _ _ (hli2 x hx)) (by omega) (pu_cons (pu_capD _ _) pu_nil)) ?hf ?_
              case hf => exact FrzL.cons (.pure (pu_ints _)) (FrzL.cons (frz_fn (FrzL.cons (frz_box g1_4 (FrzL.cons (by rw [hbs]; exact frz_bools g0_4 hdl.symm) (FrzL.nil _)) (by simp [AV.one])) (FrzL.nil _))) (FrzL.nil _))
              simp [h0_12, h3_12, h6_12, g0_4, g1_4, hd, encS, hge, hil, hil2, hel, hdl, hli]
              try refine And.intro (by first | omega | rfl) ?_
              refine hK _ _ fun σ15 hσ H15 hH => ?_
              clear hK K
              have h0_15 := congrFun hσ 0
              have h3_15 := congrFun hσ 3
              have h4_15 := congrFun hσ 4
              have h5_15 := congrFun hσ 5
              have h6_15 := congrFun hσ 6
              have h16_15 := congrFun hσ 16
              have h17_15 := congrFun hσ 17
              have h33_15 := congrFun hσ 33
              simp [h0_12, h3_12, h4_12, h5_12, h6_12, h16_12, h17_12] at h0_15 h3_15 h4_15 h5_15 h6_15 h16_15 h17_15 h33_15
              clear hσ
              replace hH : H4 = H15 := Eq.symm hH
              subst hH
              refine awp_cond _ (by simp only [aeval_tmp]; exact h33_15) (fun hc33 => ?_) (fun hc33 => ?_)
              · try simp at hc33
                refine stp_reg TT_ok (by rfl) fun K hK => ?_
                simp [h6_15, g0_4, g1_4, hd, encS]
                try refine And.intro (by first | omega | rfl) ?_
                refine hK _ _ fun σ16 hσ H16 hH => ?_
                clear hK K
                have h0_16 := congrFun hσ 0
                have h3_16 := congrFun hσ 3
                have h4_16 := congrFun hσ 4
                have h5_16 := congrFun hσ 5
                simp [h0_15, h3_15, h4_15] at h0_16 h3_16 h4_16 h5_16
                clear hσ
                replace hH : H4 = H16 := Eq.symm hH
                subst hH
                refine awp_exit ?_
                refine q_block_miss rfl ?_
                refine q_seq_exit ?_
                refine q_loop_exit ?_
                refine q_block_hit ?_
                refine q_seq ?_
                refine stp_reg TT_ok (by rfl) fun K hK => ?_
                simp [h3_16, h5_16, g0_4, g1_4, hd, encS, hil, hil2, hdl]
                try refine And.intro (by first | omega | rfl) ?_
                refine hK _ _ fun σ17 hσ H17 hH => ?_
                clear hK K
                have h0_17 := congrFun hσ 0
                have h3_17 := congrFun hσ 3
                have h4_17 := congrFun hσ 4
                have h5_17 := congrFun hσ 5
                simp [h0_16, h3_16, h4_16, h5_16] at h0_17 h3_17 h4_17 h5_17
                clear hσ
                have g0_17 := gt_of hH 0
                have g1_17 := gt_of hH 1
                simp [g0_4, g1_4, hst_4, hd] at g0_17 g1_17
                have hst_17 := congrArg AHeap.st hH
                simp [hst_4] at hst_17
                have ka : ∀ j, j ≠ 0 → H17.get j = H4.get j := fun j h1 => by rw [hH]; simp [h1]
                clear hH
                rcases p2 with ⟨hvn, hnil⟩ | ⟨id, gn, rest, hvn, hb2, hid⟩
                · skip
                  subst hvn
                  have hl0 : l = [] := List.map_eq_nil_iff.1 hnil
                  refine awp_ok fun hok => ?_
                  obtain ⟨m18, hn_m18⟩ : ∃ m, H17.n = m := ⟨_, rfl⟩
                  have hf_m18_0 := hok.free 0
                  simp [hn_m18, hst_17] at hf_m18_0
                  have nx3 := ne_get hf_m18_0 g0_17
                  have nx4 := ne_get hf_m18_0 g1_17
                  have hf_m18_1 := hok.free 1
                  simp [hn_m18, hst_17] at hf_m18_1
                  have nx5 := ne_get hf_m18_1 g0_17
                  have nx6 := ne_get hf_m18_1 g1_17
                  have nx7 : ¬ m18 = 0 ∧ ¬ 0 = m18 := by omega
                  refine stp_regl TT_ok (by rfl) fun K hK => ?_
                  simp [h4_17, h5_17, g0_17, g1_17, hn_m18, hst_17, hd, nx3, nx4, nx5, nx6, nx7, encS]
                  try refine And.intro (by first | omega | rfl) ?_
                  refine hK _ _ fun σ19 hσ H19 hH => ?_
                  clear hK K
                  have h0_19 := congrFun hσ 0
                  have h3_19 := congrFun hσ 3
                  have h4_19 := congrFun hσ 4
                  simp [h0_17, h3_17] at h0_19 h3_19 h4_19
                  clear hσ
                  have g0_19 := gt_of hH 0
                  have g1_19 := gt_of hH 1
                  have gm18_19 := gt_of hH m18
                  have g_m18_1__19 := gt_of hH (m18 + 1)
                  simp [g0_17, g1_17, hn_m18, hst_17, hd, nx3, nx4, nx5, nx6, nx7] at g0_19 g1_19 gm18_19 g_m18_1__19
                  have hst_19 := congrArg AHeap.st hH
                  simp [hst_17] at hst_19
                  clear hH
                  refine q_block ?_
                  have hpk : pickN ss l = i := pickN_found hil (by rw [hrd]; simp [hd]; simpa using hc33) q2
                  refine ⟨_, ?_, k + 1, .sl (m18 + 1) 0 0 1, bs.set i true, rfl, (h0_19.trans h0_3.symm), (h3_19.trans h3_3.symm), (by simp [h4_19]), (by simp [g0_19]), (g1_19.trans g1_2.symm), (hst_19.trans hst_2.symm), ?_, ?_, ?_⟩
                  · subst hn1; omega
                  · first | omega | assumption | (simp; done)
                  · rw [listedL, hl, hpk, hl0]
                    exact OwnR.mk (rest := []) g_m18_1__19 (by simp) (by simp) (by omega)
                  · rw [listedL, hl, hpk, ← hbs, doneL_set]
                · skip
                  rw [List.length_map] at hvn
                  subst hvn
                  have hb3 := (ka id (by omega)).trans hb2
                  have nx8 : ¬ id = 0 ∧ ¬ 0 = id := by omega
                  have nx9 : ¬ id = 1 ∧ ¬ 1 = id := by omega
                  refine awp_ok fun hok => ?_
                  obtain ⟨m20, hn_m20⟩ : ∃ m, H17.n = m := ⟨_, rfl⟩
                  have hf_m20_0 := hok.free 0
                  simp [hn_m20, hst_17] at hf_m20_0
                  have nx10 := ne_get hf_m20_0 g0_17
                  have nx11 := ne_get hf_m20_0 g1_17
                  have nx12 := ne_get hf_m20_0 hb3
                  refine stp_regl TT_ok (by rfl) fun K hK => ?_
                  simp [h4_17, h5_17, g0_17, g1_17, hb3, hn_m20, hst_17, hd, nx8, nx9, nx10, nx11, nx12, encS, show l.length ≤ 9223372036854775806 by omega, show (l.length + 1) * 8 ≤ 140737488355328 by omega, take_map_len]
                  try refine And.intro (by first | omega | rfl) ?_
                  refine hK _ _ fun σ21 hσ H21 hH => ?_
                  clear hK K
                  have h0_21 := congrFun hσ 0
                  have h3_21 := congrFun hσ 3
                  have h4_21 := congrFun hσ 4
                  simp [h0_17, h3_17] at h0_21 h3_21 h4_21
                  clear hσ
                  have g0_21 := gt_of hH 0
                  have g1_21 := gt_of hH 1
                  have gid_21 := gt_of hH id
                  have gm20_21 := gt_of hH m20
                  simp [g0_17, g1_17, hb3, hn_m20, hst_17, hd, nx8, nx9, nx10, nx11, nx12] at g0_21 g1_21 gid_21 gm20_21
                  have hst_21 := congrArg AHeap.st hH
                  simp [hst_17] at hst_21
                  clear hH
                  refine q_block ?_
                  have hpk : pickN ss l = i := pickN_found hil (by rw [hrd]; simp [hd]; simpa using hc33) q2
                  refine ⟨_, ?_, k + 1, .sl id (gn + 1) 0 (l.length + 1), bs.set i true, rfl, (h0_21.trans h0_3.symm), (h3_21.trans h3_3.symm), (by simp [h4_21]), (by simp [g0_21]), (g1_21.trans g1_2.symm), (hst_21.trans hst_2.symm), ?_, ?_, ?_⟩
                  · subst hn1; omega
                  · first | omega | assumption | (simp; done)
                  · rw [listedL, hl, hpk]
                    exact OwnR.mk (rest := []) gid_21 (by simp) (by simp) (by omega)
                  · rw [listedL, hl, hpk, ← hbs, doneL_set]
              · try simp at hc33
                refine awp_skip ?_
                refine q_block ?_
                refine q_seq ?_
                refine stp_regl TT_ok (by rfl) fun K hK => ?_
                simp [h17_15, g0_4, g1_4, hd, encS, wrap_ok (n := (i : Int) + 1) (by omega) (by omega)]
                try refine And.intro (by first | omega | rfl) ?_
                refine hK _ _ fun σ22 hσ H22 hH => ?_
                clear hK K
                have h0_22 := congrFun hσ 0
                have h3_22 := congrFun hσ 3
                have h4_22 := congrFun hσ 4
                have h5_22 := congrFun hσ 5
                have h16_22 := congrFun hσ 16
                have h17_22 := congrFun hσ 17
                simp [h0_15, h3_15, h4_15, h5_15, h16_15] at h0_22 h3_22 h4_22 h5_22 h16_22 h17_22
                clear hσ
                replace hH : H4 = H22 := Eq.symm hH
                subst hH
                refine ⟨_, ?_, i + 1, rfl, (h0_22.trans h0_9.symm), (h3_22.trans h3_9.symm), (h4_22.trans h4_9.symm), (by simp [h5_22]), (h16_22.trans h16_9.symm), (by simp [h17_22]), rfl, ?_, ?_⟩
                · subst hn2; omega
                · first | omega | assumption | (simp; done)
                · intro j hj
                  by_cases e : j = i
                  · subst e; rw [hrd, Bool.eq_false_iff]; intro h; simp [hd] at h; obtain ⟨x, hx1, hx2⟩ := hc33; exact hx2 (h x hx1)
                  · exact q2 j (by omega)
          · try simp at hc18
            have hie : i = ss.length := by have := hc18; omega
            have h0 : 0 < ss.length := by omega
            have h02 : 0 < bs.length := by omega
            refine awp_exit ?_
            refine q_seq_exit ?_
            refine q_loop_exit ?_
            refine q_block_hit ?_
            refine q_seq ?_
            refine stp_reg TT_ok (by rfl) fun K hK => ?_
            simp [h3_11, h5_11, g0_4, g1_4, encS, h0, h02, hdl]
            try refine And.intro (by first | omega | rfl) ?_
            refine hK _ _ fun σ23 hσ H23 hH => ?_
            clear hK K
            have h0_23 := congrFun hσ 0
            have h3_23 := congrFun hσ 3
            have h4_23 := congrFun hσ 4
            have h5_23 := congrFun hσ 5
            simp [h0_11, h3_11, h4_11, h5_11] at h0_23 h3_23 h4_23 h5_23
            clear hσ
            have g0_23 := gt_of hH 0
            have g1_23 := gt_of hH 1
            simp [g0_4, g1_4, hst_4] at g0_23 g1_23
            have hst_23 := congrArg AHeap.st hH
            simp [hst_4] at hst_23
            have ka : ∀ j, j ≠ 0 → H23.get j = H4.get j := fun j h1 => by rw [hH]; simp [h1]
            clear hH
            rcases p2 with ⟨hvn, hnil⟩ | ⟨id, gn, rest, hvn, hb2, hid⟩
            · skip
              subst hvn
              have hl0 : l = [] := List.map_eq_nil_iff.1 hnil
              refine awp_ok fun hok => ?_
              obtain ⟨m24, hn_m24⟩ : ∃ m, H23.n = m := ⟨_, rfl⟩
              have hf_m24_0 := hok.free 0
              simp [hn_m24, hst_23] at hf_m24_0
              have nx13 := ne_get hf_m24_0 g0_23
              have nx14 := ne_get hf_m24_0 g1_23
              have hf_m24_1 := hok.free 1
              simp [hn_m24, hst_23] at hf_m24_1
              have nx15 := ne_get hf_m24_1 g0_23
              have nx16 := ne_get hf_m24_1 g1_23
              have nx17 : ¬ m24 = 0 ∧ ¬ 0 = m24 := by omega
              refine stp_regl TT_ok (by rfl) fun K hK => ?_
              simp [h4_23, h5_23, g0_23, g1_23, hn_m24, hst_23, nx13, nx14, nx15, nx16, nx17, encS]
              try refine And.intro (by first | omega | rfl) ?_
              refine hK _ _ fun σ25 hσ H25 hH => ?_
              clear hK K
              have h0_25 := congrFun hσ 0
              have h3_25 := congrFun hσ 3
              have h4_25 := congrFun hσ 4
              simp [h0_23, h3_23] at h0_25 h3_25 h4_25
              clear hσ
              have g0_25 := gt_of hH 0
              have g1_25 := gt_of hH 1
              have gm24_25 := gt_of hH m24
              have g_m24_1__25 := gt_of hH (m24 + 1)
              simp [g0_23, g1_23, hn_m24, hst_23, nx13, nx14, nx15, nx16, nx17] at g0_25 g1_25 gm24_25 g_m24_1__25
              have hst_25 := congrArg AHeap.st hH
              simp [hst_23] at hst_25
              clear hH
              refine q_block ?_
              have hpk : pickN ss l = 0 := pickN_none (by subst hie; exact q2)
              refine ⟨_, ?_, k + 1, .sl (m24 + 1) 0 0 1, bs.set 0 true, rfl, (h0_25.trans h0_3.symm), (h3_25.trans h3_3.symm), (by simp [h4_25]), (by simp [g0_25]), (g1_25.trans g1_2.symm), (hst_25.trans hst_2.symm), ?_, ?_, ?_⟩
              · subst hn1; omega
              · first | omega | assumption | (simp; done)
              · rw [listedL, hl, hpk, hl0]
                exact OwnR.mk (rest := []) g_m24_1__25 (by simp) (by simp) (by omega)
              · rw [listedL, hl, hpk, ← hbs, doneL_set]
            · skip
              rw [List.length_map] at hvn
              subst hvn
              have hb3 := (ka id (by omega)).trans hb2
              have nx18 : ¬ id = 0 ∧ ¬ 0 = id := by omega
              have nx19 : ¬ id = 1 ∧ ¬ 1 = id := by omega
              refine awp_ok fun hok => ?_
              obtain ⟨m26, hn_m26⟩ : ∃ m, H23.n = m := ⟨_, rfl⟩
              have hf_m26_0 := hok.free 0
              simp [hn_m26, hst_23] at hf_m26_0
              have nx20 := ne_get hf_m26_0 g0_23
              have nx21 := ne_get hf_m26_0 g1_23
              have nx22 := ne_get hf_m26_0 hb3
              refine stp_regl TT_ok (by rfl) fun K hK => ?_
              simp [h4_23, h5_23, g0_23, g1_23, hb3, hn_m26, hst_23, nx18, nx19, nx20, nx21, nx22, encS, show l.length ≤ 9223372036854775806 by omega, show (l.length + 1) * 8 ≤ 140737488355328 by omega, take_map_len]
              try refine And.intro (by first | omega | rfl) ?_
              refine hK _ _ fun σ27 hσ H27 hH => ?_
              clear hK K
              have h0_27 := congrFun hσ 0
              have h3_27 := congrFun hσ 3
              have h4_27 := congrFun hσ 4
              simp [h0_23, h3_23] at h0_27 h3_27 h4_27
              clear hσ
              have g0_27 := gt_of hH 0
              have g1_27 := gt_of hH 1
              have gid_27 := gt_of hH id
              have gm26_27 := gt_of hH m26
              simp [g0_23, g1_23, hb3, hn_m26, hst_23, nx18, nx19, nx20, nx21, nx22] at g0_27 g1_27 gid_27 gm26_27
              have hst_27 := congrArg AHeap.st hH
              simp [hst_23] at hst_27
              clear hH
              refine q_block ?_
              have hpk : pickN ss l = 0 := pickN_none (by subst hie; exact q2)
              refine ⟨_, ?_, k + 1, .sl id (gn + 1) 0 (l.length + 1), bs.set 0 true, rfl, (h0_27.trans h0_3.symm), (h3_27.trans h3_3.symm), (by simp [h4_27]), (by simp [g0_27]), (g1_27.trans g1_2.symm), (hst_27.trans hst_2.symm), ?_, ?_, ?_⟩
              · subst hn1; omega
              · first | omega | assumption | (simp; done)
              · rw [listedL, hl, hpk]
                exact OwnR.mk (rest := []) gid_27 (by simp) (by simp) (by omega)
              · rw [listedL, hl, hpk, ← hbs, doneL_set]
      · try simp at hc14
        refine awp_exit ?_
        refine q_seq_exit ?_
        refine q_loop_exit ?_
        refine q_block_hit ?_
        refine q_seq ?_
        refine stp_reg TT_ok (by rfl) fun K hK => ?_
        simp [h4_5, g0_4, g1_4, encS]
        try refine And.intro (by first | omega | rfl) ?_
        refine hK _ _ fun σ28 hσ H28 hH => ?_
        clear hK K
        have h2_28 := congrFun hσ 2
        simp [] at h2_28
        clear hσ
        replace hH : H4 = H28 := Eq.symm hH
        subst hH
        refine awp_ret ?_
        have hke : k = ss.length := by have := hc14; omega
        rw [← hl, hke] at p2
        refine q_fin1 h2_28 ?_
        exact p2

theorem listed_ok (ss : List (List Int)) (hb : ss.length ≤ 100000) (hs : ∀ l ∈ ss, l.length ≤ 100000 ∧ ∀ x ∈ l, inR ss.length x) : Fun1 Try.prog 54 [encS ss] (.ro ((listedL ss ss.length).map (AV.int IntKind.i64))) :=
  fun1_frz ((listed0 ss hb hs).mono fun r H h => h.frz (fun _ => pu_of_ints) (fun _ => one_ints)) (pu_cons (pu_encS ss) pu_nil) (pu_ints _)

end Go.Proofs.Yteifhcohmipdcaa

/-
  THE GRAPH FUNCTIONS, plain law 15: the components in order. Conditions: a valid graph.
-/
namespace Go.Proofs.Yteifhcohmipdcaa
open Go.Abs
set_option linter.unusedSimpArgs false
set_option linter.unusedVariables false
theorem targets_step (es : List (Int × Int)) (i : Nat) : (es.filter fun e => decide (e.1 < (i : Int))).length + (targets es i).length ≤ (es.filter fun e => decide (e.1 < ((i + 1 : Nat) : Int))).length := by
  induction es with
  | nil => simp [targets]
  | cons e es ih =>
    simp only [targets, List.length_map] at ih ⊢
    simp only [List.filter_cons]
    by_cases h1 : e.1 < (i : Int)
    · have h2 : e.1 < ((i + 1 : Nat) : Int) := by omega
      have h3 : ¬ e.1 = (i : Int) := by omega
      simp only [h1, h2, h3, decide_true, decide_false, if_true, List.length_cons]
      simp only [Bool.false_eq_true, if_false]
      omega
    · by_cases h3 : e.1 = (i : Int)
      · have h2 : e.1 < ((i + 1 : Nat) : Int) := by omega
        simp only [h1, h2, decide_true, decide_false, if_true, List.length_cons]
        simp only [h3, decide_true, if_true, List.length_cons, Bool.false_eq_true, if_false]
        omega
      · have h2 : ¬ e.1 < ((i + 1 : Nat) : Int) := by omega
        simp only [h1, h2, h3, decide_false, Bool.false_eq_true, if_false]
        omega
theorem succ_len_t {g : Gr} (hv : g.valid = true) (u : Nat) : (g.succ u).length ≤ (targets g.edges u).length := by
  rw [← succ_eq hv]; exact Nat.le_trans (compact_len _) (Nat.le_of_eq (sortI_len _))
theorem ceR_len2 {g : Gr} (hv : g.valid = true) (i r : Nat) : (g.ceR i r).length ≤ (g.edges.filter fun e => decide (e.1 < (i : Int))).length := by
  induction i with
  | zero => simp [Gr.ceR]
  | succ i ih =>
    rw [ceR_succ, List.length_append]
    have h1 := ceP_len g i (g.succ i)
    have h2 := succ_len_t hv i
    have h3 := targets_step g.edges i
    split
    · omega
    · simp only [List.length_nil]; omega
theorem cedges_len (g : Gr) : g.cedges.length = (g.reps g.nodes.length).length := by simp [Gr.cedges, Gr.ceU]
theorem comps_len (g : Gr) : g.comps.length = (g.reps g.nodes.length).length := by simp [Gr.comps, Gr.ndL]
theorem ceR_mem {g : Gr} {i r : Nat} {x : Int} : x ∈ g.ceR i r ↔ ∃ u : Nat, u < i ∧ g.grp u = r ∧ ∃ k : Int, k ∈ g.succ u ∧ ¬ g.grp k.toNat = g.grp u ∧ x = g.rank (g.grp k.toNat) := by
  simp only [Gr.ceR, Gr.ceP, List.mem_flatMap, List.mem_filter, List.mem_range, List.mem_map, decide_eq_true_eq]
  constructor
  · rintro ⟨u, ⟨h1, h2⟩, k, ⟨h3, h4⟩, h5⟩; exact ⟨u, h1, h2, k, h3, h4, h5.symm⟩
  · rintro ⟨u, h1, h2, k, h3, h4, h5⟩; exact ⟨u, ⟨h1, h2⟩, k, ⟨h3, h4⟩, h5.symm⟩
theorem succ_in {g : Gr} (hv : g.valid = true) {u : Nat} {k : Int} (h : k ∈ g.succ u) : inR g.nodes.length k := (valid_edge hv ((succ_mem hv).1 h)).2
theorem cedges_ok {g : Gr} (hv : g.valid = true) : ∀ l ∈ g.cedges, l.length ≤ 100000 ∧ ∀ x ∈ l, inR g.cedges.length x := by
  intro l hl
  obtain ⟨r, hr, rfl⟩ := List.mem_map.1 hl
  refine ⟨?_, fun x hx => ?_⟩
  · have h1 := ceR_len2 hv g.nodes.length r
    have h2 := List.length_filter_le (fun e : Int × Int => decide (e.1 < (g.nodes.length : Int))) g.edges
    have h3 := (valid_nodes hv).2
    omega
  · obtain ⟨u, h1, h2, k, h3, h4, rfl⟩ := ceR_mem.1 hx
    have hk := in_toNat (succ_in hv h3)
    have := rank_lt (grp_spec hv hk).2.1 (grp_grp hv hk)
    rw [cedges_len]
    exact ⟨by omega, by omega⟩
theorem listed_in {ss : List (List Int)} : ∀ {k : Nat}, k ≤ ss.length → ∀ x ∈ listedL ss k, inR ss.length x
  | 0, _, x, hx => by simp [listedL] at hx
  | k + 1, h, x, hx => by
    rw [listedL, List.mem_append] at hx
    rcases hx with hx | hx
    · exact listed_in (by omega) x hx
    · simp at hx; subst hx
      have := pickN_lt (ss := ss) (l := listedL ss k) (by omega)
      exact ⟨by omega, by omega⟩
def Gr.order (g : Gr) : List Int := listedL g.cedges g.cedges.length
/-- The components in order. -/
def Gr.gcomps (g : Gr) : List (List Int) := if g.valid = true then g.order.map (fun k => g.comps.getD k.toNat []) else []
theorem order_len (g : Gr) : g.order.length = g.cedges.length := listed_len _ _
theorem order_in (g : Gr) : ∀ x ∈ g.order, inR g.comps.length x := by
  intro x hx
  have := listed_in (Nat.le_refl _) x hx
  rwa [comps_len, ← cedges_len]
theorem comps_few {g : Gr} (hv : g.valid = true) : g.comps.length ≤ 1024 := by
  rw [comps_len]
  exact Nat.le_trans (reps_len _ _) (valid_nodes hv).1
def roS (ls : List (List Int)) : List AV := ls.map fun l => .ro (l.map (AV.int IntKind.i64))
theorem frz_roS {e lo : Nat} {v : AV} {ls : List (List Int)} {H : AHeap} (h : OwnR e 1 lo (roS ls) v H) : Frz H v (encS ls) :=
  h.frz (fun x hx => by obtain ⟨l, _, rfl⟩ := List.mem_map.1 hx; exact pu_ints _) (fun x hx u hu => by obtain ⟨l, _, rfl⟩ := List.mem_map.1 hx; simp only [AV.cells, List.mem_singleton] at hu; subst hu; rfl)
theorem roS_take_succ {ls : List (List Int)} {i : Nat} (h : i < ls.length) : roS (ls.take (i + 1)) = roS (ls.take i) ++ [.ro (ls[i].map (AV.int IntKind.i64))] := by
  rw [List.take_succ_eq_append_getElem h, roS, roS, List.map_append]; rfl
end Go.Proofs.Yteifhcohmipdcaa

/-
  THE GRAPH FUNCTIONS, 18: Components. Conditions: none. (Printed by w18.py.)
-/
namespace Go.Proofs.Yteifhcohmipdcaa
open Go.Abs
set_option linter.unusedSimpArgs false
set_option linter.unusedVariables false

set_option maxHeartbeats 1000000 in
theorem comps0 (g : Gr) : ACalls Try.prog 28 [encG g] AHeap.nil (fun r H => Frz H r (encS g.gcomps)) := by
  refine acalls_body TT_ok Try.func28 rfl rfl (by simp [Try.ntmps28]) ?_
  rw [Try.ntmps28]
  obtain ⟨σ, hσ⟩ : ∃ σ, σ = st0 [encG g] := ⟨_, rfl⟩
  rw [← hσ]
  have h0_0 := congrFun hσ 0
  simp [st0] at h0_0
  clear hσ
  obtain ⟨H, hH⟩ : ∃ H, H = AHeap.nil := ⟨_, rfl⟩
  rw [← hH]
  have hn_0 : H.n = 0 := by rw [hH]; rfl
  have hst_0 : H.st = 1 := by rw [hH]; rfl
  clear hH
  refine stp_reg TT_ok (by rfl) fun K hK => ?_
  simp [h0_0, hn_0, hst_0, encG]
  try refine And.intro (by first | omega | rfl) ?_
  refine hK _ _ fun σ1 hσ H1 hH => ?_
  clear hK K
  have h1_1 := congrFun hσ 1
  simp [] at h1_1
  clear hσ
  have g0_1 := gt_of hH 0
  simp [hn_0, hst_0] at g0_1
  have hn_1 := congrArg AHeap.n hH
  simp [hn_0, hst_0] at hn_1
  have hst_1 := congrArg AHeap.st hH
  simp [hn_0, hst_0] at hst_1
  clear hH
  refine awp_seq ?_
  refine stp_reg TT_ok (by rfl) fun K hK => ?_
  simp [h1_1, g0_1, encG]
  try refine And.intro (by first | omega | rfl) ?_
  refine stp_call (valid_ok g) ?_
  simp [h1_1, g0_1, encG]
  try refine And.intro (by first | omega | rfl) ?_
  refine hK _ _ fun σ2 hσ H2 hH => ?_
  clear hK K
  have h1_2 := congrFun hσ 1
  have h10_2 := congrFun hσ 10
  simp [h1_1] at h1_2 h10_2
  clear hσ
  replace hH : H1 = H2 := Eq.symm hH
  subst hH
  refine awp_cond _ (by simp only [aeval_tmp]; exact h10_2) (fun hc10 => ?_) (fun hc10 => ?_)
  · try simp at hc10
    refine stp_reg TT_ok (by rfl) fun K hK => ?_
    simp [g0_1, encG]
    try refine And.intro (by first | omega | rfl) ?_
    refine hK _ _ fun σ3 hσ H3 hH => ?_
    clear hK K
    have h2_3 := congrFun hσ 2
    simp [] at h2_3
    clear hσ
    replace hH : H1 = H3 := Eq.symm hH
    subst hH
    refine awp_ret ?_
    refine q_seq_ret ?_
    refine q_fin1 h2_3 ?_
    rw [show g.gcomps = [] by simp [Gr.gcomps, hc10]]; exact .nils
  · try simp at hc10
    have hv : g.valid = true := by simpa using hc10
    obtain ⟨hb1, hb2⟩ := valid_nodes hv
    have hcf := comps_few hv
    have hcc : g.cedges.length = g.comps.length := by rw [cedges_len, comps_len]
    have hol := order_len g
    refine awp_skip ?_
    refine q_seq ?_
    refine stp_reg TT_ok (by rfl) fun K hK => ?_
    simp [h1_2, g0_1, encG]
    try refine And.intro (by first | omega | rfl) ?_
    refine stp_call (condensed_ok g hv) ?_
    simp [h1_2, g0_1, encG]
    try refine And.intro (by first | omega | rfl) ?_
    refine hK _ _ fun σ4 hσ H4 hH => ?_
    clear hK K
    have h3_4 := congrFun hσ 3
    have h4_4 := congrFun hσ 4
    simp [] at h3_4 h4_4
    clear hσ
    replace hH : H1 = H4 := Eq.symm hH
    subst hH
    refine stp_reg TT_ok (by rfl) fun K hK => ?_
    simp [g0_1, encG]
    try refine And.intro (by first | omega | rfl) ?_
    refine hK _ _ fun σ5 hσ H5 hH => ?_
    clear hK K
    have h3_5 := congrFun hσ 3
    have h4_5 := congrFun hσ 4
    have h5_5 := congrFun hσ 5
    simp [h3_4, h4_4] at h3_5 h4_5 h5_5
    clear hσ
    replace hH : H1 = H5 := Eq.symm hH
    subst hH
    refine awp_seq ?_
    refine stp_reg TT_ok (by rfl) fun K hK => ?_
    simp [h4_5, g0_1, encG, show listedL g.cedges g.cedges.length = g.order from rfl]
    try refine And.intro (by first | omega | rfl) ?_
    refine stp_call (listed_ok g.cedges (by omega) (cedges_ok hv)) ?_
    simp [h4_5, g0_1, encG, show listedL g.cedges g.cedges.length = g.order from rfl]
    try refine And.intro (by first | omega | rfl) ?_
    refine hK _ _ fun σ6 hσ H6 hH => ?_
    clear hK K
    have h3_6 := congrFun hσ 3
    have h5_6 := congrFun hσ 5
    have h17_6 := congrFun hσ 17
    have h18_6 := congrFun hσ 18
    have h19_6 := congrFun hσ 19
    simp [h3_5, h5_5] at h3_6 h5_6 h17_6 h18_6 h19_6
    clear hσ
    replace hH : H1 = H6 := Eq.symm hH
    subst hH
    refine awp_block ?_
    refine awp_loopV (fun n σ' H' => ∃ (i : Nat) (v : AV), n = g.order.length - i ∧ σ' 3 = σ6 3 ∧ σ' 5 = v ∧ σ' 17 = σ6 17 ∧ σ' 18 = σ6 18 ∧ σ' 19 = (AV.int IntKind.i64) i ∧ H'.st = H1.st ∧ (i ≤ g.order.length) ∧ (OwnR 26 1 1 (roS (g.gcomps.take i)) v H')) ?_ ?_
    · refine ⟨_, 0, .nils, rfl, rfl, (by simp [h5_6]), rfl, rfl, (by simp [h19_6]), rfl, ?_, ?_⟩
      · first | omega | (simp; done) | assumption
      · exact .inl ⟨rfl, rfl⟩
    · rintro n1 σ7 H7 ⟨i, v, hn1, q3_7, h5_7, q17_7, q18_7, h19_7, qst_7, p1, p2⟩
      have h3_7 := q3_7.trans h3_6
      have h17_7 := q17_7.trans h17_6
      have h18_7 := q18_7.trans h18_6
      have hst_7 := qst_7.trans hst_1
      have hgl : g.gcomps.length = g.order.length := by simp [Gr.gcomps, hv]
      refine stp_reg TT_ok (by rfl) fun K hK => ?_
      simp [h18_7, h19_7, encG]
      try refine And.intro (by first | omega | rfl) ?_
      refine hK _ _ fun σ8 hσ H8 hH => ?_
      clear hK K
      have h3_8 := congrFun hσ 3
      have h5_8 := congrFun hσ 5
      have h17_8 := congrFun hσ 17
      have h18_8 := congrFun hσ 18
      have h19_8 := congrFun hσ 19
      have h20_8 := congrFun hσ 20
      simp [h3_7, h5_7, h17_7, h18_7, h19_7] at h3_8 h5_8 h17_8 h18_8 h19_8 h20_8
      clear hσ
      replace hH : H7 = H8 := Eq.symm hH
      subst hH
      refine awp_seq ?_
      refine awp_cond _ (by simp only [aeval_tmp]; exact h20_8) (fun hc20 => ?_) (fun hc20 => ?_)
      · try simp at hc20
        have hlt : i < g.order.length := by simpa using hc20
        obtain ⟨k, hk⟩ : ∃ k, g.order[i] = k := ⟨_, rfl⟩
        obtain ⟨k1, k2⟩ := order_in g k (by rw [← hk]; exact List.getElem_mem hlt)
        have k3 : k.toNat < g.comps.length := by omega
        obtain ⟨lk, hlk⟩ : ∃ lk, g.comps[k.toNat] = lk := ⟨_, rfl⟩
        have hgi : g.gcomps[i] = lk := by simp [Gr.gcomps, hv, hk, k3, hlk]
        have hts := roS_take_succ (ls := g.gcomps) (i := i) (by omega)
        rw [hgi] at hts
        have htl : (roS (g.gcomps.take i)).length = i := by simp [roS]; omega
        refine awp_skip ?_
        refine q_seq ?_
        refine awp_seq ?_
        refine awp_block ?_
        refine stp_reg TT_ok (by rfl) fun K hK => ?_
        simp [h17_8, h19_8, encG, hlt, hk]
        try refine And.intro (by first | omega | rfl) ?_
        refine hK _ _ fun σ9 hσ H9 hH => ?_
        clear hK K
        have h3_9 := congrFun hσ 3
        have h5_9 := congrFun hσ 5
        have h7_9 := congrFun hσ 7
        have h17_9 := congrFun hσ 17
        have h18_9 := congrFun hσ 18
        have h19_9 := congrFun hσ 19
        simp [h3_8, h5_8, h17_8, h18_8, h19_8] at h3_9 h5_9 h7_9 h17_9 h18_9 h19_9
        clear hσ
        replace hH : H7 = H9 := Eq.symm hH
        subst hH
        rcases p2 with ⟨rfl, hnil⟩ | ⟨id, gn, rest, rfl, hb, hid⟩
        · skip
          refine awp_ok fun hok => ?_
          obtain ⟨m10, hn_m10⟩ : ∃ m, H7.n = m := ⟨_, rfl⟩
          have hf_m10_0 := hok.free 0
          simp [hn_m10, hst_7] at hf_m10_0
          have hf_m10_1 := hok.free 1
          simp [hn_m10, hst_7] at hf_m10_1
          refine stp_regl TT_ok (by rfl) fun K hK => ?_
          simp [h3_9, h5_9, h7_9, hn_m10, hst_7, encG, encS, k1, k2, k3, hlk]
          try refine And.intro (by first | omega | rfl) ?_
          refine hK _ _ fun σ11 hσ H11 hH => ?_
          clear hK K
          have h3_11 := congrFun hσ 3
          have h5_11 := congrFun hσ 5
          have h17_11 := congrFun hσ 17
          have h18_11 := congrFun hσ 18
          have h19_11 := congrFun hσ 19
          simp [h3_9, h17_9, h18_9, h19_9] at h3_11 h5_11 h17_11 h18_11 h19_11
          clear hσ
          have gm10_11 := gt_of hH m10
          have g_m10_1__11 := gt_of hH (m10 + 1)
          simp [hn_m10, hst_7] at gm10_11 g_m10_1__11
          have hst_11 := congrArg AHeap.st hH
          simp [hst_7] at hst_11
          clear hH
          refine q_block ?_
          refine q_seq ?_
          refine stp_regl TT_ok (by rfl) fun K hK => ?_
          simp [h19_11, gm10_11, g_m10_1__11, encG, wrap_ok (n := (i : Int) + 1) (by omega) (by omega)]
          try refine And.intro (by first | omega | rfl) ?_
          refine hK _ _ fun σ12 hσ H12 hH => ?_
          clear hK K
          have h3_12 := congrFun hσ 3
          have h5_12 := congrFun hσ 5
          have h17_12 := congrFun hσ 17
          have h18_12 := congrFun hσ 18
          have h19_12 := congrFun hσ 19
          simp [h3_11, h5_11, h17_11, h18_11] at h3_12 h5_12 h17_12 h18_12 h19_12
          clear hσ
          replace hH : H11 = H12 := Eq.symm hH
          subst hH
          refine ⟨_, ?_, i + 1, .sl (m10 + 1) 0 0 1, rfl, (h3_12.trans h3_6.symm), (by simp [h5_12]), (h17_12.trans h17_6.symm), (h18_12.trans h18_6.symm), (by simp [h19_12]), (hst_11.trans hst_1.symm), ?_, ?_⟩
          · subst hn1; omega
          · first | omega | assumption | (simp; done)
          · rw [hts, hnil]
            exact OwnR.mk (rest := []) g_m10_1__11 (by simp) (by simp) (by omega)
        · skip
          refine awp_ok fun hok => ?_
          obtain ⟨m13, hn_m13⟩ : ∃ m, H7.n = m := ⟨_, rfl⟩
          have hf_m13_0 := hok.free 0
          simp [hn_m13, hst_7] at hf_m13_0
          have nx1 := ne_get hf_m13_0 hb
          refine stp_regl TT_ok (by rfl) fun K hK => ?_
          simp [h3_9, h5_9, h7_9, hb, hn_m13, hst_7, nx1, encG, encS, k1, k2, k3, hlk, htl, show i ≤ 9223372036854775806 by omega, show (i + 1) * 24 ≤ 140737488355328 by omega]
          try refine And.intro (by first | omega | rfl) ?_
          refine hK _ _ fun σ14 hσ H14 hH => ?_
          clear hK K
          have h3_14 := congrFun hσ 3
          have h5_14 := congrFun hσ 5
          have h17_14 := congrFun hσ 17
          have h18_14 := congrFun hσ 18
          have h19_14 := congrFun hσ 19
          simp [h3_9, h17_9, h18_9, h19_9] at h3_14 h5_14 h17_14 h18_14 h19_14
          clear hσ
          have gid_14 := gt_of hH id
          have gm13_14 := gt_of hH m13
          simp [hb, hn_m13, hst_7, nx1] at gid_14 gm13_14
          have hst_14 := congrArg AHeap.st hH
          simp [hst_7] at hst_14
          clear hH
          refine q_block ?_
          refine q_seq ?_
          refine stp_regl TT_ok (by rfl) fun K hK => ?_
          simp [h19_14, gid_14, gm13_14, nx1, encG, wrap_ok (n := (i : Int) + 1) (by omega) (by omega)]
          try refine And.intro (by first | omega | rfl) ?_
          refine hK _ _ fun σ15 hσ H15 hH => ?_
          clear hK K
          have h3_15 := congrFun hσ 3
          have h5_15 := congrFun hσ 5
          have h17_15 := congrFun hσ 17
          have h18_15 := congrFun hσ 18
          have h19_15 := congrFun hσ 19
          simp [h3_14, h5_14, h17_14, h18_14] at h3_15 h5_15 h17_15 h18_15 h19_15
          clear hσ
          replace hH : H14 = H15 := Eq.symm hH
          subst hH
          refine ⟨_, ?_, i + 1, .sl id (gn + 1) 0 (i + 1), rfl, (h3_15.trans h3_6.symm), (by simp [h5_15]), (h17_15.trans h17_6.symm), (h18_15.trans h18_6.symm), (by simp [h19_15]), (hst_14.trans hst_1.symm), ?_, ?_⟩
          · subst hn1; omega
          · first | omega | assumption | (simp; done)
          · rw [hts]
            exact OwnR.mk (rest := []) gid_14 (by simp [htl]) (by simp [htl]) (by omega)
      · try simp at hc20
        refine awp_exit ?_
        refine q_seq_exit ?_
        refine q_loop_exit ?_
        refine q_block_hit ?_
        refine q_seq ?_
        refine stp_reg TT_ok (by rfl) fun K hK => ?_
        simp [h5_8, encG]
        try refine And.intro (by first | omega | rfl) ?_
        refine hK _ _ fun σ16 hσ H16 hH => ?_
        clear hK K
        have h2_16 := congrFun hσ 2
        simp [] at h2_16
        clear hσ
        replace hH : H7 = H16 := Eq.symm hH
        subst hH
        refine awp_ret ?_
        have hie : i = g.order.length := by have := hc20; omega
        rw [hie, ← hgl, List.take_length] at p2
        refine q_fin1 h2_16 ?_
        exact frz_roS p2

theorem comps_ok (g : Gr) : Fun1 Try.prog 28 [encG g] (encS g.gcomps) := fun1_frz (comps0 g) (pu_cons (pu_graph g) pu_nil) (pu_encS _)

end Go.Proofs.Yteifhcohmipdcaa

/-
  THE GRAPH FUNCTIONS, plain law 16: levels, as the program counts them. Conditions: none.
-/
namespace Go.Proofs.Yteifhcohmipdcaa
open Go.Abs
set_option linter.unusedSimpArgs false
set_option linter.unusedVariables false
def lvIn (lev : List Int) (k : Int) (xs : List Int) : List Int := xs.foldl (fun lev x => lev.set k.toNat (max (gt lev k) (gt lev x + 1))) lev
def padL (out : List (List Int)) (m : Nat) : List (List Int) := out ++ List.replicate m []
def stepOut (cs : List (List Int)) (out : List (List Int)) (d : Nat) (k : Int) : List (List Int) :=
  (padL out (d + 1 - out.length)).set d ((padL out (d + 1 - out.length)).getD d [] ++ cs.getD k.toNat [])
def lvStep (ce cs : List (List Int)) (s : List Int × List (List Int)) (k : Int) : List Int × List (List Int) :=
  (lvIn s.1 k (ce.getD k.toNat []), stepOut cs s.2 (gt (lvIn s.1 k (ce.getD k.toNat [])) k).toNat k)
def lv2 (ce cs : List (List Int)) (l : List Int) : List Int × List (List Int) := l.foldl (lvStep ce cs) (List.replicate ce.length 0, [])
theorem lv2_succ {ce cs : List (List Int)} {l : List Int} {i : Nat} (h : i < l.length) : lv2 ce cs (l.take (i + 1)) = lvStep ce cs (lv2 ce cs (l.take i)) l[i] := by
  rw [List.take_succ_eq_append_getElem h, lv2, lv2, List.foldl_append]; rfl
theorem lvIn_succ {lev : List Int} {k : Int} {xs : List Int} {j : Nat} (h : j < xs.length) : lvIn lev k (xs.take (j + 1)) = (lvIn lev k (xs.take j)).set k.toNat (max (gt (lvIn lev k (xs.take j)) k) (gt (lvIn lev k (xs.take j)) xs[j] + 1)) := by
  rw [List.take_succ_eq_append_getElem h, lvIn, List.foldl_append]; rfl
def LvB (M b : Nat) (lev : List Int) : Prop := lev.length = M ∧ ∀ x, inR M x → 0 ≤ gt lev x ∧ gt lev x ≤ b
theorem LvB.set {M b : Nat} {lev : List Int} (h : LvB M b lev) {k x : Int} (hk : inR M k) (hx : inR M x) : LvB M (b + 1) (lev.set k.toNat (max (gt lev k) (gt lev x + 1))) := by
  refine ⟨by simpa using h.1, fun y hy => ?_⟩
  rw [gt_set (by rw [h.1]; exact hk) (by rw [h.1]; exact hy)]
  have h1 := h.2 k hk
  have h2 := h.2 x hx
  have h3 := h.2 y hy
  split
  · have := Int.max_def (gt lev k) (gt lev x + 1)
    split at this <;> omega
  · omega
def Gr.glevels (g : Gr) : List (List Int) := if g.valid = true then (lv2 g.cedges g.comps g.order).2.map sortI else []
theorem ite_max (a b : Int) : (if a < b then b else a) = max a b := by rw [Int.max_def]; split <;> split <;> omega
theorem stepOut_len {cs out : List (List Int)} {d : Nat} {k : Int} : (stepOut cs out d k).length = max out.length (d + 1) := by
  simp only [stepOut, padL, List.length_set, List.length_append, List.length_replicate]; omega
theorem comps_ne {g : Gr} : ∀ l ∈ g.comps, l ≠ [] := by
  intro l hl
  obtain ⟨r, hr, rfl⟩ := List.mem_map.1 hl
  have := reps_mem.1 hr
  have hm : (r : Int) ∈ g.mem g.nodes.length r := by
    simp only [Gr.mem, List.mem_map, List.mem_filter, List.mem_range, decide_eq_true_eq]
    exact ⟨r, this, rfl⟩
  exact List.ne_nil_of_mem hm
theorem comps_l {g : Gr} : ∀ l ∈ g.comps, l.length ≤ g.nodes.length := by
  intro l hl
  obtain ⟨r, hr, rfl⟩ := List.mem_map.1 hl
  exact mem_len _ _ _
theorem sort_row2 {l : List Int} (hl : l.length ≤ 100000000) {H : AHeap} {id e g n : Nat} {rest : List AV} (hb : H.get id = some (.row e 1 g (l.map (AV.int IntKind.i64) ++ rest))) (hn : n = l.length) {K : AV → AHeap → Prop}
    (hK : K (.tup []) (H.put id (.row e 1 g ((sortI l).map (AV.int IntKind.i64) ++ rest)))) : ACalls Try.prog 57 [.sl id g 0 n] H K :=
  ACalls.of_putRow (enc := Value.int .i64) (encA := (AV.int IntKind.i64)) (callable_of Try.func57 rfl rfl) (fun G w x c => vrel_int) (fun x => ⟨rfl, rfl⟩) (sortI_len l) (fun _ _ _ => .tuple #[]) (.tup []) (fun _ _ _ _ _ _ _ _ _ => .tup rfl (fun j v c hj => by simp at hj))
    (fun blk off cap w hH hblk _ => Try.slices_Sort_int blk off cap l w hH hblk (by omega)) hb hn hK
theorem RowsV.keepL {lo : Nat} {v : AV} {vs : List AV} {ls : List (List Int)} {H H' : AHeap} (h : RowsV lo v vs ls H) (hk : ∀ id, lo ≤ id → H.get id ≠ none → H'.get id = H.get id) : RowsV lo v vs ls H' := by
  refine ⟨h.rows.keep hk, ?_⟩
  rcases h.top with h1 | ⟨id, g, h1, hb, h2, h3⟩
  · exact .inl h1
  · exact .inr ⟨id, g, h1, by rw [hk id h2 (by rw [hb]; simp)]; exact hb, h2, h3⟩
theorem RowsV.own {lo : Nat} {v : AV} {vs : List AV} {ls : List (List Int)} {H : AHeap} (h : RowsV lo v vs ls H) (hp : 0 < vs.length) : ∃ iv gv : Nat, v = AV.sl iv gv 0 vs.length ∧ H.get iv = some (.row 26 1 gv vs) ∧ lo ≤ iv ∧ ∀ i x g' n : Nat, vs[i]? = some (AV.sl x g' 0 n) → x ≠ iv := by
  rcases h.top with ⟨_, e⟩ | h
  · rw [e] at hp; exact absurd hp (Nat.not_lt_zero _)
  · exact h
theorem padL_len (out : List (List Int)) (m : Nat) : (padL out m).length = out.length + m := by simp [padL]
theorem padL_succ (out : List (List Int)) (m : Nat) : padL out (m + 1) = padL out m ++ [[]] := by
  rw [padL, padL, List.append_assoc, ← List.replicate_succ']
theorem padL_mem {out : List (List Int)} {m : Nat} {l : List Int} (h : l ∈ padL out m) : l ∈ out ∨ l = [] := by
  rcases List.mem_append.1 h with h | h
  · exact .inl h
  · exact .inr (List.eq_of_mem_replicate h)
/-- Some rows sorted. -/
def srt (ls : List (List Int)) (i : Nat) : List (List Int) := (ls.take i).map sortI ++ ls.drop i
theorem srt_get {ls : List (List Int)} {i : Nat} (h : i < ls.length) : (srt ls i)[i]? = some ls[i] := by
  rw [srt, List.getElem?_append_right (by simp; omega)]
  simp [h, Nat.min_eq_left (Nat.le_of_lt h)]
theorem srt_succ {ls : List (List Int)} {i : Nat} (h : i < ls.length) : srt ls (i + 1) = (srt ls i).set i (sortI ls[i]) := by
  rw [srt, srt, List.take_succ_eq_append_getElem h, List.map_append, List.set_append_right _ _ (by simp; omega)]
  simp [Nat.min_eq_left (Nat.le_of_lt h)]
  rw [List.drop_eq_getElem_cons h]; rfl
theorem srt_len (ls : List (List Int)) (i : Nat) : (srt ls i).length = ls.length := by simp [srt]; omega
theorem srt_all (ls : List (List Int)) : srt ls ls.length = ls.map sortI := by simp [srt]
end Go.Proofs.Yteifhcohmipdcaa

/-
  THE GRAPH FUNCTIONS, 19: Levels. Conditions: none. (Printed by w19.py.)
-/
namespace Go.Proofs.Yteifhcohmipdcaa
open Go.Abs
set_option linter.unusedSimpArgs false
set_option linter.unusedVariables false

set_option maxHeartbeats 1000000 in
theorem levels0 (g : Gr) : ACalls Try.prog 30 [encG g] AHeap.nil (fun r H => Frz H r (encS g.glevels)) := by
  refine acalls_body TT_ok Try.func30 rfl rfl (by simp [Try.ntmps30]) ?_
  rw [Try.ntmps30]
  obtain ⟨σ, hσ⟩ : ∃ σ, σ = st0 [encG g] := ⟨_, rfl⟩
  rw [← hσ]
  have h0_0 := congrFun hσ 0
  simp [st0] at h0_0
  clear hσ
  obtain ⟨H, hH⟩ : ∃ H, H = AHeap.nil := ⟨_, rfl⟩
  rw [← hH]
  have hn_0 : H.n = 0 := by rw [hH]; rfl
  have hst_0 : H.st = 1 := by rw [hH]; rfl
  clear hH
  refine stp_reg TT_ok (by rfl) fun K hK => ?_
  simp [h0_0, hn_0, hst_0, encG]
  try refine And.intro (by first | omega | rfl) ?_
  refine hK _ _ fun σ1 hσ H1 hH => ?_
  clear hK K
  have h1_1 := congrFun hσ 1
  simp [] at h1_1
  clear hσ
  have g0_1 := gt_of hH 0
  simp [hn_0, hst_0] at g0_1
  have hn_1 := congrArg AHeap.n hH
  simp [hn_0, hst_0] at hn_1
  have hst_1 := congrArg AHeap.st hH
  simp [hn_0, hst_0] at hst_1
  clear hH
  refine awp_seq ?_
  refine stp_reg TT_ok (by rfl) fun K hK => ?_
  simp [h1_1, g0_1, encG]
  try refine And.intro (by first | omega | rfl) ?_
  refine stp_call (valid_ok g) ?_
  simp [h1_1, g0_1, encG]
  try refine And.intro (by first | omega | rfl) ?_
  refine hK _ _ fun σ2 hσ H2 hH => ?_
  clear hK K
  have h1_2 := congrFun hσ 1
  have h14_2 := congrFun hσ 14
  simp [h1_1] at h1_2 h14_2
  clear hσ
  replace hH : H1 = H2 := Eq.symm hH
  subst hH
  refine awp_cond _ (by simp only [aeval_tmp]; exact h14_2) (fun hc14 => ?_) (fun hc14 => ?_)
  · try simp at hc14
    refine stp_reg TT_ok (by rfl) fun K hK => ?_
    simp [g0_1, encG]
    try refine And.intro (by first | omega | rfl) ?_
    refine hK _ _ fun σ3 hσ H3 hH => ?_
    clear hK K
    have h2_3 := congrFun hσ 2
    simp [] at h2_3
    clear hσ
    replace hH : H1 = H3 := Eq.symm hH
    subst hH
    refine awp_ret ?_
    refine q_seq_ret ?_
    refine q_fin1 h2_3 ?_
    rw [show g.glevels = [] by simp [Gr.glevels, hc14]]; exact .nils
  · try simp at hc14
    have hv : g.valid = true := by simpa using hc14
    obtain ⟨hb1, hb2⟩ := valid_nodes hv
    have hcf := comps_few hv
    have hcc : g.cedges.length = g.comps.length := by rw [cedges_len, comps_len]
    have hol := order_len g
    refine awp_skip ?_
    refine q_seq ?_
    refine stp_reg TT_ok (by rfl) fun K hK => ?_
    simp [h1_2, g0_1, encG]
    try refine And.intro (by first | omega | rfl) ?_
    refine stp_call (condensed_ok g hv) ?_
    simp [h1_2, g0_1, encG]
    try refine And.intro (by first | omega | rfl) ?_
    refine hK _ _ fun σ4 hσ H4 hH => ?_
    clear hK K
    have h3_4 := congrFun hσ 3
    have h4_4 := congrFun hσ 4
    simp [] at h3_4 h4_4
    clear hσ
    replace hH : H1 = H4 := Eq.symm hH
    subst hH
    refine stp_reg TT_ok (by rfl) fun K hK => ?_
    simp [h4_4, g0_1, hn_1, hst_1, encG, encS, show (g.cedges.length : Int) ≤ 281474976710656 by omega, show (8 : Int) * (g.cedges.length : Int) ≤ 281474976710656 by omega]
    try refine And.intro (by first | omega | rfl) ?_
    refine hK _ _ fun σ5 hσ H5 hH => ?_
    clear hK K
    have h3_5 := congrFun hσ 3
    have h4_5 := congrFun hσ 4
    have h5_5 := congrFun hσ 5
    simp [h3_4, h4_4] at h3_5 h4_5 h5_5
    clear hσ
    have g0_5 := gt_of hH 0
    have g1_5 := gt_of hH 1
    simp [g0_1, hn_1, hst_1] at g0_5 g1_5
    have hn_5 := congrArg AHeap.n hH
    simp [hn_1, hst_1] at hn_5
    have hst_5 := congrArg AHeap.st hH
    simp [hn_1, hst_1] at hst_5
    clear hH
    refine stp_reg TT_ok (by rfl) fun K hK => ?_
    simp [g0_5, g1_5, encG]
    try refine And.intro (by first | omega | rfl) ?_
    refine hK _ _ fun σ6 hσ H6 hH => ?_
    clear hK K
    have h3_6 := congrFun hσ 3
    have h4_6 := congrFun hσ 4
    have h5_6 := congrFun hσ 5
    have h6_6 := congrFun hσ 6
    simp [h3_5, h4_5, h5_5] at h3_6 h4_6 h5_6 h6_6
    clear hσ
    replace hH : H5 = H6 := Eq.symm hH
    subst hH
    refine awp_seq ?_
    refine stp_reg TT_ok (by rfl) fun K hK => ?_
    simp [h4_6, g0_5, g1_5, encG, show listedL g.cedges g.cedges.length = g.order from rfl]
    try refine And.intro (by first | omega | rfl) ?_
    refine stp_call (listed_ok g.cedges (by omega) (cedges_ok hv)) ?_
    simp [h4_6, g0_5, g1_5, encG, show listedL g.cedges g.cedges.length = g.order from rfl]
    try refine And.intro (by first | omega | rfl) ?_
    refine hK _ _ fun σ7 hσ H7 hH => ?_
    clear hK K
    have h3_7 := congrFun hσ 3
    have h4_7 := congrFun hσ 4
    have h5_7 := congrFun hσ 5
    have h6_7 := congrFun hσ 6
    have h24_7 := congrFun hσ 24
    have h25_7 := congrFun hσ 25
    have h26_7 := congrFun hσ 26
    simp [h3_6, h4_6, h5_6, h6_6] at h3_7 h4_7 h5_7 h6_7 h24_7 h25_7 h26_7
    clear hσ
    replace hH : H5 = H7 := Eq.symm hH
    subst hH
    refine awp_block ?_
    refine awp_loopV (fun n σ' H' => ∃ (i : Nat) (v : AV) (vs : List AV) (lev : List Int) (ou : List (List Int)), n = g.order.length - i ∧ σ' 3 = σ7 3 ∧ σ' 4 = σ7 4 ∧ σ' 5 = σ7 5 ∧ σ' 6 = v ∧ σ' 24 = σ7 24 ∧ σ' 25 = σ7 25 ∧ σ' 26 = (AV.int IntKind.i64) i ∧ H'.get 1 = some (.row 3 1 0 (lev.map (AV.int IntKind.i64))) ∧ H'.st = H5.st ∧ (i ≤ g.order.length) ∧ (lv2 g.cedges g.comps (g.order.take i) = (lev, ou)) ∧ (LvB g.cedges.length (100000 * i) lev) ∧ (∀ l ∈ ou, l.length ≤ 1024 * i) ∧ (RowsV 2 v vs ou H') ∧ (ou.length ≤ 100000 * i + 1)) ?_ ?_
    · refine ⟨_, 0, .nils, [], List.replicate g.cedges.length 0, [], rfl, rfl, rfl, rfl, (by simp [h6_7]), rfl, rfl, (by simp [h26_7]), (by simp [g1_5]), rfl, ?_, ?_, ?_, ?_, ?_, ?_⟩
      · first | omega | (simp; done) | assumption
      · rfl
      · exact ⟨by simp, fun x hx => by have := in_toNat hx; simp [gt, List.getElem?_replicate, this]⟩
      · simp
      · exact ⟨⟨by rfl, fun i v l h => by simp at h, fun i j id g n g' n' h => by simp at h⟩, .inl ⟨rfl, rfl⟩⟩
      · simp
    · rintro n1 σ8 H8 ⟨i, v, vs, lev, ou, hn1, q3_8, q4_8, q5_8, h6_8, q24_8, q25_8, h26_8, g1_8, qst_8, p1, p2, p3, p4, p5, p6⟩
      have h3_8 := q3_8.trans h3_7
      have h4_8 := q4_8.trans h4_7
      have h5_8 := q5_8.trans h5_7
      have h24_8 := q24_8.trans h24_7
      have h25_8 := q25_8.trans h25_7
      have hst_8 := qst_8.trans hst_5
      refine stp_reg TT_ok (by rfl) fun K hK => ?_
      simp [h25_8, h26_8, g1_8, encG]
      try refine And.intro (by first | omega | rfl) ?_
      refine hK _ _ fun σ9 hσ H9 hH => ?_
      clear hK K
      have h3_9 := congrFun hσ 3
      have h4_9 := congrFun hσ 4
      have h5_9 := congrFun hσ 5
      have h6_9 := congrFun hσ 6
      have h24_9 := congrFun hσ 24
      have h25_9 := congrFun hσ 25
      have h26_9 := congrFun hσ 26
      have h27_9 := congrFun hσ 27
      simp [h3_8, h4_8, h5_8, h6_8, h24_8, h25_8, h26_8] at h3_9 h4_9 h5_9 h6_9 h24_9 h25_9 h26_9 h27_9
      clear hσ
      replace hH : H8 = H9 := Eq.symm hH
      subst hH
      refine awp_seq ?_
      refine awp_cond _ (by simp only [aeval_tmp]; exact h27_9) (fun hc27 => ?_) (fun hc27 => ?_)
      · try simp at hc27
        have hlt : i < g.order.length := by simpa using hc27
        obtain ⟨k, hk⟩ : ∃ k, g.order[i] = k := ⟨_, rfl⟩
        have hkr := order_in g k (by rw [← hk]; exact List.getElem_mem hlt)
        have hkr2 : inR g.cedges.length k := by rw [hcc]; exact hkr
        obtain ⟨k1, k2⟩ := hkr
        have k3 : k.toNat < g.comps.length := by omega
        have k4 : k.toNat < g.cedges.length := by omega
        have k5 : k < g.cedges.length := by omega
        obtain ⟨lk, hlk⟩ : ∃ lk, g.comps[k.toNat] = lk := ⟨_, rfl⟩
        obtain ⟨xs, hxs⟩ : ∃ xs, g.cedges[k.toNat] = xs := ⟨_, rfl⟩
        obtain ⟨hx1, hx2⟩ := cedges_ok hv xs (by rw [← hxs]; exact List.getElem_mem k4)
        have hlv1 := p3.1
        refine awp_skip ?_
        refine q_seq ?_
        refine awp_seq ?_
        refine awp_block ?_
        refine stp_reg TT_ok (by rfl) fun K hK => ?_
        simp [h24_9, h26_9, g1_8, encG, hlt, hk]
        try refine And.intro (by first | omega | rfl) ?_
        refine hK _ _ fun σ10 hσ H10 hH => ?_
        clear hK K
        have h3_10 := congrFun hσ 3
        have h4_10 := congrFun hσ 4
        have h5_10 := congrFun hσ 5
        have h6_10 := congrFun hσ 6
        have h8_10 := congrFun hσ 8
        have h24_10 := congrFun hσ 24
        have h25_10 := congrFun hσ 25
        have h26_10 := congrFun hσ 26
        simp [h3_9, h4_9, h5_9, h6_9, h24_9, h25_9, h26_9] at h3_10 h4_10 h5_10 h6_10 h8_10 h24_10 h25_10 h26_10
        clear hσ
        replace hH : H8 = H10 := Eq.symm hH
        subst hH
        refine awp_seq ?_
        refine stp_reg TT_ok (by rfl) fun K hK => ?_
        simp [h4_10, h8_10, g1_8, encG, encS, k1, k5, k4, hxs]
        try refine And.intro (by first | omega | rfl) ?_
        refine hK _ _ fun σ11 hσ H11 hH => ?_
        clear hK K
        have h3_11 := congrFun hσ 3
        have h4_11 := congrFun hσ 4
        have h5_11 := congrFun hσ 5
        have h6_11 := congrFun hσ 6
        have h8_11 := congrFun hσ 8
        have h24_11 := congrFun hσ 24
        have h25_11 := congrFun hσ 25
        have h26_11 := congrFun hσ 26
        have h33_11 := congrFun hσ 33
        have h34_11 := congrFun hσ 34
        have h35_11 := congrFun hσ 35
        simp [h3_10, h4_10, h5_10, h6_10, h8_10, h24_10, h25_10, h26_10] at h3_11 h4_11 h5_11 h6_11 h8_11 h24_11 h25_11 h26_11 h33_11 h34_11 h35_11
        clear hσ
        replace hH : H8 = H11 := Eq.symm hH
        subst hH
        refine awp_block ?_
        refine awp_loopV (fun n σ' H' => ∃ (j : Nat) (lev2 : List Int), n = xs.length - j ∧ σ' 3 = σ11 3 ∧ σ' 4 = σ11 4 ∧ σ' 5 = σ11 5 ∧ σ' 6 = σ11 6 ∧ σ' 8 = σ11 8 ∧ σ' 24 = σ11 24 ∧ σ' 25 = σ11 25 ∧ σ' 26 = σ11 26 ∧ σ' 33 = σ11 33 ∧ σ' 34 = σ11 34 ∧ σ' 35 = (AV.int IntKind.i64) j ∧ H'.get 1 = some (.row 3 1 0 (lev2.map (AV.int IntKind.i64))) ∧ H'.st = H8.st ∧ (j ≤ xs.length) ∧ (lev2 = lvIn lev k (xs.take j)) ∧ (LvB g.cedges.length (100000 * i + j) lev2) ∧ (RowsV 2 v vs ou H')) ?_ ?_
        · refine ⟨_, 0, lev, rfl, rfl, rfl, rfl, rfl, rfl, rfl, rfl, rfl, rfl, rfl, (by simp [h35_11]), (by simp [g1_8]), rfl, ?_, ?_, ?_, ?_⟩
          · first | omega | (simp; done) | assumption
          · rfl
          · exact p3
          · exact p5
        · rintro n2 σ12 H12 ⟨j, lev2, hn2, q3_12, q4_12, q5_12, q6_12, q8_12, q24_12, q25_12, q26_12, q33_12, q34_12, h35_12, g1_12, qst_12, q1, q2, q3, q4⟩
          have h3_12 := q3_12.trans h3_11
          have h4_12 := q4_12.trans h4_11
          have h5_12 := q5_12.trans h5_11
          have h6_12 := q6_12.trans h6_11
          have h8_12 := q8_12.trans h8_11
          have h24_12 := q24_12.trans h24_11
          have h25_12 := q25_12.trans h25_11
          have h26_12 := q26_12.trans h26_11
          have h33_12 := q33_12.trans h33_11
          have h34_12 := q34_12.trans h34_11
          have hst_12 := qst_12.trans hst_8
          have hl2 := q3.1
          refine stp_reg TT_ok (by rfl) fun K hK => ?_
          simp [h34_12, h35_12, g1_12, encG]
          try refine And.intro (by first | omega | rfl) ?_
          refine hK _ _ fun σ13 hσ H13 hH => ?_
          clear hK K
          have h3_13 := congrFun hσ 3
          have h4_13 := congrFun hσ 4
          have h5_13 := congrFun hσ 5
          have h6_13 := congrFun hσ 6
          have h8_13 := congrFun hσ 8
          have h24_13 := congrFun hσ 24
          have h25_13 := congrFun hσ 25
          have h26_13 := congrFun hσ 26
          have h33_13 := congrFun hσ 33
          have h34_13 := congrFun hσ 34
          have h35_13 := congrFun hσ 35
          have h36_13 := congrFun hσ 36
          simp [h3_12, h4_12, h5_12, h6_12, h8_12, h24_12, h25_12, h26_12, h33_12, h34_12, h35_12] at h3_13 h4_13 h5_13 h6_13 h8_13 h24_13 h25_13 h26_13 h33_13 h34_13 h35_13 h36_13
          clear hσ
          replace hH : H12 = H13 := Eq.symm hH
          subst hH
          refine awp_seq ?_
          refine awp_cond _ (by simp only [aeval_tmp]; exact h36_13) (fun hc36 => ?_) (fun hc36 => ?_)
          · try simp at hc36
            have hlt2 : j < xs.length := by simpa using hc36
            obtain ⟨x, hx⟩ : ∃ x, xs[j] = x := ⟨_, rfl⟩
            have hxr := hx2 x (by rw [← hx]; exact List.getElem_mem hlt2)
            obtain ⟨x1, x2⟩ := hxr
            have x3 : x.toNat < lev2.length := by omega
            have x4 : k.toNat < lev2.length := by omega
            obtain ⟨b1, b2⟩ := q3.2 x ⟨x1, x2⟩
            have hset := q3.set hkr2 ⟨x1, x2⟩
            refine awp_skip ?_
            refine q_seq ?_
            refine awp_seq ?_
            refine awp_block ?_
            refine stp_reg TT_ok (by rfl) fun K hK => ?_
            simp [h33_13, h35_13, g1_12, encG, hlt2, hx]
            try refine And.intro (by first | omega | rfl) ?_
            refine hK _ _ fun σ14 hσ H14 hH => ?_
            clear hK K
            have h3_14 := congrFun hσ 3
            have h4_14 := congrFun hσ 4
            have h5_14 := congrFun hσ 5
            have h6_14 := congrFun hσ 6
            have h8_14 := congrFun hσ 8
            have h10_14 := congrFun hσ 10
            have h24_14 := congrFun hσ 24
            have h25_14 := congrFun hσ 25
            have h26_14 := congrFun hσ 26
            have h33_14 := congrFun hσ 33
            have h34_14 := congrFun hσ 34
            have h35_14 := congrFun hσ 35
            simp [h3_13, h4_13, h5_13, h6_13, h8_13, h24_13, h25_13, h26_13, h33_13, h34_13, h35_13] at h3_14 h4_14 h5_14 h6_14 h8_14 h10_14 h24_14 h25_14 h26_14 h33_14 h34_14 h35_14
            clear hσ
            replace hH : H12 = H14 := Eq.symm hH
            subst hH
            refine stp_lexl false TT_ok mixed (by rfl) (by rfl) (by kernel_rfl) (by rfl) fun U hU K hK => ?_
            simp [h5_14, h8_14, h10_14, g1_12, encG, k1, k5, k4, x1, x2, hl2, gt_elem x3, gt_elem x4, show x.toNat < g.cedges.length by omega, wrap_ok (n := gt lev2 x + 1) (by omega) (by omega)]
            try refine And.intro (by first | omega | rfl) ?_
            refine hK _ _ _ (by subst hU; kernel_rfl) fun σ15 hσ H15 hH => ?_
            clear hK K hU U
            have h3_15 := congrFun hσ 3
            have h4_15 := congrFun hσ 4
            have h5_15 := congrFun hσ 5
            have h6_15 := congrFun hσ 6
            have h8_15 := congrFun hσ 8
            have h24_15 := congrFun hσ 24
            have h25_15 := congrFun hσ 25
            have h26_15 := congrFun hσ 26
            have h33_15 := congrFun hσ 33
            have h34_15 := congrFun hσ 34
            have h35_15 := congrFun hσ 35
            simp [h3_14, h4_14, h5_14, h6_14, h8_14, h24_14, h25_14, h26_14, h33_14, h34_14, h35_14] at h3_15 h4_15 h5_15 h6_15 h8_15 h24_15 h25_15 h26_15 h33_15 h34_15 h35_15
            clear hσ
            have g1_15 := gt_of hH 1
            simp [g1_12, hst_12] at g1_15
            have hst_15 := congrArg AHeap.st hH
            simp [hst_12] at hst_15
            have ka : ∀ j, j ≠ 1 → H15.get j = H12.get j := fun j h1 => by rw [hH]; simp [h1]
            clear hH
            refine q_block ?_
            refine q_seq ?_
            refine stp_regl TT_ok (by rfl) fun K hK => ?_
            simp [h35_15, g1_15, encG, wrap_ok (n := (j : Int) + 1) (by omega) (by omega)]
            try refine And.intro (by first | omega | rfl) ?_
            refine hK _ _ fun σ16 hσ H16 hH => ?_
            clear hK K
            have h3_16 := congrFun hσ 3
            have h4_16 := congrFun hσ 4
            have h5_16 := congrFun hσ 5
            have h6_16 := congrFun hσ 6
            have h8_16 := congrFun hσ 8
            have h24_16 := congrFun hσ 24
            have h25_16 := congrFun hσ 25
            have h26_16 := congrFun hσ 26
            have h33_16 := congrFun hσ 33
            have h34_16 := congrFun hσ 34
            have h35_16 := congrFun hσ 35
            simp [h3_15, h4_15, h5_15, h6_15, h8_15, h24_15, h25_15, h26_15, h33_15, h34_15] at h3_16 h4_16 h5_16 h6_16 h8_16 h24_16 h25_16 h26_16 h33_16 h34_16 h35_16
            clear hσ
            replace hH : H15 = H16 := Eq.symm hH
            subst hH
            refine ⟨_, ?_, j + 1, lev2.set k.toNat (max (gt lev2 k) (gt lev2 x + 1)), rfl, (h3_16.trans h3_11.symm), (h4_16.trans h4_11.symm), (h5_16.trans h5_11.symm), (h6_16.trans h6_11.symm), (h8_16.trans h8_11.symm), (h24_16.trans h24_11.symm), (h25_16.trans h25_11.symm), (h26_16.trans h26_11.symm), (h33_16.trans h33_11.symm), (h34_16.trans h34_11.symm), (by simp [h35_16, ite_max]), (by simp [g1_15, ite_max]), (hst_15.trans hst_8.symm), ?_, ?_, ?_, ?_⟩
            · subst hn2; omega
            · first | omega | assumption | (simp; done)
            · rw [lvIn_succ hlt2, ← q2, hx]
            · exact hset
            · exact q4.keepL fun id h1 _ => ka id (by omega)
          · try simp at hc36
            have hje : j = xs.length := by have := hc36; omega
            subst hje
            rw [List.take_length] at q2
            obtain ⟨b1, b2⟩ := q3.2 k hkr2
            obtain ⟨d, hd⟩ : ∃ d : Nat, gt lev2 k = d := ⟨(gt lev2 k).toNat, by omega⟩
            rw [hd] at b1 b2
            have x4 : k.toNat < lev2.length := by omega
            have hge : lev2[k.toNat] = (d : Int) := by rw [gt_elem x4, hd]
            refine awp_exit ?_
            refine q_seq_exit ?_
            refine q_loop_exit ?_
            refine q_block_hit ?_
            refine q_seq ?_
            refine awp_seq ?_
            refine awp_block ?_
            refine awp_loopV (fun n σ' H' => ∃ (m : Nat) (v3 : AV) (vs3 : List AV), n = d + 1 - (ou.length + m) ∧ σ' 3 = σ13 3 ∧ σ' 4 = σ13 4 ∧ σ' 5 = σ13 5 ∧ σ' 6 = v3 ∧ σ' 8 = σ13 8 ∧ σ' 24 = σ13 24 ∧ σ' 25 = σ13 25 ∧ σ' 26 = σ13 26 ∧ H'.get 1 = H12.get 1 ∧ H'.st = H12.st ∧ (m = 0 ∨ ou.length + m ≤ d + 1) ∧ (RowsV 2 v3 vs3 (padL ou m) H')) ?_ ?_
            · refine ⟨_, 0, v, vs, rfl, rfl, rfl, rfl, (by simp [h6_13]), rfl, rfl, rfl, rfl, rfl, rfl, ?_, ?_⟩
              · first | omega | (simp; done) | assumption
              · simpa [padL] using q4
            · rintro n3 σ17 H17 ⟨m, v3, vs3, hn3, q3_17, q4_17, q5_17, h6_17, q8_17, q24_17, q25_17, q26_17, qg1_17, qst_17, r1, r2⟩
              have h3_17 := q3_17.trans h3_13
              have h4_17 := q4_17.trans h4_13
              have h5_17 := q5_17.trans h5_13
              have h8_17 := q8_17.trans h8_13
              have h24_17 := q24_17.trans h24_13
              have h25_17 := q25_17.trans h25_13
              have h26_17 := q26_17.trans h26_13
              have g1_17 := qg1_17.trans g1_12
              have hst_17 := qst_17.trans hst_12
              have hvl : vs3.length = ou.length + m := by rw [r2.rows.len, padL_len]
              refine awp_seq ?_
              refine stp_cut (fun σ' H' => σ' 3 = σ17 3 ∧ σ' 4 = σ17 4 ∧ σ' 5 = σ17 5 ∧ σ' 6 = σ17 6 ∧ σ' 8 = σ17 8 ∧ σ' 24 = σ17 24 ∧ σ' 25 = σ17 25 ∧ σ' 26 = σ17 26 ∧ σ' 59 = .bool (decide (vs3.length ≤ d)) ∧ H' = H17) ?_ ?_
              · skip
                rcases r2.top with ⟨rfl, hvs⟩ | ⟨iv, gv, rfl, hb, hlo, hne⟩
                · skip
                  refine stp_regl TT_ok (by rfl) fun K hK => ?_
                  simp [h5_17, h6_17, h8_17, g1_17, encG, k1, k5, k4, hl2, hge]
                  try refine And.intro (by first | omega | rfl) ?_
                  refine hK _ _ fun σ19 hσ H19 hH => ?_
                  clear hK K
                  have h3_19 := congrFun hσ 3
                  have h4_19 := congrFun hσ 4
                  have h5_19 := congrFun hσ 5
                  have h6_19 := congrFun hσ 6
                  have h8_19 := congrFun hσ 8
                  have h24_19 := congrFun hσ 24
                  have h25_19 := congrFun hσ 25
                  have h26_19 := congrFun hσ 26
                  have h59_19 := congrFun hσ 59
                  simp [h3_17, h4_17, h5_17, h6_17, h8_17, h24_17, h25_17, h26_17] at h3_19 h4_19 h5_19 h6_19 h8_19 h24_19 h25_19 h26_19 h59_19
                  clear hσ
                  replace hH : H17 = H19 := Eq.symm hH
                  subst hH
                  refine ⟨rfl, (h3_19.trans h3_17.symm), (h4_19.trans h4_17.symm), (h5_19.trans h5_17.symm), (h6_19.trans h6_17.symm), (h8_19.trans h8_17.symm), (h24_19.trans h24_17.symm), (h25_19.trans h25_17.symm), (h26_19.trans h26_17.symm), (by simp [h59_19, hvs]), rfl⟩
                · skip
                  have nx1 : ¬ iv = 1 ∧ ¬ 1 = iv := by omega
                  refine stp_regl TT_ok (by rfl) fun K hK => ?_
                  simp [h5_17, h6_17, h8_17, g1_17, hb, nx1, encG, k1, k5, k4, hl2, hge]
                  try refine And.intro (by first | omega | rfl) ?_
                  refine hK _ _ fun σ20 hσ H20 hH => ?_
                  clear hK K
                  have h3_20 := congrFun hσ 3
                  have h4_20 := congrFun hσ 4
                  have h5_20 := congrFun hσ 5
                  have h6_20 := congrFun hσ 6
                  have h8_20 := congrFun hσ 8
                  have h24_20 := congrFun hσ 24
                  have h25_20 := congrFun hσ 25
                  have h26_20 := congrFun hσ 26
                  have h59_20 := congrFun hσ 59
                  simp [h3_17, h4_17, h5_17, h6_17, h8_17, h24_17, h25_17, h26_17] at h3_20 h4_20 h5_20 h6_20 h8_20 h24_20 h25_20 h26_20 h59_20
                  clear hσ
                  replace hH : H17 = H20 := Eq.symm hH
                  subst hH
                  refine ⟨rfl, (h3_20.trans h3_17.symm), (h4_20.trans h4_17.symm), (h5_20.trans h5_17.symm), (h6_20.trans h6_17.symm), (h8_20.trans h8_17.symm), (h24_20.trans h24_17.symm), (h25_20.trans h25_17.symm), (h26_20.trans h26_17.symm), (by simp [h59_20]), rfl⟩
              · rintro σ18 H18 ⟨q3_18, q4_18, q5_18, q6_18, q8_18, q24_18, q25_18, q26_18, h59_18, hHq⟩
                replace hHq := hHq.symm
                subst hHq
                have h3_18 := q3_18.trans h3_17
                have h4_18 := q4_18.trans h4_17
                have h5_18 := q5_18.trans h5_17
                have h6_18 := q6_18.trans h6_17
                have h8_18 := q8_18.trans h8_17
                have h24_18 := q24_18.trans h24_17
                have h25_18 := q25_18.trans h25_17
                have h26_18 := q26_18.trans h26_17
                refine awp_cond _ (by simp only [aeval_tmp]; exact h59_18) (fun hc59 => ?_) (fun hc59 => ?_)
                · try simp at hc59
                  have hlt3 : vs3.length ≤ d := by simpa using hc59
                  refine awp_skip ?_
                  refine q_seq ?_
                  refine awp_block ?_
                  rcases r2.top with ⟨rfl, hvs⟩ | ⟨iv, gv, rfl, hb, hlo, hne⟩
                  · skip
                    refine awp_ok fun hok => ?_
                    obtain ⟨m21, hn_m21⟩ : ∃ m, H17.n = m := ⟨_, rfl⟩
                    have hf_m21_0 := hok.free 0
                    simp [hn_m21, hst_17] at hf_m21_0
                    have nx2 := ne_get hf_m21_0 g1_17
                    have hf_m21_1 := hok.free 1
                    simp [hn_m21, hst_17] at hf_m21_1
                    have nx3 := ne_get hf_m21_1 g1_17
                    have nx4 : ¬ m21 = 0 ∧ ¬ 0 = m21 := by omega
                    refine stp_regl TT_ok (by rfl) fun K hK => ?_
                    simp [h6_18, g1_17, hn_m21, hst_17, nx2, nx3, nx4, encG]
                    try refine And.intro (by first | omega | rfl) ?_
                    refine hK _ _ fun σ22 hσ H22 hH => ?_
                    clear hK K
                    have h3_22 := congrFun hσ 3
                    have h4_22 := congrFun hσ 4
                    have h5_22 := congrFun hσ 5
                    have h6_22 := congrFun hσ 6
                    have h8_22 := congrFun hσ 8
                    have h24_22 := congrFun hσ 24
                    have h25_22 := congrFun hσ 25
                    have h26_22 := congrFun hσ 26
                    simp [h3_18, h4_18, h5_18, h8_18, h24_18, h25_18, h26_18] at h3_22 h4_22 h5_22 h6_22 h8_22 h24_22 h25_22 h26_22
                    clear hσ
                    have g1_22 := gt_of hH 1
                    have gm21_22 := gt_of hH m21
                    have g_m21_1__22 := gt_of hH (m21 + 1)
                    simp [g1_17, hn_m21, hst_17, nx2, nx3, nx4] at g1_22 gm21_22 g_m21_1__22
                    have hst_22 := congrArg AHeap.st hH
                    simp [hst_17] at hst_22
                    have kb : ∀ j, H17.get j ≠ none → H22.get j = H17.get j := fun j hj => by
                      rw [hH]; have hjm : ¬ j = m21 := by { intro e; rw [e, hf_m21_0] at hj; exact hj rfl }
                      have hjn : ¬ j = (m21 + 1) := by { intro e; rw [e, hf_m21_1] at hj; exact hj rfl }
                      simp [hn_m21, hst_17, hjm, hjn]
                    clear hH
                    refine q_block ?_
                    refine ⟨_, ?_, m + 1, .sl (m21 + 1) 0 0 1, [.nils], rfl, (h3_22.trans h3_13.symm), (h4_22.trans h4_13.symm), (h5_22.trans h5_13.symm), (by simp [h6_22]), (h8_22.trans h8_13.symm), (h24_22.trans h24_13.symm), (h25_22.trans h25_13.symm), (h26_22.trans h26_13.symm), (g1_22.trans g1_12.symm), (hst_22.trans hst_12.symm), ?_, ?_⟩
                    · subst hn3; omega
                    · first | omega | assumption | (simp; done)
                    · subst hvs
                      rw [padL_succ]
                      exact r2.pushed (by rw [g_m21_1__22]; rfl) (by omega) (.inr rfl) fun j h5 hj h1 => kb j hj
                  · skip
                    have nx5 : ¬ iv = 1 ∧ ¬ 1 = iv := by omega
                    refine awp_ok fun hok => ?_
                    obtain ⟨m23, hn_m23⟩ : ∃ m, H17.n = m := ⟨_, rfl⟩
                    have hf_m23_0 := hok.free 0
                    simp [hn_m23, hst_17] at hf_m23_0
                    have nx6 := ne_get hf_m23_0 g1_17
                    have nx7 := ne_get hf_m23_0 hb
                    refine stp_regl TT_ok (by rfl) fun K hK => ?_
                    simp [h6_18, g1_17, hb, hn_m23, hst_17, nx5, nx6, nx7, encG, show vs3.length ≤ 9223372036854775806 by omega, show (vs3.length + 1) * 24 ≤ 140737488355328 by omega]
                    try refine And.intro (by first | omega | rfl) ?_
                    refine hK _ _ fun σ24 hσ H24 hH => ?_
                    clear hK K
                    have h3_24 := congrFun hσ 3
                    have h4_24 := congrFun hσ 4
                    have h5_24 := congrFun hσ 5
                    have h6_24 := congrFun hσ 6
                    have h8_24 := congrFun hσ 8
                    have h24_24 := congrFun hσ 24
                    have h25_24 := congrFun hσ 25
                    have h26_24 := congrFun hσ 26
                    simp [h3_18, h4_18, h5_18, h8_18, h24_18, h25_18, h26_18] at h3_24 h4_24 h5_24 h6_24 h8_24 h24_24 h25_24 h26_24
                    clear hσ
                    have g1_24 := gt_of hH 1
                    have giv_24 := gt_of hH iv
                    have gm23_24 := gt_of hH m23
                    simp [g1_17, hb, hn_m23, hst_17, nx5, nx6, nx7] at g1_24 giv_24 gm23_24
                    have hst_24 := congrArg AHeap.st hH
                    simp [hst_17] at hst_24
                    have kb : ∀ j, H17.get j ≠ none → j ≠ iv → H24.get j = H17.get j := fun j hj h1 => by
                      rw [hH]; have hjm : ¬ j = m23 := by { intro e; rw [e, hf_m23_0] at hj; exact hj rfl }
                      simp [hn_m23, hjm, h1]
                    clear hH
                    refine q_block ?_
                    refine ⟨_, ?_, m + 1, .sl iv (gv + 1) 0 (vs3.length + 1), vs3 ++ [.nils], rfl, (h3_24.trans h3_13.symm), (h4_24.trans h4_13.symm), (h5_24.trans h5_13.symm), (by simp [h6_24]), (h8_24.trans h8_13.symm), (h24_24.trans h24_13.symm), (h25_24.trans h25_13.symm), (h26_24.trans h26_13.symm), (g1_24.trans g1_12.symm), (hst_24.trans hst_12.symm), ?_, ?_⟩
                    · subst hn3; omega
                    · first | omega | assumption | (simp; done)
                    · rw [padL_succ]
                      exact r2.pushed (by rw [giv_24]) hlo (.inl ⟨_, rfl⟩) fun j h5 hj h1 => kb j hj h1
                · try simp at hc59
                  refine awp_exit ?_
                  refine q_seq_exit ?_
                  refine q_loop_exit ?_
                  refine q_block_hit ?_
                  refine q_seq ?_
                  have hlt4 : d < vs3.length := by have := hc59; omega
                  have hme : m = d + 1 - ou.length := by omega
                  have hlo_ : lv2 g.cedges g.comps (g.order.take (i + 1)) = (lev2, (padL ou m).set d ((padL ou m).getD d [] ++ lk)) := by
                    rw [lv2_succ hlt, p2, hk, lvStep]
                    have e1 : g.cedges.getD k.toNat [] = xs := by rw [List.getD_eq_getElem?_getD, List.getElem?_eq_getElem k4, hxs]; rfl
                    have e2 : g.comps.getD k.toNat [] = lk := by rw [List.getD_eq_getElem?_getD, List.getElem?_eq_getElem k3, hlk]; rfl
                    simp only [e1, ← q2, hd, Int.toNat_natCast, stepOut, e2, ← hme]
                  have hlk1 : lk ≠ [] := comps_ne lk (by rw [← hlk]; exact List.getElem_mem k3)
                  have hlk2 : lk.length ≤ 1024 := Nat.le_trans (comps_l lk (by rw [← hlk]; exact List.getElem_mem k3)) hb1
                  have hpd : d < (padL ou m).length := by rw [padL_len]; omega
                  obtain ⟨old, hold⟩ : ∃ old, (padL ou m)[d] = old := ⟨_, rfl⟩
                  have hold2 : (padL ou m)[d]? = some old := by rw [List.getElem?_eq_getElem hpd, hold]
                  rw [show (padL ou m).getD d [] = old by rw [List.getD_eq_getElem?_getD, hold2]; rfl] at hlo_
                  have hol2 : old.length ≤ 1024 * i := by
                    rcases padL_mem (List.mem_of_getElem? hold2) with h | h
                    · exact p4 old h
                    · rw [h]; simp
                  have hvk : vs3[d]? = some vs3[d] := List.getElem?_eq_getElem hlt4
                  have hok := r2.rows.own _ _ _ hvk hold2
                  obtain ⟨iv, gv, rfl, htop, hlo, hne⟩ := r2.own (by omega)
                  obtain ⟨lk0, lkr, hlk3⟩ : ∃ a b, lk = a :: b := by
                    cases lk with
                    | nil => exact absurd rfl hlk1
                    | cons a b => exact ⟨a, b, rfl⟩
                  have hlkl := congrArg List.length hlk3
                  rw [List.length_cons] at hlkl
                  rcases hok with ⟨hvn, hnil⟩ | ⟨id, gn, rest, hvn, hb, hid⟩
                  · skip
                    have nx8 : ¬ iv = 1 ∧ ¬ 1 = iv := by omega
                    refine awp_ok fun hok => ?_
                    obtain ⟨m25, hn_m25⟩ : ∃ m, H17.n = m := ⟨_, rfl⟩
                    have hf_m25_16 := hok.free 16
                    simp [hn_m25, hst_17] at hf_m25_16
                    have nx9 := ne_get hf_m25_16 g1_17
                    have nx10 := ne_get hf_m25_16 htop
                    refine stp_lexl true TT_ok mixed (by rfl) (by rfl) (by kernel_rfl) (by rfl) fun U hU K hK => ?_
                    simp [h3_18, h5_18, h6_18, h8_18, g1_17, htop, hn_m25, hst_17, nx8, nx9, nx10, encG, k1, k5, k4, k2, k3, hl2, hge, hlk, hlt4, hvn, encS, hlk1, show lk.length * 8 ≤ 140737488355328 by omega, show lk.length ≤ 9223372036854775807 by omega]
                    try refine And.intro (by first | omega | rfl) ?_
                    refine hK _ _ _ (by rw [hU.trans (by kernel_rfl : _ = [(0, 1), (0, 2), (1, 2), (0, 3), (0, 4), (0, 5), (1, 5), (2, 5), (3, 5), (4, 5), (0, 6), (1, 6), (2, 6), (3, 6), (4, 6), (5, 6), (0, 7), (1, 7), (2, 7), (3, 7), (4, 7), (5, 7), (6, 7), (0, 8), (1, 8), (2, 8), (3, 8), (4, 8), (5, 8), (0, 9), (1, 9), (2, 9), (3, 9), (4, 9), (5, 9), (0, 10), (1, 10), (2, 10), (3, 10), (4, 10), (0, 11), (1, 11), (2, 11), (3, 11), (4, 11), (0, 12), (1, 12), (2, 12), (3, 12), (4, 12), (5, 12), (6, 12), (7, 12), (8, 12), (9, 12), (10, 12), (11, 12), (0, 13), (1, 13), (2, 13), (3, 13), (4, 13), (5, 13), (6, 13), (7, 13), (8, 13), (9, 13), (10, 13), (11, 13), (12, 13), (0, 14), (1, 14), (2, 14), (3, 14), (4, 14), (5, 14), (6, 14), (7, 14), (8, 14), (9, 14), (10, 14), (11, 14), (0, 15), (1, 15), (2, 15), (3, 15), (4, 15), (5, 15), (6, 15), (7, 15), (8, 15), (9, 15), (10, 15), (11, 15), (0, 16), (1, 16), (2, 16), (3, 16), (4, 16)])]; simp [logOk, ftFree, h3_18, h5_18, h6_18, h8_18, g1_17, htop, hn_m25, hst_17, nx8, nx9, nx10, encG, k1, k5, k4, k2, k3, hl2, hge, hlk, hlt4, hvn, encS, hlk1, show lk.length * 8 ≤ 140737488355328 by omega, show lk.length ≤ 9223372036854775807 by omega]) fun σ26 hσ H26 hH => ?_
                    clear hK K hU U
                    have h3_26 := congrFun hσ 3
                    have h4_26 := congrFun hσ 4
                    have h5_26 := congrFun hσ 5
                    have h6_26 := congrFun hσ 6
                    have h24_26 := congrFun hσ 24
                    have h25_26 := congrFun hσ 25
                    have h26_26 := congrFun hσ 26
                    simp [h3_18, h4_18, h5_18, h6_18, h24_18, h25_18, h26_18] at h3_26 h4_26 h5_26 h6_26 h24_26 h25_26 h26_26
                    clear hσ
                    have g1_26 := gt_of hH 1
                    have giv_26 := gt_of hH iv
                    have g_m25_16__26 := gt_of hH (m25 + 16)
                    simp [g1_17, htop, hn_m25, hst_17, nx8, nx9, nx10] at g1_26 giv_26 g_m25_16__26
                    have hst_26 := congrArg AHeap.st hH
                    simp [hst_17] at hst_26
                    have kb : ∀ j, H17.get j ≠ none → j ≠ iv → H26.get j = H17.get j := fun j hj h1 => by
                      rw [hH]; have hjn : ¬ j = (m25 + 16) := by { intro e; rw [e, hf_m25_16] at hj; exact hj rfl }
                      simp [hn_m25, hjn, h1]
                    clear hH
                    refine q_block ?_
                    refine q_seq ?_
                    refine stp_regl TT_ok (by rfl) fun K hK => ?_
                    simp [h26_26, g1_26, giv_26, g_m25_16__26, nx8, nx9, nx10, encG, wrap_ok (n := (i : Int) + 1) (by omega) (by omega)]
                    try refine And.intro (by first | omega | rfl) ?_
                    refine hK _ _ fun σ27 hσ H27 hH => ?_
                    clear hK K
                    have h3_27 := congrFun hσ 3
                    have h4_27 := congrFun hσ 4
                    have h5_27 := congrFun hσ 5
                    have h6_27 := congrFun hσ 6
                    have h24_27 := congrFun hσ 24
                    have h25_27 := congrFun hσ 25
                    have h26_27 := congrFun hσ 26
                    simp [h3_26, h4_26, h5_26, h6_26, h24_26, h25_26] at h3_27 h4_27 h5_27 h6_27 h24_27 h25_27 h26_27
                    clear hσ
                    replace hH : H26 = H27 := Eq.symm hH
                    subst hH
                    have hdl : ((padL ou m).set d (old ++ lk)).length ≤ 100000 * (i + 1) + 1 := by rw [List.length_set, padL_len]; omega
                    have hdm : ∀ l ∈ (padL ou m).set d (old ++ lk), l.length ≤ 1024 * (i + 1) := fun l hl => by
                      rcases List.mem_or_eq_of_mem_set hl with h | h
                      · rcases padL_mem h with h | h
                        · have := p4 l h; omega
                        · rw [h]; simp
                      · rw [h, List.length_append]; omega
                    have hlb : LvB g.cedges.length (100000 * (i + 1)) lev2 := ⟨q3.1, fun y hy => by have := q3.2 y hy; omega⟩
                    refine ⟨_, ?_, i + 1, .sl iv gv 0 vs3.length, vs3.set d (.sl (m25 + 16) 0 0 lk.length), lev2, (padL ou m).set d (old ++ lk), rfl, (h3_27.trans h3_7.symm), (h4_27.trans h4_7.symm), (h5_27.trans h5_7.symm), (by simp [h6_27]), (h24_27.trans h24_7.symm), (h25_27.trans h25_7.symm), (by simp [h26_27]), (by simp [g1_26]), (hst_26.trans hst_5.symm), ?_, ?_, ?_, ?_, ?_, ?_⟩
                    · subst hn1; omega
                    · first | omega | assumption | (simp; done)
                    · exact hlo_
                    · exact hlb
                    · exact hdm
                    · have hnil2 : old = [] := List.map_eq_nil_iff.1 hnil
                      refine r2.setR (by rw [giv_26]) (OwnR.mk (rest := []) g_m25_16__26 (by simp [hnil2]) (by simp [hnil2]) (by omega)) (fun g' n' e => by cases e; omega) fun j id g' n' hj hvj => ?_
                      obtain ⟨u1, u2⟩ := r2.rows.used hvj
                      refine ⟨kb id u1 (hne _ _ _ _ hvj), fun g'' n'' e => ?_⟩
                      cases e; exact u1 hf_m25_16
                    · exact hdl
                  · skip
                    rw [hvn] at hvk
                    have hiv : ¬ id = iv := hne _ _ _ _ hvk
                    have nx11 : ¬ iv = 1 ∧ ¬ 1 = iv := by omega
                    have nx12 : ¬ id = 1 ∧ ¬ 1 = id := by omega
                    refine stp_lexl true TT_ok mixed (by rfl) (by rfl) (by kernel_rfl) (by rfl) fun U hU K hK => ?_
                    simp [h3_18, h5_18, h6_18, h8_18, g1_17, htop, hb, hst_17, hiv, Ne.symm hiv, nx11, nx12, encG, k1, k5, k4, k2, k3, hl2, hge, hlk, hlt4, hvn, encS, hlk1, show (old.length + lk.length) * 8 ≤ 140737488355328 by omega, show old.length + lk.length ≤ 9223372036854775807 by omega, take_map_len]
                    try refine And.intro (by first | omega | rfl) ?_
                    refine hK _ _ _ (by rw [hU.trans (by kernel_rfl : _ = [(0, 1), (0, 2), (1, 2), (0, 3), (0, 4), (0, 5), (1, 5), (2, 5), (3, 5), (4, 5), (0, 6), (1, 6), (2, 6), (3, 6), (4, 6), (5, 6), (0, 7), (1, 7), (2, 7), (3, 7), (4, 7), (5, 7), (6, 7), (0, 8), (1, 8), (2, 8), (3, 8), (4, 8), (5, 8), (0, 9), (1, 9), (2, 9), (3, 9), (4, 9), (5, 9), (0, 10), (1, 10), (2, 10), (3, 10), (4, 10), (0, 11), (1, 11), (2, 11), (3, 11), (4, 11), (0, 12), (1, 12), (2, 12), (3, 12), (4, 12), (5, 12), (6, 12), (7, 12), (8, 12), (9, 12), (10, 12), (11, 12), (0, 13), (1, 13), (2, 13), (3, 13), (4, 13), (5, 13), (6, 13), (7, 13), (8, 13), (9, 13), (10, 13), (11, 13), (12, 13), (0, 14), (1, 14), (2, 14), (3, 14), (4, 14), (5, 14), (6, 14), (7, 14), (8, 14), (9, 14), (10, 14), (11, 14), (0, 15), (1, 15), (2, 15), (3, 15), (4, 15), (5, 15), (6, 15), (7, 15), (8, 15), (9, 15), (10, 15), (11, 15), (0, 16), (1, 16), (2, 16), (3, 16), (4, 16)])]; simp [logOk, ftFree, h3_18, h5_18, h6_18, h8_18, g1_17, htop, hb, hst_17, hiv, Ne.symm hiv, nx11, nx12, encG, k1, k5, k4, k2, k3, hl2, hge, hlk, hlt4, hvn, encS, hlk1, show (old.length + lk.length) * 8 ≤ 140737488355328 by omega, show old.length + lk.length ≤ 9223372036854775807 by omega, take_map_len]) fun σ28 hσ H28 hH => ?_
                    clear hK K hU U
                    have h3_28 := congrFun hσ 3
                    have h4_28 := congrFun hσ 4
                    have h5_28 := congrFun hσ 5
                    have h6_28 := congrFun hσ 6
                    have h24_28 := congrFun hσ 24
                    have h25_28 := congrFun hσ 25
                    have h26_28 := congrFun hσ 26
                    simp [h3_18, h4_18, h5_18, h6_18, h24_18, h25_18, h26_18] at h3_28 h4_28 h5_28 h6_28 h24_28 h25_28 h26_28
                    clear hσ
                    have g1_28 := gt_of hH 1
                    have giv_28 := gt_of hH iv
                    have gid_28 := gt_of hH id
                    simp [g1_17, htop, hb, hst_17, hiv, Ne.symm hiv, nx11, nx12] at g1_28 giv_28 gid_28
                    have hst_28 := congrArg AHeap.st hH
                    simp [hst_17] at hst_28
                    have kb : ∀ j, H17.get j ≠ none → j ≠ iv → j ≠ id → H28.get j = H17.get j := fun j hj h1 h2 => by
                      rw [hH]; simp [h1, h2]
                    clear hH
                    refine q_block ?_
                    refine q_seq ?_
                    refine stp_regl TT_ok (by rfl) fun K hK => ?_
                    simp [h26_28, g1_28, giv_28, gid_28, hiv, Ne.symm hiv, nx11, nx12, encG, wrap_ok (n := (i : Int) + 1) (by omega) (by omega)]
                    try refine And.intro (by first | omega | rfl) ?_
                    refine hK _ _ fun σ29 hσ H29 hH => ?_
                    clear hK K
                    have h3_29 := congrFun hσ 3
                    have h4_29 := congrFun hσ 4
                    have h5_29 := congrFun hσ 5
                    have h6_29 := congrFun hσ 6
                    have h24_29 := congrFun hσ 24
                    have h25_29 := congrFun hσ 25
                    have h26_29 := congrFun hσ 26
                    simp [h3_28, h4_28, h5_28, h6_28, h24_28, h25_28] at h3_29 h4_29 h5_29 h6_29 h24_29 h25_29 h26_29
                    clear hσ
                    replace hH : H28 = H29 := Eq.symm hH
                    subst hH
                    have hdl : ((padL ou m).set d (old ++ lk)).length ≤ 100000 * (i + 1) + 1 := by rw [List.length_set, padL_len]; omega
                    have hdm : ∀ l ∈ (padL ou m).set d (old ++ lk), l.length ≤ 1024 * (i + 1) := fun l hl => by
                      rcases List.mem_or_eq_of_mem_set hl with h | h
                      · rcases padL_mem h with h | h
                        · have := p4 l h; omega
                        · rw [h]; simp
                      · rw [h, List.length_append]; omega
                    have hlb : LvB g.cedges.length (100000 * (i + 1)) lev2 := ⟨q3.1, fun y hy => by have := q3.2 y hy; omega⟩
                    refine ⟨_, ?_, i + 1, .sl iv gv 0 vs3.length, vs3.set d (.sl id (gn + 1) 0 (old.length + lk.length)), lev2, (padL ou m).set d (old ++ lk), rfl, (h3_29.trans h3_7.symm), (h4_29.trans h4_7.symm), (h5_29.trans h5_7.symm), (by simp [h6_29]), (h24_29.trans h24_7.symm), (h25_29.trans h25_7.symm), (by simp [h26_29]), (by simp [g1_28]), (hst_28.trans hst_5.symm), ?_, ?_, ?_, ?_, ?_, ?_⟩
                    · subst hn1; omega
                    · first | omega | assumption | (simp; done)
                    · exact hlo_
                    · exact hlb
                    · exact hdm
                    · refine r2.setR (by rw [giv_28]) (OwnR.mk (rest := []) gid_28 (by simp) (by simp) (by omega)) (fun g' n' e => by cases e; exact hiv rfl) fun j id' g' n' hj hvj => ?_
                      obtain ⟨u1, u2⟩ := r2.rows.used hvj
                      have u4 : id' ≠ id := fun e => hj (by subst e; exact r2.rows.ne _ _ _ _ _ _ _ hvj hvk)
                      refine ⟨kb id' u1 (hne _ _ _ _ hvj) u4, fun g'' n'' e => ?_⟩
                      cases e; exact u4 rfl
                    · exact hdl
      · try simp at hc27
        have hie : i = g.order.length := by have := hc27; omega
        subst hie
        rw [List.take_length] at p2
        have hgl : g.glevels = ou.map sortI := by simp only [Gr.glevels, hv, if_true, p2]
        have hvl : vs.length = ou.length := p5.rows.len
        refine awp_exit ?_
        refine q_seq_exit ?_
        refine q_loop_exit ?_
        refine q_block_hit ?_
        refine q_seq ?_
        refine awp_seq ?_
        refine stp_cut (fun σ' H' => σ' 6 = σ9 6 ∧ σ' 83 = (AV.int IntKind.i64) vs.length ∧ σ' 84 = (AV.int IntKind.i64) 0 ∧ H' = H8) ?_ ?_
        · skip
          rcases p5.top with ⟨rfl, hvs⟩ | ⟨iv, gv, rfl, hb, hlo, hne⟩
          · skip
            refine stp_regl TT_ok (by rfl) fun K hK => ?_
            simp [h6_9, g1_8, encG]
            try refine And.intro (by first | omega | rfl) ?_
            refine hK _ _ fun σ31 hσ H31 hH => ?_
            clear hK K
            have h6_31 := congrFun hσ 6
            have h83_31 := congrFun hσ 83
            have h84_31 := congrFun hσ 84
            simp [h6_9] at h6_31 h83_31 h84_31
            clear hσ
            replace hH : H8 = H31 := Eq.symm hH
            subst hH
            refine ⟨rfl, (h6_31.trans h6_9.symm), (by simp [h83_31, hvs]), (by simp [h84_31, hvs]), rfl⟩
          · skip
            have nx13 : ¬ iv = 1 ∧ ¬ 1 = iv := by omega
            refine stp_regl TT_ok (by rfl) fun K hK => ?_
            simp [h6_9, g1_8, hb, nx13, encG]
            try refine And.intro (by first | omega | rfl) ?_
            refine hK _ _ fun σ32 hσ H32 hH => ?_
            clear hK K
            have h6_32 := congrFun hσ 6
            have h83_32 := congrFun hσ 83
            have h84_32 := congrFun hσ 84
            simp [h6_9] at h6_32 h83_32 h84_32
            clear hσ
            replace hH : H8 = H32 := Eq.symm hH
            subst hH
            refine ⟨rfl, (h6_32.trans h6_9.symm), (by simp [h83_32]), (by simp [h84_32]), rfl⟩
        · rintro σ30 H30 ⟨q6_30, h83_30, h84_30, hHq⟩
          replace hHq := hHq.symm
          subst hHq
          have h6_30 := q6_30.trans h6_9
          refine awp_block ?_
          refine awp_loopV (fun n σ' H' => ∃ (t : Nat) (ws : List AV), n = ou.length - t ∧ σ' 6 = σ30 6 ∧ σ' 83 = σ30 83 ∧ σ' 84 = (AV.int IntKind.i64) t ∧ H'.get 1 = H8.get 1 ∧ H'.st = H8.st ∧ (t ≤ ou.length) ∧ (RowsV 2 v ws (srt ou t) H')) ?_ ?_
          · refine ⟨_, 0, vs, rfl, rfl, rfl, (by simp [h84_30]), rfl, rfl, ?_, ?_⟩
            · first | omega | (simp; done) | assumption
            · simpa [srt] using p5
          · rintro n4 σ33 H33 ⟨t, ws, hn4, q6_33, q83_33, h84_33, qg1_33, qst_33, s1, s2⟩
            have h6_33 := q6_33.trans h6_30
            have h83_33 := q83_33.trans h83_30
            have g1_33 := qg1_33.trans g1_8
            have hst_33 := qst_33.trans hst_8
            have hwl : ws.length = ou.length := by rw [s2.rows.len, srt_len]
            refine stp_reg TT_ok (by rfl) fun K hK => ?_
            simp [h83_33, h84_33, g1_33, encG]
            try refine And.intro (by first | omega | rfl) ?_
            refine hK _ _ fun σ34 hσ H34 hH => ?_
            clear hK K
            have h6_34 := congrFun hσ 6
            have h83_34 := congrFun hσ 83
            have h84_34 := congrFun hσ 84
            have h85_34 := congrFun hσ 85
            simp [h6_33, h83_33, h84_33] at h6_34 h83_34 h84_34 h85_34
            clear hσ
            replace hH : H33 = H34 := Eq.symm hH
            subst hH
            refine awp_seq ?_
            refine awp_cond _ (by simp only [aeval_tmp]; exact h85_34) (fun hc85 => ?_) (fun hc85 => ?_)
            · try simp at hc85
              have hlt : t < ou.length := by rw [← hvl]; simpa using hc85
              obtain ⟨row, hrow⟩ : ∃ row, ou[t] = row := ⟨_, rfl⟩
              have hrl := p4 row (by rw [← hrow]; exact List.getElem_mem hlt)
              have hog := order_len g
              have hlt2 : t < ws.length := by omega
              have hwk : ws[t]? = some ws[t] := List.getElem?_eq_getElem hlt2
              have hok := s2.rows.own _ _ _ hwk (srt_get hlt)
              rw [hrow] at hok
              have hss := srt_succ hlt
              rw [hrow] at hss
              refine awp_skip ?_
              refine q_seq ?_
              refine awp_seq ?_
              refine awp_block ?_
              refine stp_reg TT_ok (by rfl) fun K hK => ?_
              simp [h84_34, g1_33, encG]
              try refine And.intro (by first | omega | rfl) ?_
              refine hK _ _ fun σ35 hσ H35 hH => ?_
              clear hK K
              have h6_35 := congrFun hσ 6
              have h11_35 := congrFun hσ 11
              have h83_35 := congrFun hσ 83
              have h84_35 := congrFun hσ 84
              simp [h6_34, h83_34, h84_34] at h6_35 h11_35 h83_35 h84_35
              clear hσ
              replace hH : H33 = H35 := Eq.symm hH
              subst hH
              obtain ⟨iv, gv, rfl, htop, hlo, hne⟩ := s2.own (by omega)
              rcases hok with ⟨hwn, hnil⟩ | ⟨id, gn, rest, hwn, hb, hid⟩
              · skip
                rw [List.map_eq_nil_iff] at hnil
                have nx14 : ¬ iv = 1 ∧ ¬ 1 = iv := by omega
                refine stp_regl TT_ok (by rfl) fun K hK => ?_
                simp [h6_35, h11_35, g1_33, htop, nx14, encG, hwn, hlt2]
                try refine And.intro (by first | omega | rfl) ?_
                refine stp_call (sortNil_ok) ?_
                simp [h6_35, h11_35, g1_33, htop, nx14, encG, hwn, hlt2]
                try refine And.intro (by first | omega | rfl) ?_
                refine hK _ _ fun σ36 hσ H36 hH => ?_
                clear hK K
                have h6_36 := congrFun hσ 6
                have h83_36 := congrFun hσ 83
                have h84_36 := congrFun hσ 84
                simp [h6_35, h83_35, h84_35] at h6_36 h83_36 h84_36
                clear hσ
                replace hH : H33 = H36 := Eq.symm hH
                subst hH
                refine q_block ?_
                refine q_seq ?_
                refine stp_regl TT_ok (by rfl) fun K hK => ?_
                simp [h84_36, g1_33, htop, nx14, encG, wrap_ok (n := (t : Int) + 1) (by omega) (by omega)]
                try refine And.intro (by first | omega | rfl) ?_
                refine hK _ _ fun σ37 hσ H37 hH => ?_
                clear hK K
                have h6_37 := congrFun hσ 6
                have h83_37 := congrFun hσ 83
                have h84_37 := congrFun hσ 84
                simp [h6_36, h83_36] at h6_37 h83_37 h84_37
                clear hσ
                replace hH : H33 = H37 := Eq.symm hH
                subst hH
                refine ⟨_, ?_, t + 1, ws.set t .nils, rfl, (h6_37.trans h6_30.symm), (h83_37.trans h83_30.symm), (by simp [h84_37]), (g1_33.trans g1_8.symm), (hst_33.trans hst_8.symm), ?_, ?_⟩
                · subst hn4; omega
                · first | omega | assumption | (simp; done)
                · rw [hss, hnil, show sortI [] = [] by simp [sortI]]
                  have e : ws.set t .nils = ws := by rw [← hwn]; exact List.set_getElem_self hlt2
                  exact s2.setR (by rw [e]; exact htop) (.inl ⟨rfl, rfl⟩) (fun g' n' e2 => by cases e2) fun j id' g' n' hj hvj => ⟨rfl, fun _ _ e2 => by cases e2⟩
              · skip
                rw [hwn] at hwk
                rw [List.length_map] at hwn
                have hiv : ¬ id = iv := hne _ _ _ _ hwk
                have nx15 : ¬ iv = 1 ∧ ¬ 1 = iv := by omega
                have nx16 : ¬ id = 1 ∧ ¬ 1 = id := by omega
                refine stp_regl TT_ok (by rfl) fun K hK => ?_
                simp [h6_35, h11_35, g1_33, htop, hb, hiv, Ne.symm hiv, nx15, nx16, encG, hwn, hlt2]
                try refine And.intro (by first | omega | rfl) ?_
                refine sort_row2 (l := row) (by omega) hb rfl ?_
                simp [h6_35, h11_35, g1_33, htop, hb, hiv, Ne.symm hiv, nx15, nx16, encG, hwn, hlt2]
                try refine And.intro (by first | omega | rfl) ?_
                refine hK _ _ fun σ38 hσ H38 hH => ?_
                clear hK K
                have h6_38 := congrFun hσ 6
                have h83_38 := congrFun hσ 83
                have h84_38 := congrFun hσ 84
                simp [h6_35, h83_35, h84_35] at h6_38 h83_38 h84_38
                clear hσ
                have g1_38 := gt_of hH 1
                have giv_38 := gt_of hH iv
                have gid_38 := gt_of hH id
                simp [g1_33, htop, hb, hst_33, hiv, Ne.symm hiv, nx15, nx16] at g1_38 giv_38 gid_38
                have hst_38 := congrArg AHeap.st hH
                simp [hst_33] at hst_38
                have ka : ∀ j, j ≠ id → H38.get j = H33.get j := fun j h1 => by rw [hH]; simp [h1]
                clear hH
                refine q_block ?_
                refine q_seq ?_
                refine stp_regl TT_ok (by rfl) fun K hK => ?_
                simp [h84_38, g1_38, giv_38, gid_38, hiv, Ne.symm hiv, nx15, nx16, encG, wrap_ok (n := (t : Int) + 1) (by omega) (by omega)]
                try refine And.intro (by first | omega | rfl) ?_
                refine hK _ _ fun σ39 hσ H39 hH => ?_
                clear hK K
                have h6_39 := congrFun hσ 6
                have h83_39 := congrFun hσ 83
                have h84_39 := congrFun hσ 84
                simp [h6_38, h83_38] at h6_39 h83_39 h84_39
                clear hσ
                replace hH : H38 = H39 := Eq.symm hH
                subst hH
                refine ⟨_, ?_, t + 1, ws.set t (.sl id gn 0 row.length), rfl, (h6_39.trans h6_30.symm), (h83_39.trans h83_30.symm), (by simp [h84_39]), (g1_38.trans g1_8.symm), (hst_38.trans hst_8.symm), ?_, ?_⟩
                · subst hn4; omega
                · first | omega | assumption | (simp; done)
                · rw [hss]
                  have e : ws.set t (.sl id gn 0 row.length) = ws := by rw [← hwn]; exact List.set_getElem_self hlt2
                  refine s2.setR (by rw [e]; exact giv_38) (OwnR.mk (rest := rest) gid_38 rfl (by simp [sortI_len]) hid) (fun g' n' e2 => by cases e2; exact hiv rfl) fun j id' g' n' hj hvj => ?_
                  have u4 : id' ≠ id := fun e2 => hj (by subst e2; exact s2.rows.ne _ _ _ _ _ _ _ hvj hwk)
                  exact ⟨ka id' u4, fun g'' n'' e2 => by cases e2; exact u4 rfl⟩
            · try simp at hc85
              refine awp_exit ?_
              refine q_seq_exit ?_
              refine q_loop_exit ?_
              refine q_block_hit ?_
              refine q_seq ?_
              refine stp_reg TT_ok (by rfl) fun K hK => ?_
              simp [h6_34, g1_33, encG]
              try refine And.intro (by first | omega | rfl) ?_
              refine hK _ _ fun σ40 hσ H40 hH => ?_
              clear hK K
              have h2_40 := congrFun hσ 2
              simp [] at h2_40
              clear hσ
              replace hH : H33 = H40 := Eq.symm hH
              subst hH
              refine awp_ret ?_
              have hte : t = ou.length := by have := hc85; omega
              rw [hte, srt_all, ← hgl] at s2
              refine q_fin1 h2_40 ?_
              exact s2.frz

theorem levels_ok (g : Gr) : Fun1 Try.prog 30 [encG g] (encS g.glevels) := fun1_frz (levels0 g) (pu_cons (pu_graph g) pu_nil) (pu_encS _)

end Go.Proofs.Yteifhcohmipdcaa

/-
  THE GRAPH FUNCTIONS, plain law 17: the cycle, as the program looks for it. Conditions: none.
-/
namespace Go.Proofs.Yteifhcohmipdcaa
open Go.Abs
set_option linter.unusedSimpArgs false
set_option linter.unusedVariables false
def pstep (far : List Int) (s : Int × Int) (k : Int) : Int × Int := if 0 ≤ gt far k ∧ (s.1 < 0 ∨ gt far k < s.2) then (k, gt far k) else s
def pickC (far ks : List Int) : Int × Int := ks.foldl (pstep far) (-1, 0)
theorem pickC_snoc (far ks : List Int) (k : Int) : pickC far (ks ++ [k]) = pstep far (pickC far ks) k := by rw [pickC, List.foldl_append]; rfl
theorem pickC_ok (far ks : List Int) : pickC far ks = (-1, 0) ∨ ((pickC far ks).1 ∈ ks ∧ (pickC far ks).2 = gt far (pickC far ks).1 ∧ 0 ≤ (pickC far ks).2) := by
  suffices h : ∀ (ks pre : List Int) (s : Int × Int), (s = (-1, 0) ∨ (s.1 ∈ pre ∧ s.2 = gt far s.1 ∧ 0 ≤ s.2)) → (ks.foldl (pstep far) s = (-1, 0) ∨ ((ks.foldl (pstep far) s).1 ∈ pre ++ ks ∧ (ks.foldl (pstep far) s).2 = gt far (ks.foldl (pstep far) s).1 ∧ 0 ≤ (ks.foldl (pstep far) s).2)) by
    have := h ks [] (-1, 0) (.inl rfl)
    simpa [pickC] using this
  intro ks
  induction ks with
  | nil => intro pre s h; simpa using h
  | cons k ks ih =>
    intro pre s h
    have h2 : pstep far s k = (-1, 0) ∨ ((pstep far s k).1 ∈ pre ++ [k] ∧ (pstep far s k).2 = gt far (pstep far s k).1 ∧ 0 ≤ (pstep far s k).2) := by
      rw [pstep]
      split
      · rename_i hc; exact .inr ⟨by simp, rfl, hc.1⟩
      · rcases h with h | ⟨h1, h2, h3⟩
        · exact .inl h
        · exact .inr ⟨List.mem_append.2 (.inl h1), h2, h3⟩
    have := ih (pre ++ [k]) _ h2
    simpa using this
/-- One node's turn. -/
def Gr.cstep (g : Gr) (best : List Int) (f : Nat) : List Int :=
  if (pickC ((g.sub f).dist f) (geL f (g.succ f))).1 < 0 ∨ (best ≠ [] ∧ (pickC ((g.sub f).dist f) (geL f (g.succ f))).2 + 1 ≥ best.length) then best
  else (f : Int) :: (g.way ((g.sub f).dist f) (pickC ((g.sub f).dist f) (geL f (g.succ f))).2.toNat (pickC ((g.sub f).dist f) (geL f (g.succ f))).1).dropLast
def Gr.pcyc (g : Gr) (i : Nat) : List Int := (List.range i).foldl g.cstep []
def Gr.pcycle (g : Gr) : List Int := if g.valid = true then g.pcyc g.nodes.length else []
theorem pcyc_succ (g : Gr) (i : Nat) : g.pcyc (i + 1) = g.cstep (g.pcyc i) i := by rw [Gr.pcyc, List.range_succ, List.foldl_append]; rfl
theorem way_len (g : Gr) (d : List Int) : ∀ (k : Nat) (a : Int), (g.way d k a).length = k + 1
  | 0, a => rfl
  | k + 1, a => by rw [Gr.way, List.length_cons, way_len g d k]
def BestV (lo : Nat) (best : List Int) (v : AV) (H : AHeap) : Prop := (v = AV.nils ∧ best = []) ∨ (best ≠ [] ∧ ∃ id gn rest, v = AV.sl id gn 0 best.length ∧ H.get id = some (.row 3 1 gn (best.map (AV.int IntKind.i64) ++ rest)) ∧ lo ≤ id)
theorem BestV.keep {lo : Nat} {best : List Int} {v : AV} {H H' : AHeap} (h : BestV lo best v H) (hk : ∀ j, H.get j ≠ none → H'.get j = H.get j) : BestV lo best v H' := by
  rcases h with h | ⟨h0, id, gn, rest, h1, h2, h3⟩
  · exact .inl h
  · exact .inr ⟨h0, id, gn, rest, h1, by rw [hk id (by rw [h2]; simp)]; exact h2, h3⟩
theorem BestV.frz {lo : Nat} {best : List Int} {v : AV} {H : AHeap} (h : BestV lo best v H) : Frz H v (.ro (best.map (AV.int IntKind.i64))) := by
  refine OwnR.frz (e := 3) (sz := 1) (lo := lo) ?_ (fun _ => pu_of_ints) (fun _ => one_ints)
  rcases h with ⟨h1, h2⟩ | ⟨_, id, gn, rest, h1, h2, h3⟩
  · exact .inl ⟨h1, by rw [h2]; rfl⟩
  · exact .inr ⟨id, gn, rest, by rw [h1]; simp, h2, h3⟩
end Go.Proofs.Yteifhcohmipdcaa

/-
  THE GRAPH FUNCTIONS, 20: Cycle. Conditions: none. (Printed by w20.py.)
-/
namespace Go.Proofs.Yteifhcohmipdcaa
open Go.Abs
set_option linter.unusedSimpArgs false
set_option linter.unusedVariables false

set_option maxHeartbeats 1000000 in
theorem cycle0 (g : Gr) : ACalls Try.prog 21 [encG g] AHeap.nil (fun r H => BestV 0 g.pcycle r H) := by
  refine acalls_body TT_ok Try.func21 rfl rfl (by simp [Try.ntmps21]) ?_
  rw [Try.ntmps21]
  obtain ⟨σ, hσ⟩ : ∃ σ, σ = st0 [encG g] := ⟨_, rfl⟩
  rw [← hσ]
  have h0_0 := congrFun hσ 0
  simp [st0] at h0_0
  clear hσ
  obtain ⟨H, hH⟩ : ∃ H, H = AHeap.nil := ⟨_, rfl⟩
  rw [← hH]
  have hn_0 : H.n = 0 := by rw [hH]; rfl
  have hst_0 : H.st = 1 := by rw [hH]; rfl
  clear hH
  refine stp_reg TT_ok (by rfl) fun K hK => ?_
  simp [h0_0, hn_0, hst_0, encG]
  try refine And.intro (by first | omega | rfl) ?_
  refine hK _ _ fun σ1 hσ H1 hH => ?_
  clear hK K
  have h1_1 := congrFun hσ 1
  simp [] at h1_1
  clear hσ
  have g0_1 := gt_of hH 0
  simp [hn_0, hst_0] at g0_1
  have hn_1 := congrArg AHeap.n hH
  simp [hn_0, hst_0] at hn_1
  have hst_1 := congrArg AHeap.st hH
  simp [hn_0, hst_0] at hst_1
  clear hH
  refine awp_seq ?_
  refine stp_reg TT_ok (by rfl) fun K hK => ?_
  simp [h1_1, g0_1, encG]
  try refine And.intro (by first | omega | rfl) ?_
  refine stp_call (valid_ok g) ?_
  simp [h1_1, g0_1, encG]
  try refine And.intro (by first | omega | rfl) ?_
  refine hK _ _ fun σ2 hσ H2 hH => ?_
  clear hK K
  have h1_2 := congrFun hσ 1
  have h14_2 := congrFun hσ 14
  simp [h1_1] at h1_2 h14_2
  clear hσ
  replace hH : H1 = H2 := Eq.symm hH
  subst hH
  refine awp_cond _ (by simp only [aeval_tmp]; exact h14_2) (fun hc14 => ?_) (fun hc14 => ?_)
  · try simp at hc14
    refine stp_reg TT_ok (by rfl) fun K hK => ?_
    simp [g0_1, encG]
    try refine And.intro (by first | omega | rfl) ?_
    refine hK _ _ fun σ3 hσ H3 hH => ?_
    clear hK K
    have h2_3 := congrFun hσ 2
    simp [] at h2_3
    clear hσ
    replace hH : H1 = H3 := Eq.symm hH
    subst hH
    refine awp_ret ?_
    refine q_seq_ret ?_
    refine q_fin1 h2_3 ?_
    exact .inl ⟨rfl, by simp [Gr.pcycle, hc14]⟩
  · try simp at hc14
    have hv : g.valid = true := by simpa using hc14
    obtain ⟨hb1, hb2⟩ := valid_nodes hv
    have hsl : g.succs.length = g.nodes.length := by simp [Gr.succs]
    refine awp_skip ?_
    refine q_seq ?_
    refine stp_lex false TT_ok mixed (by rfl) (by rfl) (by kernel_rfl) (by rfl) fun U hU K hK => ?_
    simp [h1_2, g0_1, encG]
    try refine And.intro (by first | omega | rfl) ?_
    refine lex_call (succs_ok g hv) ?_
    simp [h1_2, g0_1, encG]
    try refine And.intro (by first | omega | rfl) ?_
    refine lex_call (reverse_ok g) ?_
    simp [h1_2, g0_1, encG]
    try refine And.intro (by first | omega | rfl) ?_
    refine lex_call (succs_ok g.rev (rev_valid hv)) ?_
    simp [h1_2, g0_1, encG]
    try refine And.intro (by first | omega | rfl) ?_
    refine hK _ _ _ (by subst hU; kernel_rfl) fun σ4 hσ H4 hH => ?_
    clear hK K hU U
    have h3_4 := congrFun hσ 3
    have h4_4 := congrFun hσ 4
    simp [] at h3_4 h4_4
    clear hσ
    replace hH : H1 = H4 := Eq.symm hH
    subst hH
    refine stp_reg TT_ok (by rfl) fun K hK => ?_
    simp [g0_1, encG]
    try refine And.intro (by first | omega | rfl) ?_
    refine hK _ _ fun σ5 hσ H5 hH => ?_
    clear hK K
    have h3_5 := congrFun hσ 3
    have h4_5 := congrFun hσ 4
    have h5_5 := congrFun hσ 5
    simp [h3_4, h4_4] at h3_5 h4_5 h5_5
    clear hσ
    replace hH : H1 = H5 := Eq.symm hH
    subst hH
    refine awp_seq ?_
    refine stp_reg TT_ok (by rfl) fun K hK => ?_
    simp [h3_5, g0_1, encG, encS, hsl]
    try refine And.intro (by first | omega | rfl) ?_
    refine hK _ _ fun σ6 hσ H6 hH => ?_
    clear hK K
    have h3_6 := congrFun hσ 3
    have h4_6 := congrFun hσ 4
    have h5_6 := congrFun hσ 5
    have h21_6 := congrFun hσ 21
    have h22_6 := congrFun hσ 22
    simp [h3_5, h4_5, h5_5] at h3_6 h4_6 h5_6 h21_6 h22_6
    clear hσ
    replace hH : H1 = H6 := Eq.symm hH
    subst hH
    refine awp_block ?_
    refine awp_loopV (fun n σ' H' => ∃ (f : Nat) (v : AV), n = g.nodes.length - f ∧ σ' 3 = σ6 3 ∧ σ' 4 = σ6 4 ∧ σ' 5 = v ∧ σ' 21 = σ6 21 ∧ σ' 22 = (AV.int IntKind.i64) f ∧ H'.st = H1.st ∧ (f ≤ g.nodes.length) ∧ (BestV 0 (g.pcyc f) v H')) ?_ ?_
    · refine ⟨_, 0, .nils, rfl, rfl, rfl, (by simp [h5_6]), rfl, (by simp [h22_6]), rfl, ?_, ?_⟩
      · first | omega | (simp; done) | assumption
      · exact .inl ⟨rfl, rfl⟩
    · rintro n1 σ7 H7 ⟨f, v, hn1, q3_7, q4_7, h5_7, q21_7, h22_7, qst_7, p1, p2⟩
      have h3_7 := q3_7.trans h3_6
      have h4_7 := q4_7.trans h4_6
      have h21_7 := q21_7.trans h21_6
      have hst_7 := qst_7.trans hst_1
      refine stp_reg TT_ok (by rfl) fun K hK => ?_
      simp [h21_7, h22_7, encG]
      try refine And.intro (by first | omega | rfl) ?_
      refine hK _ _ fun σ8 hσ H8 hH => ?_
      clear hK K
      have h3_8 := congrFun hσ 3
      have h4_8 := congrFun hσ 4
      have h5_8 := congrFun hσ 5
      have h21_8 := congrFun hσ 21
      have h22_8 := congrFun hσ 22
      have h23_8 := congrFun hσ 23
      simp [h3_7, h4_7, h5_7, h21_7, h22_7] at h3_8 h4_8 h5_8 h21_8 h22_8 h23_8
      clear hσ
      replace hH : H7 = H8 := Eq.symm hH
      subst hH
      refine awp_seq ?_
      refine awp_cond _ (by simp only [aeval_tmp]; exact h23_8) (fun hc23 => ?_) (fun hc23 => ?_)
      · try simp at hc23
        have hlt : f < g.nodes.length := by simpa using hc23
        have hfr : inR g.nodes.length (f : Int) := ⟨by omega, by omega⟩
        obtain ⟨Hc, hHc⟩ : ∃ Hc, Hc = H7 := ⟨_, rfl⟩
        have p2c := p2
        rw [← hHc] at p2c
        have k0 : ∀ j, Hc.get j ≠ none → H7.get j = Hc.get j := fun j _ => by rw [hHc]
        obtain ⟨best, hbest⟩ : ∃ best, g.pcyc f = best := ⟨_, rfl⟩
        rw [hbest] at p2c
        obtain ⟨far, hfar⟩ : ∃ far, (g.sub f).dist f = far := ⟨_, rfl⟩
        have hD := dist_sub hv (Int.le_refl (f : Int)) hfr
        rw [hfar] at hD
        have hdl := hD.len
        refine awp_skip ?_
        refine q_seq ?_
        refine awp_seq ?_
        refine awp_block ?_
        refine stp_reg TT_ok (by rfl) fun K hK => ?_
        simp [h22_8, encG]
        try refine And.intro (by first | omega | rfl) ?_
        refine hK _ _ fun σ9 hσ H9 hH => ?_
        clear hK K
        have h3_9 := congrFun hσ 3
        have h4_9 := congrFun hσ 4
        have h5_9 := congrFun hσ 5
        have h6_9 := congrFun hσ 6
        have h21_9 := congrFun hσ 21
        have h22_9 := congrFun hσ 22
        simp [h3_8, h4_8, h5_8, h21_8, h22_8] at h3_9 h4_9 h5_9 h6_9 h21_9 h22_9
        clear hσ
        replace hH : H7 = H9 := Eq.symm hH
        subst hH
        refine awp_ok fun hok => ?_
        obtain ⟨m10, hn_m10⟩ : ∃ m, H7.n = m := ⟨_, rfl⟩
        have hf_m10_0 := hok.free 0
        simp [hn_m10, hst_7] at hf_m10_0
        refine stp_reg TT_ok (by rfl) fun K hK => ?_
        simp [h4_9, h6_9, hn_m10, hst_7, encG, hfar]
        try refine And.intro (by first | omega | rfl) ?_
        refine stp_call (distances_ok g hv f f hfr (Int.le_refl _)) ?_
        simp [h4_9, h6_9, hn_m10, hst_7, encG, hfar]
        try refine And.intro (by first | omega | rfl) ?_
        refine hK _ _ fun σ11 hσ H11 hH => ?_
        clear hK K
        have h3_11 := congrFun hσ 3
        have h4_11 := congrFun hσ 4
        have h5_11 := congrFun hσ 5
        have h6_11 := congrFun hσ 6
        have h7_11 := congrFun hσ 7
        have h21_11 := congrFun hσ 21
        have h22_11 := congrFun hσ 22
        simp [h3_9, h4_9, h5_9, h6_9, h21_9, h22_9] at h3_11 h4_11 h5_11 h6_11 h7_11 h21_11 h22_11
        clear hσ
        have gm10_11 := gt_of hH m10
        simp [hn_m10, hst_7] at gm10_11
        have hst_11 := congrArg AHeap.st hH
        simp [hst_7] at hst_11
        have k1 : ∀ j, Hc.get j ≠ none → H11.get j = Hc.get j := fun j hj => by
          have hq := k0 j hj
          have hj0 : ¬ j = m10 := by { intro e; rw [← hq, e, hf_m10_0] at hj; exact hj rfl }
          rw [hH]; simp [hn_m10, hst_7, hj0]; exact hq
        have hz_k1_0 : Hc.get m10 = none := by
          cases hq : Hc.get m10 with
          | none => rfl
          | some b => have h5 := k0 m10 (by rw [hq]; simp); rw [hf_m10_0, hq] at h5; cases h5
        clear hH
        refine awp_ok fun hok => ?_
        obtain ⟨m12, hn_m12⟩ : ∃ m, H11.n = m := ⟨_, rfl⟩
        have hf_m12_0 := hok.free 0
        simp [hn_m12, hst_11] at hf_m12_0
        have nx1 := ne_get hf_m12_0 gm10_11
        have hf_m12_1 := hok.free 1
        simp [hn_m12, hst_11] at hf_m12_1
        have nx2 := ne_get hf_m12_1 gm10_11
        refine stp_reg TT_ok (by rfl) fun K hK => ?_
        simp [gm10_11, hn_m12, hst_11, nx1, nx2, encG]
        try refine And.intro (by first | omega | rfl) ?_
        refine hK _ _ fun σ13 hσ H13 hH => ?_
        clear hK K
        have h3_13 := congrFun hσ 3
        have h4_13 := congrFun hσ 4
        have h5_13 := congrFun hσ 5
        have h6_13 := congrFun hσ 6
        have h7_13 := congrFun hσ 7
        have h8_13 := congrFun hσ 8
        have h9_13 := congrFun hσ 9
        have h21_13 := congrFun hσ 21
        have h22_13 := congrFun hσ 22
        simp [h3_11, h4_11, h5_11, h6_11, h7_11, h21_11, h22_11] at h3_13 h4_13 h5_13 h6_13 h7_13 h8_13 h9_13 h21_13 h22_13
        clear hσ
        have gm10_13 := gt_of hH m10
        have gm12_13 := gt_of hH m12
        have g_m12_1__13 := gt_of hH (m12 + 1)
        simp [gm10_11, hn_m12, hst_11, nx1, nx2] at gm10_13 gm12_13 g_m12_1__13
        have hst_13 := congrArg AHeap.st hH
        simp [hst_11] at hst_13
        have k2 : ∀ j, Hc.get j ≠ none → H13.get j = Hc.get j := fun j hj => by
          have hq := k1 j hj
          have hj0 : ¬ j = m12 := by { intro e; rw [← hq, e, hf_m12_0] at hj; exact hj rfl }
          have hj1 : ¬ j = (m12 + 1) := by { intro e; rw [← hq, e, hf_m12_1] at hj; exact hj rfl }
          rw [hH]; simp [hn_m12, hst_11, hj0, hj1]; exact hq
        have hz_k2_0 : Hc.get m12 = none := by
          cases hq : Hc.get m12 with
          | none => rfl
          | some b => have h5 := k1 m12 (by rw [hq]; simp); rw [hf_m12_0, hq] at h5; cases h5
        have hz_k2_1 : Hc.get (m12 + 1) = none := by
          cases hq : Hc.get (m12 + 1) with
          | none => rfl
          | some b => have h5 := k1 (m12 + 1) (by rw [hq]; simp); rw [hf_m12_1, hq] at h5; cases h5
        clear hH
        refine awp_seq ?_
        refine stp_reg TT_ok (by rfl) fun K hK => ?_
        simp [h3_13, h6_13, gm10_13, gm12_13, g_m12_1__13, nx1, nx2, encG]
        try refine And.intro (by first | omega | rfl) ?_
        refine stp_call (of_ok g.succs f f) ?_
        simp [h3_13, h6_13, gm10_13, gm12_13, g_m12_1__13, nx1, nx2, encG]
        try refine And.intro (by first | omega | rfl) ?_
        refine hK _ _ fun σ14 hσ H14 hH => ?_
        clear hK K
        have h3_14 := congrFun hσ 3
        have h4_14 := congrFun hσ 4
        have h5_14 := congrFun hσ 5
        have h6_14 := congrFun hσ 6
        have h7_14 := congrFun hσ 7
        have h8_14 := congrFun hσ 8
        have h9_14 := congrFun hσ 9
        have h21_14 := congrFun hσ 21
        have h22_14 := congrFun hσ 22
        have h32_14 := congrFun hσ 32
        simp [h3_13, h4_13, h5_13, h6_13, h7_13, h8_13, h9_13, h21_13, h22_13] at h3_14 h4_14 h5_14 h6_14 h7_14 h8_14 h9_14 h21_14 h22_14 h32_14
        clear hσ
        replace hH : H13 = H14 := Eq.symm hH
        subst hH
        refine awp_block ?_
        refine awp_ok fun hok15 => ?_
        obtain ⟨k15, hn_k15⟩ : ∃ m, H13.n = m := ⟨_, rfl⟩
        have hf_k15 := hok15.now
        rw [hn_k15] at hf_k15
        have nx3 := ne_get hf_k15 gm10_13
        have nx4 := ne_get hf_k15 gm12_13
        have nx5 := ne_get hf_k15 g_m12_1__13
        refine stp_rangeOf k15 hn_k15 (by rw [aeval_tmp]; exact h32_14) (by decide) hfr.1 (show g.succs[((f : Nat) : Int).toNat]? = some (g.succ f) from succs_get hfr) (Nat.le_trans (succ_len _ _) (by omega)) (fun pre H' => ∃ (nx : Int) (ln : Int), H'.get m10 = H13.get m10 ∧ H'.get m12 = some (.row 3 1 0 [(AV.int IntKind.i64) nx]) ∧ H'.get (m12 + 1) = some (.row 3 1 0 [(AV.int IntKind.i64) ln]) ∧ H'.st = H13.st ∧ (pickC far pre = (nx, ln)) ∧ (∀ j, Hc.get j ≠ none → H'.get j = Hc.get j)) ?_ ?_ ?_
        · intro b15 H15 hH
          have hkeep : ∀ j, H13.get j ≠ none → H15.get j = H13.get j := fun j hj => by rw [hH, alloc_get, if_neg (fun e => hj (by rw [e]; exact hok15.now))]
          refine ⟨-1, 0, (by rw [hH]; simp [gm10_13, gm12_13, g_m12_1__13, hn_k15, hst_13, nx1, nx2, nx3, nx4, nx5]), (by rw [hH]; simp [gm10_13, gm12_13, g_m12_1__13, hn_k15, hst_13, nx1, nx2, nx3, nx4, nx5]), (by rw [hH]; simp [gm10_13, gm12_13, g_m12_1__13, hn_k15, hst_13, nx1, nx2, nx3, nx4, nx5]), (by rw [hH]; rfl), ?_, ?_⟩
          · rfl
          · exact fun j hj => by rw [hkeep j (by rw [k2 j hj]; exact hj), k2 j hj]
        · rintro busy rdy pre x H15 ⟨post, hpost⟩ ⟨nx, ln, qgm10_15, gm12_15, g_m12_1__15, qst_15, u1, u2⟩ hrdy_15 σ15 hσ
          have gm10_15 := qgm10_15.trans gm10_13
          have hst_15 := qst_15.trans hst_13
          have h7_15 := congrFun hσ 7
          simp [h7_14] at h7_15
          have h8_15 := congrFun hσ 8
          simp [h8_14] at h8_15
          have h9_15 := congrFun hσ 9
          simp [h9_14] at h9_15
          have h33_15 := congrFun hσ 33
          simp [] at h33_15
          clear hσ
          have hxm : x ∈ geL f (g.succ f) := by rw [hpost]; simp
          have hxs : x ∈ g.succ f ∧ (f : Int) ≤ x := by simpa [geL] using hxm
          obtain ⟨x1, x2⟩ := succ_in hv hxs.1
          have x3 : x.toNat < far.length := by omega
          have x4 : x.toNat < g.nodes.length := by omega
          have hcL : Hc.get k15 = none := by
            cases hq : Hc.get k15 with
            | none => rfl
            | some b => have := k2 k15 (by rw [hq]; simp); rw [hf_k15, hq] at this; cases this
          refine stp_regl TT_ok (by rfl) fun K hK => ?_
          simp [h33_15, gm10_15, gm12_15, g_m12_1__15, hrdy_15, nx1, nx2, nx3, nx4, nx5, encG]
          try refine And.intro (by first | omega | rfl) ?_
          refine hK _ _ fun σ16 hσ H16 hH => ?_
          clear hK K
          have h7_16 := congrFun hσ 7
          have h8_16 := congrFun hσ 8
          have h9_16 := congrFun hσ 9
          have h10_16 := congrFun hσ 10
          simp [h7_15, h8_15, h9_15] at h7_16 h8_16 h9_16 h10_16
          clear hσ
          replace hH : H15 = H16 := Eq.symm hH
          subst hH
          refine q_ra hrdy_15 fun H17 hH => ?_
          have hkeep : ∀ j, j ≠ k15 → H17.get j = H15.get j := fun j hj => by rw [hH, put_getH, if_neg hj]
          have gm10_18 := gt_of hH m10
          have gm12_18 := gt_of hH m12
          have g_m12_1__18 := gt_of hH (m12 + 1)
          have gk15_18 := gt_of hH k15
          simp [gm10_15, gm12_15, g_m12_1__15, hrdy_15, hst_15, nx1, nx2, nx3, nx4, nx5] at gm10_18 gm12_18 g_m12_1__18 gk15_18
          have hst_18 : H17.st = _ := (congrArg AHeap.st hH).trans hst_15
          have hka := hkeep
          clear hkeep hH
          refine awp_block ?_
          by_cases c1 : 0 ≤ gt far x
          · skip
            by_cases c2 : nx < 0
            · skip
              refine stp_lex false TT_ok mixed (by rfl) (by rfl) (by kernel_rfl) (by rfl) fun U hU K hK => ?_
              simp [h7_16, h8_16, h9_16, h10_16, gm10_18, gm12_18, g_m12_1__18, gk15_18, nx1, nx2, nx3, nx4, nx5, c1, c2, encG, x1, x2, x3, x4, hdl, gt_elem x3]
              try refine And.intro (by first | omega | rfl) ?_
              refine hK _ _ _ (by subst hU; kernel_rfl) fun σ19 hσ H19 hH => ?_
              clear hK K hU U
              have h7_19 := congrFun hσ 7
              have h8_19 := congrFun hσ 8
              have h9_19 := congrFun hσ 9
              have h10_19 := congrFun hσ 10
              have h50_19 := congrFun hσ 50
              simp [h7_16, h8_16, h9_16, h10_16] at h7_19 h8_19 h9_19 h10_19 h50_19
              clear hσ
              replace hH : H17 = H19 := Eq.symm hH
              subst hH
              refine stp_true (by simp [aeval_tmp, h50_19, nx1, nx2, nx3, nx4, nx5, c1, c2, encG]) ?_
              refine stp_lexl false TT_ok mixed (by rfl) (by rfl) (by kernel_rfl) (by rfl) fun U hU K hK => ?_
              simp [h7_19, h8_19, h9_19, h10_19, gm10_18, gm12_18, g_m12_1__18, gk15_18, nx1, nx2, nx3, nx4, nx5, c1, c2, encG, x1, x2, x3, x4, hdl, gt_elem x3]
              try refine And.intro (by first | omega | rfl) ?_
              refine hK _ _ _ (by rw [hU.trans (by kernel_rfl : _ = [(0, 1), (0, 2), (1, 2), (0, 3), (0, 4), (1, 5), (2, 5), (3, 5), (4, 5)])]; simp [logOk, ftFree, h7_19, h8_19, h9_19, h10_19, gm10_18, gm12_18, g_m12_1__18, gk15_18, nx1, nx2, nx3, nx4, nx5, c1, c2, encG, x1, x2, x3, x4, hdl, gt_elem x3]) fun σ20 hσ H20 hH => ?_
              clear hK K hU U
              clear hσ
              have gm10_20 := gt_of hH m10
              have gm12_20 := gt_of hH m12
              have g_m12_1__20 := gt_of hH (m12 + 1)
              have gk15_20 := gt_of hH k15
              simp [gm10_18, gm12_18, g_m12_1__18, gk15_18, hst_18, nx1, nx2, nx3, nx4, nx5, c1, c2] at gm10_20 gm12_20 g_m12_1__20 gk15_20
              have hst_20 := congrArg AHeap.st hH
              simp [hst_18] at hst_20
              have kb : ∀ j, j ≠ m12 → j ≠ m12 + 1 → H20.get j = H17.get j := fun j h1 h2 => by rw [hH]; simp [h1, h2]
              clear hH
              refine q_block ?_
              refine q_rb gk15_20 fun H21 hH => ?_
              have hkeep : ∀ j, j ≠ k15 → H21.get j = H20.get j := fun j hj => by rw [hH, put_getH, if_neg hj]
              refine ⟨x, gt far x, (by rw [hH]; simp [gm10_20, gm12_20, g_m12_1__20, gk15_20, hst_20, nx1, nx2, nx3, nx4, nx5, c1, c2, gm10_13]), (by rw [hH]; simp [gm10_20, gm12_20, g_m12_1__20, gk15_20, hst_20, nx1, nx2, nx3, nx4, nx5, c1, c2]), (by rw [hH]; simp [gm10_20, gm12_20, g_m12_1__20, gk15_20, hst_20, nx1, nx2, nx3, nx4, nx5, c1, c2]), ((congrArg AHeap.st hH).trans (hst_20.trans hst_13.symm)), ?_, ?_⟩
              · rw [pickC_snoc, u1, pstep, if_pos ⟨by assumption, by first | exact .inl ‹_› | exact .inr ‹_›⟩]
              · exact fun j hj => by
                  have hjl : j ≠ k15 := fun e => by subst e; exact hj hcL
                  have h1 : j ≠ m12 := fun e => by subst e; exact hj hz_k2_0
                  have h2 : j ≠ m12 + 1 := fun e => by subst e; exact hj hz_k2_1
                  rw [hkeep j hjl, kb j h1 h2, hka j hjl, u2 j hj]
            · skip
              by_cases c3 : gt far x < ln
              · skip
                refine stp_lex false TT_ok mixed (by rfl) (by rfl) (by kernel_rfl) (by rfl) fun U hU K hK => ?_
                simp [h7_16, h8_16, h9_16, h10_16, gm10_18, gm12_18, g_m12_1__18, gk15_18, nx1, nx2, nx3, nx4, nx5, c1, c2, c3, encG, x1, x2, x3, x4, hdl, gt_elem x3]
                try refine And.intro (by first | omega | rfl) ?_
                refine hK _ _ _ (by subst hU; kernel_rfl) fun σ22 hσ H22 hH => ?_
                clear hK K hU U
                have h7_22 := congrFun hσ 7
                have h8_22 := congrFun hσ 8
                have h9_22 := congrFun hσ 9
                have h10_22 := congrFun hσ 10
                have h50_22 := congrFun hσ 50
                simp [h7_16, h8_16, h9_16, h10_16] at h7_22 h8_22 h9_22 h10_22 h50_22
                clear hσ
                replace hH : H17 = H22 := Eq.symm hH
                subst hH
                refine stp_true (by simp [aeval_tmp, h50_22, nx1, nx2, nx3, nx4, nx5, c1, c2, c3, encG]) ?_
                refine stp_lexl false TT_ok mixed (by rfl) (by rfl) (by kernel_rfl) (by rfl) fun U hU K hK => ?_
                simp [h7_22, h8_22, h9_22, h10_22, gm10_18, gm12_18, g_m12_1__18, gk15_18, nx1, nx2, nx3, nx4, nx5, c1, c2, c3, encG, x1, x2, x3, x4, hdl, gt_elem x3]
                try refine And.intro (by first | omega | rfl) ?_
                refine hK _ _ _ (by rw [hU.trans (by kernel_rfl : _ = [(0, 1), (0, 2), (1, 2), (0, 3), (0, 4), (1, 5), (2, 5), (3, 5), (4, 5)])]; simp [logOk, ftFree, h7_22, h8_22, h9_22, h10_22, gm10_18, gm12_18, g_m12_1__18, gk15_18, nx1, nx2, nx3, nx4, nx5, c1, c2, c3, encG, x1, x2, x3, x4, hdl, gt_elem x3]) fun σ23 hσ H23 hH => ?_
                clear hK K hU U
                clear hσ
                have gm10_23 := gt_of hH m10
                have gm12_23 := gt_of hH m12
                have g_m12_1__23 := gt_of hH (m12 + 1)
                have gk15_23 := gt_of hH k15
                simp [gm10_18, gm12_18, g_m12_1__18, gk15_18, hst_18, nx1, nx2, nx3, nx4, nx5, c1, c2, c3] at gm10_23 gm12_23 g_m12_1__23 gk15_23
                have hst_23 := congrArg AHeap.st hH
                simp [hst_18] at hst_23
                have kb : ∀ j, j ≠ m12 → j ≠ m12 + 1 → H23.get j = H17.get j := fun j h1 h2 => by rw [hH]; simp [h1, h2]
                clear hH
                refine q_block ?_
                refine q_rb gk15_23 fun H24 hH => ?_
                have hkeep : ∀ j, j ≠ k15 → H24.get j = H23.get j := fun j hj => by rw [hH, put_getH, if_neg hj]
                refine ⟨x, gt far x, (by rw [hH]; simp [gm10_23, gm12_23, g_m12_1__23, gk15_23, hst_23, nx1, nx2, nx3, nx4, nx5, c1, c2, c3, gm10_13]), (by rw [hH]; simp [gm10_23, gm12_23, g_m12_1__23, gk15_23, hst_23, nx1, nx2, nx3, nx4, nx5, c1, c2, c3]), (by rw [hH]; simp [gm10_23, gm12_23, g_m12_1__23, gk15_23, hst_23, nx1, nx2, nx3, nx4, nx5, c1, c2, c3]), ((congrArg AHeap.st hH).trans (hst_23.trans hst_13.symm)), ?_, ?_⟩
                · rw [pickC_snoc, u1, pstep, if_pos ⟨by assumption, by first | exact .inl ‹_› | exact .inr ‹_›⟩]
                · exact fun j hj => by
                    have hjl : j ≠ k15 := fun e => by subst e; exact hj hcL
                    have h1 : j ≠ m12 := fun e => by subst e; exact hj hz_k2_0
                    have h2 : j ≠ m12 + 1 := fun e => by subst e; exact hj hz_k2_1
                    rw [hkeep j hjl, kb j h1 h2, hka j hjl, u2 j hj]
              · skip
                refine stp_lex false TT_ok mixed (by rfl) (by rfl) (by kernel_rfl) (by rfl) fun U hU K hK => ?_
                simp [h7_16, h8_16, h9_16, h10_16, gm10_18, gm12_18, g_m12_1__18, gk15_18, nx1, nx2, nx3, nx4, nx5, c1, c2, c3, encG, x1, x2, x3, x4, hdl, gt_elem x3]
                try refine And.intro (by first | omega | rfl) ?_
                refine hK _ _ _ (by subst hU; kernel_rfl) fun σ25 hσ H25 hH => ?_
                clear hK K hU U
                have h7_25 := congrFun hσ 7
                have h8_25 := congrFun hσ 8
                have h9_25 := congrFun hσ 9
                have h10_25 := congrFun hσ 10
                have h50_25 := congrFun hσ 50
                simp [h7_16, h8_16, h9_16, h10_16] at h7_25 h8_25 h9_25 h10_25 h50_25
                clear hσ
                replace hH : H17 = H25 := Eq.symm hH
                subst hH
                refine stp_false (by simp [aeval_tmp, h50_25, nx1, nx2, nx3, nx4, nx5, c1, c2, c3, encG]) ?_
                refine awp_skip ?_
                refine q_block ?_
                refine q_rb gk15_18 fun H26 hH => ?_
                have hkeep : ∀ j, j ≠ k15 → H26.get j = H17.get j := fun j hj => by rw [hH, put_getH, if_neg hj]
                refine ⟨nx, ln, (by rw [hH]; simp [gm10_18, gm12_18, g_m12_1__18, gk15_18, hst_18, nx1, nx2, nx3, nx4, nx5, c1, c2, c3, gm10_13]), (by rw [hH]; simp [gm10_18, gm12_18, g_m12_1__18, gk15_18, hst_18, nx1, nx2, nx3, nx4, nx5, c1, c2, c3]), (by rw [hH]; simp [gm10_18, gm12_18, g_m12_1__18, gk15_18, hst_18, nx1, nx2, nx3, nx4, nx5, c1, c2, c3]), ((congrArg AHeap.st hH).trans (hst_18.trans hst_13.symm)), ?_, ?_⟩
                · rw [pickC_snoc, u1, pstep, if_neg (by simp only [not_and, not_or]; intros; first | contradiction | exact ⟨by assumption, by assumption⟩ | omega)]
                · exact fun j hj => by
                    have hjl : j ≠ k15 := fun e => by subst e; exact hj hcL
                    rw [hkeep j hjl, hka j hjl, u2 j hj]
          · skip
            refine stp_lex false TT_ok mixed (by rfl) (by rfl) (by kernel_rfl) (by rfl) fun U hU K hK => ?_
            simp [h7_16, h8_16, h9_16, h10_16, gm10_18, gm12_18, g_m12_1__18, gk15_18, nx1, nx2, nx3, nx4, nx5, c1, encG, x1, x2, x3, x4, hdl, gt_elem x3]
            try refine And.intro (by first | omega | rfl) ?_
            refine hK _ _ _ (by subst hU; kernel_rfl) fun σ27 hσ H27 hH => ?_
            clear hK K hU U
            have h7_27 := congrFun hσ 7
            have h8_27 := congrFun hσ 8
            have h9_27 := congrFun hσ 9
            have h10_27 := congrFun hσ 10
            have h50_27 := congrFun hσ 50
            simp [h7_16, h8_16, h9_16, h10_16] at h7_27 h8_27 h9_27 h10_27 h50_27
            clear hσ
            replace hH : H17 = H27 := Eq.symm hH
            subst hH
            refine stp_false (by simp [aeval_tmp, h50_27, nx1, nx2, nx3, nx4, nx5, c1, encG]) ?_
            refine awp_skip ?_
            refine q_block ?_
            refine q_rb gk15_18 fun H28 hH => ?_
            have hkeep : ∀ j, j ≠ k15 → H28.get j = H17.get j := fun j hj => by rw [hH, put_getH, if_neg hj]
            refine ⟨nx, ln, (by rw [hH]; simp [gm10_18, gm12_18, g_m12_1__18, gk15_18, hst_18, nx1, nx2, nx3, nx4, nx5, c1, gm10_13]), (by rw [hH]; simp [gm10_18, gm12_18, g_m12_1__18, gk15_18, hst_18, nx1, nx2, nx3, nx4, nx5, c1]), (by rw [hH]; simp [gm10_18, gm12_18, g_m12_1__18, gk15_18, hst_18, nx1, nx2, nx3, nx4, nx5, c1]), ((congrArg AHeap.st hH).trans (hst_18.trans hst_13.symm)), ?_, ?_⟩
            · rw [pickC_snoc, u1, pstep, if_neg (by simp only [not_and, not_or]; intros; first | contradiction | exact ⟨by assumption, by assumption⟩ | omega)]
            · exact fun j hj => by
                have hjl : j ≠ k15 := fun e => by subst e; exact hj hcL
                rw [hkeep j hjl, hka j hjl, u2 j hj]
        · rintro rdy b15 H15 ⟨nx, ln, qgm10_15, gm12_15, g_m12_1__15, qst_15, u1, u2⟩ hrdy_15 Hd15 hH
          have gm10_15 := qgm10_15.trans gm10_13
          have hst_15 := qst_15.trans hst_13
          have hkeep : ∀ j, j ≠ k15 → Hd15.get j = H15.get j := fun j hj => by rw [hH, put_getH, if_neg hj]
          have gm10_29 := gt_of hH m10
          have gm12_29 := gt_of hH m12
          have g_m12_1__29 := gt_of hH (m12 + 1)
          simp [gm10_15, gm12_15, g_m12_1__15, hst_15, nx1, nx2, nx3, nx4, nx5] at gm10_29 gm12_29 g_m12_1__29
          have hst_29 : Hd15.st = _ := (congrArg AHeap.st hH).trans hst_15
          have hcL : Hc.get k15 = none := by
            cases hq : Hc.get k15 with
            | none => rfl
            | some b => have := k2 k15 (by rw [hq]; simp); rw [hf_k15, hq] at this; cases this
          have u3 : ∀ j, Hc.get j ≠ none → Hd15.get j = Hc.get j := fun j hj => by
            have hjl : j ≠ k15 := fun e => by subst e; exact hj hcL
            rw [hkeep j hjl, u2 j hj]
          have p2d := p2c.keep u3
          have hpk := pickC_ok far (geL f (g.succ f))
          rw [u1] at hpk
          have hcs : g.pcyc (f + 1) = if nx < 0 ∨ (best ≠ [] ∧ ln + 1 ≥ best.length) then best else (f : Int) :: (g.way far ln.toNat nx).dropLast := by
            rw [pcyc_succ, Gr.cstep, hfar, u1, hbest]
          clear hH
          refine q_block ?_
          refine q_seq ?_
          refine awp_seq ?_
          by_cases c4 : nx < 0
          · skip
            rcases p2d with ⟨rfl, hbn⟩ | ⟨hbn, id, gn, rest, rfl, hb, hid⟩
            · skip
              refine stp_reg TT_ok (by rfl) fun K hK => ?_
              simp [h5_14, h8_14, h9_14, gm10_29, gm12_29, g_m12_1__29, nx1, nx2, nx3, nx4, nx5, c4, encG]
              try refine And.intro (by first | omega | rfl) ?_
              refine hK _ _ fun σ30 hσ H30 hH => ?_
              clear hK K
              have h3_30 := congrFun hσ 3
              have h4_30 := congrFun hσ 4
              have h5_30 := congrFun hσ 5
              have h6_30 := congrFun hσ 6
              have h7_30 := congrFun hσ 7
              have h8_30 := congrFun hσ 8
              have h21_30 := congrFun hσ 21
              have h22_30 := congrFun hσ 22
              have h68_30 := congrFun hσ 68
              simp [h3_14, h4_14, h5_14, h6_14, h7_14, h8_14, h21_14, h22_14] at h3_30 h4_30 h5_30 h6_30 h7_30 h8_30 h21_30 h22_30 h68_30
              clear hσ
              replace hH : Hd15 = H30 := Eq.symm hH
              subst hH
              refine stp_true (by simp [aeval_tmp, h68_30, nx1, nx2, nx3, nx4, nx5, c4, encG]) ?_
              refine awp_exit ?_
              refine q_seq_exit ?_
              refine q_block_hit ?_
              refine q_seq ?_
              refine stp_regl TT_ok (by rfl) fun K hK => ?_
              simp [h22_30, gm10_29, gm12_29, g_m12_1__29, nx1, nx2, nx3, nx4, nx5, c4, encG, wrap_ok (n := (f : Int) + 1) (by omega) (by omega)]
              try refine And.intro (by first | omega | rfl) ?_
              refine hK _ _ fun σ31 hσ H31 hH => ?_
              clear hK K
              have h3_31 := congrFun hσ 3
              have h4_31 := congrFun hσ 4
              have h5_31 := congrFun hσ 5
              have h21_31 := congrFun hσ 21
              have h22_31 := congrFun hσ 22
              simp [h3_30, h4_30, h5_30, h21_30] at h3_31 h4_31 h5_31 h21_31 h22_31
              clear hσ
              replace hH : Hd15 = H31 := Eq.symm hH
              subst hH
              refine ⟨_, ?_, f + 1, .nils, rfl, (h3_31.trans h3_6.symm), (h4_31.trans h4_6.symm), (by simp [h5_31]), (h21_31.trans h21_6.symm), (by simp [h22_31]), (hst_29.trans hst_1.symm), ?_, ?_⟩
              · subst hn1; omega
              · first | omega | assumption | (simp; done)
              · rw [hcs, if_pos (.inl c4)]; exact .inl ⟨rfl, hbn⟩
            · skip
              refine stp_reg TT_ok (by rfl) fun K hK => ?_
              simp [h5_14, h8_14, h9_14, gm10_29, gm12_29, g_m12_1__29, nx1, nx2, nx3, nx4, nx5, c4, encG]
              try refine And.intro (by first | omega | rfl) ?_
              refine hK _ _ fun σ32 hσ H32 hH => ?_
              clear hK K
              have h3_32 := congrFun hσ 3
              have h4_32 := congrFun hσ 4
              have h5_32 := congrFun hσ 5
              have h6_32 := congrFun hσ 6
              have h7_32 := congrFun hσ 7
              have h8_32 := congrFun hσ 8
              have h21_32 := congrFun hσ 21
              have h22_32 := congrFun hσ 22
              have h68_32 := congrFun hσ 68
              simp [h3_14, h4_14, h5_14, h6_14, h7_14, h8_14, h21_14, h22_14] at h3_32 h4_32 h5_32 h6_32 h7_32 h8_32 h21_32 h22_32 h68_32
              clear hσ
              replace hH : Hd15 = H32 := Eq.symm hH
              subst hH
              refine stp_true (by simp [aeval_tmp, h68_32, nx1, nx2, nx3, nx4, nx5, c4, encG]) ?_
              refine awp_exit ?_
              refine q_seq_exit ?_
              refine q_block_hit ?_
              refine q_seq ?_
              refine stp_regl TT_ok (by rfl) fun K hK => ?_
              simp [h22_32, gm10_29, gm12_29, g_m12_1__29, nx1, nx2, nx3, nx4, nx5, c4, encG, wrap_ok (n := (f : Int) + 1) (by omega) (by omega)]
              try refine And.intro (by first | omega | rfl) ?_
              refine hK _ _ fun σ33 hσ H33 hH => ?_
              clear hK K
              have h3_33 := congrFun hσ 3
              have h4_33 := congrFun hσ 4
              have h5_33 := congrFun hσ 5
              have h21_33 := congrFun hσ 21
              have h22_33 := congrFun hσ 22
              simp [h3_32, h4_32, h5_32, h21_32] at h3_33 h4_33 h5_33 h21_33 h22_33
              clear hσ
              replace hH : Hd15 = H33 := Eq.symm hH
              subst hH
              refine ⟨_, ?_, f + 1, .sl id gn 0 best.length, rfl, (h3_33.trans h3_6.symm), (h4_33.trans h4_6.symm), (by simp [h5_33]), (h21_33.trans h21_6.symm), (by simp [h22_33]), (hst_29.trans hst_1.symm), ?_, ?_⟩
              · subst hn1; omega
              · first | omega | assumption | (simp; done)
              · rw [hcs, if_pos (.inl c4)]; exact .inr ⟨hbn, id, gn, rest, rfl, hb, hid⟩
          · skip
            have hnk : nx ∈ geL f (g.succ f) ∧ ln = gt far nx ∧ 0 ≤ ln := by
              rcases hpk with h | h
              · exfalso; have := congrArg Prod.fst h; simp at this; omega
              · exact h
            obtain ⟨hnm, hln, hln0⟩ := hnk
            have hns : nx ∈ g.succ f ∧ (f : Int) ≤ nx := by simpa [geL] using hnm
            obtain ⟨n1_, n2_⟩ := succ_in hv hns.1
            have n3 : nx.toNat < far.length := by omega
            have hnl := hD.val nx.toNat _ (List.getElem?_eq_getElem n3)
            rw [gt_elem n3, ← hln] at hnl
            obtain ⟨K0, hK0, hF0⟩ : ∃ k : Nat, ln = k ∧ g.Far (fun x => (f : Int) ≤ x) f k nx := by
              rcases hnl with q | ⟨k, q, hk⟩
              · omega
              · exact ⟨k, q, by rwa [Int.toNat_of_nonneg n1_] at hk⟩
            have hKl := hF0.lt hv ⟨n1_, n2_⟩
            have hwl := way_len g far K0 nx
            rcases p2d with ⟨rfl, hbn⟩ | ⟨hbn, id, gn, rest, rfl, hb, hid⟩
            · skip
              refine stp_reg TT_ok (by rfl) fun K hK => ?_
              simp [h5_14, h8_14, h9_14, gm10_29, gm12_29, g_m12_1__29, nx1, nx2, nx3, nx4, nx5, c4, encG]
              try refine And.intro (by first | omega | rfl) ?_
              refine hK _ _ fun σ34 hσ H34 hH => ?_
              clear hK K
              have h3_34 := congrFun hσ 3
              have h4_34 := congrFun hσ 4
              have h5_34 := congrFun hσ 5
              have h6_34 := congrFun hσ 6
              have h7_34 := congrFun hσ 7
              have h8_34 := congrFun hσ 8
              have h21_34 := congrFun hσ 21
              have h22_34 := congrFun hσ 22
              have h68_34 := congrFun hσ 68
              simp [h3_14, h4_14, h5_14, h6_14, h7_14, h8_14, h21_14, h22_14] at h3_34 h4_34 h5_34 h6_34 h7_34 h8_34 h21_34 h22_34 h68_34
              clear hσ
              replace hH : Hd15 = H34 := Eq.symm hH
              subst hH
              refine stp_false (by simp [aeval_tmp, h68_34, nx1, nx2, nx3, nx4, nx5, c4, encG]) ?_
              refine awp_skip ?_
              refine q_seq ?_
              have hcs2 : g.pcyc (f + 1) = (f : Int) :: (g.way far K0 nx).dropLast := by
                rw [hcs, if_neg (by simp only [not_or, not_and]; exact ⟨c4, fun h => by first | exact absurd hbn h | exact c5⟩), hK0, Int.toNat_natCast]
              refine awp_ok fun hok => ?_
              obtain ⟨m35, hn_m35⟩ : ∃ m, Hd15.n = m := ⟨_, rfl⟩
              have hf_m35_0 := hok.free 0
              simp [hn_m35, hst_29] at hf_m35_0
              have nx6 := ne_get hf_m35_0 gm10_29
              have nx7 := ne_get hf_m35_0 gm12_29
              have nx8 := ne_get hf_m35_0 g_m12_1__29
              refine stp_reg TT_ok (by rfl) fun K hK => ?_
              simp [h6_34, gm10_29, gm12_29, g_m12_1__29, hn_m35, hst_29, nx1, nx2, nx3, nx4, nx5, c4, nx6, nx7, nx8, encG]
              try refine And.intro (by first | omega | rfl) ?_
              refine hK _ _ fun σ36 hσ H36 hH => ?_
              clear hK K
              have h3_36 := congrFun hσ 3
              have h4_36 := congrFun hσ 4
              have h5_36 := congrFun hσ 5
              have h6_36 := congrFun hσ 6
              have h7_36 := congrFun hσ 7
              have h8_36 := congrFun hσ 8
              have h21_36 := congrFun hσ 21
              have h22_36 := congrFun hσ 22
              simp [h3_34, h4_34, h6_34, h7_34, h8_34, h21_34, h22_34] at h3_36 h4_36 h5_36 h6_36 h7_36 h8_36 h21_36 h22_36
              clear hσ
              have gm10_36 := gt_of hH m10
              have gm12_36 := gt_of hH m12
              have g_m12_1__36 := gt_of hH (m12 + 1)
              have gm35_36 := gt_of hH m35
              simp [gm10_29, gm12_29, g_m12_1__29, hn_m35, hst_29, nx1, nx2, nx3, nx4, nx5, c4, nx6, nx7, nx8] at gm10_36 gm12_36 g_m12_1__36 gm35_36
              have hst_36 := congrArg AHeap.st hH
              simp [hst_29] at hst_36
              clear hH
              by_cases c6 : nx = (f : Int)
              · skip
                refine stp_reg TT_ok (by rfl) fun K hK => ?_
                simp [h6_36, h8_36, gm10_36, gm12_36, g_m12_1__36, gm35_36, nx1, nx2, nx3, nx4, nx5, c4, nx6, nx7, nx8, c6, beq_iff_eq.2 c6, encG]
                try refine And.intro (by first | omega | rfl) ?_
                refine hK _ _ fun σ37 hσ H37 hH => ?_
                clear hK K
                have h3_37 := congrFun hσ 3
                have h4_37 := congrFun hσ 4
                have h5_37 := congrFun hσ 5
                have h7_37 := congrFun hσ 7
                have h8_37 := congrFun hσ 8
                have h21_37 := congrFun hσ 21
                have h22_37 := congrFun hσ 22
                have h73_37 := congrFun hσ 73
                simp [h3_36, h4_36, h5_36, h7_36, h8_36, h21_36, h22_36] at h3_37 h4_37 h5_37 h7_37 h8_37 h21_37 h22_37 h73_37
                clear hσ
                replace hH : H36 = H37 := Eq.symm hH
                subst hH
                refine stp_false (by simp [aeval_tmp, h73_37, nx1, nx2, nx3, nx4, nx5, c4, nx6, nx7, nx8, c6, beq_iff_eq.2 c6, encG]) ?_
                refine awp_skip ?_
                refine q_block ?_
                refine q_seq ?_
                refine stp_regl TT_ok (by rfl) fun K hK => ?_
                simp [h22_37, gm10_36, gm12_36, g_m12_1__36, gm35_36, nx1, nx2, nx3, nx4, nx5, c4, nx6, nx7, nx8, c6, beq_iff_eq.2 c6, encG, wrap_ok (n := (f : Int) + 1) (by omega) (by omega)]
                try refine And.intro (by first | omega | rfl) ?_
                refine hK _ _ fun σ38 hσ H38 hH => ?_
                clear hK K
                have h3_38 := congrFun hσ 3
                have h4_38 := congrFun hσ 4
                have h5_38 := congrFun hσ 5
                have h21_38 := congrFun hσ 21
                have h22_38 := congrFun hσ 22
                simp [h3_37, h4_37, h5_37, h21_37] at h3_38 h4_38 h5_38 h21_38 h22_38
                clear hσ
                replace hH : H36 = H38 := Eq.symm hH
                subst hH
                refine ⟨_, ?_, f + 1, .sl m35 0 0 1, rfl, (h3_38.trans h3_6.symm), (h4_38.trans h4_6.symm), (by simp [h5_38]), (h21_38.trans h21_6.symm), (by simp [h22_38]), (hst_36.trans hst_1.symm), ?_, ?_⟩
                · subst hn1; omega
                · first | omega | assumption | (simp; done)
                · have hK1 : K0 = 0 := by
                    subst c6; exact hF0.uniq (Gr.far_to g _ _)
                  rw [hcs2, hK1]
                  exact .inr ⟨by simp, m35, 0, [], by simp [Gr.way], by rw [gm35_36]; simp [Gr.way], by omega⟩
              · skip
                refine stp_reg TT_ok (by rfl) fun K hK => ?_
                simp [h6_36, h8_36, gm10_36, gm12_36, g_m12_1__36, gm35_36, nx1, nx2, nx3, nx4, nx5, c4, nx6, nx7, nx8, c6, beq_eq_false_iff_ne.2 c6, encG]
                try refine And.intro (by first | omega | rfl) ?_
                refine hK _ _ fun σ39 hσ H39 hH => ?_
                clear hK K
                have h3_39 := congrFun hσ 3
                have h4_39 := congrFun hσ 4
                have h5_39 := congrFun hσ 5
                have h7_39 := congrFun hσ 7
                have h8_39 := congrFun hσ 8
                have h21_39 := congrFun hσ 21
                have h22_39 := congrFun hσ 22
                have h73_39 := congrFun hσ 73
                simp [h3_36, h4_36, h5_36, h7_36, h8_36, h21_36, h22_36] at h3_39 h4_39 h5_39 h7_39 h8_39 h21_39 h22_39 h73_39
                clear hσ
                replace hH : H36 = H39 := Eq.symm hH
                subst hH
                refine stp_true (by simp [aeval_tmp, h73_39, nx1, nx2, nx3, nx4, nx5, c4, nx6, nx7, nx8, c6, beq_eq_false_iff_ne.2 c6, encG]) ?_
                have hK1 : 0 < K0 := by
                  rcases Nat.eq_zero_or_pos K0 with h | h
                  · subst h; exact absurd hF0.zero c6
                  · exact h
                obtain ⟨wy, hwy⟩ : ∃ wy, g.way far K0 nx = wy := ⟨_, rfl⟩
                rw [hwy] at hwl hcs2
                refine stp_reg TT_ok (by rfl) fun K hK => ?_
                simp [h3_39, h7_39, h8_39, gm10_36, gm12_36, g_m12_1__36, gm35_36, nx1, nx2, nx3, nx4, nx5, c4, nx6, nx7, nx8, c6, beq_eq_false_iff_ne.2 c6, encG]
                try refine And.intro (by first | omega | rfl) ?_
                refine stp_call (descend_ok g hv (fun x => (f : Int) ≤ x) f nx far hD K0 ⟨n1_, n2_⟩ hF0) ?_
                simp [h3_39, h7_39, h8_39, gm10_36, gm12_36, g_m12_1__36, gm35_36, nx1, nx2, nx3, nx4, nx5, c4, nx6, nx7, nx8, c6, beq_eq_false_iff_ne.2 c6, encG]
                try refine And.intro (by first | omega | rfl) ?_
                refine hK _ _ fun σ40 hσ H40 hH => ?_
                clear hK K
                have h3_40 := congrFun hσ 3
                have h4_40 := congrFun hσ 4
                have h5_40 := congrFun hσ 5
                have h11_40 := congrFun hσ 11
                have h21_40 := congrFun hσ 21
                have h22_40 := congrFun hσ 22
                simp [h3_39, h4_39, h5_39, h21_39, h22_39] at h3_40 h4_40 h5_40 h11_40 h21_40 h22_40
                clear hσ
                replace hH : H36 = H40 := Eq.symm hH
                subst hH
                refine stp_regl TT_ok (by rfl) fun K hK => ?_
                simp [h5_40, h11_40, gm10_36, gm12_36, g_m12_1__36, gm35_36, hst_36, nx1, nx2, nx3, nx4, nx5, c4, nx6, nx7, nx8, c6, beq_eq_false_iff_ne.2 c6, encG, hwl, hwy, show (K0 : Int) + 1 - 1 = K0 by omega, wrap_ok (n := (K0 : Int)) (by omega) (by omega)]
                try refine And.intro (by first | omega | rfl) ?_
                refine ⟨fun x hx => ?_, ⟨by omega, by omega⟩, ?_⟩
                · obtain ⟨y, _, rfl⟩ := List.mem_map.1 (List.mem_of_mem_take hx); rfl
                try refine And.intro (by first | omega | rfl) ?_
                refine hK _ _ fun σ41 hσ H41 hH => ?_
                clear hK K
                have h3_41 := congrFun hσ 3
                have h4_41 := congrFun hσ 4
                have h5_41 := congrFun hσ 5
                have h21_41 := congrFun hσ 21
                have h22_41 := congrFun hσ 22
                simp [h3_40, h4_40, h21_40, h22_40] at h3_41 h4_41 h5_41 h21_41 h22_41
                clear hσ
                have gm10_41 := gt_of hH m10
                have gm12_41 := gt_of hH m12
                have g_m12_1__41 := gt_of hH (m12 + 1)
                have gm35_41 := gt_of hH m35
                simp [gm10_36, gm12_36, g_m12_1__36, gm35_36, hst_36, nx1, nx2, nx3, nx4, nx5, c4, nx6, nx7, nx8, c6, beq_eq_false_iff_ne.2 c6] at gm10_41 gm12_41 g_m12_1__41 gm35_41
                have hst_41 := congrArg AHeap.st hH
                simp [hst_36] at hst_41
                clear hH
                refine q_block ?_
                refine q_seq ?_
                refine stp_regl TT_ok (by rfl) fun K hK => ?_
                simp [h22_41, gm10_41, gm12_41, g_m12_1__41, gm35_41, nx1, nx2, nx3, nx4, nx5, c4, nx6, nx7, nx8, c6, beq_eq_false_iff_ne.2 c6, encG, wrap_ok (n := (f : Int) + 1) (by omega) (by omega)]
                try refine And.intro (by first | omega | rfl) ?_
                refine hK _ _ fun σ42 hσ H42 hH => ?_
                clear hK K
                have h3_42 := congrFun hσ 3
                have h4_42 := congrFun hσ 4
                have h5_42 := congrFun hσ 5
                have h21_42 := congrFun hσ 21
                have h22_42 := congrFun hσ 22
                simp [h3_41, h4_41, h5_41, h21_41] at h3_42 h4_42 h5_42 h21_42 h22_42
                clear hσ
                replace hH : H41 = H42 := Eq.symm hH
                subst hH
                refine ⟨_, ?_, f + 1, .sl m35 1 0 (1 + K0), rfl, (h3_42.trans h3_6.symm), (h4_42.trans h4_6.symm), (by simp [h5_42]), (h21_42.trans h21_6.symm), (by simp [h22_42]), (hst_41.trans hst_1.symm), ?_, ?_⟩
                · subst hn1; omega
                · first | omega | assumption | (simp; done)
                · have hdl2 : wy.dropLast = wy.take K0 := by rw [List.dropLast_eq_take, hwl]; rfl
                  rw [hcs2, hdl2]
                  exact .inr ⟨by simp, m35, 1, [], by simp [hwl]; omega, by rw [gm35_41]; simp [List.map_take], by omega⟩
            · skip
              by_cases c5 : (best.length : Int) ≤ ln + 1
              · skip
                refine stp_reg TT_ok (by rfl) fun K hK => ?_
                simp [h5_14, h8_14, h9_14, gm10_29, gm12_29, g_m12_1__29, hb, nx1, nx2, nx3, nx4, nx5, c4, c5, encG]
                try refine And.intro (by first | omega | rfl) ?_
                refine hK _ _ fun σ43 hσ H43 hH => ?_
                clear hK K
                have h3_43 := congrFun hσ 3
                have h4_43 := congrFun hσ 4
                have h5_43 := congrFun hσ 5
                have h6_43 := congrFun hσ 6
                have h7_43 := congrFun hσ 7
                have h8_43 := congrFun hσ 8
                have h21_43 := congrFun hσ 21
                have h22_43 := congrFun hσ 22
                have h68_43 := congrFun hσ 68
                simp [h3_14, h4_14, h5_14, h6_14, h7_14, h8_14, h21_14, h22_14] at h3_43 h4_43 h5_43 h6_43 h7_43 h8_43 h21_43 h22_43 h68_43
                clear hσ
                replace hH : Hd15 = H43 := Eq.symm hH
                subst hH
                refine stp_true (by simp [aeval_tmp, h68_43, nx1, nx2, nx3, nx4, nx5, c4, c5, encG, wrap_ok (n := ln + 1) (by omega) (by omega)]) ?_
                refine awp_exit ?_
                refine q_seq_exit ?_
                refine q_block_hit ?_
                refine q_seq ?_
                refine stp_regl TT_ok (by rfl) fun K hK => ?_
                simp [h22_43, gm10_29, gm12_29, g_m12_1__29, hb, nx1, nx2, nx3, nx4, nx5, c4, c5, encG, wrap_ok (n := (f : Int) + 1) (by omega) (by omega)]
                try refine And.intro (by first | omega | rfl) ?_
                refine hK _ _ fun σ44 hσ H44 hH => ?_
                clear hK K
                have h3_44 := congrFun hσ 3
                have h4_44 := congrFun hσ 4
                have h5_44 := congrFun hσ 5
                have h21_44 := congrFun hσ 21
                have h22_44 := congrFun hσ 22
                simp [h3_43, h4_43, h5_43, h21_43] at h3_44 h4_44 h5_44 h21_44 h22_44
                clear hσ
                replace hH : Hd15 = H44 := Eq.symm hH
                subst hH
                refine ⟨_, ?_, f + 1, .sl id gn 0 best.length, rfl, (h3_44.trans h3_6.symm), (h4_44.trans h4_6.symm), (by simp [h5_44]), (h21_44.trans h21_6.symm), (by simp [h22_44]), (hst_29.trans hst_1.symm), ?_, ?_⟩
                · subst hn1; omega
                · first | omega | assumption | (simp; done)
                · rw [hcs, if_pos (.inr ⟨hbn, c5⟩)]; exact .inr ⟨hbn, id, gn, rest, rfl, hb, hid⟩
              · skip
                refine stp_reg TT_ok (by rfl) fun K hK => ?_
                simp [h5_14, h8_14, h9_14, gm10_29, gm12_29, g_m12_1__29, hb, nx1, nx2, nx3, nx4, nx5, c4, c5, encG]
                try refine And.intro (by first | omega | rfl) ?_
                refine hK _ _ fun σ45 hσ H45 hH => ?_
                clear hK K
                have h3_45 := congrFun hσ 3
                have h4_45 := congrFun hσ 4
                have h5_45 := congrFun hσ 5
                have h6_45 := congrFun hσ 6
                have h7_45 := congrFun hσ 7
                have h8_45 := congrFun hσ 8
                have h21_45 := congrFun hσ 21
                have h22_45 := congrFun hσ 22
                have h68_45 := congrFun hσ 68
                simp [h3_14, h4_14, h5_14, h6_14, h7_14, h8_14, h21_14, h22_14] at h3_45 h4_45 h5_45 h6_45 h7_45 h8_45 h21_45 h22_45 h68_45
                clear hσ
                replace hH : Hd15 = H45 := Eq.symm hH
                subst hH
                refine stp_false (by simp [aeval_tmp, h68_45, nx1, nx2, nx3, nx4, nx5, c4, c5, encG, wrap_ok (n := ln + 1) (by omega) (by omega)]) ?_
                refine awp_skip ?_
                refine q_seq ?_
                have hcs2 : g.pcyc (f + 1) = (f : Int) :: (g.way far K0 nx).dropLast := by
                  rw [hcs, if_neg (by simp only [not_or, not_and]; exact ⟨c4, fun h => by first | exact absurd hbn h | exact c5⟩), hK0, Int.toNat_natCast]
                refine awp_ok fun hok => ?_
                obtain ⟨m46, hn_m46⟩ : ∃ m, Hd15.n = m := ⟨_, rfl⟩
                have hf_m46_0 := hok.free 0
                simp [hn_m46, hst_29] at hf_m46_0
                have nx9 := ne_get hf_m46_0 gm10_29
                have nx10 := ne_get hf_m46_0 gm12_29
                have nx11 := ne_get hf_m46_0 g_m12_1__29
                have nx12 := ne_get hf_m46_0 hb
                refine stp_reg TT_ok (by rfl) fun K hK => ?_
                simp [h6_45, gm10_29, gm12_29, g_m12_1__29, hb, hn_m46, hst_29, nx1, nx2, nx3, nx4, nx5, c4, c5, nx9, nx10, nx11, nx12, encG]
                try refine And.intro (by first | omega | rfl) ?_
                refine hK _ _ fun σ47 hσ H47 hH => ?_
                clear hK K
                have h3_47 := congrFun hσ 3
                have h4_47 := congrFun hσ 4
                have h5_47 := congrFun hσ 5
                have h6_47 := congrFun hσ 6
                have h7_47 := congrFun hσ 7
                have h8_47 := congrFun hσ 8
                have h21_47 := congrFun hσ 21
                have h22_47 := congrFun hσ 22
                simp [h3_45, h4_45, h6_45, h7_45, h8_45, h21_45, h22_45] at h3_47 h4_47 h5_47 h6_47 h7_47 h8_47 h21_47 h22_47
                clear hσ
                have gm10_47 := gt_of hH m10
                have gm12_47 := gt_of hH m12
                have g_m12_1__47 := gt_of hH (m12 + 1)
                have gid_47 := gt_of hH id
                have gm46_47 := gt_of hH m46
                simp [gm10_29, gm12_29, g_m12_1__29, hb, hn_m46, hst_29, nx1, nx2, nx3, nx4, nx5, c4, c5, nx9, nx10, nx11, nx12] at gm10_47 gm12_47 g_m12_1__47 gid_47 gm46_47
                have hst_47 := congrArg AHeap.st hH
                simp [hst_29] at hst_47
                clear hH
                by_cases c6 : nx = (f : Int)
                · skip
                  refine stp_reg TT_ok (by rfl) fun K hK => ?_
                  simp [h6_47, h8_47, gm10_47, gm12_47, g_m12_1__47, gid_47, gm46_47, nx1, nx2, nx3, nx4, nx5, c4, c5, nx9, nx10, nx11, nx12, c6, beq_iff_eq.2 c6, encG]
                  try refine And.intro (by first | omega | rfl) ?_
                  refine hK _ _ fun σ48 hσ H48 hH => ?_
                  clear hK K
                  have h3_48 := congrFun hσ 3
                  have h4_48 := congrFun hσ 4
                  have h5_48 := congrFun hσ 5
                  have h7_48 := congrFun hσ 7
                  have h8_48 := congrFun hσ 8
                  have h21_48 := congrFun hσ 21
                  have h22_48 := congrFun hσ 22
                  have h73_48 := congrFun hσ 73
                  simp [h3_47, h4_47, h5_47, h7_47, h8_47, h21_47, h22_47] at h3_48 h4_48 h5_48 h7_48 h8_48 h21_48 h22_48 h73_48
                  clear hσ
                  replace hH : H47 = H48 := Eq.symm hH
                  subst hH
                  refine stp_false (by simp [aeval_tmp, h73_48, nx1, nx2, nx3, nx4, nx5, c4, c5, nx9, nx10, nx11, nx12, c6, beq_iff_eq.2 c6, encG]) ?_
                  refine awp_skip ?_
                  refine q_block ?_
                  refine q_seq ?_
                  refine stp_regl TT_ok (by rfl) fun K hK => ?_
                  simp [h22_48, gm10_47, gm12_47, g_m12_1__47, gid_47, gm46_47, nx1, nx2, nx3, nx4, nx5, c4, c5, nx9, nx10, nx11, nx12, c6, beq_iff_eq.2 c6, encG, wrap_ok (n := (f : Int) + 1) (by omega) (by omega)]
                  try refine And.intro (by first | omega | rfl) ?_
                  refine hK _ _ fun σ49 hσ H49 hH => ?_
                  clear hK K
                  have h3_49 := congrFun hσ 3
                  have h4_49 := congrFun hσ 4
                  have h5_49 := congrFun hσ 5
                  have h21_49 := congrFun hσ 21
                  have h22_49 := congrFun hσ 22
                  simp [h3_48, h4_48, h5_48, h21_48] at h3_49 h4_49 h5_49 h21_49 h22_49
                  clear hσ
                  replace hH : H47 = H49 := Eq.symm hH
                  subst hH
                  refine ⟨_, ?_, f + 1, .sl m46 0 0 1, rfl, (h3_49.trans h3_6.symm), (h4_49.trans h4_6.symm), (by simp [h5_49]), (h21_49.trans h21_6.symm), (by simp [h22_49]), (hst_47.trans hst_1.symm), ?_, ?_⟩
                  · subst hn1; omega
                  · first | omega | assumption | (simp; done)
                  · have hK1 : K0 = 0 := by
                      subst c6; exact hF0.uniq (Gr.far_to g _ _)
                    rw [hcs2, hK1]
                    exact .inr ⟨by simp, m46, 0, [], by simp [Gr.way], by rw [gm46_47]; simp [Gr.way], by omega⟩
                · skip
                  refine stp_reg TT_ok (by rfl) fun K hK => ?_
                  simp [h6_47, h8_47, gm10_47, gm12_47, g_m12_1__47, gid_47, gm46_47, nx1, nx2, nx3, nx4, nx5, c4, c5, nx9, nx10, nx11, nx12, c6, beq_eq_false_iff_ne.2 c6, encG]
                  try refine And.intro (by first | omega | rfl) ?_
                  refine hK _ _ fun σ50 hσ H50 hH => ?_
                  clear hK K
                  have h3_50 := congrFun hσ 3
                  have h4_50 := congrFun hσ 4
                  have h5_50 := congrFun hσ 5
                  have h7_50 := congrFun hσ 7
                  have h8_50 := congrFun hσ 8
                  have h21_50 := congrFun hσ 21
                  have h22_50 := congrFun hσ 22
                  have h73_50 := congrFun hσ 73
                  simp [h3_47, h4_47, h5_47, h7_47, h8_47, h21_47, h22_47] at h3_50 h4_50 h5_50 h7_50 h8_50 h21_50 h22_50 h73_50
                  clear hσ
                  replace hH : H47 = H50 := Eq.symm hH
                  subst hH
                  refine stp_true (by simp [aeval_tmp, h73_50, nx1, nx2, nx3, nx4, nx5, c4, c5, nx9, nx10, nx11, nx12, c6, beq_eq_false_iff_ne.2 c6, encG]) ?_
                  have hK1 : 0 < K0 := by
                    rcases Nat.eq_zero_or_pos K0 with h | h
                    · subst h; exact absurd hF0.zero c6
                    · exact h
                  obtain ⟨wy, hwy⟩ : ∃ wy, g.way far K0 nx = wy := ⟨_, rfl⟩
                  rw [hwy] at hwl hcs2
                  refine stp_reg TT_ok (by rfl) fun K hK => ?_
                  simp [h3_50, h7_50, h8_50, gm10_47, gm12_47, g_m12_1__47, gid_47, gm46_47, nx1, nx2, nx3, nx4, nx5, c4, c5, nx9, nx10, nx11, nx12, c6, beq_eq_false_iff_ne.2 c6, encG]
                  try refine And.intro (by first | omega | rfl) ?_
                  refine stp_call (descend_ok g hv (fun x => (f : Int) ≤ x) f nx far hD K0 ⟨n1_, n2_⟩ hF0) ?_
                  simp [h3_50, h7_50, h8_50, gm10_47, gm12_47, g_m12_1__47, gid_47, gm46_47, nx1, nx2, nx3, nx4, nx5, c4, c5, nx9, nx10, nx11, nx12, c6, beq_eq_false_iff_ne.2 c6, encG]
                  try refine And.intro (by first | omega | rfl) ?_
                  refine hK _ _ fun σ51 hσ H51 hH => ?_
                  clear hK K
                  have h3_51 := congrFun hσ 3
                  have h4_51 := congrFun hσ 4
                  have h5_51 := congrFun hσ 5
                  have h11_51 := congrFun hσ 11
                  have h21_51 := congrFun hσ 21
                  have h22_51 := congrFun hσ 22
                  simp [h3_50, h4_50, h5_50, h21_50, h22_50] at h3_51 h4_51 h5_51 h11_51 h21_51 h22_51
                  clear hσ
                  replace hH : H47 = H51 := Eq.symm hH
                  subst hH
                  refine stp_regl TT_ok (by rfl) fun K hK => ?_
                  simp [h5_51, h11_51, gm10_47, gm12_47, g_m12_1__47, gid_47, gm46_47, hst_47, nx1, nx2, nx3, nx4, nx5, c4, c5, nx9, nx10, nx11, nx12, c6, beq_eq_false_iff_ne.2 c6, encG, hwl, hwy, show (K0 : Int) + 1 - 1 = K0 by omega, wrap_ok (n := (K0 : Int)) (by omega) (by omega)]
                  try refine And.intro (by first | omega | rfl) ?_
                  refine ⟨fun x hx => ?_, ⟨by omega, by omega⟩, ?_⟩
                  · obtain ⟨y, _, rfl⟩ := List.mem_map.1 (List.mem_of_mem_take hx); rfl
                  try refine And.intro (by first | omega | rfl) ?_
                  refine hK _ _ fun σ52 hσ H52 hH => ?_
                  clear hK K
                  have h3_52 := congrFun hσ 3
                  have h4_52 := congrFun hσ 4
                  have h5_52 := congrFun hσ 5
                  have h21_52 := congrFun hσ 21
                  have h22_52 := congrFun hσ 22
                  simp [h3_51, h4_51, h21_51, h22_51] at h3_52 h4_52 h5_52 h21_52 h22_52
                  clear hσ
                  have gm10_52 := gt_of hH m10
                  have gm12_52 := gt_of hH m12
                  have g_m12_1__52 := gt_of hH (m12 + 1)
                  have gid_52 := gt_of hH id
                  have gm46_52 := gt_of hH m46
                  simp [gm10_47, gm12_47, g_m12_1__47, gid_47, gm46_47, hst_47, nx1, nx2, nx3, nx4, nx5, c4, c5, nx9, nx10, nx11, nx12, c6, beq_eq_false_iff_ne.2 c6] at gm10_52 gm12_52 g_m12_1__52 gid_52 gm46_52
                  have hst_52 := congrArg AHeap.st hH
                  simp [hst_47] at hst_52
                  clear hH
                  refine q_block ?_
                  refine q_seq ?_
                  refine stp_regl TT_ok (by rfl) fun K hK => ?_
                  simp [h22_52, gm10_52, gm12_52, g_m12_1__52, gid_52, gm46_52, nx1, nx2, nx3, nx4, nx5, c4, c5, nx9, nx10, nx11, nx12, c6, beq_eq_false_iff_ne.2 c6, encG, wrap_ok (n := (f : Int) + 1) (by omega) (by omega)]
                  try refine And.intro (by first | omega | rfl) ?_
                  refine hK _ _ fun σ53 hσ H53 hH => ?_
                  clear hK K
                  have h3_53 := congrFun hσ 3
                  have h4_53 := congrFun hσ 4
                  have h5_53 := congrFun hσ 5
                  have h21_53 := congrFun hσ 21
                  have h22_53 := congrFun hσ 22
                  simp [h3_52, h4_52, h5_52, h21_52] at h3_53 h4_53 h5_53 h21_53 h22_53
                  clear hσ
                  replace hH : H52 = H53 := Eq.symm hH
                  subst hH
                  refine ⟨_, ?_, f + 1, .sl m46 1 0 (1 + K0), rfl, (h3_53.trans h3_6.symm), (h4_53.trans h4_6.symm), (by simp [h5_53]), (h21_53.trans h21_6.symm), (by simp [h22_53]), (hst_52.trans hst_1.symm), ?_, ?_⟩
                  · subst hn1; omega
                  · first | omega | assumption | (simp; done)
                  · have hdl2 : wy.dropLast = wy.take K0 := by rw [List.dropLast_eq_take, hwl]; rfl
                    rw [hcs2, hdl2]
                    exact .inr ⟨by simp, m46, 1, [], by simp [hwl]; omega, by rw [gm46_52]; simp [List.map_take], by omega⟩
      · try simp at hc23
        refine awp_exit ?_
        refine q_seq_exit ?_
        refine q_loop_exit ?_
        refine q_block_hit ?_
        refine q_seq ?_
        refine stp_reg TT_ok (by rfl) fun K hK => ?_
        simp [h5_8, encG]
        try refine And.intro (by first | omega | rfl) ?_
        refine hK _ _ fun σ54 hσ H54 hH => ?_
        clear hK K
        have h2_54 := congrFun hσ 2
        simp [] at h2_54
        clear hσ
        replace hH : H7 = H54 := Eq.symm hH
        subst hH
        refine awp_ret ?_
        have hfe : f = g.nodes.length := by have := hc23; omega
        rw [hfe] at p2
        refine q_fin1 h2_54 ?_
        have e : g.pcycle = g.pcyc g.nodes.length := by simp [Gr.pcycle, hv]
        rw [e]; exact p2

theorem cycle_ok (g : Gr) : Fun1 Try.prog 21 [encG g] (.ro (g.pcycle.map (AV.int IntKind.i64))) := fun1_frz ((cycle0 g).mono fun r H h => h.frz) (pu_cons (pu_graph g) pu_nil) (pu_ints _)
/-- A list that is nil if it is empty. -/
def roN (l : List Int) : AV := if l = [] then .nils else .ro (l.map (AV.int IntKind.i64))
theorem pu_roN (l : List Int) : Pu (roN l) := by
  rw [roN]; split
  · exact .nils
  · exact pu_ints _
theorem BestV.frzN {lo : Nat} {best : List Int} {v : AV} {H : AHeap} (h : BestV lo best v H) : Frz H v (roN best) := by
  rcases h with ⟨h1, h2⟩ | ⟨h0, h2⟩
  · subst h1; rw [roN, if_pos h2]; exact .pure .nils
  · rw [roN, if_neg h0]; exact BestV.frz (lo := lo) (.inr ⟨h0, h2⟩)
theorem cycleN_ok (g : Gr) : Fun1 Try.prog 21 [encG g] (roN g.pcycle) := fun1_frz ((cycle0 g).mono fun r H h => h.frzN) (pu_cons (pu_graph g) pu_nil) (pu_roN _)

end Go.Proofs.Yteifhcohmipdcaa
