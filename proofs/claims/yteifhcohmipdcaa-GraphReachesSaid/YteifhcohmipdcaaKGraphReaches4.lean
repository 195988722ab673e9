/-
  GraphReaches answers true, whatever the input: part 4 of the proof. Conditions: none.
-/
import Derived.Test.YteifhcohmipdcaaKGraphReaches3
/-
  THE GRAPH FUNCTIONS, 12: descend, Path. Conditions: a valid graph, nodes in range. (Printed by w12.py.)
-/
namespace Go.Proofs.Yteifhcohmipdcaa
open Go.Abs
set_option linter.unusedSimpArgs false
set_option linter.unusedVariables false

set_option maxHeartbeats 1000000 in
theorem descend0 (g : Gr) (hv : g.valid = true) (ok : Int → Prop) (to a : Int) (d : List Int) (hD : IsDist g ok to d) (K0 : Nat) (ha : inR g.nodes.length a) (hF0 : g.Far ok to K0 a) : ACalls Try.prog 47 [encS g.succs, (AV.int IntKind.i64) a, .ro (d.map (AV.int IntKind.i64))] AHeap.nil (RowOut 3 1 ((g.way d K0 a).map (AV.int IntKind.i64))) := by
  refine acalls_body TT_ok Try.func47 rfl rfl (by simp [Try.ntmps47]) ?_
  rw [Try.ntmps47]
  obtain ⟨σ, hσ⟩ : ∃ σ, σ = st0 [encS g.succs, (AV.int IntKind.i64) a, .ro (d.map (AV.int IntKind.i64))] := ⟨_, rfl⟩
  rw [← hσ]
  have h0_0 := congrFun hσ 0
  simp [st0] at h0_0
  have h1_0 := congrFun hσ 1
  simp [st0] at h1_0
  have h2_0 := congrFun hσ 2
  simp [st0] at h2_0
  clear hσ
  obtain ⟨H, hH⟩ : ∃ H, H = AHeap.nil := ⟨_, rfl⟩
  rw [← hH]
  have hn_0 : H.n = 0 := by rw [hH]; rfl
  have hst_0 : H.st = 1 := by rw [hH]; rfl
  clear hH
  obtain ⟨hn1, hn2⟩ := valid_nodes hv
  have hdl := hD.len
  have hK1 := hF0.lt hv ha
  refine stp_reg TT_ok (by rfl) fun K hK => ?_
  simp [h2_0, hn_0, hst_0]
  try refine And.intro (by first | omega | rfl) ?_
  refine hK _ _ fun σ1 hσ H1 hH => ?_
  clear hK K
  have h0_1 := congrFun hσ 0
  have h1_1 := congrFun hσ 1
  have h5_1 := congrFun hσ 5
  simp [h0_0, h1_0] at h0_1 h1_1 h5_1
  clear hσ
  have g0_1 := gt_of hH 0
  simp [hn_0, hst_0] at g0_1
  have hn_1 := congrArg AHeap.n hH
  simp [hn_0, hst_0] at hn_1
  have hst_1 := congrArg AHeap.st hH
  simp [hn_0, hst_0] at hst_1
  clear hH
  refine stp_reg TT_ok (by rfl) fun K hK => ?_
  simp [h1_1, g0_1, hn_1, hst_1]
  try refine And.intro (by first | omega | rfl) ?_
  refine hK _ _ fun σ2 hσ H2 hH => ?_
  clear hK K
  have h0_2 := congrFun hσ 0
  have h1_2 := congrFun hσ 1
  have h5_2 := congrFun hσ 5
  have h7_2 := congrFun hσ 7
  simp [h0_1, h1_1, h5_1] at h0_2 h1_2 h5_2 h7_2
  clear hσ
  have g0_2 := gt_of hH 0
  have g1_2 := gt_of hH 1
  have g2_2 := gt_of hH 2
  simp [g0_1, hn_1, hst_1] at g0_2 g1_2 g2_2
  have hn_2 := congrArg AHeap.n hH
  simp [hn_1, hst_1] at hn_2
  have hst_2 := congrArg AHeap.st hH
  simp [hn_1, hst_1] at hst_2
  clear hH
  refine awp_seq ?_
  refine stp_reg TT_ok (by rfl) fun K hK => ?_
  simp [h1_2, g0_2, g1_2, g2_2, hn_2, hst_2]
  try refine And.intro (by first | omega | rfl) ?_
  refine hK _ _ fun σ3 hσ H3 hH => ?_
  clear hK K
  have h0_3 := congrFun hσ 0
  have h5_3 := congrFun hσ 5
  have h7_3 := congrFun hσ 7
  have h8_3 := congrFun hσ 8
  simp [h0_2, h5_2, h7_2] at h0_3 h5_3 h7_3 h8_3
  clear hσ
  have g0_3 := gt_of hH 0
  have g1_3 := gt_of hH 1
  have g2_3 := gt_of hH 2
  have g3_3 := gt_of hH 3
  simp [g0_2, g1_2, g2_2, hn_2, hst_2] at g0_3 g1_3 g2_3 g3_3
  have hn_3 := congrArg AHeap.n hH
  simp [hn_2, hst_2] at hn_3
  have hst_3 := congrArg AHeap.st hH
  simp [hn_2, hst_2] at hst_3
  clear hH
  refine awp_block ?_
  refine awp_loopV (fun n σ' H' => ∃ (k : Nat) (at_ : Int) (es : List Int) (gn : Nat) (id8 : Nat), n = k ∧ σ' 0 = σ3 0 ∧ σ' 5 = σ3 5 ∧ σ' 7 = σ3 7 ∧ σ' 8 = .ptr id8 0 0 0 ∧ H'.get 0 = H3.get 0 ∧ H'.get 1 = some (.row 3 1 gn (es.map (AV.int IntKind.i64))) ∧ H'.get 2 = some (.row 26 1 0 [.sl 1 gn 0 es.length]) ∧ H'.st = H3.st ∧ (inR g.nodes.length at_) ∧ (g.Far ok to k at_) ∧ (es ++ (g.way d k at_).tail = g.way d K0 a) ∧ (es.length + k ≤ 1024) ∧ (H'.get id8 = some (.row 3 1 0 [(AV.int IntKind.i64) at_])) ∧ (3 ≤ id8)) ?_ ?_
  · refine ⟨_, K0, a, [a], 0, 3, rfl, rfl, rfl, rfl, (by simp [h8_3]), rfl, (by simp [g1_3]), (by simp [g2_3]), rfl, ?_, ?_, ?_, ?_, ?_, ?_⟩
    · exact ha
    · exact hF0
    · cases K0 <;> simp [Gr.way]
    · simp; omega
    · exact g3_3
    · first | omega | (simp; done) | assumption
  · rintro n1 σ4 H4 ⟨k, at_, es, gn, id8, hn1, q0_4, q5_4, q7_4, h8_4, qg0_4, g1_4, g2_4, qst_4, p1, p2, p3, p4, p5, p6⟩
    have h0_4 := q0_4.trans h0_3
    have h5_4 := q5_4.trans h5_3
    have h7_4 := q7_4.trans h7_3
    have g0_4 := qg0_4.trans g0_3
    have hst_4 := qst_4.trans hst_3
    have nx1 : ¬ id8 = 0 ∧ ¬ 0 = id8 := by omega
    have nx2 : ¬ id8 = 1 ∧ ¬ 1 = id8 := by omega
    have nx3 : ¬ id8 = 2 ∧ ¬ 2 = id8 := by omega
    have hat := hD.all at_.toNat k (in_toNat p1) (by rw [toNat_cast p1]; exact p2)
    obtain ⟨t1, t2⟩ := p1
    have tl : at_.toNat < d.length := by omega
    have tl2 : at_.toNat < g.nodes.length := by omega
    obtain ⟨_, hat2⟩ := List.getElem?_eq_some_iff.1 hat
    refine awp_seq ?_
    refine stp_reg TT_ok (by rfl) fun K hK => ?_
    simp [h5_4, h8_4, g0_4, g1_4, g2_4, p5, nx1, nx2, nx3, t1, t2, tl, tl2, hdl, hat2]
    try refine And.intro (by first | omega | rfl) ?_
    refine hK _ _ fun σ5 hσ H5 hH => ?_
    clear hK K
    have h0_5 := congrFun hσ 0
    have h5_5 := congrFun hσ 5
    have h7_5 := congrFun hσ 7
    have h8_5 := congrFun hσ 8
    have h17_5 := congrFun hσ 17
    simp [h0_4, h5_4, h7_4, h8_4] at h0_5 h5_5 h7_5 h8_5 h17_5
    clear hσ
    replace hH : H4 = H5 := Eq.symm hH
    subst hH
    refine awp_cond _ (by simp only [aeval_tmp]; exact h17_5) (fun hc17 => ?_) (fun hc17 => ?_)
    · try simp at hc17
      obtain ⟨k2, rfl⟩ : ∃ k2, k = k2 + 1 := by
        cases k with
        | zero => simp at hc17
        | succ k => exact ⟨k, rfl⟩
      obtain ⟨nx, u1, u2, u3, u4, u5⟩ := next_far' hv hD ⟨t1, t2⟩ p2
      refine awp_skip ?_
      refine q_seq ?_
      refine awp_seq ?_
      refine awp_block ?_
      refine stp_reg TT_ok (by rfl) fun K hK => ?_
      simp [h0_5, h8_5, g0_4, g1_4, g2_4, p5, nx1, nx2, nx3]
      try refine And.intro (by first | omega | rfl) ?_
      refine stp_call (of_ok g.succs at_ 0) ?_
      simp [h0_5, h8_5, g0_4, g1_4, g2_4, p5, nx1, nx2, nx3]
      try refine And.intro (by first | omega | rfl) ?_
      refine hK _ _ fun σ6 hσ H6 hH => ?_
      clear hK K
      have h0_6 := congrFun hσ 0
      have h5_6 := congrFun hσ 5
      have h7_6 := congrFun hσ 7
      have h8_6 := congrFun hσ 8
      have h20_6 := congrFun hσ 20
      simp [h0_5, h5_5, h7_5, h8_5] at h0_6 h5_6 h7_6 h8_6 h20_6
      clear hσ
      replace hH : H4 = H6 := Eq.symm hH
      subst hH
      refine awp_block ?_
      refine awp_ok fun hok7 => ?_
      obtain ⟨k7, hn_k7⟩ : ∃ m, H4.n = m := ⟨_, rfl⟩
      have hf_k7 := hok7.now
      rw [hn_k7] at hf_k7
      have nx4 := ne_get hf_k7 g0_4
      have nx5 := ne_get hf_k7 g1_4
      have nx6 := ne_get hf_k7 g2_4
      have nx7 := ne_get hf_k7 p5
      refine stp_rangeOf k7 hn_k7 (by rw [aeval_tmp]; exact h20_6) (by decide) t1 (succs_get ⟨t1, t2⟩) (Nat.le_trans (succ_len _ _) (by omega)) (fun pre H' => H'.get 0 = H4.get 0 ∧ H'.get 1 = H4.get 1 ∧ H'.get 2 = H4.get 2 ∧ H'.get id8 = H4.get id8 ∧ H'.st = H4.st ∧ (∀ y ∈ pre, g.onward d at_ y.toNat = false)) ?_ ?_ ?_
      · intro b7 H7 hH
        have hkeep : ∀ j, H4.get j ≠ none → H7.get j = H4.get j := fun j hj => by rw [hH, alloc_get, if_neg (fun e => hj (by rw [e]; exact hok7.now))]
        refine ⟨(by rw [hH]; simp [g0_4, g1_4, g2_4, p5, hn_k7, hst_4, nx1, nx2, nx3, nx4, nx5, nx6, nx7]), (by rw [hH]; simp [g0_4, g1_4, g2_4, p5, hn_k7, hst_4, nx1, nx2, nx3, nx4, nx5, nx6, nx7]), (by rw [hH]; simp [g0_4, g1_4, g2_4, p5, hn_k7, hst_4, nx1, nx2, nx3, nx4, nx5, nx6, nx7]), (by rw [hH]; simp [g0_4, g1_4, g2_4, p5, hn_k7, hst_4, nx1, nx2, nx3, nx4, nx5, nx6, nx7]), (by rw [hH]; rfl), ?_⟩
        · simp
      · rintro busy rdy pre x H7 ⟨post, hpost⟩ ⟨qg0_7, qg1_7, qg2_7, qgid8_7, qst_7, r1⟩ hrdy_7 σ7 hσ
        have g0_7 := qg0_7.trans g0_4
        have g1_7 := qg1_7.trans g1_4
        have g2_7 := qg2_7.trans g2_4
        have gid8_7 := qgid8_7.trans p5
        have hst_7 := qst_7.trans hst_4
        have h5_7 := congrFun hσ 5
        simp [h5_6] at h5_7
        have h7_7 := congrFun hσ 7
        simp [h7_6] at h7_7
        have h8_7 := congrFun hσ 8
        simp [h8_6] at h8_7
        have h21_7 := congrFun hσ 21
        simp [] at h21_7
        clear hσ
        rw [geL0_succ hv] at hpost
        have hxs : x ∈ g.succ at_.toNat := by rw [hpost]; simp
        have hxe : (at_, x) ∈ g.edges := by rw [succ_mem hv, toNat_cast ⟨t1, t2⟩] at hxs; exact hxs
        obtain ⟨x1, x2⟩ : inR g.nodes.length x := (valid_edge hv hxe).2
        have x3 : x.toNat < d.length := by omega
        have x4 : x.toNat < g.nodes.length := by omega
        refine stp_regl TT_ok (by rfl) fun K hK => ?_
        simp [h21_7, g0_7, g1_7, g2_7, gid8_7, hrdy_7, nx1, nx2, nx3, nx4, nx5, nx6, nx7]
        try refine And.intro (by first | omega | rfl) ?_
        refine hK _ _ fun σ8 hσ H8 hH => ?_
        clear hK K
        have h5_8 := congrFun hσ 5
        have h7_8 := congrFun hσ 7
        have h8_8 := congrFun hσ 8
        have h9_8 := congrFun hσ 9
        simp [h5_7, h7_7, h8_7] at h5_8 h7_8 h8_8 h9_8
        clear hσ
        replace hH : H7 = H8 := Eq.symm hH
        subst hH
        refine q_ra hrdy_7 fun H9 hH => ?_
        have hkeep : ∀ j, j ≠ k7 → H9.get j = H7.get j := fun j hj => by rw [hH, put_getH, if_neg hj]
        have g0_10 := gt_of hH 0
        have g1_10 := gt_of hH 1
        have g2_10 := gt_of hH 2
        have gid8_10 := gt_of hH id8
        have gk7_10 := gt_of hH k7
        simp [g0_7, g1_7, g2_7, gid8_7, hrdy_7, hst_7, nx1, nx2, nx3, nx4, nx5, nx6, nx7] at g0_10 g1_10 g2_10 gid8_10 gk7_10
        have hst_10 : H9.st = _ := (congrArg AHeap.st hH).trans hst_7
        have hka := hkeep
        clear hkeep hH
        refine awp_block ?_
        by_cases hj : d[x.toNat] = (k2 : Int)
        · skip
          refine stp_lex false TT_ok mixed (by rfl) (by rfl) (by kernel_rfl) (by rfl) fun U hU K hK => ?_
          simp [h5_8, h8_8, h9_8, g0_10, g1_10, g2_10, gid8_10, gk7_10, nx1, nx2, nx3, nx4, nx5, nx6, nx7, hj, beq_iff_eq.2 hj, x1, x2, x3, x4, t1, t2, tl, tl2, hdl, hat2, wrap_ok (n := (k2 : Int)) (by omega) (by omega)]
          try refine And.intro (by first | omega | rfl) ?_
          refine hK _ _ _ (by subst hU; kernel_rfl) fun σ11 hσ H11 hH => ?_
          clear hK K hU U
          have h7_11 := congrFun hσ 7
          have h8_11 := congrFun hσ 8
          have h9_11 := congrFun hσ 9
          have h31_11 := congrFun hσ 31
          simp [h7_8, h8_8, h9_8] at h7_11 h8_11 h9_11 h31_11
          clear hσ
          replace hH : H9 = H11 := Eq.symm hH
          subst hH
          refine stp_true (by simp [aeval_tmp, h31_11, nx1, nx2, nx3, nx4, nx5, nx6, nx7, hj, beq_iff_eq.2 hj]) ?_
          refine stp_reg TT_ok (by rfl) fun K hK => ?_
          simp [h8_11, h9_11, g0_10, g1_10, g2_10, gid8_10, gk7_10, nx1, nx2, nx3, nx4, nx5, nx6, nx7, hj, beq_iff_eq.2 hj]
          try refine And.intro (by first | omega | rfl) ?_
          refine hK _ _ fun σ12 hσ H12 hH => ?_
          clear hK K
          have h7_12 := congrFun hσ 7
          have h9_12 := congrFun hσ 9
          simp [h7_11, h9_11] at h7_12 h9_12
          clear hσ
          have g0_12 := gt_of hH 0
          have g1_12 := gt_of hH 1
          have g2_12 := gt_of hH 2
          have gid8_12 := gt_of hH id8
          have gk7_12 := gt_of hH k7
          simp [g0_10, g1_10, g2_10, gid8_10, gk7_10, hst_10, nx1, nx2, nx3, nx4, nx5, nx6, nx7, hj, beq_iff_eq.2 hj] at g0_12 g1_12 g2_12 gid8_12 gk7_12
          have hst_12 := congrArg AHeap.st hH
          simp [hst_10] at hst_12
          clear hH
          refine awp_ok fun hok => ?_
          obtain ⟨m13, hn_m13⟩ : ∃ m, H12.n = m := ⟨_, rfl⟩
          have hf_m13_0 := hok.free 0
          simp [hn_m13, hst_12] at hf_m13_0
          have nx8 := ne_get hf_m13_0 g0_12
          have nx9 := ne_get hf_m13_0 g1_12
          have nx10 := ne_get hf_m13_0 g2_12
          have nx11 := ne_get hf_m13_0 gid8_12
          have nx12 := ne_get hf_m13_0 gk7_12
          refine stp_reg TT_ok (by rfl) fun K hK => ?_
          simp [h7_12, h9_12, g0_12, g1_12, g2_12, gid8_12, gk7_12, hn_m13, hst_12, nx1, nx2, nx3, nx4, nx5, nx6, nx7, hj, beq_iff_eq.2 hj, nx8, nx9, nx10, nx11, nx12, take_map_len, show (es.length + 1) * 8 ≤ 140737488355328 by omega, show es.length ≤ 9223372036854775806 by omega]
          try refine And.intro (by first | omega | rfl) ?_
          refine hK _ _ fun σ14 hσ H14 hH => ?_
          clear hK K
          clear hσ
          have g0_14 := gt_of hH 0
          have g1_14 := gt_of hH 1
          have g2_14 := gt_of hH 2
          have gid8_14 := gt_of hH id8
          have gk7_14 := gt_of hH k7
          have gm13_14 := gt_of hH m13
          simp [g0_12, g1_12, g2_12, gid8_12, gk7_12, hn_m13, hst_12, nx1, nx2, nx3, nx4, nx5, nx6, nx7, hj, beq_iff_eq.2 hj, nx8, nx9, nx10, nx11, nx12] at g0_14 g1_14 g2_14 gid8_14 gk7_14 gm13_14
          have hst_14 := congrArg AHeap.st hH
          simp [hst_12] at hst_14
          clear hH
          refine awp_exit ?_
          refine q_block_miss rfl ?_
          refine q_rb_exit gk7_14 fun b15 H15 hH => ?_
          have hkeep : ∀ j, j ≠ k7 → H15.get j = H14.get j := fun j hj => by rw [hH, put_getH, if_neg hj]
          have g0_16 := gt_of hH 0
          have g1_16 := gt_of hH 1
          have g2_16 := gt_of hH 2
          have gid8_16 := gt_of hH id8
          have gm13_16 := gt_of hH m13
          simp [g0_14, g1_14, g2_14, gid8_14, gk7_14, gm13_14, hst_14, nx1, nx2, nx3, nx4, nx5, nx6, nx7, hj, beq_iff_eq.2 hj, nx8, nx9, nx10, nx11, nx12] at g0_16 g1_16 g2_16 gid8_16 gm13_16
          have hst_16 : H15.st = _ := (congrArg AHeap.st hH).trans hst_14
          have hon : g.onward d at_ x.toNat = true := (onward_iff hD ⟨t1, t2⟩ p2 _).2 ⟨by rw [List.getElem?_eq_getElem x3, hj]; rfl, by rw [toNat_cast ⟨x1, x2⟩]; exact hxe⟩
          have hnx := next_of_split hv t1 hpost r1 hon
          have hnx2 : (nx : Int) = x := by rw [← u1, hnx]
          clear hH
          refine q_block_hit ?_
          refine q_block ?_
          refine q_seq ?_
          refine stp_reg TT_ok (by rfl) fun K hK => ?_
          simp [h8_6, g0_16, g1_16, g2_16, gid8_16, gm13_16, nx1, nx2, nx3, nx4, nx5, nx6, nx7, hj, beq_iff_eq.2 hj, nx8, nx9, nx10, nx11, nx12]
          try refine And.intro (by first | omega | rfl) ?_
          refine hK _ _ fun σ17 hσ H17 hH => ?_
          clear hK K
          have h0_17 := congrFun hσ 0
          have h5_17 := congrFun hσ 5
          have h7_17 := congrFun hσ 7
          have h37_17 := congrFun hσ 37
          simp [h0_6, h5_6, h7_6] at h0_17 h5_17 h7_17 h37_17
          clear hσ
          replace hH : H15 = H17 := Eq.symm hH
          subst hH
          refine awp_ok fun hok => ?_
          obtain ⟨m18, hn_m18⟩ : ∃ m, H15.n = m := ⟨_, rfl⟩
          have hf_m18_0 := hok.free 0
          simp [hn_m18, hst_16] at hf_m18_0
          have nx13 := ne_get hf_m18_0 g0_16
          have nx14 := ne_get hf_m18_0 g1_16
          have nx15 := ne_get hf_m18_0 g2_16
          have nx16 := ne_get hf_m18_0 gid8_16
          have nx17 := ne_get hf_m18_0 gm13_16
          refine stp_regl TT_ok (by rfl) fun K hK => ?_
          simp [h37_17, g0_16, g1_16, g2_16, gid8_16, gm13_16, hn_m18, hst_16, nx1, nx2, nx3, nx4, nx5, nx6, nx7, hj, beq_iff_eq.2 hj, nx8, nx9, nx10, nx11, nx12, nx13, nx14, nx15, nx16, nx17]
          try refine And.intro (by first | omega | rfl) ?_
          refine hK _ _ fun σ19 hσ H19 hH => ?_
          clear hK K
          have h0_19 := congrFun hσ 0
          have h5_19 := congrFun hσ 5
          have h7_19 := congrFun hσ 7
          have h8_19 := congrFun hσ 8
          simp [h0_17, h5_17, h7_17] at h0_19 h5_19 h7_19 h8_19
          clear hσ
          have g0_19 := gt_of hH 0
          have g1_19 := gt_of hH 1
          have g2_19 := gt_of hH 2
          have gid8_19 := gt_of hH id8
          have gm13_19 := gt_of hH m13
          have gm18_19 := gt_of hH m18
          simp [g0_16, g1_16, g2_16, gid8_16, gm13_16, hn_m18, hst_16, nx1, nx2, nx3, nx4, nx5, nx6, nx7, hj, beq_iff_eq.2 hj, nx8, nx9, nx10, nx11, nx12, nx13, nx14, nx15, nx16, nx17] at g0_19 g1_19 g2_19 gid8_19 gm13_19 gm18_19
          have hst_19 := congrArg AHeap.st hH
          simp [hst_16] at hst_19
          clear hH
          refine ⟨_, ?_, k2, x, es ++ [x], gn + 1, m18, rfl, (h0_19.trans h0_3.symm), (h5_19.trans h5_3.symm), (h7_19.trans h7_3.symm), (by simp [h8_19]), (g0_19.trans g0_3.symm), (by simp [g1_19]), (by simp [g2_19]), (hst_19.trans hst_3.symm), ?_, ?_, ?_, ?_, ?_, ?_⟩
          · omega
          · exact ⟨x1, x2⟩
          · rw [← hnx2]; exact u5
          · rw [← p3]; simp only [Gr.way, List.tail_cons, hnx]; rw [List.append_assoc, List.singleton_append, ← way_head]
          · simp; omega
          · exact gm18_19
          · omega
        · skip
          refine stp_lex false TT_ok mixed (by rfl) (by rfl) (by kernel_rfl) (by rfl) fun U hU K hK => ?_
          simp [h5_8, h8_8, h9_8, g0_10, g1_10, g2_10, gid8_10, gk7_10, nx1, nx2, nx3, nx4, nx5, nx6, nx7, hj, beq_eq_false_iff_ne.2 hj, x1, x2, x3, x4, t1, t2, tl, tl2, hdl, hat2, wrap_ok (n := (k2 : Int)) (by omega) (by omega)]
          try refine And.intro (by first | omega | rfl) ?_
          refine hK _ _ _ (by subst hU; kernel_rfl) fun σ20 hσ H20 hH => ?_
          clear hK K hU U
          have h7_20 := congrFun hσ 7
          have h8_20 := congrFun hσ 8
          have h9_20 := congrFun hσ 9
          have h31_20 := congrFun hσ 31
          simp [h7_8, h8_8, h9_8] at h7_20 h8_20 h9_20 h31_20
          clear hσ
          replace hH : H9 = H20 := Eq.symm hH
          subst hH
          refine stp_false (by simp [aeval_tmp, h31_20, nx1, nx2, nx3, nx4, nx5, nx6, nx7, hj, beq_eq_false_iff_ne.2 hj]) ?_
          refine awp_skip ?_
          refine q_block ?_
          refine q_rb gk7_10 fun H21 hH => ?_
          have hkeep : ∀ j, j ≠ k7 → H21.get j = H9.get j := fun j hj => by rw [hH, put_getH, if_neg hj]
          refine ⟨(by rw [hH]; simp [g0_10, g1_10, g2_10, gid8_10, gk7_10, hst_10, nx1, nx2, nx3, nx4, nx5, nx6, nx7, hj, beq_eq_false_iff_ne.2 hj, g0_4]), (by rw [hH]; simp [g0_10, g1_10, g2_10, gid8_10, gk7_10, hst_10, nx1, nx2, nx3, nx4, nx5, nx6, nx7, hj, beq_eq_false_iff_ne.2 hj, g1_4]), (by rw [hH]; simp [g0_10, g1_10, g2_10, gid8_10, gk7_10, hst_10, nx1, nx2, nx3, nx4, nx5, nx6, nx7, hj, beq_eq_false_iff_ne.2 hj, g2_4]), (by rw [hH]; simp [g0_10, g1_10, g2_10, gid8_10, gk7_10, hst_10, nx1, nx2, nx3, nx4, nx5, nx6, nx7, hj, beq_eq_false_iff_ne.2 hj, p5]), ((congrArg AHeap.st hH).trans (hst_10.trans hst_4.symm)), ?_⟩
          · intro y hy
            rcases List.mem_append.1 hy with h | h
            · exact r1 y h
            · simp at h; subst h
              rw [Bool.eq_false_iff]; intro h
              have := ((onward_iff hD ⟨t1, t2⟩ p2 _).1 h).1
              simp [x3] at this; exact hj this
      · rintro rdy b7 H7 ⟨qg0_7, qg1_7, qg2_7, qgid8_7, qst_7, r1⟩ hrdy_7 Hd7 hH
        have g0_7 := qg0_7.trans g0_4
        have g1_7 := qg1_7.trans g1_4
        have g2_7 := qg2_7.trans g2_4
        have gid8_7 := qgid8_7.trans p5
        have hst_7 := qst_7.trans hst_4
        have hkeep : ∀ j, j ≠ k7 → Hd7.get j = H7.get j := fun j hj => by rw [hH, put_getH, if_neg hj]
        have g0_22 := gt_of hH 0
        have g1_22 := gt_of hH 1
        have g2_22 := gt_of hH 2
        have gid8_22 := gt_of hH id8
        simp [g0_7, g1_7, g2_7, gid8_7, hst_7, nx1, nx2, nx3, nx4, nx5, nx6, nx7] at g0_22 g1_22 g2_22 gid8_22
        have hst_22 : Hd7.st = _ := (congrArg AHeap.st hH).trans hst_7
        exfalso
        have := r1 nx (by rw [geL0_succ hv]; exact (succ_mem hv).2 (by rw [toNat_cast ⟨t1, t2⟩]; exact u4))
        simp only [Int.toNat_natCast] at this
        rw [u3] at this; cases this
    · try simp at hc17
      obtain rfl : k = 0 := by omega
      refine awp_exit ?_
      refine q_seq_exit ?_
      refine q_loop_exit ?_
      refine q_block_hit ?_
      refine q_seq ?_
      refine stp_reg TT_ok (by rfl) fun K hK => ?_
      simp [h7_5, g0_4, g1_4, g2_4, p5, nx1, nx2, nx3]
      try refine And.intro (by first | omega | rfl) ?_
      refine hK _ _ fun σ23 hσ H23 hH => ?_
      clear hK K
      have h6_23 := congrFun hσ 6
      simp [] at h6_23
      clear hσ
      replace hH : H4 = H23 := Eq.symm hH
      subst hH
      refine awp_ret ?_
      refine q_fin1 h6_23 ?_
      have e : g.way d K0 a = es := by rw [← p3]; simp [Gr.way]
      exact ⟨1, gn, by rw [e]; simp, by rw [g1_4, e]⟩

theorem descend_ok (g : Gr) (hv : g.valid = true) (ok : Int → Prop) (to a : Int) (d : List Int) (hD : IsDist g ok to d) (K0 : Nat) (ha : inR g.nodes.length a) (hF0 : g.Far ok to K0 a) :
    Fun1 Try.prog 47 [encS g.succs, (AV.int IntKind.i64) a, .ro (d.map (AV.int IntKind.i64))] (.ro ((g.way d K0 a).map (AV.int IntKind.i64))) :=
  fun1_row (descend0 g hv ok to a d hD K0 ha hF0) (pu_cons (pu_encS _) (pu_cons (pu_int _ _) (pu_cons (pu_ints _) pu_nil))) (fun _ => pu_of_ints) (fun _ => one_ints)

set_option maxHeartbeats 1000000 in
theorem gpath0 (g : Gr) (a b : Int) : ACalls Try.prog 15 [encG g, (AV.int IntKind.i64) a, (AV.int IntKind.i64) b] AHeap.nil (fun r H => Frz H r (.ro ((g.path a b).map (AV.int IntKind.i64)))) := by
  refine acalls_body TT_ok Try.func15 rfl rfl (by simp [Try.ntmps15]) ?_
  rw [Try.ntmps15]
  obtain ⟨σ, hσ⟩ : ∃ σ, σ = st0 [encG g, (AV.int IntKind.i64) a, (AV.int IntKind.i64) b] := ⟨_, rfl⟩
  rw [← hσ]
  have h0_0 := congrFun hσ 0
  simp [st0] at h0_0
  have h1_0 := congrFun hσ 1
  simp [st0] at h1_0
  have h2_0 := congrFun hσ 2
  simp [st0] at h2_0
  clear hσ
  obtain ⟨H, hH⟩ : ∃ H, H = AHeap.nil := ⟨_, rfl⟩
  rw [← hH]
  have hn_0 : H.n = 0 := by rw [hH]; rfl
  have hst_0 : H.st = 1 := by rw [hH]; rfl
  clear hH
  refine stp_reg TT_ok (by rfl) fun K hK => ?_
  simp [h0_0, hn_0, hst_0, encG]
  try refine And.intro (by first | omega | rfl) ?_
  refine hK _ _ fun σ1 hσ H1 hH => ?_
  clear hK K
  have h1_1 := congrFun hσ 1
  have h2_1 := congrFun hσ 2
  have h3_1 := congrFun hσ 3
  simp [h1_0, h2_0] at h1_1 h2_1 h3_1
  clear hσ
  have g0_1 := gt_of hH 0
  simp [hn_0, hst_0] at g0_1
  have hn_1 := congrArg AHeap.n hH
  simp [hn_0, hst_0] at hn_1
  have hst_1 := congrArg AHeap.st hH
  simp [hn_0, hst_0] at hst_1
  clear hH
  refine awp_seq ?_
  refine stp_reg TT_ok (by rfl) fun K hK => ?_
  simp [h1_1, h2_1, h3_1, g0_1, hn_1, hst_1, encG]
  try refine And.intro (by first | omega | rfl) ?_
  refine FunW.at (exist_w g [a, b] (by simp)) ?hf ?_
  case hf => exact FrzL.cons (.pure (pu_graph g)) (FrzL.cons (frz_ints (xs := [a, b]) (by simp [h1_1, h2_1, h3_1, g0_1, hn_1, hst_1, encG]; rfl) rfl) (FrzL.nil _))
  simp [h1_1, h2_1, h3_1, g0_1, hn_1, hst_1, encG]
  try refine And.intro (by first | omega | rfl) ?_
  refine hK _ _ fun σ2 hσ H2 hH => ?_
  clear hK K
  have h1_2 := congrFun hσ 1
  have h2_2 := congrFun hσ 2
  have h3_2 := congrFun hσ 3
  have h13_2 := congrFun hσ 13
  simp [h1_1, h2_1, h3_1] at h1_2 h2_2 h3_2 h13_2
  clear hσ
  have g0_2 := gt_of hH 0
  have g1_2 := gt_of hH 1
  simp [g0_1, hn_1, hst_1] at g0_2 g1_2
  have hn_2 := congrArg AHeap.n hH
  simp [hn_1, hst_1] at hn_2
  have hst_2 := congrArg AHeap.st hH
  simp [hn_1, hst_1] at hst_2
  clear hH
  refine awp_cond _ (by simp only [aeval_tmp]; exact h13_2) (fun hc13 => ?_) (fun hc13 => ?_)
  · try simp at hc13
    refine stp_reg TT_ok (by rfl) fun K hK => ?_
    simp [g0_2, g1_2, encG]
    try refine And.intro (by first | omega | rfl) ?_
    refine hK _ _ fun σ3 hσ H3 hH => ?_
    clear hK K
    have h6_3 := congrFun hσ 6
    simp [] at h6_3
    clear hσ
    replace hH : H2 = H3 := Eq.symm hH
    subst hH
    refine awp_ret ?_
    refine q_seq_ret ?_
    refine q_fin1 h6_3 ?_
    rw [show g.path a b = [] by simp [Gr.path, hc13]]; exact .nils
  · try simp at hc13
    obtain ⟨hin, hv⟩ := exist_iff.1 hc13
    obtain ⟨a1, a2⟩ := hin a (by simp)
    obtain ⟨b1, b2⟩ := hin b (by simp)
    have hD := dist_is hv (to := b) ⟨b1, b2⟩
    obtain ⟨d, hd⟩ : ∃ d, d = g.dist b := ⟨_, rfl⟩
    rw [← hd] at hD
    have hdl := hD.len
    have hal : a.toNat < d.length := by omega
    have hal2 : a.toNat < g.nodes.length := by omega
    have hds : (g.sub 0).dist b = d := by rw [sub_zero hv, hd]
    refine awp_skip ?_
    refine q_seq ?_
    refine stp_reg TT_ok (by rfl) fun K hK => ?_
    simp [h2_2, h3_2, g0_2, g1_2, encG]
    try refine And.intro (by first | omega | rfl) ?_
    refine stp_call (reverse_ok g) ?_
    simp [h2_2, h3_2, g0_2, g1_2, encG]
    try refine And.intro (by first | omega | rfl) ?_
    refine stp_call (succs_ok g.rev (rev_valid hv)) ?_
    simp [h2_2, h3_2, g0_2, g1_2, encG]
    try refine And.intro (by first | omega | rfl) ?_
    refine stp_call (distances_ok g hv b 0 ⟨b1, b2⟩ b1) ?_
    simp [h2_2, h3_2, g0_2, g1_2, encG]
    try refine And.intro (by first | omega | rfl) ?_
    refine hK _ _ fun σ4 hσ H4 hH => ?_
    clear hK K
    have h1_4 := congrFun hσ 1
    have h3_4 := congrFun hσ 3
    have h7_4 := congrFun hσ 7
    simp [h1_2, h3_2] at h1_4 h3_4 h7_4
    clear hσ
    replace hH : H2 = H4 := Eq.symm hH
    subst hH
    try rw [hds] at h7_4
    refine awp_seq ?_
    refine stp_reg TT_ok (by rfl) fun K hK => ?_
    simp [h1_4, h7_4, g0_2, g1_2, encG, a1, a2, hal, hal2, hdl]
    try refine And.intro (by first | omega | rfl) ?_
    refine hK _ _ fun σ5 hσ H5 hH => ?_
    clear hK K
    have h1_5 := congrFun hσ 1
    have h3_5 := congrFun hσ 3
    have h7_5 := congrFun hσ 7
    have h23_5 := congrFun hσ 23
    simp [h1_4, h3_4, h7_4] at h1_5 h3_5 h7_5 h23_5
    clear hσ
    replace hH : H2 = H5 := Eq.symm hH
    subst hH
    refine awp_cond _ (by simp only [aeval_tmp]; exact h23_5) (fun hc23 => ?_) (fun hc23 => ?_)
    · try simp at hc23
      refine stp_reg TT_ok (by rfl) fun K hK => ?_
      simp [g0_2, g1_2, encG]
      try refine And.intro (by first | omega | rfl) ?_
      refine hK _ _ fun σ6 hσ H6 hH => ?_
      clear hK K
      have h6_6 := congrFun hσ 6
      simp [] at h6_6
      clear hσ
      replace hH : H2 = H6 := Eq.symm hH
      subst hH
      refine awp_ret ?_
      refine q_seq_ret ?_
      refine q_fin1 h6_6 ?_
      rw [show g.path a b = [] by simp [Gr.path, hc13, ← hd, hal, hc23]]; exact .nils
    · try simp at hc23
      obtain ⟨K0, hK0, hF0⟩ : ∃ k : Nat, d[a.toNat] = k ∧ g.Far (fun _ => True) b k a := by
        rcases hD.val a.toNat _ (List.getElem?_eq_getElem hal) with q | ⟨k, q, hk⟩
        · omega
        · exact ⟨k, q, by rwa [Int.toNat_of_nonneg a1] at hk⟩
      refine awp_skip ?_
      refine q_seq ?_
      refine stp_reg TT_ok (by rfl) fun K hK => ?_
      simp [h1_5, h3_5, h7_5, g0_2, g1_2, encG]
      try refine And.intro (by first | omega | rfl) ?_
      refine stp_call (succs_ok g hv) ?_
      simp [h1_5, h3_5, h7_5, g0_2, g1_2, encG]
      try refine And.intro (by first | omega | rfl) ?_
      refine stp_call (descend_ok g hv (fun _ => True) b a d hD K0 ⟨a1, a2⟩ hF0) ?_
      simp [h1_5, h3_5, h7_5, g0_2, g1_2, encG]
      try refine And.intro (by first | omega | rfl) ?_
      refine hK _ _ fun σ7 hσ H7 hH => ?_
      clear hK K
      have h6_7 := congrFun hσ 6
      simp [] at h6_7
      clear hσ
      replace hH : H2 = H7 := Eq.symm hH
      subst hH
      refine awp_ret ?_
      refine q_fin1 h6_7 ?_
      have hD0 : d.getD a.toNat 0 = K0 := by rw [List.getD_eq_getElem?_getD, List.getElem?_eq_getElem hal]; exact hK0
      have e : g.path a b = g.way d K0 a := by simp only [Gr.path, hc13, if_true, ← hd]; rw [hD0, if_neg (by omega), Int.toNat_natCast]
      rw [e]; exact .pure (pu_ints _)

theorem path_ok (g : Gr) (a b : Int) : Fun1 Try.prog 15 [encG g, (AV.int IntKind.i64) a, (AV.int IntKind.i64) b] (.ro ((g.path a b).map (AV.int IntKind.i64))) :=
  fun1_frz (gpath0 g a b) (pu_cons (pu_graph _) (pu_cons (pu_int _ _) (pu_cons (pu_int _ _) pu_nil))) (pu_ints _)

end Go.Proofs.Yteifhcohmipdcaa

/-
  THE GRAPH FUNCTIONS, plain law 10: a search in depth marks what is reached. Conditions: a valid graph.
-/
namespace Go.Proofs.Yteifhcohmipdcaa
open Go.Abs
set_option linter.unusedSimpArgs false
set_option linter.unusedVariables false

/-- The marks before and behind visits of some nodes, one by one. -/
structure Dfs (g : Gr) (bs : List Bool) (xs : List Int) (bs' : List Bool) : Prop where
  len : bs'.length = bs.length
  mono : ∀ v : Nat, bs[v]? = some true → bs'[v]? = some true
  hit : ∀ x ∈ xs, bs'[x.toNat]? = some true
  sound : ∀ v : Nat, bs'[v]? = some true → bs[v]? = some true ∨ g.Reach xs v
  closed : ∀ v : Nat, bs'[v]? = some true → bs[v]? = some true ∨ ∀ w, ((v : Int), w) ∈ g.edges → bs'[w.toNat]? = some true
theorem Dfs.nil (g : Gr) (bs : List Bool) : Dfs g bs [] bs := ⟨rfl, fun _ h => h, fun _ h => by simp at h, fun _ h => .inl h, fun _ h => .inl h⟩
theorem Dfs.seen (g : Gr) {bs : List Bool} {x : Int} (h : bs[x.toNat]? = some true) : Dfs g bs [x] bs := ⟨rfl, fun _ h => h, fun y hy => by simp at hy; subst hy; exact h, fun _ h => .inl h, fun _ h => .inl h⟩
theorem Gr.Reach.mono {g : Gr} {l m : List Int} (h : ∀ x ∈ l, x ∈ m) {v : Int} (hv : g.Reach l v) : g.Reach m v := by
  induction hv with
  | base hx => exact .base (h _ hx)
  | step _ he ih => exact .step ih he
theorem Dfs.snoc {g : Gr} {bs bs2 bs3 : List Bool} {pre : List Int} {y : Int} (h : Dfs g bs pre bs2) (k : Dfs g bs2 [y] bs3) : Dfs g bs (pre ++ [y]) bs3 := by
  refine ⟨k.len.trans h.len, fun v hv => k.mono v (h.mono v hv), fun x hx => ?_, fun v hv => ?_, fun v hv => ?_⟩
  · rcases List.mem_append.1 hx with hx | hx
    · exact k.mono _ (h.hit x hx)
    · exact k.hit x hx
  · rcases k.sound v hv with h1 | h1
    · rcases h.sound v h1 with h2 | h2
      · exact .inl h2
      · exact .inr (h2.mono fun x hx => List.mem_append.2 (.inl hx))
    · exact .inr (h1.mono fun x hx => List.mem_append.2 (.inr hx))
  · rcases k.closed v hv with h1 | h1
    · rcases h.closed v h1 with h2 | h2
      · exact .inl h2
      · exact .inr fun w hw => k.mono _ (h2 w hw)
    · exact .inr h1
theorem Gr.Reach.of_succ {g : Gr} {x : Int} {l : List Int} (hl : ∀ y ∈ l, (x, y) ∈ g.edges) {v : Int} (h : g.Reach l v) : g.Reach [x] v := by
  induction h with
  | base hx => exact .step (.base (by simp)) (hl _ hx)
  | step _ he ih => exact .step ih he
theorem Dfs.node {g : Gr} (hv : g.valid = true) {bs bs2 : List Bool} {x : Int} (hx : inR g.nodes.length x) (hl : bs.length = g.nodes.length) (h : Dfs g (bs.set x.toNat true) (g.succ x.toNat) bs2) : Dfs g bs [x] bs2 := by
  have hxl : x.toNat < bs.length := by rw [hl]; exact in_toNat hx
  have hset : ∀ v : Nat, (bs.set x.toNat true)[v]? = if x.toNat = v then some true else bs[v]? := fun v => by
    rw [List.getElem?_set]
    by_cases e : x.toNat = v
    · subst e; simp [hxl]
    · simp [e]
  have hm : ∀ y, y ∈ g.succ x.toNat ↔ (x, y) ∈ g.edges := fun y => by rw [succ_mem hv, toNat_cast hx]
  refine ⟨by simpa using h.len, fun v h1 => h.mono v (set_true_mono h1), fun y hy => ?_, fun v hv' => ?_, fun v hv' => ?_⟩
  · simp at hy; subst hy
    exact h.mono _ (by rw [hset, if_pos rfl])
  · rcases h.sound v hv' with h1 | h1
    · rw [hset] at h1
      split at h1
      · rename_i e; right; rw [← e, toNat_cast hx]; exact .base (by simp)
      · exact .inl h1
    · exact .inr (h1.of_succ fun y hy => (hm y).1 hy)
  · rcases h.closed v hv' with h1 | h1
    · rw [hset] at h1
      split at h1
      · rename_i e; right
        intro w hw
        rw [← e, toNat_cast hx] at hw
        exact h.hit w ((hm w).2 hw)
      · exact .inl h1
    · exact .inr h1
theorem mono_count : ∀ {bs cs : List Bool}, cs.length = bs.length → (∀ v : Nat, bs[v]? = some true → cs[v]? = some true) → cs.count false ≤ bs.count false
  | [], [], _, _ => Nat.le_refl _
  | [], _ :: _, h, _ => by simp at h
  | _ :: _, [], h, _ => by simp at h
  | b :: bs, c :: cs, h, hm => by
    have ih := mono_count (bs := bs) (cs := cs) (by simpa using h) (fun v hv => by have := hm (v + 1) (by simpa using hv); simpa using this)
    have h0 := hm 0
    simp only [List.count_cons]
    cases b <;> cases c <;> simp at h0 ⊢ <;> omega
theorem Dfs.count {g : Gr} {bs bs' : List Bool} {xs : List Int} (h : Dfs g bs xs bs') : bs'.count false ≤ bs.count false := mono_count h.len h.mono
theorem Dfs.marks {g : Gr} (hv : g.valid = true) {l : List Int} (hl : ∀ x ∈ l, inR g.nodes.length x) {bs : List Bool} (h : Dfs g (List.replicate g.nodes.length false) l bs) : bs = g.marks l := by
  have hf : ∀ v : Nat, (List.replicate g.nodes.length false)[v]? ≠ some true := fun v => by rw [List.getElem?_replicate]; split <;> simp
  refine IsMarks.uniq (g := g) (l := l) ?_ (marks_is hv hl)
  refine isMarks_of hv hl ⟨by simpa using h.len, fun v hv' => (h.sound v hv').resolve_left (hf v)⟩ h.hit fun e he h1 => ?_
  have hr := (valid_edge hv he).1
  exact (h.closed e.1.toNat h1).resolve_left (hf _) e.2 (by rw [toNat_cast hr]; exact he)
end Go.Proofs.Yteifhcohmipdcaa

/-
  THE GRAPH FUNCTIONS, 13: Reach, the program's and the reference's. Conditions: few nodes to start from. (Printed by w13.py.)
-/
namespace Go.Proofs.Yteifhcohmipdcaa
open Go.Abs
set_option linter.unusedSimpArgs false
set_option linter.unusedVariables false

set_option maxHeartbeats 1000000 in
theorem visit0 (g : Gr) (hv : g.valid = true) (i5 i6 i7 ir : Nat) (e5 e6 e7 : TypeId) (n5 : ¬ i5 = ir) (n6 : ¬ i6 = ir) (n7 : ¬ i7 = ir) : ∀ (n : Nat) (bs : List Bool) (x : Int) (H0 : AHeap), bs.count false = n → bs.length = g.nodes.length → inR g.nodes.length x → H0.st = 1 →
    H0.get i5 = some (.row e5 1 0 [encS g.succs]) → H0.get i6 = some (.row e6 1 0 [.sl ir 0 0 g.nodes.length]) → H0.get i7 = some (.row e7 1 0 [.fn 41 [.ptr i6 0 0 0, .ptr i5 0 0 0, .ptr i7 0 0 0]]) → H0.get ir = some (.row 4 1 0 (bs.map .bool)) →
    ACalls Try.prog 41 [(AV.int IntKind.i64) x, .ptr i6 0 0 0, .ptr i5 0 0 0, .ptr i7 0 0 0] H0 fun r H => r = .tup [] ∧ ∃ bs', Dfs g bs [x] bs' ∧ H.get ir = some (.row 4 1 0 (bs'.map .bool)) ∧ (∀ j, H0.get j ≠ none → j ≠ ir → H.get j = H0.get j) ∧ H.st = 1 := by
  intro n
  induction n using Nat.strongRecOn
  rename_i n ih
  intro bs x H0 hcnt hbl hx hst0 h5 h6 h7 hr
  obtain ⟨hn1, hn2⟩ := valid_nodes hv
  obtain ⟨x1, x2⟩ := hx
  have x3 : x.toNat < bs.length := by omega
  have x4 : x.toNat < g.nodes.length := by omega
  have hbx : bs[x.toNat]? = some bs[x.toNat] := List.getElem?_eq_getElem x3
  refine acalls_body TT_ok Try.func41 rfl rfl (by simp [Try.ntmps41]) ?_
  rw [Try.ntmps41]
  obtain ⟨σ, hσ⟩ : ∃ σ, σ = st0 [(AV.int IntKind.i64) x, .ptr i6 0 0 0, .ptr i5 0 0 0, .ptr i7 0 0 0] := ⟨_, rfl⟩
  rw [← hσ]
  have h0_0 := congrFun hσ 0
  simp [st0] at h0_0
  have h1_0 := congrFun hσ 1
  simp [st0] at h1_0
  have h2_0 := congrFun hσ 2
  simp [st0] at h2_0
  have h3_0 := congrFun hσ 3
  simp [st0] at h3_0
  clear hσ
  refine awp_seq ?_
  refine stp_reg TT_ok (by rfl) fun K hK => ?_
  simp [h0_0, h1_0, h5, h6, h7, hr, n5, n6, n7, Ne.symm n5, Ne.symm n6, Ne.symm n7, x1, x2, x3, x4, hbl]
  try refine And.intro (by first | omega | rfl) ?_
  refine hK _ _ fun σ1 hσ H1 hH => ?_
  clear hK K
  have h0_1 := congrFun hσ 0
  have h1_1 := congrFun hσ 1
  have h2_1 := congrFun hσ 2
  have h3_1 := congrFun hσ 3
  have h9_1 := congrFun hσ 9
  simp [h0_0, h1_0, h2_0, h3_0] at h0_1 h1_1 h2_1 h3_1 h9_1
  clear hσ
  replace hH : H0 = H1 := Eq.symm hH
  subst hH
  refine awp_cond _ (by simp only [aeval_tmp]; exact h9_1) (fun hc9 => ?_) (fun hc9 => ?_)
  · try simp at hc9
    refine awp_ret ?_
    refine q_seq_ret ?_
    refine q_fin0r ?_
    exact ⟨rfl, bs, Dfs.seen g (by rw [hbx, hc9]), hr, fun _ _ _ => rfl, hst0⟩
  · try simp at hc9
    refine awp_skip ?_
    refine q_seq ?_
    refine stp_reg TT_ok (by rfl) fun K hK => ?_
    simp [h0_1, h1_1, h5, h6, h7, hr, n5, n6, n7, Ne.symm n5, Ne.symm n6, Ne.symm n7, x1, x2, x3, x4, hbl]
    try refine And.intro (by first | omega | rfl) ?_
    refine hK _ _ fun σ2 hσ H2 hH => ?_
    clear hK K
    have h0_2 := congrFun hσ 0
    have h2_2 := congrFun hσ 2
    have h3_2 := congrFun hσ 3
    simp [h0_1, h2_1, h3_1] at h0_2 h2_2 h3_2
    clear hσ
    have gi5_2 := gt_of hH i5
    have gi6_2 := gt_of hH i6
    have gi7_2 := gt_of hH i7
    have gir_2 := gt_of hH ir
    simp [h5, h6, h7, hr, hst0, n5, n6, n7, Ne.symm n5, Ne.symm n6, Ne.symm n7] at gi5_2 gi6_2 gi7_2 gir_2
    have hst_2 := congrArg AHeap.st hH
    simp [hst0] at hst_2
    have k1 : ∀ j, H0.get j ≠ none → j ≠ ir → H2.get j = H0.get j := fun j _ h2 => by rw [hH]; simp [h2]
    clear hH
    refine stp_reg TT_ok (by rfl) fun K hK => ?_
    simp [h0_2, h2_2, gi5_2, gi6_2, gi7_2, gir_2, n5, n6, n7, Ne.symm n5, Ne.symm n6, Ne.symm n7, encS]
    try refine And.intro (by first | omega | rfl) ?_
    refine stp_call (of_ok g.succs x 0) ?_
    simp [h0_2, h2_2, gi5_2, gi6_2, gi7_2, gir_2, n5, n6, n7, Ne.symm n5, Ne.symm n6, Ne.symm n7, encS]
    try refine And.intro (by first | omega | rfl) ?_
    refine hK _ _ fun σ3 hσ H3 hH => ?_
    clear hK K
    have h3_3 := congrFun hσ 3
    have h15_3 := congrFun hσ 15
    simp [h3_2] at h3_3 h15_3
    clear hσ
    replace hH : H2 = H3 := Eq.symm hH
    subst hH
    refine awp_block ?_
    refine awp_ok fun hok4 => ?_
    obtain ⟨k4, hn_k4⟩ : ∃ m, H2.n = m := ⟨_, rfl⟩
    have hf_k4 := hok4.now
    rw [hn_k4] at hf_k4
    have nx1 := ne_get hf_k4 gi5_2
    have nx2 := ne_get hf_k4 gi6_2
    have nx3 := ne_get hf_k4 gi7_2
    have nx4 := ne_get hf_k4 gir_2
    refine stp_rangeOf k4 hn_k4 (by rw [aeval_tmp]; exact h15_3) (by decide) x1 (succs_get ⟨x1, x2⟩) (Nat.le_trans (succ_len _ _) (by omega)) (fun pre H' => ∃ (b2 : List Bool), H'.get i5 = H2.get i5 ∧ H'.get i6 = H2.get i6 ∧ H'.get i7 = H2.get i7 ∧ H'.get ir = some (.row 4 1 0 (b2.map .bool)) ∧ H'.st = H2.st ∧ (Dfs g (bs.set x.toNat true) pre b2) ∧ (∀ j, H0.get j ≠ none → j ≠ ir → H'.get j = H0.get j)) ?_ ?_ ?_
    · intro b4 H4 hH
      have hkeep : ∀ j, H2.get j ≠ none → H4.get j = H2.get j := fun j hj => by rw [hH, alloc_get, if_neg (fun e => hj (by rw [e]; exact hok4.now))]
      refine ⟨bs.set x.toNat true, (by rw [hH]; simp [gi5_2, gi6_2, gi7_2, gir_2, hn_k4, hst_2, n5, n6, n7, Ne.symm n5, Ne.symm n6, Ne.symm n7, nx1, nx2, nx3, nx4]), (by rw [hH]; simp [gi5_2, gi6_2, gi7_2, gir_2, hn_k4, hst_2, n5, n6, n7, Ne.symm n5, Ne.symm n6, Ne.symm n7, nx1, nx2, nx3, nx4]), (by rw [hH]; simp [gi5_2, gi6_2, gi7_2, gir_2, hn_k4, hst_2, n5, n6, n7, Ne.symm n5, Ne.symm n6, Ne.symm n7, nx1, nx2, nx3, nx4]), (by rw [hH]; simp [gi5_2, gi6_2, gi7_2, gir_2, hn_k4, hst_2, n5, n6, n7, Ne.symm n5, Ne.symm n6, Ne.symm n7, nx1, nx2, nx3, nx4]), (by rw [hH]; rfl), ?_, ?_⟩
      · exact Dfs.nil _ _
      · exact fun j h1 h2 => (hkeep j (by rw [k1 j h1 h2]; exact h1)).trans (k1 j h1 h2)
    · rintro busy rdy pre x_ H4 ⟨post, hpost⟩ ⟨b2, qgi5_4, qgi6_4, qgi7_4, gir_4, qst_4, d1, d2⟩ hrdy_4 σ4 hσ
      have gi5_4 := qgi5_4.trans gi5_2
      have gi6_4 := qgi6_4.trans gi6_2
      have gi7_4 := qgi7_4.trans gi7_2
      have hst_4 := qst_4.trans hst_2
      have h3_4 := congrFun hσ 3
      simp [h3_3] at h3_4
      have h16_4 := congrFun hσ 16
      simp [] at h16_4
      clear hσ
      rw [geL0_succ hv] at hpost
      have hxs : x_ ∈ g.succ x.toNat := by rw [hpost]; simp
      have hxe : (x, x_) ∈ g.edges := by rw [succ_mem hv, toNat_cast ⟨x1, x2⟩] at hxs; exact hxs
      have hxr : inR g.nodes.length x_ := (valid_edge hv hxe).2
      have hb1 := count_set (bs := bs) (k := x.toNat) (by rw [hbx]; simpa using hc9)
      have hb2 := d1.count
      have hb3 : b2.length = g.nodes.length := by rw [d1.len]; simpa using hbl
      refine stp_regl TT_ok (by rfl) fun K hK => ?_
      simp [h16_4, gi5_4, gi6_4, gi7_4, gir_4, hrdy_4, n5, n6, n7, Ne.symm n5, Ne.symm n6, Ne.symm n7, nx1, nx2, nx3, nx4]
      try refine And.intro (by first | omega | rfl) ?_
      refine hK _ _ fun σ5 hσ H5 hH => ?_
      clear hK K
      have h3_5 := congrFun hσ 3
      have h5_5 := congrFun hσ 5
      simp [h3_4] at h3_5 h5_5
      clear hσ
      replace hH : H4 = H5 := Eq.symm hH
      subst hH
      refine q_ra hrdy_4 fun H6 hH => ?_
      have hkeep : ∀ j, j ≠ k4 → H6.get j = H4.get j := fun j hj => by rw [hH, put_getH, if_neg hj]
      have gi5_7 := gt_of hH i5
      have gi6_7 := gt_of hH i6
      have gi7_7 := gt_of hH i7
      have gir_7 := gt_of hH ir
      have gk4_7 := gt_of hH k4
      simp [gi5_4, gi6_4, gi7_4, gir_4, hrdy_4, hst_4, n5, n6, n7, Ne.symm n5, Ne.symm n6, Ne.symm n7, nx1, nx2, nx3, nx4] at gi5_7 gi6_7 gi7_7 gir_7 gk4_7
      have hst_7 : H6.st = _ := (congrArg AHeap.st hH).trans hst_4
      have hka := hkeep
      clear hkeep hH
      refine awp_block ?_
      refine stp_regl TT_ok (by rfl) fun K hK => ?_
      simp [h3_5, h5_5, gi5_7, gi6_7, gi7_7, gir_7, gk4_7, n5, n6, n7, Ne.symm n5, Ne.symm n6, Ne.symm n7, nx1, nx2, nx3, nx4]
      try refine And.intro (by first | omega | rfl) ?_
      refine (ih (b2.count false) (by omega) b2 x_ H6 rfl hb3 hxr hst_7 gi5_7 gi6_7 gi7_7 gir_7).mono ?_
      rintro r Hy ⟨rfl, b3, hd3, hr3, hk3, hst3⟩
      simp [h3_5, h5_5, gi5_7, gi6_7, gi7_7, gir_7, gk4_7, n5, n6, n7, Ne.symm n5, Ne.symm n6, Ne.symm n7, nx1, nx2, nx3, nx4]
      try refine And.intro (by first | omega | rfl) ?_
      refine hK _ _ fun σ8 hσ H8 hH => ?_
      clear hK K
      clear hσ
      subst hH
      have gi5_8 := (hk3 i5 (by rw [gi5_7]; simp) (by first | assumption | omega | (intro h; omega))).trans gi5_7
      have gi6_8 := (hk3 i6 (by rw [gi6_7]; simp) (by first | assumption | omega | (intro h; omega))).trans gi6_7
      have gi7_8 := (hk3 i7 (by rw [gi7_7]; simp) (by first | assumption | omega | (intro h; omega))).trans gi7_7
      have gir_8 := hr3
      have gk4_8 := (hk3 k4 (by rw [gk4_7]; simp) (by first | assumption | omega | (intro h; omega))).trans gk4_7
      have hst_8 := hst3
      refine q_block ?_
      refine q_rb gk4_8 fun H9 hH => ?_
      have hkeep : ∀ j, j ≠ k4 → H9.get j = H8.get j := fun j hj => by rw [hH, put_getH, if_neg hj]
      have hjL : ∀ j, H0.get j ≠ none → j ≠ ir → j ≠ k4 := fun j h1 h2 e => by rw [← k1 j h1 h2, e, hf_k4] at h1; exact h1 rfl
      refine ⟨b3, (by rw [hH]; simp [gi5_8, gi6_8, gi7_8, gir_8, gk4_8, hst_8, n5, n6, n7, Ne.symm n5, Ne.symm n6, Ne.symm n7, nx1, nx2, nx3, nx4, gi5_2]), (by rw [hH]; simp [gi5_8, gi6_8, gi7_8, gir_8, gk4_8, hst_8, n5, n6, n7, Ne.symm n5, Ne.symm n6, Ne.symm n7, nx1, nx2, nx3, nx4, gi6_2]), (by rw [hH]; simp [gi5_8, gi6_8, gi7_8, gir_8, gk4_8, hst_8, n5, n6, n7, Ne.symm n5, Ne.symm n6, Ne.symm n7, nx1, nx2, nx3, nx4, gi7_2]), (by rw [hH]; simp [gi5_8, gi6_8, gi7_8, gir_8, gk4_8, hst_8, n5, n6, n7, Ne.symm n5, Ne.symm n6, Ne.symm n7, nx1, nx2, nx3, nx4]), ((congrArg AHeap.st hH).trans (hst_8.trans hst_2.symm)), ?_, ?_⟩
      · exact d1.snoc hd3
      · intro j h1 h2
        have q1 := hka j (hjL j h1 h2)
        have q2 := d2 j h1 h2
        exact (hkeep j (hjL j h1 h2)).trans ((hk3 j (by rw [q1, q2]; exact h1) h2).trans (q1.trans q2))
    · rintro rdy b4 H4 ⟨b2, qgi5_4, qgi6_4, qgi7_4, gir_4, qst_4, d1, d2⟩ hrdy_4 Hd4 hH
      have gi5_4 := qgi5_4.trans gi5_2
      have gi6_4 := qgi6_4.trans gi6_2
      have gi7_4 := qgi7_4.trans gi7_2
      have hst_4 := qst_4.trans hst_2
      have hkeep : ∀ j, j ≠ k4 → Hd4.get j = H4.get j := fun j hj => by rw [hH, put_getH, if_neg hj]
      have gi5_10 := gt_of hH i5
      have gi6_10 := gt_of hH i6
      have gi7_10 := gt_of hH i7
      have gir_10 := gt_of hH ir
      simp [gi5_4, gi6_4, gi7_4, gir_4, hst_4, n5, n6, n7, Ne.symm n5, Ne.symm n6, Ne.symm n7, nx1, nx2, nx3, nx4] at gi5_10 gi6_10 gi7_10 gir_10
      have hst_10 : Hd4.st = _ := (congrArg AHeap.st hH).trans hst_4
      have hjL : ∀ j, H0.get j ≠ none → j ≠ ir → j ≠ k4 := fun j h1 h2 e => by rw [← k1 j h1 h2, e, hf_k4] at h1; exact h1 rfl
      have d3 : ∀ j, H0.get j ≠ none → j ≠ ir → Hd4.get j = H0.get j := fun j h1 h2 => (hkeep j (hjL j h1 h2)).trans (d2 j h1 h2)
      rw [geL0_succ hv] at d1
      clear hH
      refine q_block ?_
      refine q_fin0 ?_
      exact ⟨rfl, b2, d1.node hv ⟨x1, x2⟩ hbl, gir_10, d3, hst_10⟩

/-- What is reached, in increasing order. -/
def Gr.reach (g : Gr) (l : List Int) : List Int := if g.exist l then listUpto (g.marks l) g.nodes.length else []
theorem any_take_map {l : List Int} {i : Nat} (h : i < l.length) : (l.map (AV.int IntKind.i64))[i]? = some ((AV.int IntKind.i64) l[i]) := by simp [h]

set_option maxHeartbeats 1000000 in
theorem greach0 (g : Gr) (l : List Int) (hll : l.length ≤ 1000) : ACalls Try.prog 13 [encG g, .ro (l.map (AV.int IntKind.i64))] AHeap.nil (fun r H => Own 3 1 5 ((g.reach l).map (AV.int IntKind.i64)) r H) := by
  refine acalls_body TT_ok Try.func13 rfl rfl (by simp [Try.ntmps13]) ?_
  rw [Try.ntmps13]
  obtain ⟨σ, hσ⟩ : ∃ σ, σ = st0 [encG g, .ro (l.map (AV.int IntKind.i64))] := ⟨_, rfl⟩
  rw [← hσ]
  have h0_0 := congrFun hσ 0
  simp [st0] at h0_0
  have h1_0 := congrFun hσ 1
  simp [st0] at h1_0
  clear hσ
  obtain ⟨H, hH⟩ : ∃ H, H = AHeap.nil := ⟨_, rfl⟩
  rw [← hH]
  have hn_0 : H.n = 0 := by rw [hH]; rfl
  have hst_0 : H.st = 1 := by rw [hH]; rfl
  clear hH
  refine stp_reg TT_ok (by rfl) fun K hK => ?_
  simp [h0_0, hn_0, hst_0, encG]
  try refine And.intro (by first | omega | rfl) ?_
  refine hK _ _ fun σ1 hσ H1 hH => ?_
  clear hK K
  have h1_1 := congrFun hσ 1
  have h2_1 := congrFun hσ 2
  simp [h1_0] at h1_1 h2_1
  clear hσ
  have g0_1 := gt_of hH 0
  simp [hn_0, hst_0] at g0_1
  have hn_1 := congrArg AHeap.n hH
  simp [hn_0, hst_0] at hn_1
  have hst_1 := congrArg AHeap.st hH
  simp [hn_0, hst_0] at hst_1
  clear hH
  refine awp_seq ?_
  refine stp_reg TT_ok (by rfl) fun K hK => ?_
  simp [h1_1, h2_1, g0_1, encG]
  try refine And.intro (by first | omega | rfl) ?_
  refine stp_call (exist_ok g l (by omega)) ?_
  simp [h1_1, h2_1, g0_1, encG]
  try refine And.intro (by first | omega | rfl) ?_
  refine hK _ _ fun σ2 hσ H2 hH => ?_
  clear hK K
  have h1_2 := congrFun hσ 1
  have h2_2 := congrFun hσ 2
  have h16_2 := congrFun hσ 16
  simp [h1_1, h2_1] at h1_2 h2_2 h16_2
  clear hσ
  replace hH : H1 = H2 := Eq.symm hH
  subst hH
  refine awp_cond _ (by simp only [aeval_tmp]; exact h16_2) (fun hc16 => ?_) (fun hc16 => ?_)
  · try simp at hc16
    refine stp_reg TT_ok (by rfl) fun K hK => ?_
    simp [g0_1, encG]
    try refine And.intro (by first | omega | rfl) ?_
    refine hK _ _ fun σ3 hσ H3 hH => ?_
    clear hK K
    have h4_3 := congrFun hσ 4
    simp [] at h4_3
    clear hσ
    replace hH : H1 = H3 := Eq.symm hH
    subst hH
    refine awp_ret ?_
    refine q_seq_ret ?_
    refine q_fin1 h4_3 ?_
    rw [show g.reach l = [] by simp [Gr.reach, hc16]]; exact .inl ⟨rfl, rfl⟩
  · try simp at hc16
    obtain ⟨hin, hv⟩ := exist_iff.1 hc16
    obtain ⟨hn1, hn2⟩ := valid_nodes hv
    have hsl : g.succs.length = g.nodes.length := by simp [Gr.succs]
    refine awp_skip ?_
    refine q_seq ?_
    refine stp_reg TT_ok (by rfl) fun K hK => ?_
    simp [h2_2, g0_1, hn_1, hst_1, encG, encS]
    try refine And.intro (by first | omega | rfl) ?_
    refine stp_call (succs_ok g hv) ?_
    simp [h2_2, g0_1, hn_1, hst_1, encG, encS]
    try refine And.intro (by first | omega | rfl) ?_
    refine hK _ _ fun σ4 hσ H4 hH => ?_
    clear hK K
    have h1_4 := congrFun hσ 1
    have h5_4 := congrFun hσ 5
    simp [h1_2] at h1_4 h5_4
    clear hσ
    have g0_4 := gt_of hH 0
    have g1_4 := gt_of hH 1
    simp [g0_1, hn_1, hst_1] at g0_4 g1_4
    have hn_4 := congrArg AHeap.n hH
    simp [hn_1, hst_1] at hn_4
    have hst_4 := congrArg AHeap.st hH
    simp [hn_1, hst_1] at hst_4
    clear hH
    refine stp_reg TT_ok (by rfl) fun K hK => ?_
    simp [h5_4, g0_4, g1_4, hn_4, hst_4, encG, encS, hsl, show (g.nodes.length : Int) ≤ 281474976710656 by omega]
    try refine And.intro (by first | omega | rfl) ?_
    refine hK _ _ fun σ5 hσ H5 hH => ?_
    clear hK K
    have h1_5 := congrFun hσ 1
    have h5_5 := congrFun hσ 5
    have h6_5 := congrFun hσ 6
    simp [h1_4, h5_4] at h1_5 h5_5 h6_5
    clear hσ
    have g0_5 := gt_of hH 0
    have g1_5 := gt_of hH 1
    have g2_5 := gt_of hH 2
    have g3_5 := gt_of hH 3
    simp [g0_4, g1_4, hn_4, hst_4] at g0_5 g1_5 g2_5 g3_5
    have hn_5 := congrArg AHeap.n hH
    simp [hn_4, hst_4] at hn_5
    have hst_5 := congrArg AHeap.st hH
    simp [hn_4, hst_4] at hst_5
    clear hH
    refine stp_reg TT_ok (by rfl) fun K hK => ?_
    simp [g0_5, g1_5, g2_5, g3_5, hn_5, hst_5, encG]
    try refine And.intro (by first | omega | rfl) ?_
    refine hK _ _ fun σ6 hσ H6 hH => ?_
    clear hK K
    have h1_6 := congrFun hσ 1
    have h5_6 := congrFun hσ 5
    have h6_6 := congrFun hσ 6
    have h7_6 := congrFun hσ 7
    simp [h1_5, h5_5, h6_5] at h1_6 h5_6 h6_6 h7_6
    clear hσ
    have g0_6 := gt_of hH 0
    have g1_6 := gt_of hH 1
    have g2_6 := gt_of hH 2
    have g3_6 := gt_of hH 3
    have g4_6 := gt_of hH 4
    simp [g0_5, g1_5, g2_5, g3_5, hn_5, hst_5] at g0_6 g1_6 g2_6 g3_6 g4_6
    have hn_6 := congrArg AHeap.n hH
    simp [hn_5, hst_5] at hn_6
    have hst_6 := congrArg AHeap.st hH
    simp [hn_5, hst_5] at hst_6
    clear hH
    refine stp_reg TT_ok (by rfl) fun K hK => ?_
    simp [h5_6, h6_6, h7_6, g0_6, g1_6, g2_6, g3_6, g4_6, encG]
    try refine And.intro (by first | omega | rfl) ?_
    refine hK _ _ fun σ7 hσ H7 hH => ?_
    clear hK K
    have h1_7 := congrFun hσ 1
    have h6_7 := congrFun hσ 6
    have h7_7 := congrFun hσ 7
    simp [h1_6, h6_6, h7_6] at h1_7 h6_7 h7_7
    clear hσ
    have g0_7 := gt_of hH 0
    have g1_7 := gt_of hH 1
    have g2_7 := gt_of hH 2
    have g3_7 := gt_of hH 3
    have g4_7 := gt_of hH 4
    simp [g0_6, g1_6, g2_6, g3_6, g4_6, hn_6, hst_6] at g0_7 g1_7 g2_7 g3_7 g4_7
    have hn_7 : H7.n = _ := (congrArg AHeap.n hH).trans hn_6
    have hst_7 : H7.st = _ := (congrArg AHeap.st hH).trans hst_6
    clear hH
    refine awp_seq ?_
    refine stp_reg TT_ok (by rfl) fun K hK => ?_
    simp [h1_7, g0_7, g1_7, g2_7, g3_7, g4_7, encG]
    try refine And.intro (by first | omega | rfl) ?_
    refine hK _ _ fun σ8 hσ H8 hH => ?_
    clear hK K
    have h6_8 := congrFun hσ 6
    have h7_8 := congrFun hσ 7
    have h23_8 := congrFun hσ 23
    have h24_8 := congrFun hσ 24
    have h25_8 := congrFun hσ 25
    simp [h6_7, h7_7] at h6_8 h7_8 h23_8 h24_8 h25_8
    clear hσ
    replace hH : H7 = H8 := Eq.symm hH
    subst hH
    refine awp_block ?_
    refine awp_loopV (fun n σ' H' => ∃ (i : Nat) (bs : List Bool), n = l.length - i ∧ σ' 6 = σ8 6 ∧ σ' 7 = σ8 7 ∧ σ' 23 = σ8 23 ∧ σ' 24 = σ8 24 ∧ σ' 25 = (AV.int IntKind.i64) i ∧ H'.get 1 = H7.get 1 ∧ H'.get 2 = some (.row 4 1 0 (bs.map .bool)) ∧ H'.get 3 = H7.get 3 ∧ H'.get 4 = H7.get 4 ∧ H'.st = H7.st ∧ (i ≤ l.length) ∧ (Dfs g (List.replicate g.nodes.length false) (l.take i) bs)) ?_ ?_
    · refine ⟨_, 0, List.replicate g.nodes.length false, rfl, rfl, rfl, rfl, rfl, (by simp [h25_8]), rfl, (by simp [g2_7]), rfl, rfl, rfl, ?_, ?_⟩
      · first | omega | (simp; done) | assumption
      · exact Dfs.nil _ _
    · rintro n1 σ9 H9 ⟨i, bs, hn1, q6_9, q7_9, q23_9, q24_9, h25_9, qg1_9, g2_9, qg3_9, qg4_9, qst_9, p1, p2⟩
      have h6_9 := q6_9.trans h6_8
      have h7_9 := q7_9.trans h7_8
      have h23_9 := q23_9.trans h23_8
      have h24_9 := q24_9.trans h24_8
      have g1_9 := qg1_9.trans g1_7
      have g3_9 := qg3_9.trans g3_7
      have g4_9 := qg4_9.trans g4_7
      have hst_9 := qst_9.trans hst_7
      have hbl : bs.length = g.nodes.length := by rw [p2.len]; simp
      refine stp_reg TT_ok (by rfl) fun K hK => ?_
      simp [h24_9, h25_9, g1_9, g2_9, g3_9, g4_9, encG]
      try refine And.intro (by first | omega | rfl) ?_
      refine hK _ _ fun σ10 hσ H10 hH => ?_
      clear hK K
      have h6_10 := congrFun hσ 6
      have h7_10 := congrFun hσ 7
      have h23_10 := congrFun hσ 23
      have h24_10 := congrFun hσ 24
      have h25_10 := congrFun hσ 25
      have h26_10 := congrFun hσ 26
      simp [h6_9, h7_9, h23_9, h24_9, h25_9] at h6_10 h7_10 h23_10 h24_10 h25_10 h26_10
      clear hσ
      replace hH : H9 = H10 := Eq.symm hH
      subst hH
      refine awp_seq ?_
      refine awp_cond _ (by simp only [aeval_tmp]; exact h26_10) (fun hc26 => ?_) (fun hc26 => ?_)
      · try simp at hc26
        have hlt : i < l.length := by simpa using hc26
        have hxr := hin _ (List.getElem_mem hlt)
        refine awp_skip ?_
        refine q_seq ?_
        refine awp_seq ?_
        refine awp_block ?_
        refine stp_reg TT_ok (by rfl) fun K hK => ?_
        simp [h23_10, h25_10, g1_9, g2_9, g3_9, g4_9, encG, hlt]
        try refine And.intro (by first | omega | rfl) ?_
        refine hK _ _ fun σ11 hσ H11 hH => ?_
        clear hK K
        have h6_11 := congrFun hσ 6
        have h7_11 := congrFun hσ 7
        have h9_11 := congrFun hσ 9
        have h23_11 := congrFun hσ 23
        have h24_11 := congrFun hσ 24
        have h25_11 := congrFun hσ 25
        simp [h6_10, h7_10, h23_10, h24_10, h25_10] at h6_11 h7_11 h9_11 h23_11 h24_11 h25_11
        clear hσ
        replace hH : H9 = H11 := Eq.symm hH
        subst hH
        refine stp_regl TT_ok (by rfl) fun K hK => ?_
        simp [h7_11, h9_11, g1_9, g2_9, g3_9, g4_9, encG]
        try refine And.intro (by first | omega | rfl) ?_
        refine (visit0 g hv 1 3 4 2 _ _ _ (by omega) (by omega) (by omega) _ bs l[i] H9 rfl hbl hxr hst_9 g1_9 g3_9 g4_9 g2_9).mono ?_
        rintro r Hy ⟨rfl, b3, hd3, hr3, hk3, hst3⟩
        simp [h7_11, h9_11, g1_9, g2_9, g3_9, g4_9, encG]
        try refine And.intro (by first | omega | rfl) ?_
        refine hK _ _ fun σ12 hσ H12 hH => ?_
        clear hK K
        have h6_12 := congrFun hσ 6
        have h7_12 := congrFun hσ 7
        have h23_12 := congrFun hσ 23
        have h24_12 := congrFun hσ 24
        have h25_12 := congrFun hσ 25
        simp [h6_11, h7_11, h23_11, h24_11, h25_11] at h6_12 h7_12 h23_12 h24_12 h25_12
        clear hσ
        subst hH
        have g1_12 := (hk3 1 (by rw [g1_9]; simp) (by first | assumption | omega | (intro h; omega))).trans g1_9
        have g2_12 := hr3
        have g3_12 := (hk3 3 (by rw [g3_9]; simp) (by first | assumption | omega | (intro h; omega))).trans g3_9
        have g4_12 := (hk3 4 (by rw [g4_9]; simp) (by first | assumption | omega | (intro h; omega))).trans g4_9
        have hst_12 := hst3
        refine q_block ?_
        refine q_seq ?_
        refine stp_regl TT_ok (by rfl) fun K hK => ?_
        simp [h25_12, g1_12, g2_12, g3_12, g4_12, encG, wrap_ok (n := (i : Int) + 1) (by omega) (by omega)]
        try refine And.intro (by first | omega | rfl) ?_
        refine hK _ _ fun σ13 hσ H13 hH => ?_
        clear hK K
        have h6_13 := congrFun hσ 6
        have h7_13 := congrFun hσ 7
        have h23_13 := congrFun hσ 23
        have h24_13 := congrFun hσ 24
        have h25_13 := congrFun hσ 25
        simp [h6_12, h7_12, h23_12, h24_12] at h6_13 h7_13 h23_13 h24_13 h25_13
        clear hσ
        replace hH : H12 = H13 := Eq.symm hH
        subst hH
        refine ⟨_, ?_, i + 1, b3, rfl, (h6_13.trans h6_8.symm), (h7_13.trans h7_8.symm), (h23_13.trans h23_8.symm), (h24_13.trans h24_8.symm), (by simp [h25_13]), (g1_12.trans g1_7.symm), (by simp [g2_12]), (g3_12.trans g3_7.symm), (g4_12.trans g4_7.symm), (hst_12.trans hst_7.symm), ?_, ?_⟩
        · subst hn1; omega
        · first | omega | assumption | (simp; done)
        · rw [List.take_succ_eq_append_getElem hlt]; exact p2.snoc hd3
      · try simp at hc26
        have hil : i = l.length := by have := hc26; omega
        subst hil
        rw [List.take_length] at p2
        have hbm := p2.marks hv hin
        refine awp_exit ?_
        refine q_seq_exit ?_
        refine q_loop_exit ?_
        refine q_block_hit ?_
        refine q_seq ?_
        refine stp_reg TT_ok (by rfl) fun K hK => ?_
        simp [g1_9, g2_9, g3_9, g4_9, encG]
        try refine And.intro (by first | omega | rfl) ?_
        refine hK _ _ fun σ14 hσ H14 hH => ?_
        clear hK K
        have h6_14 := congrFun hσ 6
        have h10_14 := congrFun hσ 10
        simp [h6_10] at h6_14 h10_14
        clear hσ
        replace hH : H9 = H14 := Eq.symm hH
        subst hH
        refine awp_seq ?_
        refine stp_reg TT_ok (by rfl) fun K hK => ?_
        simp [h6_14, g1_9, g2_9, g3_9, g4_9, encG]
        try refine And.intro (by first | omega | rfl) ?_
        refine hK _ _ fun σ15 hσ H15 hH => ?_
        clear hK K
        have h10_15 := congrFun hσ 10
        have h33_15 := congrFun hσ 33
        have h34_15 := congrFun hσ 34
        have h35_15 := congrFun hσ 35
        simp [h10_14] at h10_15 h33_15 h34_15 h35_15
        clear hσ
        replace hH : H9 = H15 := Eq.symm hH
        subst hH
        refine awp_block ?_
        refine awp_loopV (fun n σ' H' => ∃ (k : Nat) (v : AV), n = g.nodes.length - k ∧ σ' 10 = v ∧ σ' 33 = σ15 33 ∧ σ' 34 = σ15 34 ∧ σ' 35 = (AV.int IntKind.i64) k ∧ H'.get 1 = H9.get 1 ∧ H'.get 2 = H9.get 2 ∧ H'.get 3 = H9.get 3 ∧ H'.get 4 = H9.get 4 ∧ H'.st = H9.st ∧ (k ≤ g.nodes.length) ∧ (Own 3 1 5 ((listUpto bs k).map (AV.int IntKind.i64)) v H')) ?_ ?_
        · refine ⟨_, 0, .nils, rfl, (by simp [h10_15]), rfl, rfl, (by simp [h35_15]), rfl, rfl, rfl, rfl, rfl, ?_, ?_⟩
          · first | omega | (simp; done) | assumption
          · exact .inl ⟨rfl, rfl⟩
        · rintro n2 σ16 H16 ⟨k, v, hn2, h10_16, q33_16, q34_16, h35_16, qg1_16, qg2_16, qg3_16, qg4_16, qst_16, r1, r2⟩
          have h33_16 := q33_16.trans h33_15
          have h34_16 := q34_16.trans h34_15
          have g1_16 := qg1_16.trans g1_9
          have g2_16 := qg2_16.trans g2_9
          have g3_16 := qg3_16.trans g3_9
          have g4_16 := qg4_16.trans g4_9
          have hst_16 := qst_16.trans hst_9
          have hkl := listUpto_len bs k
          refine stp_reg TT_ok (by rfl) fun K hK => ?_
          simp [h34_16, h35_16, g1_16, g2_16, g3_16, g4_16, encG]
          try refine And.intro (by first | omega | rfl) ?_
          refine hK _ _ fun σ17 hσ H17 hH => ?_
          clear hK K
          have h10_17 := congrFun hσ 10
          have h33_17 := congrFun hσ 33
          have h34_17 := congrFun hσ 34
          have h35_17 := congrFun hσ 35
          have h36_17 := congrFun hσ 36
          simp [h10_16, h33_16, h34_16, h35_16] at h10_17 h33_17 h34_17 h35_17 h36_17
          clear hσ
          replace hH : H16 = H17 := Eq.symm hH
          subst hH
          refine awp_seq ?_
          refine awp_cond _ (by simp only [aeval_tmp]; exact h36_17) (fun hc36 => ?_) (fun hc36 => ?_)
          · try simp at hc36
            have hlt2 : k < g.nodes.length := by simpa using hc36
            have hlt3 : k < bs.length := by omega
            refine awp_skip ?_
            refine q_seq ?_
            refine awp_seq ?_
            refine awp_block ?_
            refine stp_reg TT_ok (by rfl) fun K hK => ?_
            simp [h33_17, h35_17, g1_16, g2_16, g3_16, g4_16, encG, hlt2, hlt3, hbl]
            try refine And.intro (by first | omega | rfl) ?_
            refine hK _ _ fun σ18 hσ H18 hH => ?_
            clear hK K
            have h10_18 := congrFun hσ 10
            have h11_18 := congrFun hσ 11
            have h12_18 := congrFun hσ 12
            have h33_18 := congrFun hσ 33
            have h34_18 := congrFun hσ 34
            have h35_18 := congrFun hσ 35
            simp [h10_17, h33_17, h34_17, h35_17] at h10_18 h11_18 h12_18 h33_18 h34_18 h35_18
            clear hσ
            replace hH : H16 = H18 := Eq.symm hH
            subst hH
            refine stp_reg TT_ok (by rfl) fun K hK => ?_
            simp [h12_18, g1_16, g2_16, g3_16, g4_16, encG]
            try refine And.intro (by first | omega | rfl) ?_
            refine hK _ _ fun σ19 hσ H19 hH => ?_
            clear hK K
            have h10_19 := congrFun hσ 10
            have h11_19 := congrFun hσ 11
            have h33_19 := congrFun hσ 33
            have h34_19 := congrFun hσ 34
            have h35_19 := congrFun hσ 35
            have h40_19 := congrFun hσ 40
            simp [h10_18, h11_18, h33_18, h34_18, h35_18] at h10_19 h11_19 h33_19 h34_19 h35_19 h40_19
            clear hσ
            replace hH : H16 = H19 := Eq.symm hH
            subst hH
            refine awp_cond _ (by simp only [aeval_tmp]; exact h40_19) (fun hc40 => ?_) (fun hc40 => ?_)
            · try simp at hc40
              rcases r2 with ⟨rfl, hnil⟩ | ⟨id, gn, rfl, hb, hid⟩
              · skip
                refine awp_ok fun hok => ?_
                obtain ⟨m20, hn_m20⟩ : ∃ m, H16.n = m := ⟨_, rfl⟩
                have hf_m20_0 := hok.free 0
                simp [hn_m20, hst_16] at hf_m20_0
                have nx1 := ne_get hf_m20_0 g1_16
                have nx2 := ne_get hf_m20_0 g2_16
                have nx3 := ne_get hf_m20_0 g3_16
                have nx4 := ne_get hf_m20_0 g4_16
                have hf_m20_1 := hok.free 1
                simp [hn_m20, hst_16] at hf_m20_1
                have nx5 := ne_get hf_m20_1 g1_16
                have nx6 : ¬ m20 = 0 ∧ ¬ 0 = m20 := by omega
                have nx7 := ne_get hf_m20_1 g2_16
                have nx8 : ¬ m20 = 1 ∧ ¬ 1 = m20 := by omega
                have nx9 := ne_get hf_m20_1 g3_16
                have nx10 : ¬ m20 = 2 ∧ ¬ 2 = m20 := by omega
                have nx11 := ne_get hf_m20_1 g4_16
                have nx12 : ¬ m20 = 3 ∧ ¬ 3 = m20 := by omega
                refine stp_regl TT_ok (by rfl) fun K hK => ?_
                simp [h10_19, h11_19, g1_16, g2_16, g3_16, g4_16, hn_m20, hst_16, nx1, nx2, nx3, nx4, nx5, nx6, nx7, nx8, nx9, nx10, nx11, nx12, encG]
                try refine And.intro (by first | omega | rfl) ?_
                refine hK _ _ fun σ21 hσ H21 hH => ?_
                clear hK K
                have h10_21 := congrFun hσ 10
                have h33_21 := congrFun hσ 33
                have h34_21 := congrFun hσ 34
                have h35_21 := congrFun hσ 35
                simp [h33_19, h34_19, h35_19] at h10_21 h33_21 h34_21 h35_21
                clear hσ
                have g1_21 := gt_of hH 1
                have g2_21 := gt_of hH 2
                have g3_21 := gt_of hH 3
                have g4_21 := gt_of hH 4
                have gm20_21 := gt_of hH m20
                have g_m20_1__21 := gt_of hH (m20 + 1)
                simp [g1_16, g2_16, g3_16, g4_16, hn_m20, hst_16, nx1, nx2, nx3, nx4, nx5, nx6, nx7, nx8, nx9, nx10, nx11, nx12] at g1_21 g2_21 g3_21 g4_21 gm20_21 g_m20_1__21
                have hst_21 := congrArg AHeap.st hH
                simp [hst_16] at hst_21
                clear hH
                refine q_block ?_
                refine q_seq ?_
                refine stp_regl TT_ok (by rfl) fun K hK => ?_
                simp [h35_21, g1_21, g2_21, g3_21, g4_21, gm20_21, g_m20_1__21, nx1, nx2, nx3, nx4, nx5, nx6, nx7, nx8, nx9, nx10, nx11, nx12, encG, wrap_ok (n := (k : Int) + 1) (by omega) (by omega)]
                try refine And.intro (by first | omega | rfl) ?_
                refine hK _ _ fun σ22 hσ H22 hH => ?_
                clear hK K
                have h10_22 := congrFun hσ 10
                have h33_22 := congrFun hσ 33
                have h34_22 := congrFun hσ 34
                have h35_22 := congrFun hσ 35
                simp [h10_21, h33_21, h34_21] at h10_22 h33_22 h34_22 h35_22
                clear hσ
                replace hH : H21 = H22 := Eq.symm hH
                subst hH
                refine ⟨_, ?_, k + 1, .sl (m20 + 1) 0 0 1, rfl, (by simp [h10_22]), (h33_22.trans h33_15.symm), (h34_22.trans h34_15.symm), (by simp [h35_22]), (g1_21.trans g1_9.symm), (g2_21.trans g2_9.symm), (g3_21.trans g3_9.symm), (g4_21.trans g4_9.symm), (hst_21.trans hst_9.symm), ?_, ?_⟩
                · subst hn2; omega
                · first | omega | assumption | (simp; done)
                · rw [listUpto_t hlt3 hc40]; exact Own.mk g_m20_1__21 (by simp [List.map_eq_nil_iff.1 hnil]) (by simp [List.map_eq_nil_iff.1 hnil]) (by omega)
              · skip
                have nx13 : ¬ id = 1 ∧ ¬ 1 = id := by omega
                have nx14 : ¬ id = 2 ∧ ¬ 2 = id := by omega
                have nx15 : ¬ id = 3 ∧ ¬ 3 = id := by omega
                have nx16 : ¬ id = 4 ∧ ¬ 4 = id := by omega
                refine awp_ok fun hok => ?_
                obtain ⟨m23, hn_m23⟩ : ∃ m, H16.n = m := ⟨_, rfl⟩
                have hf_m23_0 := hok.free 0
                simp [hn_m23, hst_16] at hf_m23_0
                have nx17 := ne_get hf_m23_0 g1_16
                have nx18 := ne_get hf_m23_0 g2_16
                have nx19 := ne_get hf_m23_0 g3_16
                have nx20 := ne_get hf_m23_0 g4_16
                have nx21 := ne_get hf_m23_0 hb
                refine stp_regl TT_ok (by rfl) fun K hK => ?_
                simp [h10_19, h11_19, g1_16, g2_16, g3_16, g4_16, hb, hn_m23, hst_16, nx13, nx14, nx15, nx16, nx17, nx18, nx19, nx20, nx21, encG, take_map_len, show (listUpto bs k).length ≤ 9223372036854775806 by omega, show ((listUpto bs k).length + 1) * 8 ≤ 140737488355328 by omega]
                try refine And.intro (by first | omega | rfl) ?_
                refine hK _ _ fun σ24 hσ H24 hH => ?_
                clear hK K
                have h10_24 := congrFun hσ 10
                have h33_24 := congrFun hσ 33
                have h34_24 := congrFun hσ 34
                have h35_24 := congrFun hσ 35
                simp [h33_19, h34_19, h35_19] at h10_24 h33_24 h34_24 h35_24
                clear hσ
                have g1_24 := gt_of hH 1
                have g2_24 := gt_of hH 2
                have g3_24 := gt_of hH 3
                have g4_24 := gt_of hH 4
                have gid_24 := gt_of hH id
                have gm23_24 := gt_of hH m23
                simp [g1_16, g2_16, g3_16, g4_16, hb, hn_m23, hst_16, nx13, nx14, nx15, nx16, nx17, nx18, nx19, nx20, nx21] at g1_24 g2_24 g3_24 g4_24 gid_24 gm23_24
                have hst_24 := congrArg AHeap.st hH
                simp [hst_16] at hst_24
                clear hH
                refine q_block ?_
                refine q_seq ?_
                refine stp_regl TT_ok (by rfl) fun K hK => ?_
                simp [h35_24, g1_24, g2_24, g3_24, g4_24, gid_24, gm23_24, nx13, nx14, nx15, nx16, nx17, nx18, nx19, nx20, nx21, encG, wrap_ok (n := (k : Int) + 1) (by omega) (by omega)]
                try refine And.intro (by first | omega | rfl) ?_
                refine hK _ _ fun σ25 hσ H25 hH => ?_
                clear hK K
                have h10_25 := congrFun hσ 10
                have h33_25 := congrFun hσ 33
                have h34_25 := congrFun hσ 34
                have h35_25 := congrFun hσ 35
                simp [h10_24, h33_24, h34_24] at h10_25 h33_25 h34_25 h35_25
                clear hσ
                replace hH : H24 = H25 := Eq.symm hH
                subst hH
                refine ⟨_, ?_, k + 1, .sl id (gn + 1) 0 ((listUpto bs k).length + 1), rfl, (by simp [h10_25]), (h33_25.trans h33_15.symm), (h34_25.trans h34_15.symm), (by simp [h35_25]), (g1_24.trans g1_9.symm), (g2_24.trans g2_9.symm), (g3_24.trans g3_9.symm), (g4_24.trans g4_9.symm), (hst_24.trans hst_9.symm), ?_, ?_⟩
                · subst hn2; omega
                · first | omega | assumption | (simp; done)
                · rw [listUpto_t hlt3 hc40]; exact Own.mk gid_24 (by simp) (by simp) (by omega)
            · try simp at hc40
              refine awp_skip ?_
              refine q_block ?_
              refine q_seq ?_
              refine stp_regl TT_ok (by rfl) fun K hK => ?_
              simp [h35_19, g1_16, g2_16, g3_16, g4_16, encG, wrap_ok (n := (k : Int) + 1) (by omega) (by omega)]
              try refine And.intro (by first | omega | rfl) ?_
              refine hK _ _ fun σ26 hσ H26 hH => ?_
              clear hK K
              have h10_26 := congrFun hσ 10
              have h33_26 := congrFun hσ 33
              have h34_26 := congrFun hσ 34
              have h35_26 := congrFun hσ 35
              simp [h10_19, h33_19, h34_19] at h10_26 h33_26 h34_26 h35_26
              clear hσ
              replace hH : H16 = H26 := Eq.symm hH
              subst hH
              refine ⟨_, ?_, k + 1, v, rfl, (by simp [h10_26]), (h33_26.trans h33_15.symm), (h34_26.trans h34_15.symm), (by simp [h35_26]), (g1_16.trans g1_9.symm), (g2_16.trans g2_9.symm), (g3_16.trans g3_9.symm), (g4_16.trans g4_9.symm), (hst_16.trans hst_9.symm), ?_, ?_⟩
              · subst hn2; omega
              · first | omega | assumption | (simp; done)
              · rw [listUpto_f hlt3 hc40]; exact r2
          · try simp at hc36
            refine awp_exit ?_
            refine q_seq_exit ?_
            refine q_loop_exit ?_
            refine q_block_hit ?_
            refine q_seq ?_
            refine stp_reg TT_ok (by rfl) fun K hK => ?_
            simp [h10_17, g1_16, g2_16, g3_16, g4_16, encG]
            try refine And.intro (by first | omega | rfl) ?_
            refine hK _ _ fun σ27 hσ H27 hH => ?_
            clear hK K
            have h4_27 := congrFun hσ 4
            simp [] at h4_27
            clear hσ
            replace hH : H16 = H27 := Eq.symm hH
            subst hH
            refine awp_ret ?_
            have hke : k = g.nodes.length := by have := hc36; omega
            subst hke
            refine q_fin1 h4_27 ?_
            rw [show g.reach l = listUpto bs g.nodes.length by simp [Gr.reach, hc16, hbm]]; exact r2

theorem reach_ok (g : Gr) (l : List Int) (hll : l.length ≤ 1000) : Fun1 Try.prog 13 [encG g, .ro (l.map (AV.int IntKind.i64))] (.ro ((g.reach l).map (AV.int IntKind.i64))) :=
  fun1_frz ((greach0 g l hll).mono fun r H h => h.frz (fun _ => pu_of_ints) (fun _ => one_ints)) (pu_cons (pu_graph _) (pu_cons (pu_ints _) pu_nil)) (pu_ints _)
theorem reach_w (g : Gr) (l : List Int) (hll : l.length ≤ 1000) : FunW Try.prog 13 [encG g, .ro (l.map (AV.int IntKind.i64))] (.ro ((g.reach l).map (AV.int IntKind.i64))) :=
  funW_frw ((greach0 g l hll).mono fun r H h => h.frw (fun _ => scal_ints) (fun _ => one_ints)) (pu_cons (pu_graph _) (pu_cons (pu_ints _) pu_nil)) (pu_ints _)

set_option maxHeartbeats 1000000 in
theorem refReach0 (g : Gr) (l : List Int) (hll : l.length ≤ 1000) : ACalls Try.prog 14 [encG g, .ro (l.map (AV.int IntKind.i64))] AHeap.nil (fun r H => Frz H r (.ro ((g.reach l).map (AV.int IntKind.i64)))) := by
  refine acalls_body TT_ok Try.func14 rfl rfl (by simp [Try.ntmps14]) ?_
  rw [Try.ntmps14]
  obtain ⟨σ, hσ⟩ : ∃ σ, σ = st0 [encG g, .ro (l.map (AV.int IntKind.i64))] := ⟨_, rfl⟩
  rw [← hσ]
  have h0_0 := congrFun hσ 0
  simp [st0] at h0_0
  have h1_0 := congrFun hσ 1
  simp [st0] at h1_0
  clear hσ
  obtain ⟨H, hH⟩ : ∃ H, H = AHeap.nil := ⟨_, rfl⟩
  rw [← hH]
  have hn_0 : H.n = 0 := by rw [hH]; rfl
  have hst_0 : H.st = 1 := by rw [hH]; rfl
  clear hH
  refine stp_reg TT_ok (by rfl) fun K hK => ?_
  simp [h0_0, hn_0, hst_0, encG]
  try refine And.intro (by first | omega | rfl) ?_
  refine hK _ _ fun σ1 hσ H1 hH => ?_
  clear hK K
  have h1_1 := congrFun hσ 1
  have h2_1 := congrFun hσ 2
  simp [h1_0] at h1_1 h2_1
  clear hσ
  have g0_1 := gt_of hH 0
  simp [hn_0, hst_0] at g0_1
  have hn_1 := congrArg AHeap.n hH
  simp [hn_0, hst_0] at hn_1
  have hst_1 := congrArg AHeap.st hH
  simp [hn_0, hst_0] at hst_1
  clear hH
  refine awp_seq ?_
  refine stp_reg TT_ok (by rfl) fun K hK => ?_
  simp [h1_1, h2_1, g0_1, encG]
  try refine And.intro (by first | omega | rfl) ?_
  refine stp_call (refExist_ok g l (by omega)) ?_
  simp [h1_1, h2_1, g0_1, encG]
  try refine And.intro (by first | omega | rfl) ?_
  refine hK _ _ fun σ2 hσ H2 hH => ?_
  clear hK K
  have h1_2 := congrFun hσ 1
  have h2_2 := congrFun hσ 2
  have h8_2 := congrFun hσ 8
  simp [h1_1, h2_1] at h1_2 h2_2 h8_2
  clear hσ
  replace hH : H1 = H2 := Eq.symm hH
  subst hH
  refine awp_cond _ (by simp only [aeval_tmp]; exact h8_2) (fun hc8 => ?_) (fun hc8 => ?_)
  · try simp at hc8
    refine stp_reg TT_ok (by rfl) fun K hK => ?_
    simp [g0_1, encG]
    try refine And.intro (by first | omega | rfl) ?_
    refine hK _ _ fun σ3 hσ H3 hH => ?_
    clear hK K
    have h4_3 := congrFun hσ 4
    simp [] at h4_3
    clear hσ
    replace hH : H1 = H3 := Eq.symm hH
    subst hH
    refine awp_ret ?_
    refine q_seq_ret ?_
    refine q_fin1 h4_3 ?_
    rw [show g.reach l = [] by simp [Gr.reach, hc8]]; exact .nils
  · try simp at hc8
    obtain ⟨hin, hv⟩ := exist_iff.1 hc8
    obtain ⟨hn1, hn2⟩ := valid_nodes hv
    have hml := (marks_is hv hin).len
    refine awp_skip ?_
    refine q_seq ?_
    refine stp_reg TT_ok (by rfl) fun K hK => ?_
    simp [h1_2, h2_2, g0_1, encG]
    try refine And.intro (by first | omega | rfl) ?_
    refine stp_call (marks_ok g hv l hin (by omega)) ?_
    simp [h1_2, h2_2, g0_1, encG]
    try refine And.intro (by first | omega | rfl) ?_
    refine stp_call (list_ok (g.marks l) (by omega)) ?_
    simp [h1_2, h2_2, g0_1, encG]
    try refine And.intro (by first | omega | rfl) ?_
    refine hK _ _ fun σ4 hσ H4 hH => ?_
    clear hK K
    have h4_4 := congrFun hσ 4
    simp [] at h4_4
    clear hσ
    replace hH : H1 = H4 := Eq.symm hH
    subst hH
    refine awp_ret ?_
    refine q_fin1 h4_4 ?_
    rw [show g.reach l = listUpto (g.marks l) (g.marks l).length by simp [Gr.reach, hc8, hml]]; exact .pure (pu_ints _)

theorem refReach_ok (g : Gr) (l : List Int) (hll : l.length ≤ 1000) : Fun1 Try.prog 14 [encG g, .ro (l.map (AV.int IntKind.i64))] (.ro ((g.reach l).map (AV.int IntKind.i64))) :=
  fun1_frz (refReach0 g l hll) (pu_cons (pu_graph _) (pu_cons (pu_ints _) pu_nil)) (pu_ints _)

end Go.Proofs.Yteifhcohmipdcaa

/-
  THE GRAPH FUNCTIONS, plain law 11: Tarjan's search finds the components. Conditions: a valid graph.
-/
namespace Go.Proofs.Yteifhcohmipdcaa
open Go.Abs
set_option linter.unusedSimpArgs false
set_option linter.unusedVariables false

def gt (l : List Int) (v : Int) : Int := l.getD v.toNat 0
theorem gt_set {l : List Int} {k v x : Int} (hk : inR l.length k) (hv : inR l.length v) : gt (l.set k.toNat x) v = if v = k then x else gt l v := by
  simp only [gt, List.getD_eq_getElem?_getD, List.getElem?_set]
  by_cases h : v = k
  · subst h; simp [in_toNat hv]
  · have : k.toNat ≠ v.toNat := fun e => h (by rw [← toNat_cast hk, ← toNat_cast hv, e])
    simp [this, h]
theorem gt_get {l : List Int} {v : Int} (hv : inR l.length v) : l[v.toNat]? = some (gt l v) := by
  have := in_toNat hv
  simp [gt, List.getD_eq_getElem?_getD, this]
/-- One node reaches another one. -/
def Gr.R (g : Gr) (a b : Int) : Prop := g.Reach [a] b
theorem Gr.R.refl (g : Gr) (a : Int) : g.R a a := .base (by simp)
theorem Gr.R.edge {g : Gr} {a b : Int} (h : (a, b) ∈ g.edges) : g.R a b := .step (.base (by simp)) h
theorem Gr.R.trans {g : Gr} {a b c : Int} (h : g.R a b) (k : g.R b c) : g.R a c := by
  induction k with
  | base hx => simp at hx; subst hx; exact h
  | step _ he ih => exact .step ih he
/-- What is closed under edges holds what its nodes reach. -/
theorem Gr.R.closed {g : Gr} {S : Int → Prop} (hS : ∀ v w, S v → (v, w) ∈ g.edges → S w) {a b : Int} (ha : S a) (h : g.R a b) : S b := by
  induction h with
  | base hx => simp at hx; subst hx; exact ha
  | step _ he ih => exact hS _ _ ih he
structure TS where
  idx : List Int
  low : List Int
  cmp : List Int
  stk : List Int
  nxt : Int
  cnt : Int
/-- What holds all the time; gray: the nodes whose visits are under way. -/
structure TI (g : Gr) (s : TS) (gray : List Int) : Prop where
  il : s.idx.length = g.nodes.length
  ll : s.low.length = g.nodes.length
  cl : s.cmp.length = g.nodes.length
  zero : (s.idx.count 0 : Int) + s.nxt = g.nodes.length + 1
  cn0 : 0 ≤ s.cnt
  cn : s.cnt + gray.length + 1 ≤ s.nxt
  rng : ∀ v, inR g.nodes.length v → 0 ≤ gt s.idx v ∧ gt s.idx v < s.nxt
  inj : ∀ u v, inR g.nodes.length u → inR g.nodes.length v → gt s.idx u = gt s.idx v → gt s.idx u ≠ 0 → u = v
  stk : ∀ v, v ∈ s.stk ↔ inR g.nodes.length v ∧ gt s.idx v ≠ 0 ∧ gt s.cmp v < 0
  sorted : s.stk.Pairwise (fun u v => gt s.idx u < gt s.idx v)
  gin : ∀ v ∈ gray, v ∈ s.stk
  black : ∀ v w, inR g.nodes.length v → gt s.idx v ≠ 0 → v ∉ gray → (v, w) ∈ g.edges → gt s.idx w ≠ 0
  dn : ∀ v, inR g.nodes.length v → 0 ≤ gt s.cmp v → gt s.idx v ≠ 0 ∧ gt s.cmp v < s.cnt
  dcl : ∀ v w, inR g.nodes.length v → 0 ≤ gt s.cmp v → (v, w) ∈ g.edges → 0 ≤ gt s.cmp w
  same : ∀ u v, inR g.nodes.length u → inR g.nodes.length v → 0 ≤ gt s.cmp u → 0 ≤ gt s.cmp v → (gt s.cmp u = gt s.cmp v ↔ g.R u v ∧ g.R v u)
  fwd : ∀ x y, x ∈ s.stk → y ∈ s.stk → gt s.idx x ≤ gt s.idx y → g.R x y
  back : ∀ y ∈ s.stk, ∃ x ∈ gray, gt s.idx x ≤ gt s.idx y ∧ g.R y x
/-- What a visit leaves. -/
structure TP (g : Gr) (s s' : TS) (gray : List Int) (n : Int) : Prop where
  inv : TI g s' gray
  vis : gt s'.idx n ≠ 0
  ki : ∀ v, inR g.nodes.length v → gt s.idx v ≠ 0 → gt s'.idx v = gt s.idx v
  kl : ∀ v, inR g.nodes.length v → gt s.idx v ≠ 0 → gt s'.low v = gt s.low v
  kc : ∀ v, inR g.nodes.length v → 0 ≤ gt s.cmp v → gt s'.cmp v = gt s.cmp v
  seg : ∃ seg, s'.stk = s.stk ++ seg ∧ (∀ y ∈ seg, gt s.idx y = 0) ∧ ∀ y ∈ seg, ∀ z ∈ s.stk, (y, z) ∈ g.edges → gt s'.low n ≤ gt s.idx z
  low : gt s'.low n ≤ gt s'.idx n ∧ ((0 ≤ gt s'.cmp n ∧ gt s'.low n = gt s'.idx n) ∨ ∃ z ∈ s'.stk, gt s'.idx z = gt s'.low n ∧ g.R n z)
  less : s'.idx.count 0 < s.idx.count 0
  new : ∀ v, inR g.nodes.length v → gt s.idx v = 0 → gt s'.idx v ≠ 0 → s.nxt ≤ gt s'.idx v
/-- In the middle of a visit. -/
structure TL (g : Gr) (s : TS) (gray : List Int) (n : Int) (pre : List Int) (s2 : TS) : Prop where
  inv : TI g s2 (gray ++ [n])
  hn : gt s2.idx n = s.nxt
  ki : ∀ v, inR g.nodes.length v → gt s.idx v ≠ 0 → gt s2.idx v = gt s.idx v
  kl : ∀ v, inR g.nodes.length v → gt s.idx v ≠ 0 → gt s2.low v = gt s.low v
  kc : ∀ v, inR g.nodes.length v → 0 ≤ gt s.cmp v → gt s2.cmp v = gt s.cmp v
  seg : ∃ seg, s2.stk = s.stk ++ n :: seg ∧ (∀ y ∈ seg, gt s.idx y = 0) ∧ ∀ y ∈ seg, ∀ z ∈ s.stk, (y, z) ∈ g.edges → gt s2.low n ≤ gt s.idx z
  pre : ∀ k ∈ pre, inR g.nodes.length k ∧ gt s2.idx k ≠ 0 ∧ (k ∈ s.stk → gt s2.low n ≤ gt s.idx k)
  low : gt s2.low n ≤ s.nxt ∧ ∃ z ∈ s2.stk, gt s2.idx z = gt s2.low n ∧ g.R n z
  less : s2.idx.count 0 < s.idx.count 0
  new : ∀ v, inR g.nodes.length v → gt s.idx v = 0 → gt s2.idx v ≠ 0 → s.nxt ≤ gt s2.idx v
theorem count_set_0 {d : List Int} {k : Nat} (h : d[k]? = some 0) {x : Int} (hx : x ≠ 0) : (d.set k x).count 0 + 1 = d.count 0 := by
  induction d generalizing k with
  | nil => simp at h
  | cons b d ih =>
    cases k with
    | zero =>
      simp at h; subst h
      simp [List.count_cons, hx]
    | succ k =>
      simp at h
      have := ih h
      simp only [List.set_cons_succ, List.count_cons]
      omega
section
variable {g : Gr}
theorem TI.up (hval : g.valid = true) {s : TS} {gray : List Int} (h : TI g s gray) {n : Int} (hn : inR g.nodes.length n) (h0 : gt s.idx n = 0) (hg : ∀ x ∈ gray, g.R x n) :
    TL g s gray n [] ⟨s.idx.set n.toNat s.nxt, s.low.set n.toNat s.nxt, s.cmp, s.stk ++ [n], s.nxt + 1, s.cnt⟩ := by
  have hni : inR s.idx.length n := by rw [h.il]; exact hn
  have hnl : inR s.low.length n := by rw [h.ll]; exact hn
  have hnx : 1 ≤ s.nxt := by have := h.cn; have := h.cn0; omega
  have hI : ∀ v, inR g.nodes.length v → gt (s.idx.set n.toNat s.nxt) v = if v = n then s.nxt else gt s.idx v := fun v hv => gt_set hni (by rw [h.il]; exact hv)
  have hL : ∀ v, inR g.nodes.length v → gt (s.low.set n.toNat s.nxt) v = if v = n then s.nxt else gt s.low v := fun v hv => gt_set hnl (by rw [h.ll]; exact hv)
  have hns : n ∉ s.stk := fun hin => ((h.stk n).1 hin).2.1 h0
  have hnc : gt s.cmp n < 0 := by
    rcases Int.lt_or_le (gt s.cmp n) 0 with h1 | h1
    · exact h1
    · exact absurd h0 (h.dn n hn h1).1
  have hcnt := count_set_0 (d := s.idx) (k := n.toNat) (by rw [gt_get hni, h0]) (x := s.nxt) (by omega)
  have hne : ∀ v ∈ s.stk, v ≠ n := fun v hv e => hns (e ▸ hv)
  have hst : ∀ v ∈ s.stk, inR g.nodes.length v := fun v hv => ((h.stk v).1 hv).1
  have hlt : ∀ v ∈ s.stk, gt s.idx v < s.nxt := fun v hv => (h.rng v (hst v hv)).2
  have hr : ∀ v ∈ s.stk, g.R v n := fun v hv => by
    obtain ⟨x, hx, _, hR⟩ := h.back v hv
    exact hR.trans (hg x hx)
  refine ⟨⟨by simpa using h.il, by simpa using h.ll, h.cl, ?_, h.cn0, ?_, ?_, ?_, ?_, ?_, ?_, ?_, ?_, h.dcl, h.same, ?_, ?_⟩, by rw [hI n hn, if_pos rfl], ?_, ?_, fun _ _ _ => rfl, ⟨[], rfl, by simp, by simp⟩, by simp, ⟨by rw [hL n hn, if_pos rfl]; exact Int.le_refl _, n, by simp, by rw [hI n hn, hL n hn, if_pos rfl, if_pos rfl], .refl g n⟩, by simp only; omega, ?_⟩
  · have := h.zero; simp only; omega
  · have := h.cn; simp only [List.length_append, List.length_singleton]; omega
  · intro v hv
    simp only [hI v hv]
    have := h.rng v hv
    split <;> omega
  · intro u v hu hv he h1
    simp only [hI u hu, hI v hv] at he h1
    have := (h.rng u hu).2; have := (h.rng v hv).2
    split at he
    · split at he
      · rename_i a b; rw [a, b]
      · omega
    · rename_i hune
      split at he
      · omega
      · rw [if_neg hune] at h1; exact h.inj u v hu hv he h1
  · intro v
    simp only [List.mem_append, List.mem_singleton, h.stk]
    constructor
    · rintro (⟨a, b, c⟩ | rfl)
      · refine ⟨a, ?_, c⟩; rw [hI v a]; split <;> omega
      · refine ⟨hn, ?_, hnc⟩; rw [hI v hn, if_pos rfl]; omega
    · rintro ⟨a, b, c⟩
      by_cases e : v = n
      · exact .inr e
      · rw [hI v a, if_neg e] at b; exact .inl ⟨a, b, c⟩
  · simp only
    rw [List.pairwise_append]
    refine ⟨?_, by simp, ?_⟩
    · exact h.sorted.imp_of_mem fun {u v} hu hv huv => by rw [hI u (hst u hu), hI v (hst v hv), if_neg (hne u hu), if_neg (hne v hv)]; exact huv
    · intro u hu v hv
      simp at hv; subst hv
      rw [hI u (hst u hu), if_neg (hne u hu), hI _ hn, if_pos rfl]
      exact hlt u hu
  · intro v hv
    rcases List.mem_append.1 hv with hv | hv
    · exact List.mem_append.2 (.inl (h.gin v hv))
    · exact List.mem_append.2 (.inr hv)
  · intro v w hv h1 hng he
    simp only [List.mem_append, List.mem_singleton, not_or] at hng
    simp only [hI v hv, if_neg hng.2] at h1
    have hb := h.black v w hv h1 hng.1 he
    have hw : inR g.nodes.length w := (valid_edge hval he).2
    simp only [hI w hw]
    split
    · omega
    · exact hb
  · intro v hv hc
    have := h.dn v hv hc
    simp only
    refine ⟨?_, this.2⟩
    rw [hI v hv]; split
    · omega
    · exact this.1
  · intro x y hx hy hxy
    simp only [List.mem_append, List.mem_singleton] at hx hy
    rcases hx with hx | rfl
    · rcases hy with hy | rfl
      · rw [hI x (hst x hx), hI y (hst y hy), if_neg (hne x hx), if_neg (hne y hy)] at hxy
        exact h.fwd x y hx hy hxy
      · exact hr x hx
    · rcases hy with hy | rfl
      · rw [hI x hn, if_pos rfl, hI y (hst y hy), if_neg (hne y hy)] at hxy
        have := hlt y hy; omega
      · exact .refl g _
  · intro y hy
    simp only [List.mem_append, List.mem_singleton] at hy
    rcases hy with hy | rfl
    · obtain ⟨x, hx, hxi, hR⟩ := h.back y hy
      have hxs := h.gin x hx
      exact ⟨x, List.mem_append.2 (.inl hx), by rw [hI x (hst x hxs), hI y (hst y hy), if_neg (hne x hxs), if_neg (hne y hy)]; exact hxi, hR⟩
    · exact ⟨y, by simp, Int.le_refl _, .refl g _⟩
  · intro v hv hv0
    rw [hI v hv, if_neg (fun e => hv0 (by rw [e]; exact h0))]
  · intro v hv hv0
    rw [hL v hv, if_neg (fun e => hv0 (by rw [e]; exact h0))]
  · intro v hv hv0 hv1
    simp only [hI v hv] at hv1 ⊢
    split
    · omega
    · rename_i e; rw [if_neg e] at hv1; exact absurd hv0 hv1
/-- Only the low of the node itself may be lowered. -/
theorem TI.setLow {s : TS} {gray : List Int} (h : TI g s gray) (n : Nat) (x : Int) : TI g { s with low := s.low.set n x } gray :=
  ⟨h.il, by simpa using h.ll, h.cl, h.zero, h.cn0, h.cn, h.rng, h.inj, h.stk, h.sorted, h.gin, h.black, h.dn, h.dcl, h.same, h.fwd, h.back⟩
theorem TL.lower {s s2 : TS} {gray pre : List Int} {n k x : Int} (h : TL g s gray n pre s2) (hn : inR g.nodes.length n) (hn0 : gt s.idx n = 0) (hk : inR g.nodes.length k) (hk0 : gt s2.idx k ≠ 0) (hx : x ≤ gt s2.low n)
    (hz : ∃ z ∈ s2.stk, gt s2.idx z = x ∧ g.R n z) (hks : k ∈ s.stk → x ≤ gt s.idx k) : TL g s gray n (pre ++ [k]) { s2 with low := s2.low.set n.toNat x } := by
  have hnl : inR s2.low.length n := by rw [h.inv.ll]; exact hn
  have hL : ∀ v, inR g.nodes.length v → gt (s2.low.set n.toNat x) v = if v = n then x else gt s2.low v := fun v hv => gt_set hnl (by rw [h.inv.ll]; exact hv)
  have hLn : gt (s2.low.set n.toNat x) n = x := by rw [hL n hn, if_pos rfl]
  obtain ⟨seg, h1, h2, h3⟩ := h.seg
  refine ⟨h.inv.setLow _ _, h.hn, h.ki, fun v hv hv0 => ?_, h.kc, ⟨seg, h1, h2, fun y hy z hz' he => ?_⟩, fun j hj => ?_, ⟨?_, ?_⟩, h.less, h.new⟩
  · simp only; rw [hL v hv, if_neg (fun e => hv0 (by rw [e]; exact hn0))]; exact h.kl v hv hv0
  · simp only; rw [hLn]; exact Int.le_trans hx (h3 y hy z hz' he)
  · simp only; rw [hLn]
    rcases List.mem_append.1 hj with hj | hj
    · exact ⟨(h.pre j hj).1, (h.pre j hj).2.1, fun hs => Int.le_trans hx ((h.pre j hj).2.2 hs)⟩
    · simp at hj; subst hj; exact ⟨hk, hk0, hks⟩
  · simp only; rw [hLn]; exact Int.le_trans hx h.low.1
  · simp only; rw [hLn]; exact hz
theorem TL.keep {s s2 : TS} {gray pre : List Int} {n k : Int} (h : TL g s gray n pre s2) (hk : inR g.nodes.length k) (hk0 : gt s2.idx k ≠ 0) (hks : k ∈ s.stk → gt s2.low n ≤ gt s.idx k) : TL g s gray n (pre ++ [k]) s2 :=
  ⟨h.inv, h.hn, h.ki, h.kl, h.kc, h.seg, fun j hj => by
    rcases List.mem_append.1 hj with hj | hj
    · exact h.pre j hj
    · simp at hj; subst hj; exact ⟨hk, hk0, hks⟩, h.low, h.less, h.new⟩
theorem TL.onstk {s s2 : TS} {gray pre : List Int} {n : Int} (h : TL g s gray n pre s2) {z : Int} (hz : z ∈ s.stk) : z ∈ s2.stk := by
  obtain ⟨seg, h1, _⟩ := h.seg
  rw [h1]; exact List.mem_append.2 (.inl hz)
theorem TL.nstk {s s2 : TS} {gray pre : List Int} {n : Int} (h : TL g s gray n pre s2) : n ∈ s2.stk := by
  obtain ⟨seg, h1, _⟩ := h.seg
  rw [h1]; simp
/-- A successor that has been visited and is not done. -/
theorem TL.cross {s s2 : TS} {gray pre : List Int} {n k : Int} (h : TL g s gray n pre s2) (hs : TI g s gray) (hn : inR g.nodes.length n) (hn0 : gt s.idx n = 0) (hk : inR g.nodes.length k) (he : (n, k) ∈ g.edges) (hk0 : gt s2.idx k ≠ 0) (hkc : gt s2.cmp k < 0) :
    TL g s gray n (pre ++ [k]) { s2 with low := s2.low.set n.toNat (min (gt s2.low n) (gt s2.idx k)) } := by
  have hks : k ∈ s2.stk := (h.inv.stk k).2 ⟨hk, hk0, hkc⟩
  refine h.lower hn hn0 hk hk0 (Int.min_le_left _ _) ?_ fun hin => ?_
  · rcases Int.le_total (gt s2.low n) (gt s2.idx k) with h1 | h1
    · rw [Int.min_eq_left h1]; exact h.low.2
    · rw [Int.min_eq_right h1]; exact ⟨k, hks, rfl, .edge he⟩
  · rw [h.ki k hk ((hs.stk k).1 hin).2.1]; exact Int.min_le_right _ _
/-- A successor that is done. -/
theorem TL.done {s s2 : TS} {gray pre : List Int} {n k : Int} (h : TL g s gray n pre s2) (hk : inR g.nodes.length k) (hk0 : gt s2.idx k ≠ 0) (hkc : 0 ≤ gt s2.cmp k) : TL g s gray n (pre ++ [k]) s2 :=
  h.keep hk hk0 fun hin => by have := ((h.inv.stk k).1 (h.onstk hin)).2.2; omega
/-- A successor that is visited now. -/
theorem TL.child {s s2 s3 : TS} {gray pre : List Int} {n k : Int} (h : TL g s gray n pre s2) (hs : TI g s gray) (hn : inR g.nodes.length n) (hn0 : gt s.idx n = 0) (hk : inR g.nodes.length k) (he : (n, k) ∈ g.edges) (hk0 : gt s2.idx k = 0)
    (hp : TP g s2 s3 (gray ++ [n]) k) : TL g s gray n (pre ++ [k]) { s3 with low := s3.low.set n.toNat (min (gt s3.low n) (gt s3.low k)) } := by
  obtain ⟨sg, q1, q2, q3⟩ := h.seg
  obtain ⟨sg', r1, r2, r3⟩ := hp.seg
  have hnx : 1 ≤ s.nxt := by have := hs.cn; have := hs.cn0; omega
  have hn2 : gt s2.idx n ≠ 0 := by rw [h.hn]; omega
  have hzs : ∀ z ∈ s.stk, inR g.nodes.length z ∧ gt s.idx z ≠ 0 := fun z hz => ⟨((hs.stk z).1 hz).1, ((hs.stk z).1 hz).2.1⟩
  have hv2 : ∀ v, inR g.nodes.length v → gt s.idx v ≠ 0 → gt s2.idx v ≠ 0 := fun v hv hv0 => by rw [h.ki v hv hv0]; exact hv0
  have hlow3 : gt s3.low n = gt s2.low n := hp.kl n hn hn2
  have hmono : ∀ z ∈ s2.stk, z ∈ s3.stk ∧ gt s3.idx z = gt s2.idx z := fun z hz =>
    ⟨by rw [r1]; exact List.mem_append.2 (.inl hz), hp.ki z ((h.inv.stk z).1 hz).1 ((h.inv.stk z).1 hz).2.1⟩
  have hks : k ∉ s.stk := fun hin => hv2 k hk (hzs k hin).2 hk0
  have hn3 : inR s3.low.length n := by rw [hp.inv.ll]; exact hn
  obtain ⟨m, hm⟩ : ∃ m, m = min (gt s3.low n) (gt s3.low k) := ⟨_, rfl⟩
  have hm1 : m ≤ gt s2.low n := by rw [hm, hlow3]; exact Int.min_le_left _ _
  have hm2 : m ≤ gt s3.low k := by rw [hm]; exact Int.min_le_right _ _
  rw [← hm]
  have hL : ∀ v, inR g.nodes.length v → gt (s3.low.set n.toNat m) v = if v = n then m else gt s3.low v := fun v hv => gt_set hn3 (by rw [hp.inv.ll]; exact hv)
  have hLn : gt (s3.low.set n.toNat m) n = m := by rw [hL n hn, if_pos rfl]
  refine ⟨hp.inv.setLow _ _, by rw [hp.ki n hn hn2, h.hn], fun v hv hv0 => ?_, fun v hv hv0 => ?_, fun v hv hc => ?_, ⟨sg ++ sg', by rw [r1, q1]; simp, fun y hy => ?_, fun y hy z hz hyz => ?_⟩, fun j hj => ?_, ⟨?_, ?_⟩, Nat.lt_trans hp.less h.less, fun v hv hv0 hv1 => ?_⟩
  · simp only; rw [hp.ki v hv (hv2 v hv hv0), h.ki v hv hv0]
  · simp only; rw [hL v hv, if_neg (fun e => hv0 (by rw [e]; exact hn0)), hp.kl v hv (hv2 v hv hv0), h.kl v hv hv0]
  · simp only
    have e := h.kc v hv hc
    rw [hp.kc v hv (by rw [e]; exact hc), e]
  · rcases List.mem_append.1 hy with hy | hy
    · exact q2 y hy
    · have h0 := r2 y hy
      by_cases hz : gt s.idx y = 0
      · exact hz
      · have hyr : inR g.nodes.length y := ((hp.inv.stk y).1 (by rw [r1]; exact List.mem_append.2 (.inr hy))).1
        exact absurd h0 (hv2 y hyr hz)
  · simp only; rw [hLn]
    rcases List.mem_append.1 hy with hy | hy
    · exact Int.le_trans hm1 (q3 y hy z hz hyz)
    · have := r3 y hy z (h.onstk hz) hyz
      rw [h.ki z (hzs z hz).1 (hzs z hz).2] at this
      exact Int.le_trans hm2 this
  · simp only; rw [hLn]
    rcases List.mem_append.1 hj with hj | hj
    · have := h.pre j hj
      exact ⟨this.1, by rw [hp.ki j this.1 this.2.1]; exact this.2.1, fun hs => Int.le_trans hm1 (this.2.2 hs)⟩
    · simp at hj; subst hj; exact ⟨hk, hp.vis, fun hin => absurd hin hks⟩
  · simp only; rw [hLn]; exact Int.le_trans hm1 h.low.1
  · simp only; rw [hLn]
    rcases Int.le_total (gt s3.low n) (gt s3.low k) with h1 | h1
    · rw [Int.min_eq_left h1, hlow3] at hm
      obtain ⟨z, hz, e1, e2⟩ := h.low.2
      exact ⟨z, (hmono z hz).1, by rw [(hmono z hz).2, hm, e1], e2⟩
    · rw [Int.min_eq_right h1] at hm
      rcases hp.low.2 with ⟨d1, d2⟩ | ⟨z, hz, e1, e2⟩
      · exfalso
        have hki : s2.nxt ≤ gt s3.idx k := hp.new k hk hk0 hp.vis
        have hkn : gt s2.low n ≤ s.nxt := h.low.1
        have := (h.inv.rng n hn).2
        rw [h.hn] at this
        rw [hlow3, d2] at h1
        omega
      · exact ⟨z, hz, by rw [hm, e1], (Gr.R.edge he).trans e2⟩
  · by_cases hz : gt s2.idx v = 0
    · have := hp.new v hv hz hv1
      have := h.inv.zero; have := hs.zero; have := h.less
      simp only; omega
    · simp only; rw [hp.ki v hv hz]; exact h.new v hv hv0 hz
/-- The visit ends, and the node stays on the stack. -/
theorem TL.ret (hval : g.valid = true) {s s2 : TS} {gray pre : List Int} {n : Int} (h : TL g s gray n pre s2) (hs : TI g s gray) (hn : inR g.nodes.length n) (hn0 : gt s.idx n = 0) (hng : n ∉ gray) (hall : ∀ w, (n, w) ∈ g.edges → w ∈ pre) (hlt : gt s2.low n < gt s2.idx n) : TP g s s2 gray n := by
  obtain ⟨sg, q1, q2, q3⟩ := h.seg
  have hnx : 1 ≤ s.nxt := by have := hs.cn; have := hs.cn0; omega
  obtain ⟨z, hz, e1, e2⟩ := h.low.2
  have I := h.inv
  refine ⟨⟨I.il, I.ll, I.cl, I.zero, I.cn0, ?_, I.rng, I.inj, I.stk, I.sorted, fun v hv => I.gin v (List.mem_append.2 (.inl hv)), fun v w hv hv0 hvg he => ?_, I.dn, I.dcl, I.same, I.fwd, fun y hy => ?_⟩, by rw [h.hn]; omega, h.ki, h.kl, h.kc, ⟨n :: sg, q1, fun y hy => ?_, fun y hy z' hz' he => ?_⟩, ⟨Int.le_of_lt hlt, .inr ⟨z, hz, e1, e2⟩⟩, h.less, h.new⟩
  · have := I.cn; simp only [List.length_append, List.length_singleton] at this; omega
  · by_cases e : v = n
    · subst e; exact (h.pre w (hall w he)).2.1
    · exact I.black v w hv hv0 (by simp [hvg, e]) he
  · obtain ⟨x, hx, hxi, hR⟩ := I.back y hy
    rcases List.mem_append.1 hx with hx | hx
    · exact ⟨x, hx, hxi, hR⟩
    · simp at hx; subst hx
      obtain ⟨x', hx', hxi', hR'⟩ := I.back z hz
      rcases List.mem_append.1 hx' with hx' | hx'
      · exact ⟨x', hx', by omega, hR.trans (e2.trans hR')⟩
      · simp at hx'; subst hx'; omega
  · rcases List.mem_cons.1 hy with hy | hy
    · subst hy; exact hn0
    · exact q2 y hy
  · rcases List.mem_cons.1 hy with hy | hy
    · subst hy; exact (h.pre z' (hall z' he)).2.2 hz'
    · exact q3 y hy z' hz' he
/-- The visit ends, and a component is done. -/
theorem TL.close (hval : g.valid = true) {s s2 : TS} {gray pre seg cmp : List Int} {n : Int} (h : TL g s gray n pre s2) (hs : TI g s gray) (hn : inR g.nodes.length n) (hn0 : gt s.idx n = 0) (hng : n ∉ gray) (hall : ∀ w, (n, w) ∈ g.edges → w ∈ pre) (hge : gt s2.idx n ≤ gt s2.low n)
    (hseg : s2.stk = s.stk ++ n :: seg) (hcl : cmp.length = g.nodes.length) (hcmp : ∀ v, inR g.nodes.length v → gt cmp v = if v ∈ n :: seg then s2.cnt else gt s2.cmp v) :
    TP g s { s2 with cmp := cmp, stk := s.stk, cnt := s2.cnt + 1 } gray n := by
  obtain ⟨sg, q1, q2, q3⟩ := h.seg
  have : sg = seg := by
    rw [hseg] at q1
    have := List.append_cancel_left q1
    simpa using this.symm
  subst this
  have I := h.inv
  have hnx : 1 ≤ s.nxt := by have := hs.cn; have := hs.cn0; omega
  have hlow : gt s2.low n = gt s2.idx n := by have := h.low.1; rw [h.hn] at hge ⊢; omega
  have hc0 := I.cn0
  have hsegin : ∀ y ∈ n :: sg, y ∈ s2.stk := fun y hy => by rw [hseg]; exact List.mem_append.2 (.inr hy)
  have hsegr : ∀ y ∈ n :: sg, inR g.nodes.length y ∧ gt s2.idx y ≠ 0 ∧ gt s2.cmp y < 0 := fun y hy => (I.stk y).1 (hsegin y hy)
  have hord : ∀ z ∈ s.stk, ∀ y ∈ n :: sg, gt s2.idx z < gt s2.idx y := fun z hz y hy => by
    have := I.sorted; rw [hseg] at this
    exact (List.pairwise_append.1 this).2.2 z hz y hy
  have hdisj : ∀ y ∈ n :: sg, y ∉ s.stk := fun y hy hin => by have := hord y hin y hy; omega
  have hnle : ∀ y ∈ n :: sg, gt s2.idx n ≤ gt s2.idx y := fun y hy => by
    rcases List.mem_cons.1 hy with hy | hy
    · subst hy; exact Int.le_refl _
    · have := I.sorted; rw [hseg] at this
      exact Int.le_of_lt ((List.pairwise_cons.1 (List.pairwise_append.1 this).2.1).1 y hy)
  have hto : ∀ y ∈ n :: sg, g.R n y := fun y hy => I.fwd n y h.nstk (hsegin y hy) (hnle y hy)
  have hfrom : ∀ y ∈ n :: sg, g.R y n := fun y hy => by
    obtain ⟨x, hx, hxi, hR⟩ := I.back y (hsegin y hy)
    rcases List.mem_append.1 hx with hx' | hx'
    · have hxs : x ∈ s.stk := hs.gin x hx'
      exact hR.trans (I.fwd x n (h.onstk hxs) h.nstk (Int.le_of_lt (hord x hxs n (by simp))))
    · simp at hx'; subst hx'; exact hR
  have hout : ∀ y w, y ∈ n :: sg → (y, w) ∈ g.edges → w ∈ n :: sg ∨ 0 ≤ gt s2.cmp w := by
    intro y w hy he
    have hw : inR g.nodes.length w := (valid_edge hval he).2
    have hw0 : gt s2.idx w ≠ 0 := by
      rcases List.mem_cons.1 hy with hy' | hy'
      · subst hy'; exact (h.pre w (hall w he)).2.1
      · refine I.black y w (hsegr y hy).1 (hsegr y hy).2.1 (fun hg => ?_) he
        rcases List.mem_append.1 hg with hg | hg
        · exact hdisj y hy (hs.gin y hg)
        · simp at hg; subst hg
          have := I.sorted; rw [hseg] at this
          have := (List.pairwise_cons.1 (List.pairwise_append.1 this).2.1).1 y hy'
          omega
    by_cases hwc : 0 ≤ gt s2.cmp w
    · exact .inr hwc
    · have hws : w ∈ s2.stk := (I.stk w).2 ⟨hw, hw0, by omega⟩
      rw [hseg] at hws
      rcases List.mem_append.1 hws with hwo | hwo
      · exfalso
        have hwi : gt s2.idx w = gt s.idx w := h.ki w hw ((hs.stk w).1 hwo).2.1
        have h1 := hord w hwo n (by simp)
        rcases List.mem_cons.1 hy with hy' | hy'
        · subst hy'
          have := (h.pre w (hall w he)).2.2 hwo
          omega
        · have := q3 y hy' w hwo he
          omega
      · exact .inl hwo
  have hdone : ∀ v, inR g.nodes.length v → (0 ≤ gt cmp v ↔ v ∈ n :: sg ∨ 0 ≤ gt s2.cmp v) := fun v hv => by
    rw [hcmp v hv]
    split
    · rename_i hin; exact ⟨fun _ => .inl hin, fun _ => hc0⟩
    · rename_i hin; exact ⟨.inr, fun hh => hh.resolve_left hin⟩
  have hclosed : ∀ v w, inR g.nodes.length v → 0 ≤ gt cmp v → (v, w) ∈ g.edges → 0 ≤ gt cmp w := fun v w hv hc he => by
    have hw : inR g.nodes.length w := (valid_edge hval he).2
    rw [hdone w hw]
    rcases (hdone v hv).1 hc with h1 | h1
    · exact hout v w h1 he
    · exact .inr (I.dcl v w hv h1 he)
  have hold : ∀ {a b : Int}, inR g.nodes.length a → 0 ≤ gt s2.cmp a → g.R a b → inR g.nodes.length b ∧ 0 ≤ gt s2.cmp b := fun {a b} ha hc hR =>
    hR.closed (S := fun v => inR g.nodes.length v ∧ 0 ≤ gt s2.cmp v) (fun v w hvw he => ⟨(valid_edge hval he).2, I.dcl v w hvw.1 hvw.2 he⟩) ⟨ha, hc⟩
  refine ⟨⟨I.il, I.ll, hcl, I.zero, by simp only; omega, ?_, I.rng, I.inj, fun v => ?_, ?_, fun v hv => hs.gin v hv, fun v w hv hv0 hvg he => ?_, fun v hv hc => ?_, fun v w hv hc he => hclosed v w hv hc he, fun u v hu hv hcu hcv => ?_, fun x y hx hy => I.fwd x y (h.onstk hx) (h.onstk hy), fun y hy => ?_⟩,
    by simp only; rw [h.hn]; omega, h.ki, h.kl, fun v hv hc => ?_, ⟨[], by simp, by simp, by simp⟩, ⟨Int.le_of_eq hlow, .inl ⟨?_, hlow⟩⟩, h.less, h.new⟩
  · have := I.cn; simp only [List.length_append, List.length_singleton] at this; simp only; omega
  · simp only
    constructor
    · intro hin
      have hv := (I.stk v).1 (h.onstk hin)
      refine ⟨hv.1, hv.2.1, ?_⟩
      rw [hcmp v hv.1, if_neg (fun hh => hdisj v hh hin)]; exact hv.2.2
    · rintro ⟨hv, hv0, hc⟩
      have hns : v ∉ n :: sg := fun hh => by rw [hcmp v hv, if_pos hh] at hc; omega
      rw [hcmp v hv, if_neg hns] at hc
      have := (I.stk v).2 ⟨hv, hv0, hc⟩
      rw [hseg] at this
      exact (List.mem_append.1 this).resolve_right hns
  · have := I.sorted; rw [hseg] at this
    exact (List.pairwise_append.1 this).1
  · by_cases e : v = n
    · subst e; exact (h.pre w (hall w he)).2.1
    · exact I.black v w hv hv0 (by simp [hvg, e]) he
  · simp only
    rcases (hdone v hv).1 hc with h1 | h1
    · refine ⟨(hsegr v h1).2.1, ?_⟩; rw [hcmp v hv, if_pos h1]; omega
    · have := I.dn v hv h1
      refine ⟨this.1, ?_⟩
      rw [hcmp v hv]; split <;> omega
  · simp only at hcu hcv ⊢
    rcases (hdone u hu).1 hcu with h1 | h1
    · rcases (hdone v hv).1 hcv with h2 | h2
      · rw [hcmp u hu, hcmp v hv, if_pos h1, if_pos h2]
        exact ⟨fun _ => ⟨(hfrom u h1).trans (hto v h2), (hfrom v h2).trans (hto u h1)⟩, fun _ => rfl⟩
      · by_cases h3 : v ∈ n :: sg
        · have := (hsegr v h3).2.2; omega
        · rw [hcmp u hu, hcmp v hv, if_pos h1, if_neg h3]
          have := (I.dn v hv h2).2
          refine ⟨fun e => by omega, fun ⟨_, hR⟩ => ?_⟩
          have := (hold hv h2 hR).2; have := (hsegr u h1).2.2; omega
    · by_cases h3 : u ∈ n :: sg
      · have := (hsegr u h3).2.2; omega
      · rcases (hdone v hv).1 hcv with h2 | h2
        · rw [hcmp u hu, hcmp v hv, if_neg h3, if_pos h2]
          have := (I.dn u hu h1).2
          refine ⟨fun e => by omega, fun ⟨hR, _⟩ => ?_⟩
          have := (hold hu h1 hR).2; have := (hsegr v h2).2.2; omega
        · by_cases h4 : v ∈ n :: sg
          · have := (hsegr v h4).2.2; omega
          · rw [hcmp u hu, hcmp v hv, if_neg h3, if_neg h4]
            exact I.same u v hu hv h1 h2
  · obtain ⟨x, hx, hxi, hR⟩ := I.back y (h.onstk hy)
    rcases List.mem_append.1 hx with hx | hx
    · exact ⟨x, hx, hxi, hR⟩
    · simp at hx; subst hx
      have := hord y hy x (by simp); omega
  · simp only
    have e := h.kc v hv hc
    rw [hcmp v hv, if_neg (fun hh => by have := (hsegr v hh).2.2; omega), e]
  · simp only; rw [hcmp n hn, if_pos (by simp)]; exact hc0
/-- At the start. -/
theorem TI.start (hval : g.valid = true) : TI g ⟨List.replicate g.nodes.length 0, List.replicate g.nodes.length 0, List.replicate g.nodes.length (-1), [], 1, 0⟩ [] := by
  have h0 : ∀ v, gt (List.replicate g.nodes.length 0) v = 0 := fun v => by simp only [gt, List.getD_eq_getElem?_getD, List.getElem?_replicate]; split <;> rfl
  have h1 : ∀ v, inR g.nodes.length v → gt (List.replicate g.nodes.length (-1)) v = -1 := fun v hv => by simp [gt, List.getD_eq_getElem?_getD, List.getElem?_replicate, in_toNat hv]
  refine ⟨by simp, by simp, by simp, by simp, by simp, by simp, fun v _ => ?_, fun u v _ _ _ hh => absurd (h0 u) hh, fun v => ?_, by simp, by simp, fun v w _ hh => absurd (h0 v) hh, fun v hv hc => ?_, fun v w hv hc => ?_, fun u v hu _ hc => ?_, by simp, by simp⟩
  · simp only [h0]; omega
  · simp [h0]
  · simp only [h1 v hv] at hc; omega
  · simp only [h1 v hv] at hc; omega
  · simp only [h1 u hu] at hc; omega
/-- The component of each node. -/
structure IsNum (g : Gr) (cmp : List Int) (cnt : Int) : Prop where
  len : cmp.length = g.nodes.length
  rng : ∀ v, inR g.nodes.length v → 0 ≤ gt cmp v ∧ gt cmp v < cnt
  same : ∀ u v, inR g.nodes.length u → inR g.nodes.length v → (gt cmp u = gt cmp v ↔ g.R u v ∧ g.R v u)
  cnt : 0 ≤ cnt ∧ cnt ≤ g.nodes.length
theorem TI.end {s : TS} (h : TI g s []) (hall : ∀ v, inR g.nodes.length v → gt s.idx v ≠ 0) : IsNum g s.cmp s.cnt := by
  have hd : ∀ v, inR g.nodes.length v → 0 ≤ gt s.cmp v := fun v hv => by
    rcases Int.lt_or_le (gt s.cmp v) 0 with h1 | h1
    · obtain ⟨x, hx, _⟩ := h.back v ((h.stk v).2 ⟨hv, hall v hv, h1⟩)
      simp at hx
    · exact h1
  have hc := h.cn; have hz := h.zero
  simp only [List.length_nil] at hc
  exact ⟨h.cl, fun v hv => ⟨hd v hv, (h.dn v hv (hd v hv)).2⟩, fun u v hu hv => h.same u v hu hv (hd u hu) (hd v hv), h.cn0, by omega⟩
theorem strict_len : ∀ {l : List Int} {lo hi : Int}, l.Pairwise (· < ·) → (∀ x ∈ l, lo ≤ x ∧ x < hi) → lo ≤ hi → (l.length : Int) ≤ hi - lo
  | [], lo, hi, _, _, h => by simp; omega
  | a :: l, lo, hi, hp, hb, h => by
    have hp' := List.pairwise_cons.1 hp
    have ha := hb a (by simp)
    have := strict_len (l := l) (lo := a + 1) (hi := hi) hp'.2 (fun x hx => ⟨by have := hp'.1 x hx; omega, (hb x (by simp [hx])).2⟩) (by omega)
    simp only [List.length_cons]; omega
theorem TI.stkLen {s : TS} {gray : List Int} (h : TI g s gray) : s.stk.length ≤ g.nodes.length := by
  have hz := h.zero; have hc := h.cn; have h0 := h.cn0
  have := strict_len (l := s.stk.map (gt s.idx)) (lo := 1) (hi := s.nxt) (by rw [List.pairwise_map]; exact h.sorted) (fun x hx => by
    obtain ⟨v, hv, rfl⟩ := List.mem_map.1 hx
    have hh := (h.stk v).1 hv
    have := h.rng v hh.1
    exact ⟨by have := hh.2.1; omega, this.2⟩) (by omega)
  rw [List.length_map] at this
  omega
end
end Go.Proofs.Yteifhcohmipdcaa

/-
  THE GRAPH FUNCTIONS, 14: number. Conditions: a valid graph. (Printed by w14.py.)
-/
namespace Go.Proofs.Yteifhcohmipdcaa
open Go.Abs
set_option linter.unusedSimpArgs false
set_option linter.unusedVariables false
theorem ite_min (a b : Int) : (if b < a then b else a) = min a b := by rw [Int.min_def]; split <;> split <;> omega
theorem gt_elem {l : List Int} {v : Int} (h : v.toNat < l.length) : l[v.toNat] = gt l v := by simp [gt, h]
/-- The blocks of number that visits know. -/
def NumOk (j : Nat) : Prop := ¬ j = 0 ∧ ¬ j = 3 ∧ ¬ j = 6 ∧ ¬ j = 10 ∧ ¬ j = 11 ∧ ¬ j = 12 ∧ ¬ j = 13 ∧ ¬ j = 17 ∧ ¬ j = 18 ∧ ¬ j = 19 ∧ ¬ j = 20
def SvOk (stk : List Int) (sv : AV) (H : AHeap) : Prop := (sv = .nils ∧ stk = []) ∨ ∃ id g rest, sv = .sl id g 0 stk.length ∧ H.get id = some (.row 3 1 g (stk.map (AV.int IntKind.i64) ++ rest)) ∧ NumOk id
def Frm (H0 : AHeap) (sv : AV) (j : Nat) : Prop := H0.get j ≠ none ∧ j ≠ 3 ∧ j ≠ 6 ∧ j ≠ 10 ∧ j ≠ 17 ∧ j ≠ 18 ∧ j ≠ 19 ∧ ∀ gg m, sv ≠ .sl j gg 0 m

set_option maxHeartbeats 2000000 in
theorem num0 (g : Gr) (hv : g.valid = true) (e0 e11 e12 e13 e20 : TypeId) : ∀ (k : Nat) (s : TS) (gray : List Int) (n : Int) (sv : AV) (H0 : AHeap), s.idx.count 0 = k → TI g s gray → inR g.nodes.length n → gt s.idx n = 0 → (∀ x ∈ gray, g.R x n) → H0.st = 1 → SvOk s.stk sv H0 →
    (H0.get 0 = some (.row e0 1 0 [encS g.succs]) ∧ H0.get 3 = some (.row 3 1 0 (s.idx.map (AV.int IntKind.i64))) ∧ H0.get 6 = some (.row 3 1 0 (s.low.map (AV.int IntKind.i64))) ∧ H0.get 10 = some (.row 3 1 0 (s.cmp.map (AV.int IntKind.i64))) ∧ H0.get 11 = some (.row e11 1 0 [.sl 3 0 0 g.nodes.length]) ∧ H0.get 12 = some (.row e12 1 0 [.sl 6 0 0 g.nodes.length]) ∧ H0.get 13 = some (.row e13 1 0 [.sl 10 0 0 g.nodes.length]) ∧ H0.get 17 = some (.row 26 1 0 [sv]) ∧ H0.get 18 = some (.row 3 1 0 [(AV.int IntKind.i64) s.nxt]) ∧ H0.get 19 = some (.row 3 1 0 [(AV.int IntKind.i64) s.cnt]) ∧ H0.get 20 = some (.row e20 1 0 [.fn 73 [.ptr 18 0 0 0, .ptr 11 0 0 0, .ptr 12 0 0 0, .ptr 17 0 0 0, .ptr 0 0 0 0, .ptr 20 0 0 0, .ptr 13 0 0 0, .ptr 19 0 0 0]])) →
    ACalls Try.prog 73 [(AV.int IntKind.i64) n, .ptr 18 0 0 0, .ptr 11 0 0 0, .ptr 12 0 0 0, .ptr 17 0 0 0, .ptr 0 0 0 0, .ptr 20 0 0 0, .ptr 13 0 0 0, .ptr 19 0 0 0] H0 fun r H => r = .tup [] ∧ ∃ s' sv', TP g s s' gray n ∧ SvOk s'.stk sv' H ∧ (H.get 0 = some (.row e0 1 0 [encS g.succs]) ∧ H.get 3 = some (.row 3 1 0 (s'.idx.map (AV.int IntKind.i64))) ∧ H.get 6 = some (.row 3 1 0 (s'.low.map (AV.int IntKind.i64))) ∧ H.get 10 = some (.row 3 1 0 (s'.cmp.map (AV.int IntKind.i64))) ∧ H.get 11 = some (.row e11 1 0 [.sl 3 0 0 g.nodes.length]) ∧ H.get 12 = some (.row e12 1 0 [.sl 6 0 0 g.nodes.length]) ∧ H.get 13 = some (.row e13 1 0 [.sl 10 0 0 g.nodes.length]) ∧ H.get 17 = some (.row 26 1 0 [sv']) ∧ H.get 18 = some (.row 3 1 0 [(AV.int IntKind.i64) s'.nxt]) ∧ H.get 19 = some (.row 3 1 0 [(AV.int IntKind.i64) s'.cnt]) ∧ H.get 20 = some (.row e20 1 0 [.fn 73 [.ptr 18 0 0 0, .ptr 11 0 0 0, .ptr 12 0 0 0, .ptr 17 0 0 0, .ptr 0 0 0 0, .ptr 20 0 0 0, .ptr 13 0 0 0, .ptr 19 0 0 0]])) ∧ (∀ j, Frm H0 sv j → H.get j = H0.get j ∧ ∀ gg m, sv' ≠ .sl j gg 0 m) ∧ (∀ id gg m, sv = .sl id gg 0 m → ∃ gg' m', sv' = .sl id gg' 0 m') ∧ H.st = 1 := by
  intro k
  induction k using Nat.strongRecOn
  rename_i k ih
  rintro s gray n sv H0 hcnt hti hn hn0 hgr hst0 hsv ⟨h0, h3, h6, h10, h11, h12, h13, h17, h18, h19, h20⟩
  obtain ⟨hb1, hb2⟩ := valid_nodes hv
  have hup := hti.up hv hn hn0 hgr
  have hnr := hn
  obtain ⟨x1, x2⟩ := hn
  have hz := hti.zero
  have hcn := hti.cn
  have hcn0 := hti.cn0
  have hil := hti.il
  have hll := hti.ll
  have x3 : n.toNat < g.nodes.length := by omega
  refine acalls_body TT_ok Try.func73 rfl rfl (by simp [Try.ntmps73]) ?_
  rw [Try.ntmps73]
  obtain ⟨σ, hσ⟩ : ∃ σ, σ = st0 [(AV.int IntKind.i64) n, .ptr 18 0 0 0, .ptr 11 0 0 0, .ptr 12 0 0 0, .ptr 17 0 0 0, .ptr 0 0 0 0, .ptr 20 0 0 0, .ptr 13 0 0 0, .ptr 19 0 0 0] := ⟨_, rfl⟩
  rw [← hσ]
  have h0_0 := congrFun hσ 0
  simp [st0] at h0_0
  have h1_0 := congrFun hσ 1
  simp [st0] at h1_0
  have h2_0 := congrFun hσ 2
  simp [st0] at h2_0
  have h3_0 := congrFun hσ 3
  simp [st0] at h3_0
  have h4_0 := congrFun hσ 4
  simp [st0] at h4_0
  have h5_0 := congrFun hσ 5
  simp [st0] at h5_0
  have h6_0 := congrFun hσ 6
  simp [st0] at h6_0
  have h7_0 := congrFun hσ 7
  simp [st0] at h7_0
  have h8_0 := congrFun hσ 8
  simp [st0] at h8_0
  clear hσ
  refine awp_ok fun hok => ?_
  obtain ⟨m1, hn_m1⟩ : ∃ m, H0.n = m := ⟨_, rfl⟩
  have hf_m1_0 := hok.free 0
  simp [hn_m1, hst0] at hf_m1_0
  have nx1 := ne_get hf_m1_0 h0
  have nx2 := ne_get hf_m1_0 h3
  have nx3 := ne_get hf_m1_0 h6
  have nx4 := ne_get hf_m1_0 h10
  have nx5 := ne_get hf_m1_0 h11
  have nx6 := ne_get hf_m1_0 h12
  have nx7 := ne_get hf_m1_0 h13
  have nx8 := ne_get hf_m1_0 h17
  have nx9 := ne_get hf_m1_0 h18
  have nx10 := ne_get hf_m1_0 h19
  have nx11 := ne_get hf_m1_0 h20
  refine stp_reg TT_ok (by rfl) fun K hK => ?_
  simp [h0_0, h0, h3, h6, h10, h11, h12, h13, h17, h18, h19, h20, hn_m1, hst0, nx1, nx2, nx3, nx4, nx5, nx6, nx7, nx8, nx9, nx10, nx11]
  try refine And.intro (by first | omega | rfl) ?_
  refine hK _ _ fun σ2 hσ H2 hH => ?_
  clear hK K
  have h1_2 := congrFun hσ 1
  have h2_2 := congrFun hσ 2
  have h3_2 := congrFun hσ 3
  have h4_2 := congrFun hσ 4
  have h5_2 := congrFun hσ 5
  have h6_2 := congrFun hσ 6
  have h7_2 := congrFun hσ 7
  have h8_2 := congrFun hσ 8
  have h9_2 := congrFun hσ 9
  simp [h1_0, h2_0, h3_0, h4_0, h5_0, h6_0, h7_0, h8_0] at h1_2 h2_2 h3_2 h4_2 h5_2 h6_2 h7_2 h8_2 h9_2
  clear hσ
  have g0_2 := gt_of hH 0
  have g3_2 := gt_of hH 3
  have g6_2 := gt_of hH 6
  have g10_2 := gt_of hH 10
  have g11_2 := gt_of hH 11
  have g12_2 := gt_of hH 12
  have g13_2 := gt_of hH 13
  have g17_2 := gt_of hH 17
  have g18_2 := gt_of hH 18
  have g19_2 := gt_of hH 19
  have g20_2 := gt_of hH 20
  have gm1_2 := gt_of hH m1
  simp [h0, h3, h6, h10, h11, h12, h13, h17, h18, h19, h20, hn_m1, hst0, nx1, nx2, nx3, nx4, nx5, nx6, nx7, nx8, nx9, nx10, nx11] at g0_2 g3_2 g6_2 g10_2 g11_2 g12_2 g13_2 g17_2 g18_2 g19_2 g20_2 gm1_2
  have hst_2 := congrArg AHeap.st hH
  simp [hst0] at hst_2
  have k0 : ∀ j, H0.get j ≠ none → H2.get j = H0.get j := fun j hj => by
    rw [hH]; have hjm : ¬ j = m1 := by { intro e; rw [e, hf_m1_0] at hj; exact hj rfl }
    simp [hn_m1, hjm]
  clear hH
  refine stp_lex false TT_ok mixed (by rfl) (by rfl) (by kernel_rfl) (by rfl) fun U hU K hK => ?_
  simp [h1_2, h2_2, h3_2, h9_2, g0_2, g3_2, g6_2, g10_2, g11_2, g12_2, g13_2, g17_2, g18_2, g19_2, g20_2, gm1_2, nx1, nx2, nx3, nx4, nx5, nx6, nx7, nx8, nx9, nx10, nx11, x1, x2, x3, hil, hll]
  try refine And.intro (by first | omega | rfl) ?_
  refine hK _ _ _ (by rw [hU.trans (by kernel_rfl : _ = [(0, 1), (0, 2), (1, 2), (0, 3), (1, 3), (2, 3), (0, 4), (1, 4), (2, 4), (3, 4), (0, 5), (1, 5), (2, 5), (3, 5), (4, 5), (2, 6), (3, 6), (5, 6), (2, 7), (3, 7), (5, 7)])]; simp [logOk, ftFree, h1_2, h2_2, h3_2, h9_2, g0_2, g3_2, g6_2, g10_2, g11_2, g12_2, g13_2, g17_2, g18_2, g19_2, g20_2, gm1_2, nx1, nx2, nx3, nx4, nx5, nx6, nx7, nx8, nx9, nx10, nx11, x1, x2, x3, hil, hll]) fun σ3 hσ H3 hH => ?_
  clear hK K hU U
  have h1_3 := congrFun hσ 1
  have h2_3 := congrFun hσ 2
  have h3_3 := congrFun hσ 3
  have h4_3 := congrFun hσ 4
  have h5_3 := congrFun hσ 5
  have h6_3 := congrFun hσ 6
  have h7_3 := congrFun hσ 7
  have h8_3 := congrFun hσ 8
  have h9_3 := congrFun hσ 9
  simp [h1_2, h2_2, h3_2, h4_2, h5_2, h6_2, h7_2, h8_2, h9_2] at h1_3 h2_3 h3_3 h4_3 h5_3 h6_3 h7_3 h8_3 h9_3
  clear hσ
  have g0_3 := gt_of hH 0
  have g3_3 := gt_of hH 3
  have g6_3 := gt_of hH 6
  have g10_3 := gt_of hH 10
  have g11_3 := gt_of hH 11
  have g12_3 := gt_of hH 12
  have g13_3 := gt_of hH 13
  have g17_3 := gt_of hH 17
  have g18_3 := gt_of hH 18
  have g19_3 := gt_of hH 19
  have g20_3 := gt_of hH 20
  have gm1_3 := gt_of hH m1
  simp [g0_2, g3_2, g6_2, g10_2, g11_2, g12_2, g13_2, g17_2, g18_2, g19_2, g20_2, gm1_2, hst_2, nx1, nx2, nx3, nx4, nx5, nx6, nx7, nx8, nx9, nx10, nx11] at g0_3 g3_3 g6_3 g10_3 g11_3 g12_3 g13_3 g17_3 g18_3 g19_3 g20_3 gm1_3
  have hst_3 := congrArg AHeap.st hH
  simp [hst_2] at hst_3
  have k1 : ∀ j, H0.get j ≠ none → j ≠ 3 → j ≠ 6 → H3.get j = H0.get j := fun j hj h1 h2 => by rw [hH]; simp [h1, h2]; exact k0 j hj
  clear hH
  refine stp_reg TT_ok (by rfl) fun K hK => ?_
  simp [h1_3, g0_3, g3_3, g6_3, g10_3, g11_3, g12_3, g13_3, g17_3, g18_3, g19_3, g20_3, gm1_3, nx1, nx2, nx3, nx4, nx5, nx6, nx7, nx8, nx9, nx10, nx11, wrap_ok (n := s.nxt + 1) (by omega) (by omega)]
  try refine And.intro (by first | omega | rfl) ?_
  refine hK _ _ fun σ4 hσ H4 hH => ?_
  clear hK K
  have h2_4 := congrFun hσ 2
  have h3_4 := congrFun hσ 3
  have h4_4 := congrFun hσ 4
  have h5_4 := congrFun hσ 5
  have h6_4 := congrFun hσ 6
  have h7_4 := congrFun hσ 7
  have h8_4 := congrFun hσ 8
  have h9_4 := congrFun hσ 9
  simp [h2_3, h3_3, h4_3, h5_3, h6_3, h7_3, h8_3, h9_3] at h2_4 h3_4 h4_4 h5_4 h6_4 h7_4 h8_4 h9_4
  clear hσ
  have g0_4 := gt_of hH 0
  have g3_4 := gt_of hH 3
  have g6_4 := gt_of hH 6
  have g10_4 := gt_of hH 10
  have g11_4 := gt_of hH 11
  have g12_4 := gt_of hH 12
  have g13_4 := gt_of hH 13
  have g17_4 := gt_of hH 17
  have g18_4 := gt_of hH 18
  have g19_4 := gt_of hH 19
  have g20_4 := gt_of hH 20
  have gm1_4 := gt_of hH m1
  simp [g0_3, g3_3, g6_3, g10_3, g11_3, g12_3, g13_3, g17_3, g18_3, g19_3, g20_3, gm1_3, hst_3, nx1, nx2, nx3, nx4, nx5, nx6, nx7, nx8, nx9, nx10, nx11] at g0_4 g3_4 g6_4 g10_4 g11_4 g12_4 g13_4 g17_4 g18_4 g19_4 g20_4 gm1_4
  have hst_4 := congrArg AHeap.st hH
  simp [hst_3] at hst_4
  have k2 : ∀ j, H0.get j ≠ none → j ≠ 3 → j ≠ 6 → j ≠ 18 → H4.get j = H0.get j := fun j hj h1 h2 h3 => by rw [hH]; simp [h3]; exact k1 j hj h1 h2
  clear hH
  refine stp_cut (fun σ' H' => ∃ (rs : Nat) (gs : Nat) (rest : List AV), σ' 2 = σ4 2 ∧ σ' 3 = σ4 3 ∧ σ' 4 = σ4 4 ∧ σ' 5 = σ4 5 ∧ σ' 6 = σ4 6 ∧ σ' 7 = σ4 7 ∧ σ' 8 = σ4 8 ∧ σ' 9 = σ4 9 ∧ H'.get 0 = H4.get 0 ∧ H'.get 3 = H4.get 3 ∧ H'.get 6 = H4.get 6 ∧ H'.get 10 = H4.get 10 ∧ H'.get 11 = H4.get 11 ∧ H'.get 12 = H4.get 12 ∧ H'.get 13 = H4.get 13 ∧ H'.get 17 = some (.row 26 1 0 [.sl rs gs 0 (s.stk.length + 1)]) ∧ H'.get 18 = H4.get 18 ∧ H'.get 19 = H4.get 19 ∧ H'.get 20 = H4.get 20 ∧ H'.get m1 = H4.get m1 ∧ H'.get rs = some (.row 3 1 gs ((s.stk ++ [n]).map (AV.int IntKind.i64) ++ rest)) ∧ H'.st = H4.st ∧ (NumOk rs) ∧ (∀ j, Frm H0 sv j → H'.get j = H0.get j ∧ j ≠ rs) ∧ (∀ id gg m, sv = .sl id gg 0 m → rs = id) ∧ (¬ rs = m1)) ?_ ?_
  · skip
    have hslen := hti.stkLen
    rcases hsv with ⟨rfl, hnil⟩ | ⟨id, gn, rest, rfl, hb, hok⟩
    · skip
      refine awp_ok fun hok => ?_
      obtain ⟨m6, hn_m6⟩ : ∃ m, H4.n = m := ⟨_, rfl⟩
      have hf_m6_0 := hok.free 0
      simp [hn_m6, hst_4] at hf_m6_0
      have nx12 := ne_get hf_m6_0 g0_4
      have nx13 := ne_get hf_m6_0 g3_4
      have nx14 := ne_get hf_m6_0 g6_4
      have nx15 := ne_get hf_m6_0 g10_4
      have nx16 := ne_get hf_m6_0 g11_4
      have nx17 := ne_get hf_m6_0 g12_4
      have nx18 := ne_get hf_m6_0 g13_4
      have nx19 := ne_get hf_m6_0 g17_4
      have nx20 := ne_get hf_m6_0 g18_4
      have nx21 := ne_get hf_m6_0 g19_4
      have nx22 := ne_get hf_m6_0 g20_4
      have nx23 := ne_get hf_m6_0 gm1_4
      have hf_m6_1 := hok.free 1
      simp [hn_m6, hst_4] at hf_m6_1
      have nx24 := ne_get hf_m6_1 g0_4
      have nx25 := ne_get hf_m6_1 g3_4
      have nx26 : ¬ m6 = 2 ∧ ¬ 2 = m6 := by omega
      have nx27 := ne_get hf_m6_1 g6_4
      have nx28 : ¬ m6 = 5 ∧ ¬ 5 = m6 := by omega
      have nx29 := ne_get hf_m6_1 g10_4
      have nx30 : ¬ m6 = 9 ∧ ¬ 9 = m6 := by omega
      have nx31 := ne_get hf_m6_1 g11_4
      have nx32 : ¬ m6 = 10 ∧ ¬ 10 = m6 := by omega
      have nx33 := ne_get hf_m6_1 g12_4
      have nx34 : ¬ m6 = 11 ∧ ¬ 11 = m6 := by omega
      have nx35 := ne_get hf_m6_1 g13_4
      have nx36 : ¬ m6 = 12 ∧ ¬ 12 = m6 := by omega
      have nx37 := ne_get hf_m6_1 g17_4
      have nx38 : ¬ m6 = 16 ∧ ¬ 16 = m6 := by omega
      have nx39 := ne_get hf_m6_1 g18_4
      have nx40 : ¬ m6 = 17 ∧ ¬ 17 = m6 := by omega
      have nx41 := ne_get hf_m6_1 g19_4
      have nx42 : ¬ m6 = 18 ∧ ¬ 18 = m6 := by omega
      have nx43 := ne_get hf_m6_1 g20_4
      have nx44 : ¬ m6 = 19 ∧ ¬ 19 = m6 := by omega
      have nx45 := ne_get hf_m6_1 gm1_4
      refine stp_regl TT_ok (by rfl) fun K hK => ?_
      simp [h4_4, h9_4, g0_4, g3_4, g6_4, g10_4, g11_4, g12_4, g13_4, g17_4, g18_4, g19_4, g20_4, gm1_4, hn_m6, hst_4, nx1, nx2, nx3, nx4, nx5, nx6, nx7, nx8, nx9, nx10, nx11, nx12, nx13, nx14, nx15, nx16, nx17, nx18, nx19, nx20, nx21, nx22, nx23, nx24, nx25, nx26, nx27, nx28, nx29, nx30, nx31, nx32, nx33, nx34, nx35, nx36, nx37, nx38, nx39, nx40, nx41, nx42, nx43, nx44, nx45]
      try refine And.intro (by first | omega | rfl) ?_
      refine hK _ _ fun σ7 hσ H7 hH => ?_
      clear hK K
      have h2_7 := congrFun hσ 2
      have h3_7 := congrFun hσ 3
      have h4_7 := congrFun hσ 4
      have h5_7 := congrFun hσ 5
      have h6_7 := congrFun hσ 6
      have h7_7 := congrFun hσ 7
      have h8_7 := congrFun hσ 8
      have h9_7 := congrFun hσ 9
      simp [h2_4, h3_4, h4_4, h5_4, h6_4, h7_4, h8_4, h9_4] at h2_7 h3_7 h4_7 h5_7 h6_7 h7_7 h8_7 h9_7
      clear hσ
      have g0_7 := gt_of hH 0
      have g3_7 := gt_of hH 3
      have g6_7 := gt_of hH 6
      have g10_7 := gt_of hH 10
      have g11_7 := gt_of hH 11
      have g12_7 := gt_of hH 12
      have g13_7 := gt_of hH 13
      have g17_7 := gt_of hH 17
      have g18_7 := gt_of hH 18
      have g19_7 := gt_of hH 19
      have g20_7 := gt_of hH 20
      have gm1_7 := gt_of hH m1
      have gm6_7 := gt_of hH m6
      have g_m6_1__7 := gt_of hH (m6 + 1)
      simp [g0_4, g3_4, g6_4, g10_4, g11_4, g12_4, g13_4, g17_4, g18_4, g19_4, g20_4, gm1_4, hn_m6, hst_4, nx1, nx2, nx3, nx4, nx5, nx6, nx7, nx8, nx9, nx10, nx11, nx12, nx13, nx14, nx15, nx16, nx17, nx18, nx19, nx20, nx21, nx22, nx23, nx24, nx25, nx26, nx27, nx28, nx29, nx30, nx31, nx32, nx33, nx34, nx35, nx36, nx37, nx38, nx39, nx40, nx41, nx42, nx43, nx44, nx45] at g0_7 g3_7 g6_7 g10_7 g11_7 g12_7 g13_7 g17_7 g18_7 g19_7 g20_7 gm1_7 gm6_7 g_m6_1__7
      have hst_7 := congrArg AHeap.st hH
      simp [hst_4] at hst_7
      have k3 : ∀ j, H0.get j ≠ none → j ≠ 3 → j ≠ 6 → j ≠ 18 → j ≠ 17 → H7.get j = H0.get j ∧ j ≠ m6 + 1 := fun j hj h1 h2 h3 h4 => by
        have hq := k2 j hj h1 h2 h3
        have hjm : ¬ j = m6 := by { intro e; rw [← hq, e, hf_m6_0] at hj; exact hj rfl }
        have hjm1 : ¬ j = m6 + 1 := by { intro e; rw [← hq, e, hf_m6_1] at hj; exact hj rfl }
        exact ⟨by rw [hH]; simp [hn_m6, hst_4, hjm, hjm1, h4, hq], hjm1⟩
      clear hH
      refine ⟨rfl, m6 + 1, 0, [], (h2_7.trans h2_4.symm), (h3_7.trans h3_4.symm), (h4_7.trans h4_4.symm), (h5_7.trans h5_4.symm), (h6_7.trans h6_4.symm), (h7_7.trans h7_4.symm), (h8_7.trans h8_4.symm), (h9_7.trans h9_4.symm), (g0_7.trans g0_4.symm), (g3_7.trans g3_4.symm), (g6_7.trans g6_4.symm), (g10_7.trans g10_4.symm), (g11_7.trans g11_4.symm), (g12_7.trans g12_4.symm), (g13_7.trans g13_4.symm), (by simp [g17_7, hnil]), (g18_7.trans g18_4.symm), (g19_7.trans g19_4.symm), (g20_7.trans g20_4.symm), (gm1_7.trans gm1_4.symm), (by rw [g_m6_1__7]; simp [hnil]), (hst_7.trans hst_4.symm), ?_, ?_, ?_, ?_⟩
      · exact ⟨by omega, by omega, by omega, by omega, by omega, by omega, by omega, by omega, by omega, by omega, by omega⟩
      · exact fun j hj => k3 j hj.1 hj.2.1 hj.2.2.1 hj.2.2.2.2.2.1 hj.2.2.2.2.1
      · intro id gg m e; cases e
      · first | omega | assumption | (simp; done)
    · skip
      obtain ⟨o0, o3, o6, o10, o11, o12, o13, o17, o18, o19, o20⟩ := hok
      have hbb := (k2 id (by rw [hb]; simp) o3 o6 o18).trans hb
      have om : ¬ id = m1 := by intro e; rw [e, hf_m1_0] at hb; cases hb
      have nx46 : ¬ id = 0 ∧ ¬ 0 = id := by omega
      have nx47 : ¬ id = 3 ∧ ¬ 3 = id := by omega
      have nx48 : ¬ id = 6 ∧ ¬ 6 = id := by omega
      have nx49 : ¬ id = 10 ∧ ¬ 10 = id := by omega
      have nx50 : ¬ id = 11 ∧ ¬ 11 = id := by omega
      have nx51 : ¬ id = 12 ∧ ¬ 12 = id := by omega
      have nx52 : ¬ id = 13 ∧ ¬ 13 = id := by omega
      have nx53 : ¬ id = 17 ∧ ¬ 17 = id := by omega
      have nx54 : ¬ id = 18 ∧ ¬ 18 = id := by omega
      have nx55 : ¬ id = 19 ∧ ¬ 19 = id := by omega
      have nx56 : ¬ id = 20 ∧ ¬ 20 = id := by omega
      refine awp_ok fun hok => ?_
      obtain ⟨m8, hn_m8⟩ : ∃ m, H4.n = m := ⟨_, rfl⟩
      have hf_m8_0 := hok.free 0
      simp [hn_m8, hst_4] at hf_m8_0
      have nx57 := ne_get hf_m8_0 g0_4
      have nx58 := ne_get hf_m8_0 g3_4
      have nx59 := ne_get hf_m8_0 g6_4
      have nx60 := ne_get hf_m8_0 g10_4
      have nx61 := ne_get hf_m8_0 g11_4
      have nx62 := ne_get hf_m8_0 g12_4
      have nx63 := ne_get hf_m8_0 g13_4
      have nx64 := ne_get hf_m8_0 g17_4
      have nx65 := ne_get hf_m8_0 g18_4
      have nx66 := ne_get hf_m8_0 g19_4
      have nx67 := ne_get hf_m8_0 g20_4
      have nx68 := ne_get hf_m8_0 gm1_4
      have nx69 := ne_get hf_m8_0 hbb
      refine stp_regl TT_ok (by rfl) fun K hK => ?_
      simp [h4_4, h9_4, g0_4, g3_4, g6_4, g10_4, g11_4, g12_4, g13_4, g17_4, g18_4, g19_4, g20_4, gm1_4, hbb, hn_m8, hst_4, nx1, nx2, nx3, nx4, nx5, nx6, nx7, nx8, nx9, nx10, nx11, om, Ne.symm om, nx46, nx47, nx48, nx49, nx50, nx51, nx52, nx53, nx54, nx55, nx56, nx57, nx58, nx59, nx60, nx61, nx62, nx63, nx64, nx65, nx66, nx67, nx68, nx69, show s.stk.length ≤ 9223372036854775806 by omega, show (s.stk.length + 1) * 8 ≤ 140737488355328 by omega]
      try refine And.intro (by first | omega | rfl) ?_
      refine hK _ _ fun σ9 hσ H9 hH => ?_
      clear hK K
      have h2_9 := congrFun hσ 2
      have h3_9 := congrFun hσ 3
      have h4_9 := congrFun hσ 4
      have h5_9 := congrFun hσ 5
      have h6_9 := congrFun hσ 6
      have h7_9 := congrFun hσ 7
      have h8_9 := congrFun hσ 8
      have h9_9 := congrFun hσ 9
      simp [h2_4, h3_4, h4_4, h5_4, h6_4, h7_4, h8_4, h9_4] at h2_9 h3_9 h4_9 h5_9 h6_9 h7_9 h8_9 h9_9
      clear hσ
      have g0_9 := gt_of hH 0
      have g3_9 := gt_of hH 3
      have g6_9 := gt_of hH 6
      have g10_9 := gt_of hH 10
      have g11_9 := gt_of hH 11
      have g12_9 := gt_of hH 12
      have g13_9 := gt_of hH 13
      have g17_9 := gt_of hH 17
      have g18_9 := gt_of hH 18
      have g19_9 := gt_of hH 19
      have g20_9 := gt_of hH 20
      have gm1_9 := gt_of hH m1
      have gid_9 := gt_of hH id
      have gm8_9 := gt_of hH m8
      simp [g0_4, g3_4, g6_4, g10_4, g11_4, g12_4, g13_4, g17_4, g18_4, g19_4, g20_4, gm1_4, hbb, hn_m8, hst_4, nx1, nx2, nx3, nx4, nx5, nx6, nx7, nx8, nx9, nx10, nx11, om, Ne.symm om, nx46, nx47, nx48, nx49, nx50, nx51, nx52, nx53, nx54, nx55, nx56, nx57, nx58, nx59, nx60, nx61, nx62, nx63, nx64, nx65, nx66, nx67, nx68, nx69] at g0_9 g3_9 g6_9 g10_9 g11_9 g12_9 g13_9 g17_9 g18_9 g19_9 g20_9 gm1_9 gid_9 gm8_9
      have hst_9 := congrArg AHeap.st hH
      simp [hst_4] at hst_9
      have k3 : ∀ j, H0.get j ≠ none → j ≠ 3 → j ≠ 6 → j ≠ 18 → j ≠ 17 → j ≠ id → H9.get j = H0.get j := fun j hj h1 h2 h3 h4 h5 => by
        have hq := k2 j hj h1 h2 h3
        have hjm : ¬ j = m8 := by { intro e; rw [← hq, e, hf_m8_0] at hj; exact hj rfl }
        rw [hH]; simp [hn_m8, hjm, h4, h5, hq]
      clear hH
      refine ⟨rfl, id, gn + 1, [], (h2_9.trans h2_4.symm), (h3_9.trans h3_4.symm), (h4_9.trans h4_4.symm), (h5_9.trans h5_4.symm), (h6_9.trans h6_4.symm), (h7_9.trans h7_4.symm), (h8_9.trans h8_4.symm), (h9_9.trans h9_4.symm), (g0_9.trans g0_4.symm), (g3_9.trans g3_4.symm), (g6_9.trans g6_4.symm), (g10_9.trans g10_4.symm), (g11_9.trans g11_4.symm), (g12_9.trans g12_4.symm), (g13_9.trans g13_4.symm), (by simp [g17_9]), (g18_9.trans g18_4.symm), (g19_9.trans g19_4.symm), (g20_9.trans g20_4.symm), (gm1_9.trans gm1_4.symm), (by rw [gid_9]; simp), (hst_9.trans hst_4.symm), ?_, ?_, ?_, ?_⟩
      · exact ⟨o0, o3, o6, o10, o11, o12, o13, o17, o18, o19, o20⟩
      · exact fun j hj => have hji : j ≠ id := (fun e => hj.2.2.2.2.2.2.2 gn s.stk.length (by rw [e])); ⟨k3 j hj.1 hj.2.1 hj.2.2.1 hj.2.2.2.2.2.1 hj.2.2.2.2.1 hji, hji⟩
      · intro id' gg m e; cases e; rfl
      · first | omega | assumption | (simp; done)
  · rintro σ5 H5 ⟨rs, gs, rest, q2_5, q3_5, q4_5, q5_5, q6_5, q7_5, q8_5, q9_5, qg0_5, qg3_5, qg6_5, qg10_5, qg11_5, qg12_5, qg13_5, g17_5, qg18_5, qg19_5, qg20_5, qgm1_5, grs_5, qst_5, p1, p2, p3, p4⟩
    have h2_5 := q2_5.trans h2_4
    have h3_5 := q3_5.trans h3_4
    have h4_5 := q4_5.trans h4_4
    have h5_5 := q5_5.trans h5_4
    have h6_5 := q6_5.trans h6_4
    have h7_5 := q7_5.trans h7_4
    have h8_5 := q8_5.trans h8_4
    have h9_5 := q9_5.trans h9_4
    have g0_5 := qg0_5.trans g0_4
    have g3_5 := qg3_5.trans g3_4
    have g6_5 := qg6_5.trans g6_4
    have g10_5 := qg10_5.trans g10_4
    have g11_5 := qg11_5.trans g11_4
    have g12_5 := qg12_5.trans g12_4
    have g13_5 := qg13_5.trans g13_4
    have g18_5 := qg18_5.trans g18_4
    have g19_5 := qg19_5.trans g19_4
    have g20_5 := qg20_5.trans g20_4
    have gm1_5 := qgm1_5.trans gm1_4
    have hst_5 := qst_5.trans hst_4
    have hnok := p1
    obtain ⟨o0, o3, o6, o10, o11, o12, o13, o17, o18, o19, o20⟩ := p1
    refine awp_seq ?_
    refine stp_reg TT_ok (by rfl) fun K hK => ?_
    simp [h5_5, h9_5, g0_5, g3_5, g6_5, g10_5, g11_5, g12_5, g13_5, g17_5, g18_5, g19_5, g20_5, gm1_5, grs_5, nx1, nx2, nx3, nx4, nx5, nx6, nx7, nx8, nx9, nx10, nx11, o0, Ne.symm o0, o3, Ne.symm o3, o6, Ne.symm o6, o10, Ne.symm o10, o11, Ne.symm o11, o12, Ne.symm o12, o13, Ne.symm o13, o17, Ne.symm o17, o18, Ne.symm o18, o19, Ne.symm o19, o20, Ne.symm o20, p4, Ne.symm p4, encS]
    try refine And.intro (by first | omega | rfl) ?_
    refine stp_call (of_ok g.succs n 0) ?_
    simp [h5_5, h9_5, g0_5, g3_5, g6_5, g10_5, g11_5, g12_5, g13_5, g17_5, g18_5, g19_5, g20_5, gm1_5, grs_5, nx1, nx2, nx3, nx4, nx5, nx6, nx7, nx8, nx9, nx10, nx11, o0, Ne.symm o0, o3, Ne.symm o3, o6, Ne.symm o6, o10, Ne.symm o10, o11, Ne.symm o11, o12, Ne.symm o12, o13, Ne.symm o13, o17, Ne.symm o17, o18, Ne.symm o18, o19, Ne.symm o19, o20, Ne.symm o20, p4, Ne.symm p4, encS]
    try refine And.intro (by first | omega | rfl) ?_
    refine hK _ _ fun σ10 hσ H10 hH => ?_
    clear hK K
    have h2_10 := congrFun hσ 2
    have h3_10 := congrFun hσ 3
    have h4_10 := congrFun hσ 4
    have h6_10 := congrFun hσ 6
    have h7_10 := congrFun hσ 7
    have h8_10 := congrFun hσ 8
    have h9_10 := congrFun hσ 9
    have h28_10 := congrFun hσ 28
    simp [h2_5, h3_5, h4_5, h6_5, h7_5, h8_5, h9_5] at h2_10 h3_10 h4_10 h6_10 h7_10 h8_10 h9_10 h28_10
    clear hσ
    replace hH : H5 = H10 := Eq.symm hH
    subst hH
    refine awp_block ?_
    refine awp_ok fun hok11 => ?_
    obtain ⟨k11, hn_k11⟩ : ∃ m, H5.n = m := ⟨_, rfl⟩
    have hf_k11 := hok11.now
    rw [hn_k11] at hf_k11
    have nx70 := ne_get hf_k11 g0_5
    have nx71 := ne_get hf_k11 g3_5
    have nx72 := ne_get hf_k11 g6_5
    have nx73 := ne_get hf_k11 g10_5
    have nx74 := ne_get hf_k11 g11_5
    have nx75 := ne_get hf_k11 g12_5
    have nx76 := ne_get hf_k11 g13_5
    have nx77 := ne_get hf_k11 g17_5
    have nx78 := ne_get hf_k11 g18_5
    have nx79 := ne_get hf_k11 g19_5
    have nx80 := ne_get hf_k11 g20_5
    have nx81 := ne_get hf_k11 gm1_5
    have nx82 := ne_get hf_k11 grs_5
    refine stp_rangeOf k11 hn_k11 (by rw [aeval_tmp]; exact h28_10) (by decide) x1 (succs_get ⟨x1, x2⟩) (Nat.le_trans (succ_len _ _) (by omega)) (fun pre H' => ∃ (s2 : TS) (gs2 : Nat) (rest2 : List AV), H'.get 0 = H5.get 0 ∧ H'.get 3 = some (.row 3 1 0 (s2.idx.map (AV.int IntKind.i64))) ∧ H'.get 6 = some (.row 3 1 0 (s2.low.map (AV.int IntKind.i64))) ∧ H'.get 10 = some (.row 3 1 0 (s2.cmp.map (AV.int IntKind.i64))) ∧ H'.get 11 = H5.get 11 ∧ H'.get 12 = H5.get 12 ∧ H'.get 13 = H5.get 13 ∧ H'.get 17 = some (.row 26 1 0 [.sl rs gs2 0 s2.stk.length]) ∧ H'.get 18 = some (.row 3 1 0 [(AV.int IntKind.i64) s2.nxt]) ∧ H'.get 19 = some (.row 3 1 0 [(AV.int IntKind.i64) s2.cnt]) ∧ H'.get 20 = H5.get 20 ∧ H'.get m1 = H5.get m1 ∧ H'.get rs = some (.row 3 1 gs2 (s2.stk.map (AV.int IntKind.i64) ++ rest2)) ∧ H'.st = H5.st ∧ (TL g s gray n pre s2) ∧ (∀ j, Frm H0 sv j → H'.get j = H0.get j)) ?_ ?_ ?_
    · intro b11 H11 hH
      have hkeep : ∀ j, H5.get j ≠ none → H11.get j = H5.get j := fun j hj => by rw [hH, alloc_get, if_neg (fun e => hj (by rw [e]; exact hok11.now))]
      refine ⟨⟨s.idx.set n.toNat s.nxt, s.low.set n.toNat s.nxt, s.cmp, s.stk ++ [n], s.nxt + 1, s.cnt⟩, gs, rest, (by rw [hH]; simp [g0_5, g3_5, g6_5, g10_5, g11_5, g12_5, g13_5, g17_5, g18_5, g19_5, g20_5, gm1_5, grs_5, hn_k11, hst_5, nx1, nx2, nx3, nx4, nx5, nx6, nx7, nx8, nx9, nx10, nx11, o0, Ne.symm o0, o3, Ne.symm o3, o6, Ne.symm o6, o10, Ne.symm o10, o11, Ne.symm o11, o12, Ne.symm o12, o13, Ne.symm o13, o17, Ne.symm o17, o18, Ne.symm o18, o19, Ne.symm o19, o20, Ne.symm o20, p4, Ne.symm p4, nx70, nx71, nx72, nx73, nx74, nx75, nx76, nx77, nx78, nx79, nx80, nx81, nx82]), (by rw [hH]; simp [g0_5, g3_5, g6_5, g10_5, g11_5, g12_5, g13_5, g17_5, g18_5, g19_5, g20_5, gm1_5, grs_5, hn_k11, hst_5, nx1, nx2, nx3, nx4, nx5, nx6, nx7, nx8, nx9, nx10, nx11, o0, Ne.symm o0, o3, Ne.symm o3, o6, Ne.symm o6, o10, Ne.symm o10, o11, Ne.symm o11, o12, Ne.symm o12, o13, Ne.symm o13, o17, Ne.symm o17, o18, Ne.symm o18, o19, Ne.symm o19, o20, Ne.symm o20, p4, Ne.symm p4, nx70, nx71, nx72, nx73, nx74, nx75, nx76, nx77, nx78, nx79, nx80, nx81, nx82]), (by rw [hH]; simp [g0_5, g3_5, g6_5, g10_5, g11_5, g12_5, g13_5, g17_5, g18_5, g19_5, g20_5, gm1_5, grs_5, hn_k11, hst_5, nx1, nx2, nx3, nx4, nx5, nx6, nx7, nx8, nx9, nx10, nx11, o0, Ne.symm o0, o3, Ne.symm o3, o6, Ne.symm o6, o10, Ne.symm o10, o11, Ne.symm o11, o12, Ne.symm o12, o13, Ne.symm o13, o17, Ne.symm o17, o18, Ne.symm o18, o19, Ne.symm o19, o20, Ne.symm o20, p4, Ne.symm p4, nx70, nx71, nx72, nx73, nx74, nx75, nx76, nx77, nx78, nx79, nx80, nx81, nx82]), (by rw [hH]; simp [g0_5, g3_5, g6_5, g10_5, g11_5, g12_5, g13_5, g17_5, g18_5, g19_5, g20_5, gm1_5, grs_5, hn_k11, hst_5, nx1, nx2, nx3, nx4, nx5, nx6, nx7, nx8, nx9, nx10, nx11, o0, Ne.symm o0, o3, Ne.symm o3, o6, Ne.symm o6, o10, Ne.symm o10, o11, Ne.symm o11, o12, Ne.symm o12, o13, Ne.symm o13, o17, Ne.symm o17, o18, Ne.symm o18, o19, Ne.symm o19, o20, Ne.symm o20, p4, Ne.symm p4, nx70, nx71, nx72, nx73, nx74, nx75, nx76, nx77, nx78, nx79, nx80, nx81, nx82]), (by rw [hH]; simp [g0_5, g3_5, g6_5, g10_5, g11_5, g12_5, g13_5, g17_5, g18_5, g19_5, g20_5, gm1_5, grs_5, hn_k11, hst_5, nx1, nx2, nx3, nx4, nx5, nx6, nx7, nx8, nx9, nx10, nx11, o0, Ne.symm o0, o3, Ne.symm o3, o6, Ne.symm o6, o10, Ne.symm o10, o11, Ne.symm o11, o12, Ne.symm o12, o13, Ne.symm o13, o17, Ne.symm o17, o18, Ne.symm o18, o19, Ne.symm o19, o20, Ne.symm o20, p4, Ne.symm p4, nx70, nx71, nx72, nx73, nx74, nx75, nx76, nx77, nx78, nx79, nx80, nx81, nx82]), (by rw [hH]; simp [g0_5, g3_5, g6_5, g10_5, g11_5, g12_5, g13_5, g17_5, g18_5, g19_5, g20_5, gm1_5, grs_5, hn_k11, hst_5, nx1, nx2, nx3, nx4, nx5, nx6, nx7, nx8, nx9, nx10, nx11, o0, Ne.symm o0, o3, Ne.symm o3, o6, Ne.symm o6, o10, Ne.symm o10, o11, Ne.symm o11, o12, Ne.symm o12, o13, Ne.symm o13, o17, Ne.symm o17, o18, Ne.symm o18, o19, Ne.symm o19, o20, Ne.symm o20, p4, Ne.symm p4, nx70, nx71, nx72, nx73, nx74, nx75, nx76, nx77, nx78, nx79, nx80, nx81, nx82]), (by rw [hH]; simp [g0_5, g3_5, g6_5, g10_5, g11_5, g12_5, g13_5, g17_5, g18_5, g19_5, g20_5, gm1_5, grs_5, hn_k11, hst_5, nx1, nx2, nx3, nx4, nx5, nx6, nx7, nx8, nx9, nx10, nx11, o0, Ne.symm o0, o3, Ne.symm o3, o6, Ne.symm o6, o10, Ne.symm o10, o11, Ne.symm o11, o12, Ne.symm o12, o13, Ne.symm o13, o17, Ne.symm o17, o18, Ne.symm o18, o19, Ne.symm o19, o20, Ne.symm o20, p4, Ne.symm p4, nx70, nx71, nx72, nx73, nx74, nx75, nx76, nx77, nx78, nx79, nx80, nx81, nx82]), (by rw [hH]; simp [g0_5, g3_5, g6_5, g10_5, g11_5, g12_5, g13_5, g17_5, g18_5, g19_5, g20_5, gm1_5, grs_5, hn_k11, hst_5, nx1, nx2, nx3, nx4, nx5, nx6, nx7, nx8, nx9, nx10, nx11, o0, Ne.symm o0, o3, Ne.symm o3, o6, Ne.symm o6, o10, Ne.symm o10, o11, Ne.symm o11, o12, Ne.symm o12, o13, Ne.symm o13, o17, Ne.symm o17, o18, Ne.symm o18, o19, Ne.symm o19, o20, Ne.symm o20, p4, Ne.symm p4, nx70, nx71, nx72, nx73, nx74, nx75, nx76, nx77, nx78, nx79, nx80, nx81, nx82]), (by rw [hH]; simp [g0_5, g3_5, g6_5, g10_5, g11_5, g12_5, g13_5, g17_5, g18_5, g19_5, g20_5, gm1_5, grs_5, hn_k11, hst_5, nx1, nx2, nx3, nx4, nx5, nx6, nx7, nx8, nx9, nx10, nx11, o0, Ne.symm o0, o3, Ne.symm o3, o6, Ne.symm o6, o10, Ne.symm o10, o11, Ne.symm o11, o12, Ne.symm o12, o13, Ne.symm o13, o17, Ne.symm o17, o18, Ne.symm o18, o19, Ne.symm o19, o20, Ne.symm o20, p4, Ne.symm p4, nx70, nx71, nx72, nx73, nx74, nx75, nx76, nx77, nx78, nx79, nx80, nx81, nx82]), (by rw [hH]; simp [g0_5, g3_5, g6_5, g10_5, g11_5, g12_5, g13_5, g17_5, g18_5, g19_5, g20_5, gm1_5, grs_5, hn_k11, hst_5, nx1, nx2, nx3, nx4, nx5, nx6, nx7, nx8, nx9, nx10, nx11, o0, Ne.symm o0, o3, Ne.symm o3, o6, Ne.symm o6, o10, Ne.symm o10, o11, Ne.symm o11, o12, Ne.symm o12, o13, Ne.symm o13, o17, Ne.symm o17, o18, Ne.symm o18, o19, Ne.symm o19, o20, Ne.symm o20, p4, Ne.symm p4, nx70, nx71, nx72, nx73, nx74, nx75, nx76, nx77, nx78, nx79, nx80, nx81, nx82]), (by rw [hH]; simp [g0_5, g3_5, g6_5, g10_5, g11_5, g12_5, g13_5, g17_5, g18_5, g19_5, g20_5, gm1_5, grs_5, hn_k11, hst_5, nx1, nx2, nx3, nx4, nx5, nx6, nx7, nx8, nx9, nx10, nx11, o0, Ne.symm o0, o3, Ne.symm o3, o6, Ne.symm o6, o10, Ne.symm o10, o11, Ne.symm o11, o12, Ne.symm o12, o13, Ne.symm o13, o17, Ne.symm o17, o18, Ne.symm o18, o19, Ne.symm o19, o20, Ne.symm o20, p4, Ne.symm p4, nx70, nx71, nx72, nx73, nx74, nx75, nx76, nx77, nx78, nx79, nx80, nx81, nx82]), (by rw [hH]; simp [g0_5, g3_5, g6_5, g10_5, g11_5, g12_5, g13_5, g17_5, g18_5, g19_5, g20_5, gm1_5, grs_5, hn_k11, hst_5, nx1, nx2, nx3, nx4, nx5, nx6, nx7, nx8, nx9, nx10, nx11, o0, Ne.symm o0, o3, Ne.symm o3, o6, Ne.symm o6, o10, Ne.symm o10, o11, Ne.symm o11, o12, Ne.symm o12, o13, Ne.symm o13, o17, Ne.symm o17, o18, Ne.symm o18, o19, Ne.symm o19, o20, Ne.symm o20, p4, Ne.symm p4, nx70, nx71, nx72, nx73, nx74, nx75, nx76, nx77, nx78, nx79, nx80, nx81, nx82]), (by rw [hH]; simp [g0_5, g3_5, g6_5, g10_5, g11_5, g12_5, g13_5, g17_5, g18_5, g19_5, g20_5, gm1_5, grs_5, hn_k11, hst_5, nx1, nx2, nx3, nx4, nx5, nx6, nx7, nx8, nx9, nx10, nx11, o0, Ne.symm o0, o3, Ne.symm o3, o6, Ne.symm o6, o10, Ne.symm o10, o11, Ne.symm o11, o12, Ne.symm o12, o13, Ne.symm o13, o17, Ne.symm o17, o18, Ne.symm o18, o19, Ne.symm o19, o20, Ne.symm o20, p4, Ne.symm p4, nx70, nx71, nx72, nx73, nx74, nx75, nx76, nx77, nx78, nx79, nx80, nx81, nx82]), (by rw [hH]; rfl), ?_, ?_⟩
      · exact hup
      · exact fun j hj => (hkeep j (by rw [(p2 j hj).1]; exact hj.1)).trans (p2 j hj).1
    · rintro busy rdy pre y H11 ⟨post, hpost⟩ ⟨s2, gs2, rest2, qg0_11, g3_11, g6_11, g10_11, qg11_11, qg12_11, qg13_11, g17_11, g18_11, g19_11, qg20_11, qgm1_11, grs_11, qst_11, d1, d2⟩ hrdy_11 σ11 hσ
      have g0_11 := qg0_11.trans g0_5
      have g11_11 := qg11_11.trans g11_5
      have g12_11 := qg12_11.trans g12_5
      have g13_11 := qg13_11.trans g13_5
      have g20_11 := qg20_11.trans g20_5
      have gm1_11 := qgm1_11.trans gm1_5
      have hst_11 := qst_11.trans hst_5
      have h2_11 := congrFun hσ 2
      simp [h2_10] at h2_11
      have h3_11 := congrFun hσ 3
      simp [h3_10] at h3_11
      have h6_11 := congrFun hσ 6
      simp [h6_10] at h6_11
      have h7_11 := congrFun hσ 7
      simp [h7_10] at h7_11
      have h9_11 := congrFun hσ 9
      simp [h9_10] at h9_11
      have h29_11 := congrFun hσ 29
      simp [] at h29_11
      clear hσ
      rw [geL0_succ hv] at hpost
      have hys : y ∈ g.succ n.toNat := by rw [hpost]; simp
      have hye : (n, y) ∈ g.edges := by rw [succ_mem hv, toNat_cast hnr] at hys; exact hys
      have hyr : inR g.nodes.length y := (valid_edge hv hye).2
      obtain ⟨y1, y2⟩ := hyr
      have y3 : y.toNat < g.nodes.length := by omega
      have hi2 := d1.inv.il
      have hl2 := d1.inv.ll
      have hc2 := d1.inv.cl
      have y4 : y.toNat < s2.idx.length := by omega
      have y5 : y.toNat < s2.low.length := by omega
      have y6 : y.toNat < s2.cmp.length := by omega
      have x4 : n.toNat < s2.low.length := by omega
      have hyr : inR g.nodes.length y := ⟨y1, y2⟩
      refine stp_regl TT_ok (by rfl) fun K hK => ?_
      simp [h29_11, g0_11, g3_11, g6_11, g10_11, g11_11, g12_11, g13_11, g17_11, g18_11, g19_11, g20_11, gm1_11, grs_11, hrdy_11, nx1, nx2, nx3, nx4, nx5, nx6, nx7, nx8, nx9, nx10, nx11, o0, Ne.symm o0, o3, Ne.symm o3, o6, Ne.symm o6, o10, Ne.symm o10, o11, Ne.symm o11, o12, Ne.symm o12, o13, Ne.symm o13, o17, Ne.symm o17, o18, Ne.symm o18, o19, Ne.symm o19, o20, Ne.symm o20, p4, Ne.symm p4, nx70, nx71, nx72, nx73, nx74, nx75, nx76, nx77, nx78, nx79, nx80, nx81, nx82]
      try refine And.intro (by first | omega | rfl) ?_
      refine hK _ _ fun σ12 hσ H12 hH => ?_
      clear hK K
      have h2_12 := congrFun hσ 2
      have h3_12 := congrFun hσ 3
      have h6_12 := congrFun hσ 6
      have h7_12 := congrFun hσ 7
      have h9_12 := congrFun hσ 9
      have h10_12 := congrFun hσ 10
      simp [h2_11, h3_11, h6_11, h7_11, h9_11] at h2_12 h3_12 h6_12 h7_12 h9_12 h10_12
      clear hσ
      replace hH : H11 = H12 := Eq.symm hH
      subst hH
      refine q_ra hrdy_11 fun H13 hH => ?_
      have hkeep : ∀ j, j ≠ k11 → H13.get j = H11.get j := fun j hj => by rw [hH, put_getH, if_neg hj]
      have g0_14 := gt_of hH 0
      have g3_14 := gt_of hH 3
      have g6_14 := gt_of hH 6
      have g10_14 := gt_of hH 10
      have g11_14 := gt_of hH 11
      have g12_14 := gt_of hH 12
      have g13_14 := gt_of hH 13
      have g17_14 := gt_of hH 17
      have g18_14 := gt_of hH 18
      have g19_14 := gt_of hH 19
      have g20_14 := gt_of hH 20
      have gm1_14 := gt_of hH m1
      have grs_14 := gt_of hH rs
      have gk11_14 := gt_of hH k11
      simp [g0_11, g3_11, g6_11, g10_11, g11_11, g12_11, g13_11, g17_11, g18_11, g19_11, g20_11, gm1_11, grs_11, hrdy_11, hst_11, nx1, nx2, nx3, nx4, nx5, nx6, nx7, nx8, nx9, nx10, nx11, o0, Ne.symm o0, o3, Ne.symm o3, o6, Ne.symm o6, o10, Ne.symm o10, o11, Ne.symm o11, o12, Ne.symm o12, o13, Ne.symm o13, o17, Ne.symm o17, o18, Ne.symm o18, o19, Ne.symm o19, o20, Ne.symm o20, p4, Ne.symm p4, nx70, nx71, nx72, nx73, nx74, nx75, nx76, nx77, nx78, nx79, nx80, nx81, nx82] at g0_14 g3_14 g6_14 g10_14 g11_14 g12_14 g13_14 g17_14 g18_14 g19_14 g20_14 gm1_14 grs_14 gk11_14
      have hst_14 : H13.st = _ := (congrArg AHeap.st hH).trans hst_11
      have hka := hkeep
      clear hkeep hH
      refine awp_block ?_
      by_cases hi0 : gt s2.idx y = 0
      · skip
        refine stp_reg TT_ok (by rfl) fun K hK => ?_
        simp [h2_12, h10_12, g0_14, g3_14, g6_14, g10_14, g11_14, g12_14, g13_14, g17_14, g18_14, g19_14, g20_14, gm1_14, grs_14, gk11_14, nx1, nx2, nx3, nx4, nx5, nx6, nx7, nx8, nx9, nx10, nx11, o0, Ne.symm o0, o3, Ne.symm o3, o6, Ne.symm o6, o10, Ne.symm o10, o11, Ne.symm o11, o12, Ne.symm o12, o13, Ne.symm o13, o17, Ne.symm o17, o18, Ne.symm o18, o19, Ne.symm o19, o20, Ne.symm o20, p4, Ne.symm p4, nx70, nx71, nx72, nx73, nx74, nx75, nx76, nx77, nx78, nx79, nx80, nx81, nx82, hi0, beq_iff_eq.2 hi0, y1, y2, y3, hi2, gt_elem y4]
        try refine And.intro (by first | omega | rfl) ?_
        refine hK _ _ fun σ15 hσ H15 hH => ?_
        clear hK K
        have h2_15 := congrFun hσ 2
        have h3_15 := congrFun hσ 3
        have h6_15 := congrFun hσ 6
        have h7_15 := congrFun hσ 7
        have h9_15 := congrFun hσ 9
        have h10_15 := congrFun hσ 10
        have h34_15 := congrFun hσ 34
        simp [h2_12, h3_12, h6_12, h7_12, h9_12, h10_12] at h2_15 h3_15 h6_15 h7_15 h9_15 h10_15 h34_15
        clear hσ
        replace hH : H13 = H15 := Eq.symm hH
        subst hH
        refine stp_true (by simp [aeval_tmp, h34_15, nx1, nx2, nx3, nx4, nx5, nx6, nx7, nx8, nx9, nx10, nx11, o0, Ne.symm o0, o3, Ne.symm o3, o6, Ne.symm o6, o10, Ne.symm o10, o11, Ne.symm o11, o12, Ne.symm o12, o13, Ne.symm o13, o17, Ne.symm o17, o18, Ne.symm o18, o19, Ne.symm o19, o20, Ne.symm o20, p4, Ne.symm p4, nx70, nx71, nx72, nx73, nx74, nx75, nx76, nx77, nx78, nx79, nx80, nx81, nx82, hi0, beq_iff_eq.2 hi0]) ?_
        refine stp_reg TT_ok (by rfl) fun K hK => ?_
        simp [h6_15, h10_15, g0_14, g3_14, g6_14, g10_14, g11_14, g12_14, g13_14, g17_14, g18_14, g19_14, g20_14, gm1_14, grs_14, gk11_14, nx1, nx2, nx3, nx4, nx5, nx6, nx7, nx8, nx9, nx10, nx11, o0, Ne.symm o0, o3, Ne.symm o3, o6, Ne.symm o6, o10, Ne.symm o10, o11, Ne.symm o11, o12, Ne.symm o12, o13, Ne.symm o13, o17, Ne.symm o17, o18, Ne.symm o18, o19, Ne.symm o19, o20, Ne.symm o20, p4, Ne.symm p4, nx70, nx71, nx72, nx73, nx74, nx75, nx76, nx77, nx78, nx79, nx80, nx81, nx82, hi0, beq_iff_eq.2 hi0]
        try refine And.intro (by first | omega | rfl) ?_
        have hgr2 : ∀ x ∈ gray ++ [n], g.R x y := fun x hx => by
          rcases List.mem_append.1 hx with hx | hx
          · exact (hgr x hx).trans (.edge hye)
          · simp at hx; subst hx; exact .edge hye
        refine (ih (s2.idx.count 0) (by have := d1.less; omega) s2 (gray ++ [n]) y (.sl rs gs2 0 s2.stk.length) H13 rfl d1.inv hyr hi0 hgr2 hst_14 (.inr ⟨rs, gs2, rest2, rfl, grs_14, hnok⟩) ⟨g0_14, g3_14, g6_14, g10_14, g11_14, g12_14, g13_14, g17_14, g18_14, g19_14, g20_14⟩).mono ?_
        rintro r Hy ⟨rfl, s3, sv3, htp, hsv3, ⟨q0, q3, q6, q10, q11, q12, q13, q17, q18, q19, q20⟩, hfr3, hsame, hst3⟩
        obtain ⟨gs3, m3, rfl⟩ := hsame rs gs2 _ rfl
        rcases hsv3 with ⟨he, _⟩ | ⟨id3, gs4, rest3, he, hb3, hok3⟩
        · cases he
        cases he
        have hk3 : ∀ j, H13.get j ≠ none → (¬ j = 3 ∧ ¬ j = 6 ∧ ¬ j = 10 ∧ ¬ j = 17 ∧ ¬ j = 18 ∧ ¬ j = 19 ∧ ¬ j = rs) → Hy.get j = H13.get j := fun j h1 ⟨a, b, c, d, e, f, h⟩ => (hfr3 j ⟨h1, a, b, c, d, e, f, fun gg m e => h (by cases e; rfl)⟩).1
        have z1 : n.toNat < s3.low.length := by rw [htp.inv.ll]; exact x3
        have z2 : y.toNat < s3.low.length := by rw [htp.inv.ll]; exact y3
        have z3 := htp.inv.ll
        simp [h6_15, h10_15, g0_14, g3_14, g6_14, g10_14, g11_14, g12_14, g13_14, g17_14, g18_14, g19_14, g20_14, gm1_14, grs_14, gk11_14, nx1, nx2, nx3, nx4, nx5, nx6, nx7, nx8, nx9, nx10, nx11, o0, Ne.symm o0, o3, Ne.symm o3, o6, Ne.symm o6, o10, Ne.symm o10, o11, Ne.symm o11, o12, Ne.symm o12, o13, Ne.symm o13, o17, Ne.symm o17, o18, Ne.symm o18, o19, Ne.symm o19, o20, Ne.symm o20, p4, Ne.symm p4, nx70, nx71, nx72, nx73, nx74, nx75, nx76, nx77, nx78, nx79, nx80, nx81, nx82, hi0, beq_iff_eq.2 hi0]
        try refine And.intro (by first | omega | rfl) ?_
        refine hK _ _ fun σ16 hσ H16 hH => ?_
        clear hK K
        have h3_16 := congrFun hσ 3
        have h9_16 := congrFun hσ 9
        have h10_16 := congrFun hσ 10
        simp [h3_15, h9_15, h10_15] at h3_16 h9_16 h10_16
        clear hσ
        subst hH
        have g0_16 := (hk3 0 (by rw [g0_14]; simp) ⟨by omega, by omega, by omega, by omega, by omega, by omega, by omega⟩).trans g0_14
        have g3_16 := q3
        have g6_16 := q6
        have g10_16 := q10
        have g11_16 := (hk3 11 (by rw [g11_14]; simp) ⟨by omega, by omega, by omega, by omega, by omega, by omega, by omega⟩).trans g11_14
        have g12_16 := (hk3 12 (by rw [g12_14]; simp) ⟨by omega, by omega, by omega, by omega, by omega, by omega, by omega⟩).trans g12_14
        have g13_16 := (hk3 13 (by rw [g13_14]; simp) ⟨by omega, by omega, by omega, by omega, by omega, by omega, by omega⟩).trans g13_14
        have g17_16 := q17
        have g18_16 := q18
        have g19_16 := q19
        have g20_16 := (hk3 20 (by rw [g20_14]; simp) ⟨by omega, by omega, by omega, by omega, by omega, by omega, by omega⟩).trans g20_14
        have gm1_16 := (hk3 m1 (by rw [gm1_14]; simp) ⟨by omega, by omega, by omega, by omega, by omega, by omega, by omega⟩).trans gm1_14
        have grs_16 := hb3
        have gk11_16 := (hk3 k11 (by rw [gk11_14]; simp) ⟨by omega, by omega, by omega, by omega, by omega, by omega, by omega⟩).trans gk11_14
        have hst_16 := hst3
        refine stp_lexl false TT_ok mixed (by rfl) (by rfl) (by kernel_rfl) (by rfl) fun U hU K hK => ?_
        simp [h3_16, h9_16, h10_16, g0_16, g3_16, g6_16, g10_16, g11_16, g12_16, g13_16, g17_16, g18_16, g19_16, g20_16, gm1_16, grs_16, gk11_16, nx1, nx2, nx3, nx4, nx5, nx6, nx7, nx8, nx9, nx10, nx11, o0, Ne.symm o0, o3, Ne.symm o3, o6, Ne.symm o6, o10, Ne.symm o10, o11, Ne.symm o11, o12, Ne.symm o12, o13, Ne.symm o13, o17, Ne.symm o17, o18, Ne.symm o18, o19, Ne.symm o19, o20, Ne.symm o20, p4, Ne.symm p4, nx70, nx71, nx72, nx73, nx74, nx75, nx76, nx77, nx78, nx79, nx80, nx81, nx82, hi0, beq_iff_eq.2 hi0, x1, x2, x3, y1, y2, y3, z1, z2, z3, gt_elem z1, gt_elem z2, ite_min]
        try refine And.intro (by first | omega | rfl) ?_
        refine hK _ _ _ (by rw [hU.trans (by kernel_rfl : _ = [(0, 1), (0, 2), (1, 2), (0, 3), (1, 3), (2, 3), (0, 4), (1, 4), (0, 5), (1, 5), (0, 6), (1, 6), (2, 6), (3, 6), (4, 6), (5, 6), (0, 7), (1, 7), (2, 7), (3, 7), (4, 7), (5, 7), (6, 7), (0, 8), (1, 8), (2, 8), (3, 8), (4, 8), (5, 8), (0, 9), (1, 9), (2, 9), (3, 9), (4, 9), (5, 9), (0, 10), (1, 10)])]; simp [logOk, ftFree, h3_16, h9_16, h10_16, g0_16, g3_16, g6_16, g10_16, g11_16, g12_16, g13_16, g17_16, g18_16, g19_16, g20_16, gm1_16, grs_16, gk11_16, nx1, nx2, nx3, nx4, nx5, nx6, nx7, nx8, nx9, nx10, nx11, o0, Ne.symm o0, o3, Ne.symm o3, o6, Ne.symm o6, o10, Ne.symm o10, o11, Ne.symm o11, o12, Ne.symm o12, o13, Ne.symm o13, o17, Ne.symm o17, o18, Ne.symm o18, o19, Ne.symm o19, o20, Ne.symm o20, p4, Ne.symm p4, nx70, nx71, nx72, nx73, nx74, nx75, nx76, nx77, nx78, nx79, nx80, nx81, nx82, hi0, beq_iff_eq.2 hi0, x1, x2, x3, y1, y2, y3, z1, z2, z3, gt_elem z1, gt_elem z2, ite_min]) fun σ17 hσ H17 hH => ?_
        clear hK K hU U
        clear hσ
        have g0_17 := gt_of hH 0
        have g3_17 := gt_of hH 3
        have g6_17 := gt_of hH 6
        have g10_17 := gt_of hH 10
        have g11_17 := gt_of hH 11
        have g12_17 := gt_of hH 12
        have g13_17 := gt_of hH 13
        have g17_17 := gt_of hH 17
        have g18_17 := gt_of hH 18
        have g19_17 := gt_of hH 19
        have g20_17 := gt_of hH 20
        have gm1_17 := gt_of hH m1
        have grs_17 := gt_of hH rs
        have gk11_17 := gt_of hH k11
        simp [g0_16, g3_16, g6_16, g10_16, g11_16, g12_16, g13_16, g17_16, g18_16, g19_16, g20_16, gm1_16, grs_16, gk11_16, hst_16, nx1, nx2, nx3, nx4, nx5, nx6, nx7, nx8, nx9, nx10, nx11, o0, Ne.symm o0, o3, Ne.symm o3, o6, Ne.symm o6, o10, Ne.symm o10, o11, Ne.symm o11, o12, Ne.symm o12, o13, Ne.symm o13, o17, Ne.symm o17, o18, Ne.symm o18, o19, Ne.symm o19, o20, Ne.symm o20, p4, Ne.symm p4, nx70, nx71, nx72, nx73, nx74, nx75, nx76, nx77, nx78, nx79, nx80, nx81, nx82, hi0, beq_iff_eq.2 hi0] at g0_17 g3_17 g6_17 g10_17 g11_17 g12_17 g13_17 g17_17 g18_17 g19_17 g20_17 gm1_17 grs_17 gk11_17
        have hst_17 := congrArg AHeap.st hH
        simp [hst_16] at hst_17
        have kk : ∀ j, j ≠ 6 → H17.get j = H16.get j := fun j h1 => by rw [hH]; simp [h1]
        clear hH
        refine q_block ?_
        refine q_rb gk11_17 fun H18 hH => ?_
        have hkeep : ∀ j, j ≠ k11 → H18.get j = H17.get j := fun j hj => by rw [hH, put_getH, if_neg hj]
        have hjL : ∀ j, Frm H0 sv j → j ≠ k11 := fun j hj e => by
          have h1 := hj.1
          rw [← (p2 j hj).1, e, hf_k11] at h1; exact h1 rfl
        refine ⟨{ s3 with low := s3.low.set n.toNat (min (gt s3.low n) (gt s3.low y)) }, gs3, rest3, (by rw [hH]; simp [g0_17, g3_17, g6_17, g10_17, g11_17, g12_17, g13_17, g17_17, g18_17, g19_17, g20_17, gm1_17, grs_17, gk11_17, hst_17, nx1, nx2, nx3, nx4, nx5, nx6, nx7, nx8, nx9, nx10, nx11, o0, Ne.symm o0, o3, Ne.symm o3, o6, Ne.symm o6, o10, Ne.symm o10, o11, Ne.symm o11, o12, Ne.symm o12, o13, Ne.symm o13, o17, Ne.symm o17, o18, Ne.symm o18, o19, Ne.symm o19, o20, Ne.symm o20, p4, Ne.symm p4, nx70, nx71, nx72, nx73, nx74, nx75, nx76, nx77, nx78, nx79, nx80, nx81, nx82, hi0, beq_iff_eq.2 hi0, g0_5]), (by rw [hH]; simp [g0_17, g3_17, g6_17, g10_17, g11_17, g12_17, g13_17, g17_17, g18_17, g19_17, g20_17, gm1_17, grs_17, gk11_17, hst_17, nx1, nx2, nx3, nx4, nx5, nx6, nx7, nx8, nx9, nx10, nx11, o0, Ne.symm o0, o3, Ne.symm o3, o6, Ne.symm o6, o10, Ne.symm o10, o11, Ne.symm o11, o12, Ne.symm o12, o13, Ne.symm o13, o17, Ne.symm o17, o18, Ne.symm o18, o19, Ne.symm o19, o20, Ne.symm o20, p4, Ne.symm p4, nx70, nx71, nx72, nx73, nx74, nx75, nx76, nx77, nx78, nx79, nx80, nx81, nx82, hi0, beq_iff_eq.2 hi0]), (by rw [hH]; simp [g0_17, g3_17, g6_17, g10_17, g11_17, g12_17, g13_17, g17_17, g18_17, g19_17, g20_17, gm1_17, grs_17, gk11_17, hst_17, nx1, nx2, nx3, nx4, nx5, nx6, nx7, nx8, nx9, nx10, nx11, o0, Ne.symm o0, o3, Ne.symm o3, o6, Ne.symm o6, o10, Ne.symm o10, o11, Ne.symm o11, o12, Ne.symm o12, o13, Ne.symm o13, o17, Ne.symm o17, o18, Ne.symm o18, o19, Ne.symm o19, o20, Ne.symm o20, p4, Ne.symm p4, nx70, nx71, nx72, nx73, nx74, nx75, nx76, nx77, nx78, nx79, nx80, nx81, nx82, hi0, beq_iff_eq.2 hi0]), (by rw [hH]; simp [g0_17, g3_17, g6_17, g10_17, g11_17, g12_17, g13_17, g17_17, g18_17, g19_17, g20_17, gm1_17, grs_17, gk11_17, hst_17, nx1, nx2, nx3, nx4, nx5, nx6, nx7, nx8, nx9, nx10, nx11, o0, Ne.symm o0, o3, Ne.symm o3, o6, Ne.symm o6, o10, Ne.symm o10, o11, Ne.symm o11, o12, Ne.symm o12, o13, Ne.symm o13, o17, Ne.symm o17, o18, Ne.symm o18, o19, Ne.symm o19, o20, Ne.symm o20, p4, Ne.symm p4, nx70, nx71, nx72, nx73, nx74, nx75, nx76, nx77, nx78, nx79, nx80, nx81, nx82, hi0, beq_iff_eq.2 hi0]), (by rw [hH]; simp [g0_17, g3_17, g6_17, g10_17, g11_17, g12_17, g13_17, g17_17, g18_17, g19_17, g20_17, gm1_17, grs_17, gk11_17, hst_17, nx1, nx2, nx3, nx4, nx5, nx6, nx7, nx8, nx9, nx10, nx11, o0, Ne.symm o0, o3, Ne.symm o3, o6, Ne.symm o6, o10, Ne.symm o10, o11, Ne.symm o11, o12, Ne.symm o12, o13, Ne.symm o13, o17, Ne.symm o17, o18, Ne.symm o18, o19, Ne.symm o19, o20, Ne.symm o20, p4, Ne.symm p4, nx70, nx71, nx72, nx73, nx74, nx75, nx76, nx77, nx78, nx79, nx80, nx81, nx82, hi0, beq_iff_eq.2 hi0, g11_5]), (by rw [hH]; simp [g0_17, g3_17, g6_17, g10_17, g11_17, g12_17, g13_17, g17_17, g18_17, g19_17, g20_17, gm1_17, grs_17, gk11_17, hst_17, nx1, nx2, nx3, nx4, nx5, nx6, nx7, nx8, nx9, nx10, nx11, o0, Ne.symm o0, o3, Ne.symm o3, o6, Ne.symm o6, o10, Ne.symm o10, o11, Ne.symm o11, o12, Ne.symm o12, o13, Ne.symm o13, o17, Ne.symm o17, o18, Ne.symm o18, o19, Ne.symm o19, o20, Ne.symm o20, p4, Ne.symm p4, nx70, nx71, nx72, nx73, nx74, nx75, nx76, nx77, nx78, nx79, nx80, nx81, nx82, hi0, beq_iff_eq.2 hi0, g12_5]), (by rw [hH]; simp [g0_17, g3_17, g6_17, g10_17, g11_17, g12_17, g13_17, g17_17, g18_17, g19_17, g20_17, gm1_17, grs_17, gk11_17, hst_17, nx1, nx2, nx3, nx4, nx5, nx6, nx7, nx8, nx9, nx10, nx11, o0, Ne.symm o0, o3, Ne.symm o3, o6, Ne.symm o6, o10, Ne.symm o10, o11, Ne.symm o11, o12, Ne.symm o12, o13, Ne.symm o13, o17, Ne.symm o17, o18, Ne.symm o18, o19, Ne.symm o19, o20, Ne.symm o20, p4, Ne.symm p4, nx70, nx71, nx72, nx73, nx74, nx75, nx76, nx77, nx78, nx79, nx80, nx81, nx82, hi0, beq_iff_eq.2 hi0, g13_5]), (by rw [hH]; simp [g0_17, g3_17, g6_17, g10_17, g11_17, g12_17, g13_17, g17_17, g18_17, g19_17, g20_17, gm1_17, grs_17, gk11_17, hst_17, nx1, nx2, nx3, nx4, nx5, nx6, nx7, nx8, nx9, nx10, nx11, o0, Ne.symm o0, o3, Ne.symm o3, o6, Ne.symm o6, o10, Ne.symm o10, o11, Ne.symm o11, o12, Ne.symm o12, o13, Ne.symm o13, o17, Ne.symm o17, o18, Ne.symm o18, o19, Ne.symm o19, o20, Ne.symm o20, p4, Ne.symm p4, nx70, nx71, nx72, nx73, nx74, nx75, nx76, nx77, nx78, nx79, nx80, nx81, nx82, hi0, beq_iff_eq.2 hi0]), (by rw [hH]; simp [g0_17, g3_17, g6_17, g10_17, g11_17, g12_17, g13_17, g17_17, g18_17, g19_17, g20_17, gm1_17, grs_17, gk11_17, hst_17, nx1, nx2, nx3, nx4, nx5, nx6, nx7, nx8, nx9, nx10, nx11, o0, Ne.symm o0, o3, Ne.symm o3, o6, Ne.symm o6, o10, Ne.symm o10, o11, Ne.symm o11, o12, Ne.symm o12, o13, Ne.symm o13, o17, Ne.symm o17, o18, Ne.symm o18, o19, Ne.symm o19, o20, Ne.symm o20, p4, Ne.symm p4, nx70, nx71, nx72, nx73, nx74, nx75, nx76, nx77, nx78, nx79, nx80, nx81, nx82, hi0, beq_iff_eq.2 hi0]), (by rw [hH]; simp [g0_17, g3_17, g6_17, g10_17, g11_17, g12_17, g13_17, g17_17, g18_17, g19_17, g20_17, gm1_17, grs_17, gk11_17, hst_17, nx1, nx2, nx3, nx4, nx5, nx6, nx7, nx8, nx9, nx10, nx11, o0, Ne.symm o0, o3, Ne.symm o3, o6, Ne.symm o6, o10, Ne.symm o10, o11, Ne.symm o11, o12, Ne.symm o12, o13, Ne.symm o13, o17, Ne.symm o17, o18, Ne.symm o18, o19, Ne.symm o19, o20, Ne.symm o20, p4, Ne.symm p4, nx70, nx71, nx72, nx73, nx74, nx75, nx76, nx77, nx78, nx79, nx80, nx81, nx82, hi0, beq_iff_eq.2 hi0]), (by rw [hH]; simp [g0_17, g3_17, g6_17, g10_17, g11_17, g12_17, g13_17, g17_17, g18_17, g19_17, g20_17, gm1_17, grs_17, gk11_17, hst_17, nx1, nx2, nx3, nx4, nx5, nx6, nx7, nx8, nx9, nx10, nx11, o0, Ne.symm o0, o3, Ne.symm o3, o6, Ne.symm o6, o10, Ne.symm o10, o11, Ne.symm o11, o12, Ne.symm o12, o13, Ne.symm o13, o17, Ne.symm o17, o18, Ne.symm o18, o19, Ne.symm o19, o20, Ne.symm o20, p4, Ne.symm p4, nx70, nx71, nx72, nx73, nx74, nx75, nx76, nx77, nx78, nx79, nx80, nx81, nx82, hi0, beq_iff_eq.2 hi0, g20_5]), (by rw [hH]; simp [g0_17, g3_17, g6_17, g10_17, g11_17, g12_17, g13_17, g17_17, g18_17, g19_17, g20_17, gm1_17, grs_17, gk11_17, hst_17, nx1, nx2, nx3, nx4, nx5, nx6, nx7, nx8, nx9, nx10, nx11, o0, Ne.symm o0, o3, Ne.symm o3, o6, Ne.symm o6, o10, Ne.symm o10, o11, Ne.symm o11, o12, Ne.symm o12, o13, Ne.symm o13, o17, Ne.symm o17, o18, Ne.symm o18, o19, Ne.symm o19, o20, Ne.symm o20, p4, Ne.symm p4, nx70, nx71, nx72, nx73, nx74, nx75, nx76, nx77, nx78, nx79, nx80, nx81, nx82, hi0, beq_iff_eq.2 hi0, gm1_5]), (by rw [hH]; simp [g0_17, g3_17, g6_17, g10_17, g11_17, g12_17, g13_17, g17_17, g18_17, g19_17, g20_17, gm1_17, grs_17, gk11_17, hst_17, nx1, nx2, nx3, nx4, nx5, nx6, nx7, nx8, nx9, nx10, nx11, o0, Ne.symm o0, o3, Ne.symm o3, o6, Ne.symm o6, o10, Ne.symm o10, o11, Ne.symm o11, o12, Ne.symm o12, o13, Ne.symm o13, o17, Ne.symm o17, o18, Ne.symm o18, o19, Ne.symm o19, o20, Ne.symm o20, p4, Ne.symm p4, nx70, nx71, nx72, nx73, nx74, nx75, nx76, nx77, nx78, nx79, nx80, nx81, nx82, hi0, beq_iff_eq.2 hi0]), ((congrArg AHeap.st hH).trans (hst_17.trans hst_5.symm)), ?_, ?_⟩
        · exact d1.child hti hnr hn0 hyr hye hi0 htp
        · intro j hj
          have q1 := hka j (hjL j hj)
          have q2 := d2 j hj
          rw [hkeep j (hjL j hj), kk j hj.2.2.1, (hfr3 j ⟨by rw [q1, q2]; exact hj.1, hj.2.1, hj.2.2.1, hj.2.2.2.1, hj.2.2.2.2.1, hj.2.2.2.2.2.1, hj.2.2.2.2.2.2.1, fun gg m e => (p2 j hj).2 (by cases e; rfl)⟩).1, q1, q2]
      · skip
        refine stp_reg TT_ok (by rfl) fun K hK => ?_
        simp [h2_12, h10_12, g0_14, g3_14, g6_14, g10_14, g11_14, g12_14, g13_14, g17_14, g18_14, g19_14, g20_14, gm1_14, grs_14, gk11_14, nx1, nx2, nx3, nx4, nx5, nx6, nx7, nx8, nx9, nx10, nx11, o0, Ne.symm o0, o3, Ne.symm o3, o6, Ne.symm o6, o10, Ne.symm o10, o11, Ne.symm o11, o12, Ne.symm o12, o13, Ne.symm o13, o17, Ne.symm o17, o18, Ne.symm o18, o19, Ne.symm o19, o20, Ne.symm o20, p4, Ne.symm p4, nx70, nx71, nx72, nx73, nx74, nx75, nx76, nx77, nx78, nx79, nx80, nx81, nx82, hi0, beq_eq_false_iff_ne.2 hi0, y1, y2, y3, hi2, gt_elem y4]
        try refine And.intro (by first | omega | rfl) ?_
        refine hK _ _ fun σ19 hσ H19 hH => ?_
        clear hK K
        have h2_19 := congrFun hσ 2
        have h3_19 := congrFun hσ 3
        have h6_19 := congrFun hσ 6
        have h7_19 := congrFun hσ 7
        have h9_19 := congrFun hσ 9
        have h10_19 := congrFun hσ 10
        have h34_19 := congrFun hσ 34
        simp [h2_12, h3_12, h6_12, h7_12, h9_12, h10_12] at h2_19 h3_19 h6_19 h7_19 h9_19 h10_19 h34_19
        clear hσ
        replace hH : H13 = H19 := Eq.symm hH
        subst hH
        refine stp_false (by simp [aeval_tmp, h34_19, nx1, nx2, nx3, nx4, nx5, nx6, nx7, nx8, nx9, nx10, nx11, o0, Ne.symm o0, o3, Ne.symm o3, o6, Ne.symm o6, o10, Ne.symm o10, o11, Ne.symm o11, o12, Ne.symm o12, o13, Ne.symm o13, o17, Ne.symm o17, o18, Ne.symm o18, o19, Ne.symm o19, o20, Ne.symm o20, p4, Ne.symm p4, nx70, nx71, nx72, nx73, nx74, nx75, nx76, nx77, nx78, nx79, nx80, nx81, nx82, hi0, beq_eq_false_iff_ne.2 hi0]) ?_
        by_cases hc0 : gt s2.cmp y < 0
        · skip
          refine stp_reg TT_ok (by rfl) fun K hK => ?_
          simp [h7_19, h10_19, g0_14, g3_14, g6_14, g10_14, g11_14, g12_14, g13_14, g17_14, g18_14, g19_14, g20_14, gm1_14, grs_14, gk11_14, nx1, nx2, nx3, nx4, nx5, nx6, nx7, nx8, nx9, nx10, nx11, o0, Ne.symm o0, o3, Ne.symm o3, o6, Ne.symm o6, o10, Ne.symm o10, o11, Ne.symm o11, o12, Ne.symm o12, o13, Ne.symm o13, o17, Ne.symm o17, o18, Ne.symm o18, o19, Ne.symm o19, o20, Ne.symm o20, p4, Ne.symm p4, nx70, nx71, nx72, nx73, nx74, nx75, nx76, nx77, nx78, nx79, nx80, nx81, nx82, hi0, beq_eq_false_iff_ne.2 hi0, hc0, y1, y2, y3, hc2, gt_elem y6]
          try refine And.intro (by first | omega | rfl) ?_
          refine hK _ _ fun σ20 hσ H20 hH => ?_
          clear hK K
          have h2_20 := congrFun hσ 2
          have h3_20 := congrFun hσ 3
          have h9_20 := congrFun hσ 9
          have h10_20 := congrFun hσ 10
          have h54_20 := congrFun hσ 54
          simp [h2_19, h3_19, h9_19, h10_19] at h2_20 h3_20 h9_20 h10_20 h54_20
          clear hσ
          replace hH : H13 = H20 := Eq.symm hH
          subst hH
          refine stp_true (by simp [aeval_tmp, h54_20, nx1, nx2, nx3, nx4, nx5, nx6, nx7, nx8, nx9, nx10, nx11, o0, Ne.symm o0, o3, Ne.symm o3, o6, Ne.symm o6, o10, Ne.symm o10, o11, Ne.symm o11, o12, Ne.symm o12, o13, Ne.symm o13, o17, Ne.symm o17, o18, Ne.symm o18, o19, Ne.symm o19, o20, Ne.symm o20, p4, Ne.symm p4, nx70, nx71, nx72, nx73, nx74, nx75, nx76, nx77, nx78, nx79, nx80, nx81, nx82, hi0, beq_eq_false_iff_ne.2 hi0, hc0]) ?_
          refine stp_lexl false TT_ok mixed (by rfl) (by rfl) (by kernel_rfl) (by rfl) fun U hU K hK => ?_
          simp [h2_20, h3_20, h9_20, h10_20, g0_14, g3_14, g6_14, g10_14, g11_14, g12_14, g13_14, g17_14, g18_14, g19_14, g20_14, gm1_14, grs_14, gk11_14, nx1, nx2, nx3, nx4, nx5, nx6, nx7, nx8, nx9, nx10, nx11, o0, Ne.symm o0, o3, Ne.symm o3, o6, Ne.symm o6, o10, Ne.symm o10, o11, Ne.symm o11, o12, Ne.symm o12, o13, Ne.symm o13, o17, Ne.symm o17, o18, Ne.symm o18, o19, Ne.symm o19, o20, Ne.symm o20, p4, Ne.symm p4, nx70, nx71, nx72, nx73, nx74, nx75, nx76, nx77, nx78, nx79, nx80, nx81, nx82, hi0, beq_eq_false_iff_ne.2 hi0, hc0, x1, x2, x3, x4, y1, y2, y3, y4, hi2, hl2, gt_elem x4, gt_elem y4, ite_min]
          try refine And.intro (by first | omega | rfl) ?_
          refine hK _ _ _ (by rw [hU.trans (by kernel_rfl : _ = [(0, 1), (0, 2), (1, 2), (0, 3), (1, 3), (2, 3), (0, 4), (1, 4), (0, 5), (1, 5), (0, 6), (1, 6), (2, 6), (3, 6), (4, 6), (5, 6), (0, 7), (1, 7), (2, 7), (3, 7), (4, 7), (5, 7), (6, 7), (0, 8), (1, 8), (2, 8), (3, 8), (4, 8), (5, 8), (0, 9), (1, 9), (2, 9), (3, 9), (4, 9), (5, 9), (0, 10), (1, 10)])]; simp [logOk, ftFree, h2_20, h3_20, h9_20, h10_20, g0_14, g3_14, g6_14, g10_14, g11_14, g12_14, g13_14, g17_14, g18_14, g19_14, g20_14, gm1_14, grs_14, gk11_14, nx1, nx2, nx3, nx4, nx5, nx6, nx7, nx8, nx9, nx10, nx11, o0, Ne.symm o0, o3, Ne.symm o3, o6, Ne.symm o6, o10, Ne.symm o10, o11, Ne.symm o11, o12, Ne.symm o12, o13, Ne.symm o13, o17, Ne.symm o17, o18, Ne.symm o18, o19, Ne.symm o19, o20, Ne.symm o20, p4, Ne.symm p4, nx70, nx71, nx72, nx73, nx74, nx75, nx76, nx77, nx78, nx79, nx80, nx81, nx82, hi0, beq_eq_false_iff_ne.2 hi0, hc0, x1, x2, x3, x4, y1, y2, y3, y4, hi2, hl2, gt_elem x4, gt_elem y4, ite_min]) fun σ21 hσ H21 hH => ?_
          clear hK K hU U
          clear hσ
          have g0_21 := gt_of hH 0
          have g3_21 := gt_of hH 3
          have g6_21 := gt_of hH 6
          have g10_21 := gt_of hH 10
          have g11_21 := gt_of hH 11
          have g12_21 := gt_of hH 12
          have g13_21 := gt_of hH 13
          have g17_21 := gt_of hH 17
          have g18_21 := gt_of hH 18
          have g19_21 := gt_of hH 19
          have g20_21 := gt_of hH 20
          have gm1_21 := gt_of hH m1
          have grs_21 := gt_of hH rs
          have gk11_21 := gt_of hH k11
          simp [g0_14, g3_14, g6_14, g10_14, g11_14, g12_14, g13_14, g17_14, g18_14, g19_14, g20_14, gm1_14, grs_14, gk11_14, hst_14, nx1, nx2, nx3, nx4, nx5, nx6, nx7, nx8, nx9, nx10, nx11, o0, Ne.symm o0, o3, Ne.symm o3, o6, Ne.symm o6, o10, Ne.symm o10, o11, Ne.symm o11, o12, Ne.symm o12, o13, Ne.symm o13, o17, Ne.symm o17, o18, Ne.symm o18, o19, Ne.symm o19, o20, Ne.symm o20, p4, Ne.symm p4, nx70, nx71, nx72, nx73, nx74, nx75, nx76, nx77, nx78, nx79, nx80, nx81, nx82, hi0, beq_eq_false_iff_ne.2 hi0, hc0] at g0_21 g3_21 g6_21 g10_21 g11_21 g12_21 g13_21 g17_21 g18_21 g19_21 g20_21 gm1_21 grs_21 gk11_21
          have hst_21 := congrArg AHeap.st hH
          simp [hst_14] at hst_21
          have kk : ∀ j, j ≠ 6 → H21.get j = H13.get j := fun j h1 => by rw [hH]; simp [h1]
          clear hH
          refine q_block ?_
          refine q_rb gk11_21 fun H22 hH => ?_
          have hkeep : ∀ j, j ≠ k11 → H22.get j = H21.get j := fun j hj => by rw [hH, put_getH, if_neg hj]
          have hjL : ∀ j, Frm H0 sv j → j ≠ k11 := fun j hj e => by
            have h1 := hj.1
            rw [← (p2 j hj).1, e, hf_k11] at h1; exact h1 rfl
          refine ⟨{ s2 with low := s2.low.set n.toNat (min (gt s2.low n) (gt s2.idx y)) }, gs2, rest2, (by rw [hH]; simp [g0_21, g3_21, g6_21, g10_21, g11_21, g12_21, g13_21, g17_21, g18_21, g19_21, g20_21, gm1_21, grs_21, gk11_21, hst_21, nx1, nx2, nx3, nx4, nx5, nx6, nx7, nx8, nx9, nx10, nx11, o0, Ne.symm o0, o3, Ne.symm o3, o6, Ne.symm o6, o10, Ne.symm o10, o11, Ne.symm o11, o12, Ne.symm o12, o13, Ne.symm o13, o17, Ne.symm o17, o18, Ne.symm o18, o19, Ne.symm o19, o20, Ne.symm o20, p4, Ne.symm p4, nx70, nx71, nx72, nx73, nx74, nx75, nx76, nx77, nx78, nx79, nx80, nx81, nx82, hi0, beq_eq_false_iff_ne.2 hi0, hc0, g0_5]), (by rw [hH]; simp [g0_21, g3_21, g6_21, g10_21, g11_21, g12_21, g13_21, g17_21, g18_21, g19_21, g20_21, gm1_21, grs_21, gk11_21, hst_21, nx1, nx2, nx3, nx4, nx5, nx6, nx7, nx8, nx9, nx10, nx11, o0, Ne.symm o0, o3, Ne.symm o3, o6, Ne.symm o6, o10, Ne.symm o10, o11, Ne.symm o11, o12, Ne.symm o12, o13, Ne.symm o13, o17, Ne.symm o17, o18, Ne.symm o18, o19, Ne.symm o19, o20, Ne.symm o20, p4, Ne.symm p4, nx70, nx71, nx72, nx73, nx74, nx75, nx76, nx77, nx78, nx79, nx80, nx81, nx82, hi0, beq_eq_false_iff_ne.2 hi0, hc0]), (by rw [hH]; simp [g0_21, g3_21, g6_21, g10_21, g11_21, g12_21, g13_21, g17_21, g18_21, g19_21, g20_21, gm1_21, grs_21, gk11_21, hst_21, nx1, nx2, nx3, nx4, nx5, nx6, nx7, nx8, nx9, nx10, nx11, o0, Ne.symm o0, o3, Ne.symm o3, o6, Ne.symm o6, o10, Ne.symm o10, o11, Ne.symm o11, o12, Ne.symm o12, o13, Ne.symm o13, o17, Ne.symm o17, o18, Ne.symm o18, o19, Ne.symm o19, o20, Ne.symm o20, p4, Ne.symm p4, nx70, nx71, nx72, nx73, nx74, nx75, nx76, nx77, nx78, nx79, nx80, nx81, nx82, hi0, beq_eq_false_iff_ne.2 hi0, hc0]), (by rw [hH]; simp [g0_21, g3_21, g6_21, g10_21, g11_21, g12_21, g13_21, g17_21, g18_21, g19_21, g20_21, gm1_21, grs_21, gk11_21, hst_21, nx1, nx2, nx3, nx4, nx5, nx6, nx7, nx8, nx9, nx10, nx11, o0, Ne.symm o0, o3, Ne.symm o3, o6, Ne.symm o6, o10, Ne.symm o10, o11, Ne.symm o11, o12, Ne.symm o12, o13, Ne.symm o13, o17, Ne.symm o17, o18, Ne.symm o18, o19, Ne.symm o19, o20, Ne.symm o20, p4, Ne.symm p4, nx70, nx71, nx72, nx73, nx74, nx75, nx76, nx77, nx78, nx79, nx80, nx81, nx82, hi0, beq_eq_false_iff_ne.2 hi0, hc0]), (by rw [hH]; simp [g0_21, g3_21, g6_21, g10_21, g11_21, g12_21, g13_21, g17_21, g18_21, g19_21, g20_21, gm1_21, grs_21, gk11_21, hst_21, nx1, nx2, nx3, nx4, nx5, nx6, nx7, nx8, nx9, nx10, nx11, o0, Ne.symm o0, o3, Ne.symm o3, o6, Ne.symm o6, o10, Ne.symm o10, o11, Ne.symm o11, o12, Ne.symm o12, o13, Ne.symm o13, o17, Ne.symm o17, o18, Ne.symm o18, o19, Ne.symm o19, o20, Ne.symm o20, p4, Ne.symm p4, nx70, nx71, nx72, nx73, nx74, nx75, nx76, nx77, nx78, nx79, nx80, nx81, nx82, hi0, beq_eq_false_iff_ne.2 hi0, hc0, g11_5]), (by rw [hH]; simp [g0_21, g3_21, g6_21, g10_21, g11_21, g12_21, g13_21, g17_21, g18_21, g19_21, g20_21, gm1_21, grs_21, gk11_21, hst_21, nx1, nx2, nx3, nx4, nx5, nx6, nx7, nx8, nx9, nx10, nx11, o0, Ne.symm o0, o3, Ne.symm o3, o6, Ne.symm o6, o10, Ne.symm o10, o11, Ne.symm o11, o12, Ne.symm o12, o13, Ne.symm o13, o17, Ne.symm o17, o18, Ne.symm o18, o19, Ne.symm o19, o20, Ne.symm o20, p4, Ne.symm p4, nx70, nx71, nx72, nx73, nx74, nx75, nx76, nx77, nx78, nx79, nx80, nx81, nx82, hi0, beq_eq_false_iff_ne.2 hi0, hc0, g12_5]), (by rw [hH]; simp [g0_21, g3_21, g6_21, g10_21, g11_21, g12_21, g13_21, g17_21, g18_21, g19_21, g20_21, gm1_21, grs_21, gk11_21, hst_21, nx1, nx2, nx3, nx4, nx5, nx6, nx7, nx8, nx9, nx10, nx11, o0, Ne.symm o0, o3, Ne.symm o3, o6, Ne.symm o6, o10, Ne.symm o10, o11, Ne.symm o11, o12, Ne.symm o12, o13, Ne.symm o13, o17, Ne.symm o17, o18, Ne.symm o18, o19, Ne.symm o19, o20, Ne.symm o20, p4, Ne.symm p4, nx70, nx71, nx72, nx73, nx74, nx75, nx76, nx77, nx78, nx79, nx80, nx81, nx82, hi0, beq_eq_false_iff_ne.2 hi0, hc0, g13_5]), (by rw [hH]; simp [g0_21, g3_21, g6_21, g10_21, g11_21, g12_21, g13_21, g17_21, g18_21, g19_21, g20_21, gm1_21, grs_21, gk11_21, hst_21, nx1, nx2, nx3, nx4, nx5, nx6, nx7, nx8, nx9, nx10, nx11, o0, Ne.symm o0, o3, Ne.symm o3, o6, Ne.symm o6, o10, Ne.symm o10, o11, Ne.symm o11, o12, Ne.symm o12, o13, Ne.symm o13, o17, Ne.symm o17, o18, Ne.symm o18, o19, Ne.symm o19, o20, Ne.symm o20, p4, Ne.symm p4, nx70, nx71, nx72, nx73, nx74, nx75, nx76, nx77, nx78, nx79, nx80, nx81, nx82, hi0, beq_eq_false_iff_ne.2 hi0, hc0]), (by rw [hH]; simp [g0_21, g3_21, g6_21, g10_21, g11_21, g12_21, g13_21, g17_21, g18_21, g19_21, g20_21, gm1_21, grs_21, gk11_21, hst_21, nx1, nx2, nx3, nx4, nx5, nx6, nx7, nx8, nx9, nx10, nx11, o0, Ne.symm o0, o3, Ne.symm o3, o6, Ne.symm o6, o10, Ne.symm o10, o11, Ne.symm o11, o12, Ne.symm o12, o13, Ne.symm o13, o17, Ne.symm o17, o18, Ne.symm o18, o19, Ne.symm o19, o20, Ne.symm o20, p4, Ne.symm p4, nx70, nx71, nx72, nx73, nx74, nx75, nx76, nx77, nx78, nx79, nx80, nx81, nx82, hi0, beq_eq_false_iff_ne.2 hi0, hc0]), (by rw [hH]; simp [g0_21, g3_21, g6_21, g10_21, g11_21, g12_21, g13_21, g17_21, g18_21, g19_21, g20_21, gm1_21, grs_21, gk11_21, hst_21, nx1, nx2, nx3, nx4, nx5, nx6, nx7, nx8, nx9, nx10, nx11, o0, Ne.symm o0, o3, Ne.symm o3, o6, Ne.symm o6, o10, Ne.symm o10, o11, Ne.symm o11, o12, Ne.symm o12, o13, Ne.symm o13, o17, Ne.symm o17, o18, Ne.symm o18, o19, Ne.symm o19, o20, Ne.symm o20, p4, Ne.symm p4, nx70, nx71, nx72, nx73, nx74, nx75, nx76, nx77, nx78, nx79, nx80, nx81, nx82, hi0, beq_eq_false_iff_ne.2 hi0, hc0]), (by rw [hH]; simp [g0_21, g3_21, g6_21, g10_21, g11_21, g12_21, g13_21, g17_21, g18_21, g19_21, g20_21, gm1_21, grs_21, gk11_21, hst_21, nx1, nx2, nx3, nx4, nx5, nx6, nx7, nx8, nx9, nx10, nx11, o0, Ne.symm o0, o3, Ne.symm o3, o6, Ne.symm o6, o10, Ne.symm o10, o11, Ne.symm o11, o12, Ne.symm o12, o13, Ne.symm o13, o17, Ne.symm o17, o18, Ne.symm o18, o19, Ne.symm o19, o20, Ne.symm o20, p4, Ne.symm p4, nx70, nx71, nx72, nx73, nx74, nx75, nx76, nx77, nx78, nx79, nx80, nx81, nx82, hi0, beq_eq_false_iff_ne.2 hi0, hc0, g20_5]), (by rw [hH]; simp [g0_21, g3_21, g6_21, g10_21, g11_21, g12_21, g13_21, g17_21, g18_21, g19_21, g20_21, gm1_21, grs_21, gk11_21, hst_21, nx1, nx2, nx3, nx4, nx5, nx6, nx7, nx8, nx9, nx10, nx11, o0, Ne.symm o0, o3, Ne.symm o3, o6, Ne.symm o6, o10, Ne.symm o10, o11, Ne.symm o11, o12, Ne.symm o12, o13, Ne.symm o13, o17, Ne.symm o17, o18, Ne.symm o18, o19, Ne.symm o19, o20, Ne.symm o20, p4, Ne.symm p4, nx70, nx71, nx72, nx73, nx74, nx75, nx76, nx77, nx78, nx79, nx80, nx81, nx82, hi0, beq_eq_false_iff_ne.2 hi0, hc0, gm1_5]), (by rw [hH]; simp [g0_21, g3_21, g6_21, g10_21, g11_21, g12_21, g13_21, g17_21, g18_21, g19_21, g20_21, gm1_21, grs_21, gk11_21, hst_21, nx1, nx2, nx3, nx4, nx5, nx6, nx7, nx8, nx9, nx10, nx11, o0, Ne.symm o0, o3, Ne.symm o3, o6, Ne.symm o6, o10, Ne.symm o10, o11, Ne.symm o11, o12, Ne.symm o12, o13, Ne.symm o13, o17, Ne.symm o17, o18, Ne.symm o18, o19, Ne.symm o19, o20, Ne.symm o20, p4, Ne.symm p4, nx70, nx71, nx72, nx73, nx74, nx75, nx76, nx77, nx78, nx79, nx80, nx81, nx82, hi0, beq_eq_false_iff_ne.2 hi0, hc0]), ((congrArg AHeap.st hH).trans (hst_21.trans hst_5.symm)), ?_, ?_⟩
          · exact d1.cross hti hnr hn0 hyr hye hi0 hc0
          · intro j hj
            rw [hkeep j (hjL j hj), kk j hj.2.2.1, hka j (hjL j hj), d2 j hj]
        · skip
          refine stp_reg TT_ok (by rfl) fun K hK => ?_
          simp [h7_19, h10_19, g0_14, g3_14, g6_14, g10_14, g11_14, g12_14, g13_14, g17_14, g18_14, g19_14, g20_14, gm1_14, grs_14, gk11_14, nx1, nx2, nx3, nx4, nx5, nx6, nx7, nx8, nx9, nx10, nx11, o0, Ne.symm o0, o3, Ne.symm o3, o6, Ne.symm o6, o10, Ne.symm o10, o11, Ne.symm o11, o12, Ne.symm o12, o13, Ne.symm o13, o17, Ne.symm o17, o18, Ne.symm o18, o19, Ne.symm o19, o20, Ne.symm o20, p4, Ne.symm p4, nx70, nx71, nx72, nx73, nx74, nx75, nx76, nx77, nx78, nx79, nx80, nx81, nx82, hi0, beq_eq_false_iff_ne.2 hi0, hc0, y1, y2, y3, hc2, gt_elem y6]
          try refine And.intro (by first | omega | rfl) ?_
          refine hK _ _ fun σ23 hσ H23 hH => ?_
          clear hK K
          have h2_23 := congrFun hσ 2
          have h3_23 := congrFun hσ 3
          have h9_23 := congrFun hσ 9
          have h10_23 := congrFun hσ 10
          have h54_23 := congrFun hσ 54
          simp [h2_19, h3_19, h9_19, h10_19] at h2_23 h3_23 h9_23 h10_23 h54_23
          clear hσ
          replace hH : H13 = H23 := Eq.symm hH
          subst hH
          refine stp_false (by simp [aeval_tmp, h54_23, nx1, nx2, nx3, nx4, nx5, nx6, nx7, nx8, nx9, nx10, nx11, o0, Ne.symm o0, o3, Ne.symm o3, o6, Ne.symm o6, o10, Ne.symm o10, o11, Ne.symm o11, o12, Ne.symm o12, o13, Ne.symm o13, o17, Ne.symm o17, o18, Ne.symm o18, o19, Ne.symm o19, o20, Ne.symm o20, p4, Ne.symm p4, nx70, nx71, nx72, nx73, nx74, nx75, nx76, nx77, nx78, nx79, nx80, nx81, nx82, hi0, beq_eq_false_iff_ne.2 hi0, hc0]) ?_
          refine awp_skip ?_
          refine q_block ?_
          refine q_rb gk11_14 fun H24 hH => ?_
          have hkeep : ∀ j, j ≠ k11 → H24.get j = H13.get j := fun j hj => by rw [hH, put_getH, if_neg hj]
          have hjL : ∀ j, Frm H0 sv j → j ≠ k11 := fun j hj e => by
            have h1 := hj.1
            rw [← (p2 j hj).1, e, hf_k11] at h1; exact h1 rfl
          refine ⟨s2, gs2, rest2, (by rw [hH]; simp [g0_14, g3_14, g6_14, g10_14, g11_14, g12_14, g13_14, g17_14, g18_14, g19_14, g20_14, gm1_14, grs_14, gk11_14, hst_14, nx1, nx2, nx3, nx4, nx5, nx6, nx7, nx8, nx9, nx10, nx11, o0, Ne.symm o0, o3, Ne.symm o3, o6, Ne.symm o6, o10, Ne.symm o10, o11, Ne.symm o11, o12, Ne.symm o12, o13, Ne.symm o13, o17, Ne.symm o17, o18, Ne.symm o18, o19, Ne.symm o19, o20, Ne.symm o20, p4, Ne.symm p4, nx70, nx71, nx72, nx73, nx74, nx75, nx76, nx77, nx78, nx79, nx80, nx81, nx82, hi0, beq_eq_false_iff_ne.2 hi0, hc0, g0_5]), (by rw [hH]; simp [g0_14, g3_14, g6_14, g10_14, g11_14, g12_14, g13_14, g17_14, g18_14, g19_14, g20_14, gm1_14, grs_14, gk11_14, hst_14, nx1, nx2, nx3, nx4, nx5, nx6, nx7, nx8, nx9, nx10, nx11, o0, Ne.symm o0, o3, Ne.symm o3, o6, Ne.symm o6, o10, Ne.symm o10, o11, Ne.symm o11, o12, Ne.symm o12, o13, Ne.symm o13, o17, Ne.symm o17, o18, Ne.symm o18, o19, Ne.symm o19, o20, Ne.symm o20, p4, Ne.symm p4, nx70, nx71, nx72, nx73, nx74, nx75, nx76, nx77, nx78, nx79, nx80, nx81, nx82, hi0, beq_eq_false_iff_ne.2 hi0, hc0]), (by rw [hH]; simp [g0_14, g3_14, g6_14, g10_14, g11_14, g12_14, g13_14, g17_14, g18_14, g19_14, g20_14, gm1_14, grs_14, gk11_14, hst_14, nx1, nx2, nx3, nx4, nx5, nx6, nx7, nx8, nx9, nx10, nx11, o0, Ne.symm o0, o3, Ne.symm o3, o6, Ne.symm o6, o10, Ne.symm o10, o11, Ne.symm o11, o12, Ne.symm o12, o13, Ne.symm o13, o17, Ne.symm o17, o18, Ne.symm o18, o19, Ne.symm o19, o20, Ne.symm o20, p4, Ne.symm p4, nx70, nx71, nx72, nx73, nx74, nx75, nx76, nx77, nx78, nx79, nx80, nx81, nx82, hi0, beq_eq_false_iff_ne.2 hi0, hc0]), (by rw [hH]; simp [g0_14, g3_14, g6_14, g10_14, g11_14, g12_14, g13_14, g17_14, g18_14, g19_14, g20_14, gm1_14, grs_14, gk11_14, hst_14, nx1, nx2, nx3, nx4, nx5, nx6, nx7, nx8, nx9, nx10, nx11, o0, Ne.symm o0, o3, Ne.symm o3, o6, Ne.symm o6, o10, Ne.symm o10, o11, Ne.symm o11, o12, Ne.symm o12, o13, Ne.symm o13, o17, Ne.symm o17, o18, Ne.symm o18, o19, Ne.symm o19, o20, Ne.symm o20, p4, Ne.symm p4, nx70, nx71, nx72, nx73, nx74, nx75, nx76, nx77, nx78, nx79, nx80, nx81, nx82, hi0, beq_eq_false_iff_ne.2 hi0, hc0]), (by rw [hH]; simp [g0_14, g3_14, g6_14, g10_14, g11_14, g12_14, g13_14, g17_14, g18_14, g19_14, g20_14, gm1_14, grs_14, gk11_14, hst_14, nx1, nx2, nx3, nx4, nx5, nx6, nx7, nx8, nx9, nx10, nx11, o0, Ne.symm o0, o3, Ne.symm o3, o6, Ne.symm o6, o10, Ne.symm o10, o11, Ne.symm o11, o12, Ne.symm o12, o13, Ne.symm o13, o17, Ne.symm o17, o18, Ne.symm o18, o19, Ne.symm o19, o20, Ne.symm o20, p4, Ne.symm p4, nx70, nx71, nx72, nx73, nx74, nx75, nx76, nx77, nx78, nx79, nx80, nx81, nx82, hi0, beq_eq_false_iff_ne.2 hi0, hc0, g11_5]), (by rw [hH]; simp [g0_14, g3_14, g6_14, g10_14, g11_14, g12_14, g13_14, g17_14, g18_14, g19_14, g20_14, gm1_14, grs_14, gk11_14, hst_14, nx1, nx2, nx3, nx4, nx5, nx6, nx7, nx8, nx9, nx10, nx11, o0, Ne.symm o0, o3, Ne.symm o3, o6, Ne.symm o6, o10, Ne.symm o10, o11, Ne.symm o11, o12, Ne.symm o12, o13, Ne.symm o13, o17, Ne.symm o17, o18, Ne.symm o18, o19, Ne.symm o19, o20, Ne.symm o20, p4, Ne.symm p4, nx70, nx71, nx72, nx73, nx74, nx75, nx76, nx77, nx78, nx79, nx80, nx81, nx82, hi0, beq_eq_false_iff_ne.2 hi0, hc0, g12_5]), (by rw [hH]; simp [g0_14, g3_14, g6_14, g10_14, g11_14, g12_14, g13_14, g17_14, g18_14, g19_14, g20_14, gm1_14, grs_14, gk11_14, hst_14, nx1, nx2, nx3, nx4, nx5, nx6, nx7, nx8, nx9, nx10, nx11, o0, Ne.symm o0, o3, Ne.symm o3, o6, Ne.symm o6, o10, Ne.symm o10, o11, Ne.symm o11, o12, Ne.symm o12, o13, Ne.symm o13, o17, Ne.symm o17, o18, Ne.symm o18, o19, Ne.symm o19, o20, Ne.symm o20, p4, Ne.symm p4, nx70, nx71, nx72, nx73, nx74, nx75, nx76, nx77, nx78, nx79, nx80, nx81, nx82, hi0, beq_eq_false_iff_ne.2 hi0, hc0, g13_5]), (by rw [hH]; simp [g0_14, g3_14, g6_14, g10_14, g11_14, g12_14, g13_14, g17_14, g18_14, g19_14, g20_14, gm1_14, grs_14, gk11_14, hst_14, nx1, nx2, nx3, nx4, nx5, nx6, nx7, nx8, nx9, nx10, nx11, o0, Ne.symm o0, o3, Ne.symm o3, o6, Ne.symm o6, o10, Ne.symm o10, o11, Ne.symm o11, o12, Ne.symm o12, o13, Ne.symm o13, o17, Ne.symm o17, o18, Ne.symm o18, o19, Ne.symm o19, o20, Ne.symm o20, p4, Ne.symm p4, nx70, nx71, nx72, nx73, nx74, nx75, nx76, nx77, nx78, nx79, nx80, nx81, nx82, hi0, beq_eq_false_iff_ne.2 hi0, hc0]), (by rw [hH]; simp [g0_14, g3_14, g6_14, g10_14, g11_14, g12_14, g13_14, g17_14, g18_14, g19_14, g20_14, gm1_14, grs_14, gk11_14, hst_14, nx1, nx2, nx3, nx4, nx5, nx6, nx7, nx8, nx9, nx10, nx11, o0, Ne.symm o0, o3, Ne.symm o3, o6, Ne.symm o6, o10, Ne.symm o10, o11, Ne.symm o11, o12, Ne.symm o12, o13, Ne.symm o13, o17, Ne.symm o17, o18, Ne.symm o18, o19, Ne.symm o19, o20, Ne.symm o20, p4, Ne.symm p4, nx70, nx71, nx72, nx73, nx74, nx75, nx76, nx77, nx78, nx79, nx80, nx81, nx82, hi0, beq_eq_false_iff_ne.2 hi0, hc0]), (by rw [hH]; simp [g0_14, g3_14, g6_14, g10_14, g11_14, g12_14, g13_14, g17_14, g18_14, g19_14, g20_14, gm1_14, grs_14, gk11_14, hst_14, nx1, nx2, nx3, nx4, nx5, nx6, nx7, nx8, nx9, nx10, nx11, o0, Ne.symm o0, o3, Ne.symm o3, o6, Ne.symm o6, o10, Ne.symm o10, o11, Ne.symm o11, o12, Ne.symm o12, o13, Ne.symm o13, o17, Ne.symm o17, o18, Ne.symm o18, o19, Ne.symm o19, o20, Ne.symm o20, p4, Ne.symm p4, nx70, nx71, nx72, nx73, nx74, nx75, nx76, nx77, nx78, nx79, nx80, nx81, nx82, hi0, beq_eq_false_iff_ne.2 hi0, hc0]), (by rw [hH]; simp [g0_14, g3_14, g6_14, g10_14, g11_14, g12_14, g13_14, g17_14, g18_14, g19_14, g20_14, gm1_14, grs_14, gk11_14, hst_14, nx1, nx2, nx3, nx4, nx5, nx6, nx7, nx8, nx9, nx10, nx11, o0, Ne.symm o0, o3, Ne.symm o3, o6, Ne.symm o6, o10, Ne.symm o10, o11, Ne.symm o11, o12, Ne.symm o12, o13, Ne.symm o13, o17, Ne.symm o17, o18, Ne.symm o18, o19, Ne.symm o19, o20, Ne.symm o20, p4, Ne.symm p4, nx70, nx71, nx72, nx73, nx74, nx75, nx76, nx77, nx78, nx79, nx80, nx81, nx82, hi0, beq_eq_false_iff_ne.2 hi0, hc0, g20_5]), (by rw [hH]; simp [g0_14, g3_14, g6_14, g10_14, g11_14, g12_14, g13_14, g17_14, g18_14, g19_14, g20_14, gm1_14, grs_14, gk11_14, hst_14, nx1, nx2, nx3, nx4, nx5, nx6, nx7, nx8, nx9, nx10, nx11, o0, Ne.symm o0, o3, Ne.symm o3, o6, Ne.symm o6, o10, Ne.symm o10, o11, Ne.symm o11, o12, Ne.symm o12, o13, Ne.symm o13, o17, Ne.symm o17, o18, Ne.symm o18, o19, Ne.symm o19, o20, Ne.symm o20, p4, Ne.symm p4, nx70, nx71, nx72, nx73, nx74, nx75, nx76, nx77, nx78, nx79, nx80, nx81, nx82, hi0, beq_eq_false_iff_ne.2 hi0, hc0, gm1_5]), (by rw [hH]; simp [g0_14, g3_14, g6_14, g10_14, g11_14, g12_14, g13_14, g17_14, g18_14, g19_14, g20_14, gm1_14, grs_14, gk11_14, hst_14, nx1, nx2, nx3, nx4, nx5, nx6, nx7, nx8, nx9, nx10, nx11, o0, Ne.symm o0, o3, Ne.symm o3, o6, Ne.symm o6, o10, Ne.symm o10, o11, Ne.symm o11, o12, Ne.symm o12, o13, Ne.symm o13, o17, Ne.symm o17, o18, Ne.symm o18, o19, Ne.symm o19, o20, Ne.symm o20, p4, Ne.symm p4, nx70, nx71, nx72, nx73, nx74, nx75, nx76, nx77, nx78, nx79, nx80, nx81, nx82, hi0, beq_eq_false_iff_ne.2 hi0, hc0]), ((congrArg AHeap.st hH).trans (hst_14.trans hst_5.symm)), ?_, ?_⟩
          · exact d1.done hyr hi0 (by omega)
          · intro j hj
            rw [hkeep j (hjL j hj), hka j (hjL j hj), d2 j hj]
    · rintro rdy b11 H11 ⟨s2, gs2, rest2, qg0_11, g3_11, g6_11, g10_11, qg11_11, qg12_11, qg13_11, g17_11, g18_11, g19_11, qg20_11, qgm1_11, grs_11, qst_11, d1, d2⟩ hrdy_11 Hd11 hH
      have g0_11 := qg0_11.trans g0_5
      have g11_11 := qg11_11.trans g11_5
      have g12_11 := qg12_11.trans g12_5
      have g13_11 := qg13_11.trans g13_5
      have g20_11 := qg20_11.trans g20_5
      have gm1_11 := qgm1_11.trans gm1_5
      have hst_11 := qst_11.trans hst_5
      have hkeep : ∀ j, j ≠ k11 → Hd11.get j = H11.get j := fun j hj => by rw [hH, put_getH, if_neg hj]
      have g0_25 := gt_of hH 0
      have g3_25 := gt_of hH 3
      have g6_25 := gt_of hH 6
      have g10_25 := gt_of hH 10
      have g11_25 := gt_of hH 11
      have g12_25 := gt_of hH 12
      have g13_25 := gt_of hH 13
      have g17_25 := gt_of hH 17
      have g18_25 := gt_of hH 18
      have g19_25 := gt_of hH 19
      have g20_25 := gt_of hH 20
      have gm1_25 := gt_of hH m1
      have grs_25 := gt_of hH rs
      simp [g0_11, g3_11, g6_11, g10_11, g11_11, g12_11, g13_11, g17_11, g18_11, g19_11, g20_11, gm1_11, grs_11, hst_11, nx1, nx2, nx3, nx4, nx5, nx6, nx7, nx8, nx9, nx10, nx11, o0, Ne.symm o0, o3, Ne.symm o3, o6, Ne.symm o6, o10, Ne.symm o10, o11, Ne.symm o11, o12, Ne.symm o12, o13, Ne.symm o13, o17, Ne.symm o17, o18, Ne.symm o18, o19, Ne.symm o19, o20, Ne.symm o20, p4, Ne.symm p4, nx70, nx71, nx72, nx73, nx74, nx75, nx76, nx77, nx78, nx79, nx80, nx81, nx82] at g0_25 g3_25 g6_25 g10_25 g11_25 g12_25 g13_25 g17_25 g18_25 g19_25 g20_25 gm1_25 grs_25
      have hst_25 : Hd11.st = _ := (congrArg AHeap.st hH).trans hst_11
      have hjL : ∀ j, Frm H0 sv j → j ≠ k11 := fun j hj e => by
        have h1 := hj.1
        rw [← (p2 j hj).1, e, hf_k11] at h1; exact h1 rfl
      have d3 : ∀ j, Frm H0 sv j → Hd11.get j = H0.get j := fun j hj => (hkeep j (hjL j hj)).trans (d2 j hj)
      rw [geL0_succ hv] at d1
      have hall : ∀ w, (n, w) ∈ g.edges → w ∈ g.succ n.toNat := fun w hw => by rw [succ_mem hv, toNat_cast hnr]; exact hw
      have hng : n ∉ gray := fun h => ((hti.stk n).1 (hti.gin n h)).2.1 hn0
      have hi2 := d1.inv.il
      have hl2 := d1.inv.ll
      have hc2 := d1.inv.cl
      have x4 : n.toNat < s2.low.length := by omega
      have x5 : n.toNat < s2.idx.length := by omega
      have x6 : n.toNat < s2.cmp.length := by omega
      clear hH
      refine q_block ?_
      refine q_seq ?_
      refine awp_seq ?_
      by_cases hlt : gt s2.low n < gt s2.idx n
      · skip
        refine stp_lex false TT_ok mixed (by rfl) (by rfl) (by kernel_rfl) (by rfl) fun U hU K hK => ?_
        simp [h2_10, h3_10, h9_10, g0_25, g3_25, g6_25, g10_25, g11_25, g12_25, g13_25, g17_25, g18_25, g19_25, g20_25, gm1_25, grs_25, nx1, nx2, nx3, nx4, nx5, nx6, nx7, nx8, nx9, nx10, nx11, o0, Ne.symm o0, o3, Ne.symm o3, o6, Ne.symm o6, o10, Ne.symm o10, o11, Ne.symm o11, o12, Ne.symm o12, o13, Ne.symm o13, o17, Ne.symm o17, o18, Ne.symm o18, o19, Ne.symm o19, o20, Ne.symm o20, p4, Ne.symm p4, nx70, nx71, nx72, nx73, nx74, nx75, nx76, nx77, nx78, nx79, nx80, nx81, nx82, hlt, x1, x2, x3, x4, x5, hi2, hl2, gt_elem x4, gt_elem x5]
        try refine And.intro (by first | omega | rfl) ?_
        refine hK _ _ _ (by subst hU; kernel_rfl) fun σ26 hσ H26 hH => ?_
        clear hK K hU U
        have h4_26 := congrFun hσ 4
        have h7_26 := congrFun hσ 7
        have h8_26 := congrFun hσ 8
        have h9_26 := congrFun hσ 9
        have h75_26 := congrFun hσ 75
        simp [h4_10, h7_10, h8_10, h9_10] at h4_26 h7_26 h8_26 h9_26 h75_26
        clear hσ
        replace hH : Hd11 = H26 := Eq.symm hH
        subst hH
        refine stp_true (by simp [aeval_tmp, h75_26, nx1, nx2, nx3, nx4, nx5, nx6, nx7, nx8, nx9, nx10, nx11, o0, Ne.symm o0, o3, Ne.symm o3, o6, Ne.symm o6, o10, Ne.symm o10, o11, Ne.symm o11, o12, Ne.symm o12, o13, Ne.symm o13, o17, Ne.symm o17, o18, Ne.symm o18, o19, Ne.symm o19, o20, Ne.symm o20, p4, Ne.symm p4, nx70, nx71, nx72, nx73, nx74, nx75, nx76, nx77, nx78, nx79, nx80, nx81, nx82, hlt]) ?_
        refine awp_ret ?_
        refine q_seq_ret ?_
        refine q_fin0r ?_
        exact ⟨rfl, s2, .sl rs gs2 0 s2.stk.length, d1.ret hv hti hnr hn0 hng hall hlt, .inr ⟨rs, gs2, rest2, rfl, grs_25, hnok⟩, ⟨g0_25, g3_25, g6_25, g10_25, g11_25, g12_25, g13_25, g17_25, g18_25, g19_25, g20_25⟩, fun j hj => ⟨d3 j hj, fun gg m e => (p2 j hj).2 (by cases e; rfl)⟩, fun id gg m e => ⟨gs2, _, by rw [p3 id gg m e]⟩, hst_25⟩
      · skip
        refine stp_lex false TT_ok mixed (by rfl) (by rfl) (by kernel_rfl) (by rfl) fun U hU K hK => ?_
        simp [h2_10, h3_10, h9_10, g0_25, g3_25, g6_25, g10_25, g11_25, g12_25, g13_25, g17_25, g18_25, g19_25, g20_25, gm1_25, grs_25, nx1, nx2, nx3, nx4, nx5, nx6, nx7, nx8, nx9, nx10, nx11, o0, Ne.symm o0, o3, Ne.symm o3, o6, Ne.symm o6, o10, Ne.symm o10, o11, Ne.symm o11, o12, Ne.symm o12, o13, Ne.symm o13, o17, Ne.symm o17, o18, Ne.symm o18, o19, Ne.symm o19, o20, Ne.symm o20, p4, Ne.symm p4, nx70, nx71, nx72, nx73, nx74, nx75, nx76, nx77, nx78, nx79, nx80, nx81, nx82, hlt, x1, x2, x3, x4, x5, hi2, hl2, gt_elem x4, gt_elem x5]
        try refine And.intro (by first | omega | rfl) ?_
        refine hK _ _ _ (by subst hU; kernel_rfl) fun σ27 hσ H27 hH => ?_
        clear hK K hU U
        have h4_27 := congrFun hσ 4
        have h7_27 := congrFun hσ 7
        have h8_27 := congrFun hσ 8
        have h9_27 := congrFun hσ 9
        have h75_27 := congrFun hσ 75
        simp [h4_10, h7_10, h8_10, h9_10] at h4_27 h7_27 h8_27 h9_27 h75_27
        clear hσ
        replace hH : Hd11 = H27 := Eq.symm hH
        subst hH
        refine stp_false (by simp [aeval_tmp, h75_27, nx1, nx2, nx3, nx4, nx5, nx6, nx7, nx8, nx9, nx10, nx11, o0, Ne.symm o0, o3, Ne.symm o3, o6, Ne.symm o6, o10, Ne.symm o10, o11, Ne.symm o11, o12, Ne.symm o12, o13, Ne.symm o13, o17, Ne.symm o17, o18, Ne.symm o18, o19, Ne.symm o19, o20, Ne.symm o20, p4, Ne.symm p4, nx70, nx71, nx72, nx73, nx74, nx75, nx76, nx77, nx78, nx79, nx80, nx81, nx82, hlt]) ?_
        refine awp_skip ?_
        refine q_seq ?_
        refine awp_seq ?_
        refine awp_block ?_
        obtain ⟨seg, hseg, _, _⟩ := d1.seg
        have hsl2 : s2.stk.length = s.stk.length + seg.length + 1 := by rw [hseg]; simp; omega
        have hs2l := d1.inv.stkLen
        have hsg : ∀ v ∈ seg, inR g.nodes.length v ∧ v ≠ n := fun v hv2 => by
          have h1 := (d1.inv.stk v).1 (by rw [hseg]; simp [hv2])
          refine ⟨h1.1, fun e => ?_⟩
          have h2 := d1.inv.sorted
          rw [hseg] at h2
          have h3 := (List.pairwise_cons.1 (List.pairwise_append.1 h2).2.1).1 v hv2
          rw [e] at h3; omega
        rw [hsl2] at g17_25
        refine awp_loopV (fun n σ' H' => ∃ (sg : List Int) (pp : List Int) (cm : List Int) (ln : Nat), n = sg.length ∧ σ' 4 = σ27 4 ∧ σ' 7 = σ27 7 ∧ σ' 8 = σ27 8 ∧ σ' 9 = σ27 9 ∧ H'.get 0 = Hd11.get 0 ∧ H'.get 3 = Hd11.get 3 ∧ H'.get 6 = Hd11.get 6 ∧ H'.get 10 = some (.row 3 1 0 (cm.map (AV.int IntKind.i64))) ∧ H'.get 11 = Hd11.get 11 ∧ H'.get 12 = Hd11.get 12 ∧ H'.get 13 = Hd11.get 13 ∧ H'.get 17 = some (.row 26 1 0 [.sl rs gs2 0 (ln + 1)]) ∧ H'.get 18 = Hd11.get 18 ∧ H'.get 19 = Hd11.get 19 ∧ H'.get 20 = Hd11.get 20 ∧ H'.get m1 = Hd11.get m1 ∧ H'.get rs = Hd11.get rs ∧ H'.st = Hd11.st ∧ (seg = sg ++ pp) ∧ (ln = s.stk.length + sg.length) ∧ (cm.length = g.nodes.length) ∧ (∀ v, inR g.nodes.length v → gt cm v = if v ∈ pp then s2.cnt else gt s2.cmp v) ∧ (∀ j, Frm H0 sv j → H'.get j = H0.get j)) ?_ ?_
        · refine ⟨_, seg, [], s2.cmp, s.stk.length + seg.length, rfl, rfl, rfl, rfl, rfl, rfl, rfl, rfl, (by simp [g10_25]), rfl, rfl, rfl, (by simp [g17_25]), rfl, rfl, rfl, rfl, rfl, rfl, ?_, ?_, ?_, ?_, ?_⟩
          · simp
          · rfl
          · exact hc2
          · intro v _; simp
          · exact d3
        · rintro n2 σ28 H28 ⟨sg, pp, cm, ln, hn2, q4_28, q7_28, q8_28, q9_28, qg0_28, qg3_28, qg6_28, g10_28, qg11_28, qg12_28, qg13_28, g17_28, qg18_28, qg19_28, qg20_28, qgm1_28, qgrs_28, qst_28, r1, r2, r3, r4, r5⟩
          have h4_28 := q4_28.trans h4_27
          have h7_28 := q7_28.trans h7_27
          have h8_28 := q8_28.trans h8_27
          have h9_28 := q9_28.trans h9_27
          have g0_28 := qg0_28.trans g0_25
          have g3_28 := qg3_28.trans g3_25
          have g6_28 := qg6_28.trans g6_25
          have g11_28 := qg11_28.trans g11_25
          have g12_28 := qg12_28.trans g12_25
          have g13_28 := qg13_28.trans g13_25
          have g18_28 := qg18_28.trans g18_25
          have g19_28 := qg19_28.trans g19_25
          have g20_28 := qg20_28.trans g20_25
          have gm1_28 := qgm1_28.trans gm1_25
          have grs_28 := qgrs_28.trans grs_25
          have hst_28 := qst_28.trans hst_25
          have hcx : n.toNat < cm.length := by omega
          have hr1 := congrArg List.length r1
          rw [List.length_append] at hr1
          have hln0 : ln ≤ 1024 := by omega
          refine awp_block ?_
          rcases List.eq_nil_or_concat sg with rfl | ⟨sg1, y, rfl⟩
          · skip
            have hel : (s2.stk.map (AV.int IntKind.i64) ++ rest2)[ln]? = some ((AV.int IntKind.i64) n) := by
              rw [hseg, r2]; simp
            refine stp_reg TT_ok (by rfl) fun K hK => ?_
            simp [h4_28, g0_28, g3_28, g6_28, g10_28, g11_28, g12_28, g13_28, g17_28, g18_28, g19_28, g20_28, gm1_28, grs_28, nx1, nx2, nx3, nx4, nx5, nx6, nx7, nx8, nx9, nx10, nx11, o0, Ne.symm o0, o3, Ne.symm o3, o6, Ne.symm o6, o10, Ne.symm o10, o11, Ne.symm o11, o12, Ne.symm o12, o13, Ne.symm o13, o17, Ne.symm o17, o18, Ne.symm o18, o19, Ne.symm o19, o20, Ne.symm o20, p4, Ne.symm p4, nx70, nx71, nx72, nx73, nx74, nx75, nx76, nx77, nx78, nx79, nx80, nx81, nx82, hlt, hel, show (ln : Int) < ln + 1 by omega, wrap_ok (n := (ln : Int)) (by omega) (by omega)]
            try refine And.intro (by first | omega | rfl) ?_
            refine hK _ _ fun σ29 hσ H29 hH => ?_
            clear hK K
            have h4_29 := congrFun hσ 4
            have h7_29 := congrFun hσ 7
            have h8_29 := congrFun hσ 8
            have h9_29 := congrFun hσ 9
            have h11_29 := congrFun hσ 11
            simp [h4_28, h7_28, h8_28, h9_28] at h4_29 h7_29 h8_29 h9_29 h11_29
            clear hσ
            replace hH : H28 = H29 := Eq.symm hH
            subst hH
            refine stp_reg TT_ok (by rfl) fun K hK => ?_
            simp [h4_29, g0_28, g3_28, g6_28, g10_28, g11_28, g12_28, g13_28, g17_28, g18_28, g19_28, g20_28, gm1_28, grs_28, nx1, nx2, nx3, nx4, nx5, nx6, nx7, nx8, nx9, nx10, nx11, o0, Ne.symm o0, o3, Ne.symm o3, o6, Ne.symm o6, o10, Ne.symm o10, o11, Ne.symm o11, o12, Ne.symm o12, o13, Ne.symm o13, o17, Ne.symm o17, o18, Ne.symm o18, o19, Ne.symm o19, o20, Ne.symm o20, p4, Ne.symm p4, nx70, nx71, nx72, nx73, nx74, nx75, nx76, nx77, nx78, nx79, nx80, nx81, nx82, hlt, wrap_ok (n := (ln : Int)) (by omega) (by omega)]
            try refine And.intro (by first | omega | rfl) ?_
            refine hK _ _ fun σ30 hσ H30 hH => ?_
            clear hK K
            have h4_30 := congrFun hσ 4
            have h7_30 := congrFun hσ 7
            have h8_30 := congrFun hσ 8
            have h9_30 := congrFun hσ 9
            have h11_30 := congrFun hσ 11
            simp [h4_29, h7_29, h8_29, h9_29, h11_29] at h4_30 h7_30 h8_30 h9_30 h11_30
            clear hσ
            have g0_30 := gt_of hH 0
            have g3_30 := gt_of hH 3
            have g6_30 := gt_of hH 6
            have g10_30 := gt_of hH 10
            have g11_30 := gt_of hH 11
            have g12_30 := gt_of hH 12
            have g13_30 := gt_of hH 13
            have g17_30 := gt_of hH 17
            have g18_30 := gt_of hH 18
            have g19_30 := gt_of hH 19
            have g20_30 := gt_of hH 20
            have gm1_30 := gt_of hH m1
            have grs_30 := gt_of hH rs
            simp [g0_28, g3_28, g6_28, g10_28, g11_28, g12_28, g13_28, g17_28, g18_28, g19_28, g20_28, gm1_28, grs_28, hst_28, nx1, nx2, nx3, nx4, nx5, nx6, nx7, nx8, nx9, nx10, nx11, o0, Ne.symm o0, o3, Ne.symm o3, o6, Ne.symm o6, o10, Ne.symm o10, o11, Ne.symm o11, o12, Ne.symm o12, o13, Ne.symm o13, o17, Ne.symm o17, o18, Ne.symm o18, o19, Ne.symm o19, o20, Ne.symm o20, p4, Ne.symm p4, nx70, nx71, nx72, nx73, nx74, nx75, nx76, nx77, nx78, nx79, nx80, nx81, nx82, hlt] at g0_30 g3_30 g6_30 g10_30 g11_30 g12_30 g13_30 g17_30 g18_30 g19_30 g20_30 gm1_30 grs_30
            have hst_30 := congrArg AHeap.st hH
            simp [hst_28] at hst_30
            have ka : ∀ j, j ≠ 17 → H30.get j = H28.get j := fun j h1 => by rw [hH]; simp [h1]
            clear hH
            refine stp_reg TT_ok (by rfl) fun K hK => ?_
            simp [h7_30, h8_30, h11_30, g0_30, g3_30, g6_30, g10_30, g11_30, g12_30, g13_30, g17_30, g18_30, g19_30, g20_30, gm1_30, grs_30, nx1, nx2, nx3, nx4, nx5, nx6, nx7, nx8, nx9, nx10, nx11, o0, Ne.symm o0, o3, Ne.symm o3, o6, Ne.symm o6, o10, Ne.symm o10, o11, Ne.symm o11, o12, Ne.symm o12, o13, Ne.symm o13, o17, Ne.symm o17, o18, Ne.symm o18, o19, Ne.symm o19, o20, Ne.symm o20, p4, Ne.symm p4, nx70, nx71, nx72, nx73, nx74, nx75, nx76, nx77, nx78, nx79, nx80, nx81, nx82, hlt, x1, x2, x3, hcx, r3]
            try refine And.intro (by first | omega | rfl) ?_
            refine hK _ _ fun σ31 hσ H31 hH => ?_
            clear hK K
            have h4_31 := congrFun hσ 4
            have h7_31 := congrFun hσ 7
            have h8_31 := congrFun hσ 8
            have h9_31 := congrFun hσ 9
            have h11_31 := congrFun hσ 11
            simp [h4_30, h7_30, h8_30, h9_30, h11_30] at h4_31 h7_31 h8_31 h9_31 h11_31
            clear hσ
            have g0_31 := gt_of hH 0
            have g3_31 := gt_of hH 3
            have g6_31 := gt_of hH 6
            have g10_31 := gt_of hH 10
            have g11_31 := gt_of hH 11
            have g12_31 := gt_of hH 12
            have g13_31 := gt_of hH 13
            have g17_31 := gt_of hH 17
            have g18_31 := gt_of hH 18
            have g19_31 := gt_of hH 19
            have g20_31 := gt_of hH 20
            have gm1_31 := gt_of hH m1
            have grs_31 := gt_of hH rs
            simp [g0_30, g3_30, g6_30, g10_30, g11_30, g12_30, g13_30, g17_30, g18_30, g19_30, g20_30, gm1_30, grs_30, hst_30, nx1, nx2, nx3, nx4, nx5, nx6, nx7, nx8, nx9, nx10, nx11, o0, Ne.symm o0, o3, Ne.symm o3, o6, Ne.symm o6, o10, Ne.symm o10, o11, Ne.symm o11, o12, Ne.symm o12, o13, Ne.symm o13, o17, Ne.symm o17, o18, Ne.symm o18, o19, Ne.symm o19, o20, Ne.symm o20, p4, Ne.symm p4, nx70, nx71, nx72, nx73, nx74, nx75, nx76, nx77, nx78, nx79, nx80, nx81, nx82, hlt] at g0_31 g3_31 g6_31 g10_31 g11_31 g12_31 g13_31 g17_31 g18_31 g19_31 g20_31 gm1_31 grs_31
            have hst_31 := congrArg AHeap.st hH
            simp [hst_30] at hst_31
            have kb : ∀ j, j ≠ 10 → H31.get j = H30.get j := fun j h1 => by rw [hH]; simp [h1]
            clear hH
            refine stp_reg TT_ok (by rfl) fun K hK => ?_
            simp [h9_31, h11_31, g0_31, g3_31, g6_31, g10_31, g11_31, g12_31, g13_31, g17_31, g18_31, g19_31, g20_31, gm1_31, grs_31, nx1, nx2, nx3, nx4, nx5, nx6, nx7, nx8, nx9, nx10, nx11, o0, Ne.symm o0, o3, Ne.symm o3, o6, Ne.symm o6, o10, Ne.symm o10, o11, Ne.symm o11, o12, Ne.symm o12, o13, Ne.symm o13, o17, Ne.symm o17, o18, Ne.symm o18, o19, Ne.symm o19, o20, Ne.symm o20, p4, Ne.symm p4, nx70, nx71, nx72, nx73, nx74, nx75, nx76, nx77, nx78, nx79, nx80, nx81, nx82, hlt]
            try refine And.intro (by first | omega | rfl) ?_
            refine hK _ _ fun σ32 hσ H32 hH => ?_
            clear hK K
            have h4_32 := congrFun hσ 4
            have h7_32 := congrFun hσ 7
            have h8_32 := congrFun hσ 8
            have h9_32 := congrFun hσ 9
            have h93_32 := congrFun hσ 93
            simp [h4_31, h7_31, h8_31, h9_31] at h4_32 h7_32 h8_32 h9_32 h93_32
            clear hσ
            replace hH : H31 = H32 := Eq.symm hH
            subst hH
            refine stp_true (by simp [aeval_tmp, h93_32, nx1, nx2, nx3, nx4, nx5, nx6, nx7, nx8, nx9, nx10, nx11, o0, Ne.symm o0, o3, Ne.symm o3, o6, Ne.symm o6, o10, Ne.symm o10, o11, Ne.symm o11, o12, Ne.symm o12, o13, Ne.symm o13, o17, Ne.symm o17, o18, Ne.symm o18, o19, Ne.symm o19, o20, Ne.symm o20, p4, Ne.symm p4, nx70, nx71, nx72, nx73, nx74, nx75, nx76, nx77, nx78, nx79, nx80, nx81, nx82, hlt]) ?_
            refine awp_exit ?_
            refine q_block_miss rfl ?_
            refine q_loop_exit ?_
            refine q_block_hit ?_
            refine q_seq ?_
            refine stp_regl TT_ok (by rfl) fun K hK => ?_
            simp [h8_32, g0_31, g3_31, g6_31, g10_31, g11_31, g12_31, g13_31, g17_31, g18_31, g19_31, g20_31, gm1_31, grs_31, nx1, nx2, nx3, nx4, nx5, nx6, nx7, nx8, nx9, nx10, nx11, o0, Ne.symm o0, o3, Ne.symm o3, o6, Ne.symm o6, o10, Ne.symm o10, o11, Ne.symm o11, o12, Ne.symm o12, o13, Ne.symm o13, o17, Ne.symm o17, o18, Ne.symm o18, o19, Ne.symm o19, o20, Ne.symm o20, p4, Ne.symm p4, nx70, nx71, nx72, nx73, nx74, nx75, nx76, nx77, nx78, nx79, nx80, nx81, nx82, hlt, wrap_ok (n := s2.cnt + 1) (by have := d1.inv.cn; have := d1.inv.cn0; have := d1.inv.zero; omega) (by have := d1.inv.cn; have := d1.inv.cn0; have := d1.inv.zero; omega)]
            try refine And.intro (by first | omega | rfl) ?_
            refine hK _ _ fun σ33 hσ H33 hH => ?_
            clear hK K
            clear hσ
            have g0_33 := gt_of hH 0
            have g3_33 := gt_of hH 3
            have g6_33 := gt_of hH 6
            have g10_33 := gt_of hH 10
            have g11_33 := gt_of hH 11
            have g12_33 := gt_of hH 12
            have g13_33 := gt_of hH 13
            have g17_33 := gt_of hH 17
            have g18_33 := gt_of hH 18
            have g19_33 := gt_of hH 19
            have g20_33 := gt_of hH 20
            have gm1_33 := gt_of hH m1
            have grs_33 := gt_of hH rs
            simp [g0_31, g3_31, g6_31, g10_31, g11_31, g12_31, g13_31, g17_31, g18_31, g19_31, g20_31, gm1_31, grs_31, hst_31, nx1, nx2, nx3, nx4, nx5, nx6, nx7, nx8, nx9, nx10, nx11, o0, Ne.symm o0, o3, Ne.symm o3, o6, Ne.symm o6, o10, Ne.symm o10, o11, Ne.symm o11, o12, Ne.symm o12, o13, Ne.symm o13, o17, Ne.symm o17, o18, Ne.symm o18, o19, Ne.symm o19, o20, Ne.symm o20, p4, Ne.symm p4, nx70, nx71, nx72, nx73, nx74, nx75, nx76, nx77, nx78, nx79, nx80, nx81, nx82, hlt] at g0_33 g3_33 g6_33 g10_33 g11_33 g12_33 g13_33 g17_33 g18_33 g19_33 g20_33 gm1_33 grs_33
            have hst_33 := congrArg AHeap.st hH
            simp [hst_31] at hst_33
            have kc : ∀ j, j ≠ 19 → H33.get j = H31.get j := fun j h1 => by rw [hH]; simp [h1]
            clear hH
            refine q_fin0 ?_
            have hcmp : ∀ v, inR g.nodes.length v → gt (cm.set n.toNat s2.cnt) v = if v ∈ n :: seg then s2.cnt else gt s2.cmp v := by
              intro v hvr
              rw [gt_set (by rw [r3]; exact hnr) (by rw [r3]; exact hvr), r4 v hvr, r1]
              by_cases e : v = n
              · subst e; simp
              · simp [e]
            have hln : ln = s.stk.length := by rw [r2]; simp
            exact ⟨rfl, { s2 with cmp := cm.set n.toNat s2.cnt, stk := s.stk, cnt := s2.cnt + 1 }, .sl rs gs2 0 s.stk.length, d1.close hv hti hnr hn0 hng hall (by omega) hseg (by simpa using r3) hcmp,
              .inr ⟨rs, gs2, (n :: seg).map (AV.int IntKind.i64) ++ rest2, rfl, by rw [grs_33, hseg]; simp, hnok⟩, ⟨g0_33, g3_33, g6_33, by rw [g10_33]; simp, g11_33, g12_33, g13_33, by rw [g17_33, hln], g18_33, g19_33, g20_33⟩,
              fun j hj => ⟨by rw [kc j hj.2.2.2.2.2.2.1, kb j hj.2.2.2.1, ka j hj.2.2.2.2.1, r5 j hj], fun gg m e => (p2 j hj).2 (by cases e; rfl)⟩, fun id gg m e => ⟨gs2, _, by rw [p3 id gg m e]⟩, hst_33⟩
          · skip
            have hel : (s2.stk.map (AV.int IntKind.i64) ++ rest2)[ln]? = some ((AV.int IntKind.i64) y) := by
              have e : s2.stk.map (AV.int IntKind.i64) ++ rest2 = (s.stk ++ n :: sg1).map (AV.int IntKind.i64) ++ (AV.int IntKind.i64) y :: (pp.map (AV.int IntKind.i64) ++ rest2) := by rw [hseg, r1]; simp
              have e2 : ln = ((s.stk ++ n :: sg1).map (AV.int IntKind.i64)).length := by rw [r2]; simp
              rw [e, List.getElem?_append_right (by omega), e2]; simp
            obtain ⟨hyr, hyn⟩ := hsg y (by rw [r1]; simp)
            obtain ⟨y1, y2⟩ := hyr
            have hcy : y.toNat < cm.length := by omega
            have y3 : y.toNat < g.nodes.length := by omega
            refine stp_reg TT_ok (by rfl) fun K hK => ?_
            simp [h4_28, g0_28, g3_28, g6_28, g10_28, g11_28, g12_28, g13_28, g17_28, g18_28, g19_28, g20_28, gm1_28, grs_28, nx1, nx2, nx3, nx4, nx5, nx6, nx7, nx8, nx9, nx10, nx11, o0, Ne.symm o0, o3, Ne.symm o3, o6, Ne.symm o6, o10, Ne.symm o10, o11, Ne.symm o11, o12, Ne.symm o12, o13, Ne.symm o13, o17, Ne.symm o17, o18, Ne.symm o18, o19, Ne.symm o19, o20, Ne.symm o20, p4, Ne.symm p4, nx70, nx71, nx72, nx73, nx74, nx75, nx76, nx77, nx78, nx79, nx80, nx81, nx82, hlt, hel, show (ln : Int) < ln + 1 by omega, wrap_ok (n := (ln : Int)) (by omega) (by omega)]
            try refine And.intro (by first | omega | rfl) ?_
            refine hK _ _ fun σ34 hσ H34 hH => ?_
            clear hK K
            have h4_34 := congrFun hσ 4
            have h7_34 := congrFun hσ 7
            have h8_34 := congrFun hσ 8
            have h9_34 := congrFun hσ 9
            have h11_34 := congrFun hσ 11
            simp [h4_28, h7_28, h8_28, h9_28] at h4_34 h7_34 h8_34 h9_34 h11_34
            clear hσ
            replace hH : H28 = H34 := Eq.symm hH
            subst hH
            refine stp_reg TT_ok (by rfl) fun K hK => ?_
            simp [h4_34, g0_28, g3_28, g6_28, g10_28, g11_28, g12_28, g13_28, g17_28, g18_28, g19_28, g20_28, gm1_28, grs_28, nx1, nx2, nx3, nx4, nx5, nx6, nx7, nx8, nx9, nx10, nx11, o0, Ne.symm o0, o3, Ne.symm o3, o6, Ne.symm o6, o10, Ne.symm o10, o11, Ne.symm o11, o12, Ne.symm o12, o13, Ne.symm o13, o17, Ne.symm o17, o18, Ne.symm o18, o19, Ne.symm o19, o20, Ne.symm o20, p4, Ne.symm p4, nx70, nx71, nx72, nx73, nx74, nx75, nx76, nx77, nx78, nx79, nx80, nx81, nx82, hlt, wrap_ok (n := (ln : Int)) (by omega) (by omega)]
            try refine And.intro (by first | omega | rfl) ?_
            refine hK _ _ fun σ35 hσ H35 hH => ?_
            clear hK K
            have h4_35 := congrFun hσ 4
            have h7_35 := congrFun hσ 7
            have h8_35 := congrFun hσ 8
            have h9_35 := congrFun hσ 9
            have h11_35 := congrFun hσ 11
            simp [h4_34, h7_34, h8_34, h9_34, h11_34] at h4_35 h7_35 h8_35 h9_35 h11_35
            clear hσ
            have g0_35 := gt_of hH 0
            have g3_35 := gt_of hH 3
            have g6_35 := gt_of hH 6
            have g10_35 := gt_of hH 10
            have g11_35 := gt_of hH 11
            have g12_35 := gt_of hH 12
            have g13_35 := gt_of hH 13
            have g17_35 := gt_of hH 17
            have g18_35 := gt_of hH 18
            have g19_35 := gt_of hH 19
            have g20_35 := gt_of hH 20
            have gm1_35 := gt_of hH m1
            have grs_35 := gt_of hH rs
            simp [g0_28, g3_28, g6_28, g10_28, g11_28, g12_28, g13_28, g17_28, g18_28, g19_28, g20_28, gm1_28, grs_28, hst_28, nx1, nx2, nx3, nx4, nx5, nx6, nx7, nx8, nx9, nx10, nx11, o0, Ne.symm o0, o3, Ne.symm o3, o6, Ne.symm o6, o10, Ne.symm o10, o11, Ne.symm o11, o12, Ne.symm o12, o13, Ne.symm o13, o17, Ne.symm o17, o18, Ne.symm o18, o19, Ne.symm o19, o20, Ne.symm o20, p4, Ne.symm p4, nx70, nx71, nx72, nx73, nx74, nx75, nx76, nx77, nx78, nx79, nx80, nx81, nx82, hlt] at g0_35 g3_35 g6_35 g10_35 g11_35 g12_35 g13_35 g17_35 g18_35 g19_35 g20_35 gm1_35 grs_35
            have hst_35 := congrArg AHeap.st hH
            simp [hst_28] at hst_35
            have ka : ∀ j, j ≠ 17 → H35.get j = H28.get j := fun j h1 => by rw [hH]; simp [h1]
            clear hH
            refine stp_reg TT_ok (by rfl) fun K hK => ?_
            simp [h7_35, h8_35, h11_35, g0_35, g3_35, g6_35, g10_35, g11_35, g12_35, g13_35, g17_35, g18_35, g19_35, g20_35, gm1_35, grs_35, nx1, nx2, nx3, nx4, nx5, nx6, nx7, nx8, nx9, nx10, nx11, o0, Ne.symm o0, o3, Ne.symm o3, o6, Ne.symm o6, o10, Ne.symm o10, o11, Ne.symm o11, o12, Ne.symm o12, o13, Ne.symm o13, o17, Ne.symm o17, o18, Ne.symm o18, o19, Ne.symm o19, o20, Ne.symm o20, p4, Ne.symm p4, nx70, nx71, nx72, nx73, nx74, nx75, nx76, nx77, nx78, nx79, nx80, nx81, nx82, hlt, y1, y2, y3, hcy, r3]
            try refine And.intro (by first | omega | rfl) ?_
            refine hK _ _ fun σ36 hσ H36 hH => ?_
            clear hK K
            have h4_36 := congrFun hσ 4
            have h7_36 := congrFun hσ 7
            have h8_36 := congrFun hσ 8
            have h9_36 := congrFun hσ 9
            have h11_36 := congrFun hσ 11
            simp [h4_35, h7_35, h8_35, h9_35, h11_35] at h4_36 h7_36 h8_36 h9_36 h11_36
            clear hσ
            have g0_36 := gt_of hH 0
            have g3_36 := gt_of hH 3
            have g6_36 := gt_of hH 6
            have g10_36 := gt_of hH 10
            have g11_36 := gt_of hH 11
            have g12_36 := gt_of hH 12
            have g13_36 := gt_of hH 13
            have g17_36 := gt_of hH 17
            have g18_36 := gt_of hH 18
            have g19_36 := gt_of hH 19
            have g20_36 := gt_of hH 20
            have gm1_36 := gt_of hH m1
            have grs_36 := gt_of hH rs
            simp [g0_35, g3_35, g6_35, g10_35, g11_35, g12_35, g13_35, g17_35, g18_35, g19_35, g20_35, gm1_35, grs_35, hst_35, nx1, nx2, nx3, nx4, nx5, nx6, nx7, nx8, nx9, nx10, nx11, o0, Ne.symm o0, o3, Ne.symm o3, o6, Ne.symm o6, o10, Ne.symm o10, o11, Ne.symm o11, o12, Ne.symm o12, o13, Ne.symm o13, o17, Ne.symm o17, o18, Ne.symm o18, o19, Ne.symm o19, o20, Ne.symm o20, p4, Ne.symm p4, nx70, nx71, nx72, nx73, nx74, nx75, nx76, nx77, nx78, nx79, nx80, nx81, nx82, hlt] at g0_36 g3_36 g6_36 g10_36 g11_36 g12_36 g13_36 g17_36 g18_36 g19_36 g20_36 gm1_36 grs_36
            have hst_36 := congrArg AHeap.st hH
            simp [hst_35] at hst_36
            have kb : ∀ j, j ≠ 10 → H36.get j = H35.get j := fun j h1 => by rw [hH]; simp [h1]
            clear hH
            refine stp_reg TT_ok (by rfl) fun K hK => ?_
            simp [h9_36, h11_36, g0_36, g3_36, g6_36, g10_36, g11_36, g12_36, g13_36, g17_36, g18_36, g19_36, g20_36, gm1_36, grs_36, nx1, nx2, nx3, nx4, nx5, nx6, nx7, nx8, nx9, nx10, nx11, o0, Ne.symm o0, o3, Ne.symm o3, o6, Ne.symm o6, o10, Ne.symm o10, o11, Ne.symm o11, o12, Ne.symm o12, o13, Ne.symm o13, o17, Ne.symm o17, o18, Ne.symm o18, o19, Ne.symm o19, o20, Ne.symm o20, p4, Ne.symm p4, nx70, nx71, nx72, nx73, nx74, nx75, nx76, nx77, nx78, nx79, nx80, nx81, nx82, hlt, hyn]
            try refine And.intro (by first | omega | rfl) ?_
            refine hK _ _ fun σ37 hσ H37 hH => ?_
            clear hK K
            have h4_37 := congrFun hσ 4
            have h7_37 := congrFun hσ 7
            have h8_37 := congrFun hσ 8
            have h9_37 := congrFun hσ 9
            have h93_37 := congrFun hσ 93
            simp [h4_36, h7_36, h8_36, h9_36] at h4_37 h7_37 h8_37 h9_37 h93_37
            clear hσ
            replace hH : H36 = H37 := Eq.symm hH
            subst hH
            refine stp_false (by simp [aeval_tmp, h93_37, nx1, nx2, nx3, nx4, nx5, nx6, nx7, nx8, nx9, nx10, nx11, o0, Ne.symm o0, o3, Ne.symm o3, o6, Ne.symm o6, o10, Ne.symm o10, o11, Ne.symm o11, o12, Ne.symm o12, o13, Ne.symm o13, o17, Ne.symm o17, o18, Ne.symm o18, o19, Ne.symm o19, o20, Ne.symm o20, p4, Ne.symm p4, nx70, nx71, nx72, nx73, nx74, nx75, nx76, nx77, nx78, nx79, nx80, nx81, nx82, hlt, hyn]) ?_
            refine awp_skip ?_
            refine q_block ?_
            refine ⟨_, ?_, sg1, y :: pp, cm.set y.toNat s2.cnt, s.stk.length + sg1.length, rfl, (h4_37.trans h4_27.symm), (h7_37.trans h7_27.symm), (h8_37.trans h8_27.symm), (h9_37.trans h9_27.symm), (g0_36.trans g0_25.symm), (g3_36.trans g3_25.symm), (g6_36.trans g6_25.symm), (by simp [g10_36, show ln = s.stk.length + sg1.length + 1 by rw [r2]; simp; omega]), (g11_36.trans g11_25.symm), (g12_36.trans g12_25.symm), (g13_36.trans g13_25.symm), (by simp [g17_36, show ln = s.stk.length + sg1.length + 1 by rw [r2]; simp; omega]), (g18_36.trans g18_25.symm), (g19_36.trans g19_25.symm), (g20_36.trans g20_25.symm), (gm1_36.trans gm1_25.symm), (grs_36.trans grs_25.symm), (hst_36.trans hst_25.symm), ?_, ?_, ?_, ?_, ?_⟩
            · subst hn2; simp
            · rw [r1]; simp
            · rfl
            · simpa using r3
            · intro v hvr
              rw [gt_set (by rw [r3]; exact ⟨y1, y2⟩) (by rw [r3]; exact hvr), r4 v hvr]
              by_cases e : v = y
              · subst e; simp
              · simp [e]
            · intro j hj
              rw [kb j hj.2.2.2.1, ka j hj.2.2.2.2.1, r5 j hj]

end Go.Proofs.Yteifhcohmipdcaa

/-
  THE GRAPH FUNCTIONS, 15: number. Conditions: a valid graph. (Printed by w15.py.)
-/
namespace Go.Proofs.Yteifhcohmipdcaa
open Go.Abs
set_option linter.unusedSimpArgs false
set_option linter.unusedVariables false

set_option maxHeartbeats 1000000 in
theorem number0 (g : Gr) (hv : g.valid = true) : ACalls Try.prog 67 [encS g.succs] AHeap.nil (fun r H => ∃ cmp cnt, IsNum g cmp cnt ∧ Frz H r (.tup [.ro (cmp.map (AV.int IntKind.i64)), (AV.int IntKind.i64) cnt])) := by
  refine acalls_body TT_ok Try.func67 rfl rfl (by simp [Try.ntmps67]) ?_
  rw [Try.ntmps67]
  obtain ⟨σ, hσ⟩ : ∃ σ, σ = st0 [encS g.succs] := ⟨_, rfl⟩
  rw [← hσ]
  have h0_0 := congrFun hσ 0
  simp [st0] at h0_0
  clear hσ
  obtain ⟨H, hH⟩ : ∃ H, H = AHeap.nil := ⟨_, rfl⟩
  rw [← hH]
  have hn_0 : H.n = 0 := by rw [hH]; rfl
  have hst_0 : H.st = 1 := by rw [hH]; rfl
  clear hH
  refine stp_reg TT_ok (by rfl) fun K hK => ?_
  simp [h0_0, hn_0, hst_0, encS]
  try refine And.intro (by first | omega | rfl) ?_
  refine hK _ _ fun σ1 hσ H1 hH => ?_
  clear hK K
  have h1_1 := congrFun hσ 1
  simp [] at h1_1
  clear hσ
  have g0_1 := gt_of hH 0
  simp [hn_0, hst_0] at g0_1
  have hn_1 := congrArg AHeap.n hH
  simp [hn_0, hst_0] at hn_1
  have hst_1 := congrArg AHeap.st hH
  simp [hn_0, hst_0] at hst_1
  clear hH
  obtain ⟨hb1, hb2⟩ := valid_nodes hv
  have hsl : g.succs.length = g.nodes.length := by simp [Gr.succs]
  refine stp_lex true TT_ok mixed (by rfl) (by rfl) (by kernel_rfl) (by rfl) fun U hU K hK => ?_
  simp [h1_1, g0_1, hn_1, hst_1, encS, hsl, show (g.nodes.length : Int) ≤ 281474976710656 by omega, show (8 : Int) * (g.nodes.length : Int) ≤ 281474976710656 by omega]
  try refine And.intro (by first | omega | rfl) ?_
  refine lex_rowW (repeat_w (-1) g.nodes.length (by omega)) [7] (fun H' hH' => FrzL.cons (frz_ints (xs := [-1]) (by rw [hH' 7 (by simp)]; simp [h1_1, g0_1, hn_1, hst_1, encS, hsl, show (g.nodes.length : Int) ≤ 281474976710656 by omega, show (8 : Int) * (g.nodes.length : Int) ≤ 281474976710656 by omega]; rfl) rfl) (FrzL.cons (.pure (pu_int _ _)) (FrzL.nil _))) ?_
  simp [h1_1, g0_1, hn_1, hst_1, encS, hsl, show (g.nodes.length : Int) ≤ 281474976710656 by omega, show (8 : Int) * (g.nodes.length : Int) ≤ 281474976710656 by omega]
  try refine And.intro (by first | omega | rfl) ?_
  refine hK _ _ _ (by subst hU; kernel_rfl) fun σ2 hσ H2 hH => ?_
  clear hK K hU U
  have h1_2 := congrFun hσ 1
  have h4_2 := congrFun hσ 4
  have h5_2 := congrFun hσ 5
  have h6_2 := congrFun hσ 6
  simp [h1_1] at h1_2 h4_2 h5_2 h6_2
  clear hσ
  have g0_2 := gt_of hH 0
  have g3_2 := gt_of hH 3
  have g6_2 := gt_of hH 6
  have g7_2 := gt_of hH 7
  have g10_2 := gt_of hH 10
  have g11_2 := gt_of hH 11
  have g12_2 := gt_of hH 12
  have g13_2 := gt_of hH 13
  simp [g0_1, hn_1, hst_1] at g0_2 g3_2 g6_2 g7_2 g10_2 g11_2 g12_2 g13_2
  have hn_2 := congrArg AHeap.n hH
  simp [hn_1, hst_1] at hn_2
  have hst_2 := congrArg AHeap.st hH
  simp [hn_1, hst_1] at hst_2
  clear hH
  refine stp_reg TT_ok (by rfl) fun K hK => ?_
  simp [g0_2, g3_2, g6_2, g7_2, g10_2, g11_2, g12_2, g13_2, hn_2, hst_2]
  try refine And.intro (by first | omega | rfl) ?_
  refine hK _ _ fun σ3 hσ H3 hH => ?_
  clear hK K
  have h1_3 := congrFun hσ 1
  have h4_3 := congrFun hσ 4
  have h5_3 := congrFun hσ 5
  have h6_3 := congrFun hσ 6
  have h7_3 := congrFun hσ 7
  simp [h1_2, h4_2, h5_2, h6_2] at h1_3 h4_3 h5_3 h6_3 h7_3
  clear hσ
  have g0_3 := gt_of hH 0
  have g3_3 := gt_of hH 3
  have g6_3 := gt_of hH 6
  have g7_3 := gt_of hH 7
  have g10_3 := gt_of hH 10
  have g11_3 := gt_of hH 11
  have g12_3 := gt_of hH 12
  have g13_3 := gt_of hH 13
  have g17_3 := gt_of hH 17
  simp [g0_2, g3_2, g6_2, g7_2, g10_2, g11_2, g12_2, g13_2, hn_2, hst_2] at g0_3 g3_3 g6_3 g7_3 g10_3 g11_3 g12_3 g13_3 g17_3
  have hn_3 := congrArg AHeap.n hH
  simp [hn_2, hst_2] at hn_3
  have hst_3 := congrArg AHeap.st hH
  simp [hn_2, hst_2] at hst_3
  clear hH
  refine stp_reg TT_ok (by rfl) fun K hK => ?_
  simp [g0_3, g3_3, g6_3, g7_3, g10_3, g11_3, g12_3, g13_3, g17_3, hn_3, hst_3]
  try refine And.intro (by first | omega | rfl) ?_
  refine hK _ _ fun σ4 hσ H4 hH => ?_
  clear hK K
  have h1_4 := congrFun hσ 1
  have h4_4 := congrFun hσ 4
  have h5_4 := congrFun hσ 5
  have h6_4 := congrFun hσ 6
  have h7_4 := congrFun hσ 7
  have h8_4 := congrFun hσ 8
  have h9_4 := congrFun hσ 9
  simp [h1_3, h4_3, h5_3, h6_3, h7_3] at h1_4 h4_4 h5_4 h6_4 h7_4 h8_4 h9_4
  clear hσ
  have g0_4 := gt_of hH 0
  have g3_4 := gt_of hH 3
  have g6_4 := gt_of hH 6
  have g7_4 := gt_of hH 7
  have g10_4 := gt_of hH 10
  have g11_4 := gt_of hH 11
  have g12_4 := gt_of hH 12
  have g13_4 := gt_of hH 13
  have g17_4 := gt_of hH 17
  have g18_4 := gt_of hH 18
  have g19_4 := gt_of hH 19
  simp [g0_3, g3_3, g6_3, g7_3, g10_3, g11_3, g12_3, g13_3, g17_3, hn_3, hst_3] at g0_4 g3_4 g6_4 g7_4 g10_4 g11_4 g12_4 g13_4 g17_4 g18_4 g19_4
  have hn_4 := congrArg AHeap.n hH
  simp [hn_3, hst_3] at hn_4
  have hst_4 := congrArg AHeap.st hH
  simp [hn_3, hst_3] at hst_4
  clear hH
  refine stp_reg TT_ok (by rfl) fun K hK => ?_
  simp [g0_4, g3_4, g6_4, g7_4, g10_4, g11_4, g12_4, g13_4, g17_4, g18_4, g19_4, hn_4, hst_4]
  try refine And.intro (by first | omega | rfl) ?_
  refine hK _ _ fun σ5 hσ H5 hH => ?_
  clear hK K
  have h1_5 := congrFun hσ 1
  have h4_5 := congrFun hσ 4
  have h5_5 := congrFun hσ 5
  have h6_5 := congrFun hσ 6
  have h7_5 := congrFun hσ 7
  have h8_5 := congrFun hσ 8
  have h9_5 := congrFun hσ 9
  have h10_5 := congrFun hσ 10
  simp [h1_4, h4_4, h5_4, h6_4, h7_4, h8_4, h9_4] at h1_5 h4_5 h5_5 h6_5 h7_5 h8_5 h9_5 h10_5
  clear hσ
  have g0_5 := gt_of hH 0
  have g3_5 := gt_of hH 3
  have g6_5 := gt_of hH 6
  have g7_5 := gt_of hH 7
  have g10_5 := gt_of hH 10
  have g11_5 := gt_of hH 11
  have g12_5 := gt_of hH 12
  have g13_5 := gt_of hH 13
  have g17_5 := gt_of hH 17
  have g18_5 := gt_of hH 18
  have g19_5 := gt_of hH 19
  have g20_5 := gt_of hH 20
  simp [g0_4, g3_4, g6_4, g7_4, g10_4, g11_4, g12_4, g13_4, g17_4, g18_4, g19_4, hn_4, hst_4] at g0_5 g3_5 g6_5 g7_5 g10_5 g11_5 g12_5 g13_5 g17_5 g18_5 g19_5 g20_5
  have hn_5 := congrArg AHeap.n hH
  simp [hn_4, hst_4] at hn_5
  have hst_5 := congrArg AHeap.st hH
  simp [hn_4, hst_4] at hst_5
  clear hH
  refine stp_reg TT_ok (by rfl) fun K hK => ?_
  simp [h1_5, h4_5, h5_5, h6_5, h7_5, h8_5, h9_5, h10_5, g0_5, g3_5, g6_5, g7_5, g10_5, g11_5, g12_5, g13_5, g17_5, g18_5, g19_5, g20_5]
  try refine And.intro (by first | omega | rfl) ?_
  refine hK _ _ fun σ6 hσ H6 hH => ?_
  clear hK K
  have h1_6 := congrFun hσ 1
  have h4_6 := congrFun hσ 4
  have h6_6 := congrFun hσ 6
  have h9_6 := congrFun hσ 9
  have h10_6 := congrFun hσ 10
  simp [h1_5, h4_5, h6_5, h9_5, h10_5] at h1_6 h4_6 h6_6 h9_6 h10_6
  clear hσ
  have g0_6 := gt_of hH 0
  have g3_6 := gt_of hH 3
  have g6_6 := gt_of hH 6
  have g7_6 := gt_of hH 7
  have g10_6 := gt_of hH 10
  have g11_6 := gt_of hH 11
  have g12_6 := gt_of hH 12
  have g13_6 := gt_of hH 13
  have g17_6 := gt_of hH 17
  have g18_6 := gt_of hH 18
  have g19_6 := gt_of hH 19
  have g20_6 := gt_of hH 20
  simp [g0_5, g3_5, g6_5, g7_5, g10_5, g11_5, g12_5, g13_5, g17_5, g18_5, g19_5, g20_5, hn_5, hst_5] at g0_6 g3_6 g6_6 g7_6 g10_6 g11_6 g12_6 g13_6 g17_6 g18_6 g19_6 g20_6
  have hn_6 : H6.n = _ := (congrArg AHeap.n hH).trans hn_5
  have hst_6 : H6.st = _ := (congrArg AHeap.st hH).trans hst_5
  clear hH
  refine awp_seq ?_
  refine stp_reg TT_ok (by rfl) fun K hK => ?_
  simp [h1_6, g0_6, g3_6, g6_6, g7_6, g10_6, g11_6, g12_6, g13_6, g17_6, g18_6, g19_6, g20_6, encS, hsl]
  try refine And.intro (by first | omega | rfl) ?_
  refine hK _ _ fun σ7 hσ H7 hH => ?_
  clear hK K
  have h4_7 := congrFun hσ 4
  have h6_7 := congrFun hσ 6
  have h9_7 := congrFun hσ 9
  have h10_7 := congrFun hσ 10
  have h24_7 := congrFun hσ 24
  have h25_7 := congrFun hσ 25
  simp [h4_6, h6_6, h9_6, h10_6] at h4_7 h6_7 h9_7 h10_7 h24_7 h25_7
  clear hσ
  replace hH : H6 = H7 := Eq.symm hH
  subst hH
  refine awp_block ?_
  refine awp_loopV (fun n σ' H' => ∃ (i : Nat) (s : TS) (sv : AV), n = g.nodes.length - i ∧ σ' 4 = σ7 4 ∧ σ' 6 = σ7 6 ∧ σ' 9 = σ7 9 ∧ σ' 10 = σ7 10 ∧ σ' 24 = σ7 24 ∧ σ' 25 = (AV.int IntKind.i64) i ∧ H'.get 0 = H6.get 0 ∧ H'.get 3 = some (.row 3 1 0 (s.idx.map (AV.int IntKind.i64))) ∧ H'.get 6 = some (.row 3 1 0 (s.low.map (AV.int IntKind.i64))) ∧ H'.get 10 = some (.row 3 1 0 (s.cmp.map (AV.int IntKind.i64))) ∧ H'.get 11 = H6.get 11 ∧ H'.get 12 = H6.get 12 ∧ H'.get 13 = H6.get 13 ∧ H'.get 17 = some (.row 26 1 0 [sv]) ∧ H'.get 18 = some (.row 3 1 0 [(AV.int IntKind.i64) s.nxt]) ∧ H'.get 19 = some (.row 3 1 0 [(AV.int IntKind.i64) s.cnt]) ∧ H'.get 20 = H6.get 20 ∧ H'.st = H6.st ∧ (i ≤ g.nodes.length) ∧ (TI g s []) ∧ (SvOk s.stk sv H') ∧ (∀ v : Int, 0 ≤ v → v < i → gt s.idx v ≠ 0)) ?_ ?_
  · refine ⟨_, 0, ⟨List.replicate g.nodes.length 0, List.replicate g.nodes.length 0, List.replicate g.nodes.length (-1), [], 1, 0⟩, .nils, rfl, rfl, rfl, rfl, rfl, rfl, (by simp [h25_7]), rfl, (by simp [g3_6]), (by simp [g6_6]), (by simp [g10_6]), rfl, rfl, rfl, (by simp [g17_6]), (by simp [g18_6]), (by simp [g19_6]), rfl, rfl, ?_, ?_, ?_, ?_⟩
    · first | omega | (simp; done) | assumption
    · exact TI.start hv
    · exact .inl ⟨rfl, rfl⟩
    · intro v h1 h2; omega
  · rintro n1 σ8 H8 ⟨i, s, sv, hn1, q4_8, q6_8, q9_8, q10_8, q24_8, h25_8, qg0_8, g3_8, g6_8, g10_8, qg11_8, qg12_8, qg13_8, g17_8, g18_8, g19_8, qg20_8, qst_8, p1, p2, p3, p4⟩
    have h4_8 := q4_8.trans h4_7
    have h6_8 := q6_8.trans h6_7
    have h9_8 := q9_8.trans h9_7
    have h10_8 := q10_8.trans h10_7
    have h24_8 := q24_8.trans h24_7
    have g0_8 := qg0_8.trans g0_6
    have g11_8 := qg11_8.trans g11_6
    have g12_8 := qg12_8.trans g12_6
    have g13_8 := qg13_8.trans g13_6
    have g20_8 := qg20_8.trans g20_6
    have hst_8 := qst_8.trans hst_6
    have hil := p2.il
    refine stp_reg TT_ok (by rfl) fun K hK => ?_
    simp [h24_8, h25_8, g0_8, g3_8, g6_8, g10_8, g11_8, g12_8, g13_8, g17_8, g18_8, g19_8, g20_8]
    try refine And.intro (by first | omega | rfl) ?_
    refine hK _ _ fun σ9 hσ H9 hH => ?_
    clear hK K
    have h4_9 := congrFun hσ 4
    have h6_9 := congrFun hσ 6
    have h9_9 := congrFun hσ 9
    have h10_9 := congrFun hσ 10
    have h24_9 := congrFun hσ 24
    have h25_9 := congrFun hσ 25
    have h26_9 := congrFun hσ 26
    simp [h4_8, h6_8, h9_8, h10_8, h24_8, h25_8] at h4_9 h6_9 h9_9 h10_9 h24_9 h25_9 h26_9
    clear hσ
    replace hH : H8 = H9 := Eq.symm hH
    subst hH
    refine awp_seq ?_
    refine awp_cond _ (by simp only [aeval_tmp]; exact h26_9) (fun hc26 => ?_) (fun hc26 => ?_)
    · try simp at hc26
      have hlt : i < g.nodes.length := by simpa using hc26
      have hir : inR g.nodes.length (i : Int) := ⟨by omega, by omega⟩
      have hlt2 : i < s.idx.length := by omega
      have hgi : s.idx[i] = gt s.idx (i : Int) := by simp [gt, hlt2]
      refine awp_skip ?_
      refine q_seq ?_
      refine awp_seq ?_
      refine awp_block ?_
      refine stp_reg TT_ok (by rfl) fun K hK => ?_
      simp [h25_9, g0_8, g3_8, g6_8, g10_8, g11_8, g12_8, g13_8, g17_8, g18_8, g19_8, g20_8]
      try refine And.intro (by first | omega | rfl) ?_
      refine hK _ _ fun σ10 hσ H10 hH => ?_
      clear hK K
      have h4_10 := congrFun hσ 4
      have h6_10 := congrFun hσ 6
      have h9_10 := congrFun hσ 9
      have h10_10 := congrFun hσ 10
      have h11_10 := congrFun hσ 11
      have h24_10 := congrFun hσ 24
      have h25_10 := congrFun hσ 25
      simp [h4_9, h6_9, h9_9, h10_9, h24_9, h25_9] at h4_10 h6_10 h9_10 h10_10 h11_10 h24_10 h25_10
      clear hσ
      replace hH : H8 = H10 := Eq.symm hH
      subst hH
      by_cases hi0 : gt s.idx (i : Int) = 0
      · skip
        refine stp_reg TT_ok (by rfl) fun K hK => ?_
        simp [h4_10, h11_10, g0_8, g3_8, g6_8, g10_8, g11_8, g12_8, g13_8, g17_8, g18_8, g19_8, g20_8, hi0, beq_iff_eq.2 hi0, hlt, hlt2, hil, hgi]
        try refine And.intro (by first | omega | rfl) ?_
        refine hK _ _ fun σ11 hσ H11 hH => ?_
        clear hK K
        have h4_11 := congrFun hσ 4
        have h6_11 := congrFun hσ 6
        have h9_11 := congrFun hσ 9
        have h10_11 := congrFun hσ 10
        have h11_11 := congrFun hσ 11
        have h24_11 := congrFun hσ 24
        have h25_11 := congrFun hσ 25
        have h32_11 := congrFun hσ 32
        simp [h4_10, h6_10, h9_10, h10_10, h11_10, h24_10, h25_10] at h4_11 h6_11 h9_11 h10_11 h11_11 h24_11 h25_11 h32_11
        clear hσ
        replace hH : H8 = H11 := Eq.symm hH
        subst hH
        refine stp_true (by simp [aeval_tmp, h32_11, hi0, beq_iff_eq.2 hi0]) ?_
        refine stp_regl TT_ok (by rfl) fun K hK => ?_
        simp [h10_11, h11_11, g0_8, g3_8, g6_8, g10_8, g11_8, g12_8, g13_8, g17_8, g18_8, g19_8, g20_8, hi0, beq_iff_eq.2 hi0]
        try refine And.intro (by first | omega | rfl) ?_
        refine (num0 g hv _ _ _ _ _ _ s [] i sv H8 rfl p2 hir hi0 (by simp) hst_8 p3 ⟨g0_8, g3_8, g6_8, g10_8, g11_8, g12_8, g13_8, g17_8, g18_8, g19_8, g20_8⟩).mono ?_
        rintro r Hy ⟨rfl, s3, sv3, htp, hsv3, ⟨q0, q3, q6, q10, q11, q12, q13, q17, q18, q19, q20⟩, hfr3, hsame, hst3⟩
        simp [h10_11, h11_11, g0_8, g3_8, g6_8, g10_8, g11_8, g12_8, g13_8, g17_8, g18_8, g19_8, g20_8, hi0, beq_iff_eq.2 hi0]
        try refine And.intro (by first | omega | rfl) ?_
        refine hK _ _ fun σ12 hσ H12 hH => ?_
        clear hK K
        have h4_12 := congrFun hσ 4
        have h6_12 := congrFun hσ 6
        have h9_12 := congrFun hσ 9
        have h10_12 := congrFun hσ 10
        have h24_12 := congrFun hσ 24
        have h25_12 := congrFun hσ 25
        simp [h4_11, h6_11, h9_11, h10_11, h24_11, h25_11] at h4_12 h6_12 h9_12 h10_12 h24_12 h25_12
        clear hσ
        subst hH
        have g0_12 := q0
        have g3_12 := q3
        have g6_12 := q6
        have g10_12 := q10
        have g11_12 := q11
        have g12_12 := q12
        have g13_12 := q13
        have g17_12 := q17
        have g18_12 := q18
        have g19_12 := q19
        have g20_12 := q20
        have hst_12 := hst3
        refine q_block ?_
        refine q_seq ?_
        refine stp_regl TT_ok (by rfl) fun K hK => ?_
        simp [h25_12, g0_12, g3_12, g6_12, g10_12, g11_12, g12_12, g13_12, g17_12, g18_12, g19_12, g20_12, hi0, beq_iff_eq.2 hi0, wrap_ok (n := (i : Int) + 1) (by omega) (by omega)]
        try refine And.intro (by first | omega | rfl) ?_
        refine hK _ _ fun σ13 hσ H13 hH => ?_
        clear hK K
        have h4_13 := congrFun hσ 4
        have h6_13 := congrFun hσ 6
        have h9_13 := congrFun hσ 9
        have h10_13 := congrFun hσ 10
        have h24_13 := congrFun hσ 24
        have h25_13 := congrFun hσ 25
        simp [h4_12, h6_12, h9_12, h10_12, h24_12] at h4_13 h6_13 h9_13 h10_13 h24_13 h25_13
        clear hσ
        replace hH : H12 = H13 := Eq.symm hH
        subst hH
        refine ⟨_, ?_, i + 1, s3, sv3, rfl, (h4_13.trans h4_7.symm), (h6_13.trans h6_7.symm), (h9_13.trans h9_7.symm), (h10_13.trans h10_7.symm), (h24_13.trans h24_7.symm), (by simp [h25_13]), (g0_12.trans g0_6.symm), (by simp [g3_12]), (by simp [g6_12]), (by simp [g10_12]), (g11_12.trans g11_6.symm), (g12_12.trans g12_6.symm), (g13_12.trans g13_6.symm), (by simp [g17_12]), (by simp [g18_12]), (by simp [g19_12]), (g20_12.trans g20_6.symm), (hst_12.trans hst_6.symm), ?_, ?_, ?_, ?_⟩
        · subst hn1; omega
        · first | omega | assumption | (simp; done)
        · exact htp.inv
        · exact hsv3
        · intro v h1 h2
          by_cases e : v = (i : Int)
          · subst e; exact htp.vis
          · have h3 := p4 v h1 (by omega)
            rw [htp.ki v ⟨h1, by omega⟩ h3]; exact h3
      · skip
        refine stp_reg TT_ok (by rfl) fun K hK => ?_
        simp [h4_10, h11_10, g0_8, g3_8, g6_8, g10_8, g11_8, g12_8, g13_8, g17_8, g18_8, g19_8, g20_8, hi0, beq_eq_false_iff_ne.2 hi0, hlt, hlt2, hil, hgi]
        try refine And.intro (by first | omega | rfl) ?_
        refine hK _ _ fun σ14 hσ H14 hH => ?_
        clear hK K
        have h4_14 := congrFun hσ 4
        have h6_14 := congrFun hσ 6
        have h9_14 := congrFun hσ 9
        have h10_14 := congrFun hσ 10
        have h11_14 := congrFun hσ 11
        have h24_14 := congrFun hσ 24
        have h25_14 := congrFun hσ 25
        have h32_14 := congrFun hσ 32
        simp [h4_10, h6_10, h9_10, h10_10, h11_10, h24_10, h25_10] at h4_14 h6_14 h9_14 h10_14 h11_14 h24_14 h25_14 h32_14
        clear hσ
        replace hH : H8 = H14 := Eq.symm hH
        subst hH
        refine stp_false (by simp [aeval_tmp, h32_14, hi0, beq_eq_false_iff_ne.2 hi0]) ?_
        refine awp_skip ?_
        refine q_block ?_
        refine q_seq ?_
        refine stp_regl TT_ok (by rfl) fun K hK => ?_
        simp [h25_14, g0_8, g3_8, g6_8, g10_8, g11_8, g12_8, g13_8, g17_8, g18_8, g19_8, g20_8, hi0, beq_eq_false_iff_ne.2 hi0, wrap_ok (n := (i : Int) + 1) (by omega) (by omega)]
        try refine And.intro (by first | omega | rfl) ?_
        refine hK _ _ fun σ15 hσ H15 hH => ?_
        clear hK K
        have h4_15 := congrFun hσ 4
        have h6_15 := congrFun hσ 6
        have h9_15 := congrFun hσ 9
        have h10_15 := congrFun hσ 10
        have h24_15 := congrFun hσ 24
        have h25_15 := congrFun hσ 25
        simp [h4_14, h6_14, h9_14, h10_14, h24_14] at h4_15 h6_15 h9_15 h10_15 h24_15 h25_15
        clear hσ
        replace hH : H8 = H15 := Eq.symm hH
        subst hH
        refine ⟨_, ?_, i + 1, s, sv, rfl, (h4_15.trans h4_7.symm), (h6_15.trans h6_7.symm), (h9_15.trans h9_7.symm), (h10_15.trans h10_7.symm), (h24_15.trans h24_7.symm), (by simp [h25_15]), (g0_8.trans g0_6.symm), (by simp [g3_8]), (by simp [g6_8]), (by simp [g10_8]), (g11_8.trans g11_6.symm), (g12_8.trans g12_6.symm), (g13_8.trans g13_6.symm), (by simp [g17_8]), (by simp [g18_8]), (by simp [g19_8]), (g20_8.trans g20_6.symm), (hst_8.trans hst_6.symm), ?_, ?_, ?_, ?_⟩
        · subst hn1; omega
        · first | omega | assumption | (simp; done)
        · exact p2
        · exact p3
        · intro v h1 h2
          by_cases e : v = (i : Int)
          · subst e; exact hi0
          · exact p4 v h1 (by omega)
    · try simp at hc26
      refine awp_exit ?_
      refine q_seq_exit ?_
      refine q_loop_exit ?_
      refine q_block_hit ?_
      refine q_seq ?_
      refine stp_lex false TT_ok mixed (by rfl) (by rfl) (by kernel_rfl) (by rfl) fun U hU K hK => ?_
      simp [h6_9, h9_9, g0_8, g3_8, g6_8, g10_8, g11_8, g12_8, g13_8, g17_8, g18_8, g19_8, g20_8]
      try refine And.intro (by first | omega | rfl) ?_
      refine hK _ _ _ (by subst hU; kernel_rfl) fun σ16 hσ H16 hH => ?_
      clear hK K hU U
      have h2_16 := congrFun hσ 2
      have h3_16 := congrFun hσ 3
      simp [] at h2_16 h3_16
      clear hσ
      replace hH : H8 = H16 := Eq.symm hH
      subst hH
      refine awp_ret ?_
      have hie : i = g.nodes.length := by have := hc26; omega
      subst hie
      refine q_fin2 h2_16 h3_16 ?_
      have hcl := p2.cl
      exact ⟨s.cmp, s.cnt, p2.end fun v hv2 => p4 v hv2.1 hv2.2, .tup rfl fun j x y hx hy => by
        match j, hx, hy with
        | 0, hx, hy => simp at hx hy; subst hx; subst hy; exact frz_ints g10_8 hcl.symm
        | 1, hx, hy => simp at hx hy; subst hx; subst hy; exact .pure (pu_int _ _)⟩

theorem number_ok (g : Gr) (hv : g.valid = true) (H : AHeap) : ACalls Try.prog 67 [encS g.succs] H fun r H' => H' = H ∧ ∃ cmp cnt, IsNum g cmp cnt ∧ r = .tup [.ro (cmp.map (AV.int IntKind.i64)), (AV.int IntKind.i64) cnt] :=
  ACalls.pure (number0 g hv) (pu_cons (pu_encS _) pu_nil) (fun r H' ⟨cmp, cnt, h1, h2⟩ => ⟨_, h2, .tup (pu_cons (pu_ints _) (pu_cons (pu_int _ _) pu_nil)), cmp, cnt, h1, rfl⟩) H

end Go.Proofs.Yteifhcohmipdcaa

/-
  THE GRAPH FUNCTIONS, plain law 12: the components by their least nodes. Conditions: a valid graph.
-/
namespace Go.Proofs.Yteifhcohmipdcaa
open Go.Abs
set_option linter.unusedSimpArgs false
set_option linter.unusedVariables false

/-- Does each of two nodes reach the other one? -/
def Gr.both (g : Gr) (v k : Nat) : Bool := (g.marks [(v : Int)]).getD k false && (g.rev.marks [(v : Int)]).getD k false
/-- The least node of a node's component. -/
def Gr.grp (g : Gr) (v : Nat) : Nat := ((List.range g.nodes.length).find? fun k => g.both v k).getD v
theorem rev_R {g : Gr} (hv : g.valid = true) {a b : Int} : g.rev.R a b ↔ g.R b a := by
  constructor
  · intro h
    induction h with
    | base hx => simp at hx; subst hx; exact .refl g _
    | step _ he ih => exact Gr.R.trans (.edge ((rev_edge hv).1 he)) ih
  · intro h
    induction h with
    | base hx => simp at hx; subst hx; exact .refl _ _
    | step _ he ih => exact Gr.R.trans (.edge ((rev_edge hv).2 he)) ih
theorem marks_R {g : Gr} (hv : g.valid = true) {v k : Nat} (h1 : v < g.nodes.length) (h2 : k < g.nodes.length) : (g.marks [(v : Int)]).getD k false = true ↔ g.R v k := by
  have h := (marks_is hv (l := [(v : Int)]) (by simp [inR]; omega)).iff k h2
  rw [getD_true, h]; rfl
theorem both_iff {g : Gr} (hv : g.valid = true) {v k : Nat} (h1 : v < g.nodes.length) (h2 : k < g.nodes.length) : g.both v k = true ↔ g.R v k ∧ g.R k v := by
  rw [Gr.both, Bool.and_eq_true, marks_R hv h1 h2, marks_R (rev_valid hv) (by rw [rev_nodes hv]; exact h1) (by rw [rev_nodes hv]; exact h2), rev_R hv]
theorem grp_spec {g : Gr} (hv : g.valid = true) {v : Nat} (h1 : v < g.nodes.length) : g.grp v ≤ v ∧ g.grp v < g.nodes.length ∧ g.R v (g.grp v) ∧ g.R (g.grp v) v ∧ ∀ k : Nat, k < g.nodes.length → g.R v k → g.R k v → g.grp v ≤ k := by
  have hself : g.both v v = true := (both_iff hv h1 h1).2 ⟨.refl g _, .refl g _⟩
  cases hf : (List.range g.nodes.length).find? fun k => g.both v k with
  | none => have := List.find?_eq_none.1 hf v (List.mem_range.2 h1); simp [hself] at this
  | some r =>
    have he : g.grp v = r := by rw [Gr.grp, hf]; rfl
    have hb := List.find?_some hf
    have hr : r < g.nodes.length := List.mem_range.1 (List.mem_of_find?_eq_some hf)
    have hmin : ∀ k, k < g.nodes.length → g.both v k = true → r ≤ k := by
      intro k hk hbk
      rw [List.find?_range_eq_some] at hf
      rcases Nat.lt_or_ge k r with h | h
      · have := hf.2.2 k h; rw [hbk] at this; simp at this
      · exact h
    obtain ⟨q1, q2⟩ := (both_iff hv h1 hr).1 hb
    rw [he]
    exact ⟨hmin v h1 hself, hr, q1, q2, fun k hk a b => hmin k hk ((both_iff hv h1 hk).2 ⟨a, b⟩)⟩
theorem grp_eq {g : Gr} (hv : g.valid = true) {u v : Nat} (hu : u < g.nodes.length) (h1 : v < g.nodes.length) : g.grp u = g.grp v ↔ g.R u v ∧ g.R v u := by
  obtain ⟨a1, a2, a3, a4, a5⟩ := grp_spec hv hu
  obtain ⟨b1, b2, b3, b4, b5⟩ := grp_spec hv h1
  constructor
  · intro e; rw [← e] at b3 b4; exact ⟨a3.trans b4, b3.trans a4⟩
  · rintro ⟨c1, c2⟩
    have := a5 (g.grp v) b2 (c1.trans b3) (b4.trans c2)
    have := b5 (g.grp u) a2 (c2.trans a3) (a4.trans c1)
    omega
theorem grp_grp {g : Gr} (hv : g.valid = true) {v : Nat} (h1 : v < g.nodes.length) : g.grp (g.grp v) = g.grp v := by
  obtain ⟨a1, a2, a3, a4, a5⟩ := grp_spec hv h1
  exact (grp_eq hv a2 h1).2 ⟨a4, a3⟩
/-- The least nodes of components, under i. -/
def Gr.reps (g : Gr) (i : Nat) : List Nat := (List.range i).filter fun v => decide (g.grp v = v)
def Gr.rank (g : Gr) (r : Nat) : Nat := (g.reps r).length
theorem reps_succ {g : Gr} (i : Nat) : g.reps (i + 1) = g.reps i ++ if g.grp i = i then [i] else [] := by
  simp only [Gr.reps, List.range_succ, List.filter_append]
  congr 1
  by_cases h : g.grp i = i <;> simp [h]
theorem reps_mem {g : Gr} {i v : Nat} : v ∈ g.reps i ↔ v < i ∧ g.grp v = v := by simp [Gr.reps]
theorem reps_rank {g : Gr} {r : Nat} : ∀ {i : Nat}, r < i → g.grp r = r → (g.reps i)[g.rank r]? = some r
  | 0, h, _ => by omega
  | i + 1, h, he => by
    rw [reps_succ]
    by_cases hi : r = i
    · subst hi; rw [if_pos he, Gr.rank]; simp
    · have ih := reps_rank (g := g) (r := r) (i := i) (by omega) he
      rw [List.getElem?_append_left (List.getElem?_eq_some_iff.1 ih).1]; exact ih
theorem rank_lt {g : Gr} {r i : Nat} (h : r < i) (he : g.grp r = r) : g.rank r < (g.reps i).length := (List.getElem?_eq_some_iff.1 (reps_rank h he)).1
theorem rank_inj {g : Gr} {r s : Nat} (hr : g.grp r = r) (hs : g.grp s = s) (h : g.rank r = g.rank s) : r = s := by
  have h1 := reps_rank (i := r + s + 1) (by omega) hr
  have h2 := reps_rank (i := r + s + 1) (by omega) hs
  rw [h, h2] at h1; simpa using h1.symm
theorem reps_len (g : Gr) (i : Nat) : (g.reps i).length ≤ i := by
  have := List.length_filter_le (fun v => decide (g.grp v = v)) (List.range i)
  simpa [Gr.reps] using this
/-- The nodes under i of a component. -/
def Gr.mem (g : Gr) (i r : Nat) : List Int := ((List.range i).filter fun v => decide (g.grp v = r)).map fun v : Nat => (v : Int)
theorem mem_succ {g : Gr} (i r : Nat) : g.mem (i + 1) r = g.mem i r ++ if g.grp i = r then [(i : Int)] else [] := by
  simp only [Gr.mem, List.range_succ, List.filter_append, List.map_append]
  congr 1
  by_cases h : g.grp i = r <;> simp [h]
def Gr.ndL (g : Gr) (i : Nat) : List (List Int) := (g.reps i).map (g.mem i)
/-- The components, by their least nodes. -/
def Gr.comps (g : Gr) : List (List Int) := g.ndL g.nodes.length
theorem ndL_new {g : Gr} {i : Nat} (h : g.grp i = i) (hlt : ∀ v, v < i → g.grp v ≠ i) : g.ndL (i + 1) = (g.ndL i ++ [[]]).set (g.rank i) [(i : Int)] := by
  have hl : (g.ndL i).length = g.rank i := by simp [Gr.ndL, Gr.rank]
  have e : (g.ndL i ++ [[]]).set (g.rank i) [(i : Int)] = g.ndL i ++ [[(i : Int)]] := by
    rw [← hl, List.set_append_right _ _ (Nat.le_refl _)]; simp
  rw [e]
  simp only [Gr.ndL, reps_succ, if_pos h, List.map_append, List.map_cons, List.map_nil]
  congr 1
  · refine List.map_congr_left fun r hr => ?_
    have := reps_mem.1 hr
    rw [mem_succ, if_neg (by omega)]; simp
  · rw [mem_succ, if_pos h]
    have : g.mem i i = [] := by
      simp only [Gr.mem, List.map_eq_nil_iff, List.filter_eq_nil_iff, List.mem_range, decide_eq_true_eq]
      exact fun v hv => hlt v hv
    rw [this]; rfl
theorem ndL_old {g : Gr} (hv : g.valid = true) {i : Nat} (hi : i < g.nodes.length) (h : g.grp i < i) : g.ndL (i + 1) = (g.ndL i).set (g.rank (g.grp i)) (g.mem i (g.grp i) ++ [(i : Int)]) := by
  have hgg := grp_grp hv hi
  have hrk := reps_rank h hgg
  simp only [Gr.ndL, reps_succ, if_neg (by omega : ¬ g.grp i = i), List.append_nil]
  refine List.ext_getElem? fun k => ?_
  rw [List.getElem?_set, List.getElem?_map]
  by_cases hk : g.rank (g.grp i) = k
  · subst hk
    rw [if_pos rfl, hrk, if_pos (by simpa using rank_lt h hgg), Option.map_some, mem_succ, if_pos rfl]
  · rw [if_neg hk, List.getElem?_map]
    cases hr : (g.reps i)[k]? with
    | none => rfl
    | some r =>
      simp only [Option.map_some, Option.some.injEq]
      rw [mem_succ, if_neg (fun e => hk ?_), List.append_nil]
      have := reps_mem.1 (List.mem_of_getElem? hr)
      have h2 := reps_rank this.1 this.2
      have hnd : (g.reps i).Nodup := (List.nodup_range).filter _
      have hlt := (List.getElem?_eq_some_iff.1 hr).1
      rw [e]
      exact (List.getElem?_inj (rank_lt this.1 this.2) hnd).1 (h2.trans hr.symm)
/-- The places of the components that a node's edges lead to, others than its own. -/
def Gr.ceP (g : Gr) (u : Nat) (ks : List Int) : List Int := (ks.filter fun k => decide (g.grp k.toNat ≠ g.grp u)).map fun k => (g.rank (g.grp k.toNat) : Int)
def Gr.ceR (g : Gr) (i r : Nat) : List Int := ((List.range i).filter fun u => decide (g.grp u = r)).flatMap fun u => g.ceP u (g.succ u)
def Gr.ceU (g : Gr) (i : Nat) : List (List Int) := (g.reps g.nodes.length).map (g.ceR i)
/-- For each component the places of those to which edges lead. -/
def Gr.cedges (g : Gr) : List (List Int) := g.ceU g.nodes.length
theorem ceP_snoc {g : Gr} {u : Nat} {ks : List Int} {k : Int} : g.ceP u (ks ++ [k]) = g.ceP u ks ++ if g.grp k.toNat = g.grp u then [] else [(g.rank (g.grp k.toNat) : Int)] := by
  simp only [Gr.ceP, List.filter_append, List.map_append]
  congr 1
  by_cases h : g.grp k.toNat = g.grp u <;> simp [h]
theorem ceR_succ {g : Gr} (i r : Nat) : g.ceR (i + 1) r = g.ceR i r ++ if g.grp i = r then g.ceP i (g.succ i) else [] := by
  simp only [Gr.ceR, List.range_succ, List.filter_append, List.flatMap_append]
  congr 1
  by_cases h : g.grp i = r <;> simp [h]
/-- In the middle of a node. -/
def Gr.ceM (g : Gr) (i : Nat) (pre : List Int) : List (List Int) := (g.ceU i).set (g.rank (g.grp i)) (g.ceR i (g.grp i) ++ g.ceP i pre)
theorem ceU_get {g : Gr} (hv : g.valid = true) {i v : Nat} (h : v < g.nodes.length) : (g.ceU i)[g.rank (g.grp v)]? = some (g.ceR i (g.grp v)) := by
  rw [Gr.ceU, List.getElem?_map, reps_rank (grp_spec hv h).2.1 (grp_grp hv h)]; rfl
theorem ceM_nil {g : Gr} (hv : g.valid = true) {i : Nat} (h : i < g.nodes.length) : g.ceM i [] = g.ceU i := by
  have := ceU_get (i := i) hv h
  have hlt := (List.getElem?_eq_some_iff.1 this).1
  rw [Gr.ceM, show g.ceP i [] = [] from rfl, List.append_nil]
  refine List.ext_getElem? fun k => ?_
  rw [List.getElem?_set]
  split
  · rename_i e; subst e; exact this.symm
  · rfl
theorem ceM_get {g : Gr} (hv : g.valid = true) {i : Nat} (h : i < g.nodes.length) (pre : List Int) : (g.ceM i pre)[g.rank (g.grp i)]? = some (g.ceR i (g.grp i) ++ g.ceP i pre) := by
  have hlt := (List.getElem?_eq_some_iff.1 (ceU_get (i := i) hv h)).1
  rw [Gr.ceM, List.getElem?_set, if_pos rfl, if_pos hlt]
theorem ceM_same {g : Gr} {i : Nat} {pre : List Int} {k : Int} (h : g.grp k.toNat = g.grp i) : g.ceM i (pre ++ [k]) = g.ceM i pre := by
  rw [Gr.ceM, ceP_snoc, if_pos h, List.append_nil]; rfl
theorem ceM_other {g : Gr} {i : Nat} {pre : List Int} {k : Int} (h : ¬ g.grp k.toNat = g.grp i) : g.ceM i (pre ++ [k]) = (g.ceM i pre).set (g.rank (g.grp i)) ((g.ceR i (g.grp i) ++ g.ceP i pre) ++ [(g.rank (g.grp k.toNat) : Int)]) := by
  rw [Gr.ceM, ceP_snoc, if_neg h, Gr.ceM, List.set_set, List.append_assoc]
theorem ceM_all {g : Gr} (hv : g.valid = true) {i : Nat} (h : i < g.nodes.length) : g.ceM i (g.succ i) = g.ceU (i + 1) := by
  have hget := ceU_get (i := i) hv h
  have hlt := (List.getElem?_eq_some_iff.1 hget).1
  have hgs := grp_spec hv h
  have hrk := reps_rank hgs.2.1 (grp_grp hv h)
  refine List.ext_getElem? fun k => ?_
  rw [Gr.ceM, List.getElem?_set]
  by_cases hk : g.rank (g.grp i) = k
  · subst hk
    rw [if_pos rfl, if_pos hlt, Gr.ceU, List.getElem?_map, hrk, Option.map_some, ceR_succ, if_pos rfl]
  · rw [if_neg hk, Gr.ceU, Gr.ceU, List.getElem?_map, List.getElem?_map]
    cases hr : (g.reps g.nodes.length)[k]? with
    | none => rfl
    | some r =>
      simp only [Option.map_some, Option.some.injEq]
      rw [ceR_succ, if_neg (fun e => hk ?_), List.append_nil]
      have hnd : (g.reps g.nodes.length).Nodup := (List.nodup_range).filter _
      rw [← e] at hr
      exact (List.getElem?_inj (rank_lt hgs.2.1 (grp_grp hv h)) hnd).1 (hrk.trans hr.symm)
theorem ceU_zero (g : Gr) : g.ceU 0 = List.replicate (g.reps g.nodes.length).length [] := by
  simp only [Gr.ceU, Gr.ceR, List.range_zero, List.filter_nil, List.flatMap_nil]
  exact List.map_const' ..
end Go.Proofs.Yteifhcohmipdcaa

/-
  THE GRAPH FUNCTIONS: rows of rows that grow. Conditions: none.
-/
namespace Go.Proofs.Yteifhcohmipdcaa
open Go.Abs
set_option linter.unusedSimpArgs false
set_option linter.unusedVariables false
structure RowsV (lo : Nat) (v : AV) (vs : List AV) (ls : List (List Int)) (H : AHeap) : Prop where
  rows : Rows lo vs ls H
  top : (v = AV.nils ∧ vs = []) ∨ ∃ id g : Nat, v = AV.sl id g 0 vs.length ∧ H.get id = some (.row 26 1 g vs) ∧ lo ≤ id ∧ ∀ i x g' n : Nat, vs[i]? = some (AV.sl x g' 0 n) → x ≠ id
theorem Rows.push {lo : Nat} {vs : List AV} {ls : List (List Int)} {H : AHeap} (h : Rows lo vs ls H) : Rows lo (vs ++ [.nils]) (ls ++ [[]]) H := by
  refine ⟨by simp [h.len], fun i v l hv hl => ?_, fun i j id g n g' n' hi hj => ?_⟩
  · by_cases hlt : i < vs.length
    · rw [List.getElem?_append_left hlt] at hv
      rw [List.getElem?_append_left (by rw [← h.len]; exact hlt)] at hl
      exact h.own i v l hv hl
    · rw [List.getElem?_append_right (by omega)] at hv
      rw [List.getElem?_append_right (by rw [← h.len]; omega)] at hl
      have := (List.getElem?_eq_some_iff.1 hv).1
      have e0 : i - vs.length = 0 := by simp at this; omega
      rw [e0] at hv
      rw [← h.len, e0] at hl
      simp at hv hl
      subst hv; subst hl
      exact .inl ⟨rfl, rfl⟩
  · have hlt : ∀ {i : Nat} {id g n : Nat}, (vs ++ [AV.nils])[i]? = some (.sl id g 0 n) → vs[i]? = some (.sl id g 0 n) := by
      intro i id g n hh
      by_cases hlt : i < vs.length
      · rwa [List.getElem?_append_left hlt] at hh
      · rw [List.getElem?_append_right (by omega)] at hh
        have := (List.getElem?_eq_some_iff.1 hh).1
        have e0 : i - vs.length = 0 := by simp at this; omega
        rw [e0] at hh; simp at hh
    exact h.ne i j id g n g' n' (hlt hi) (hlt hj)
theorem push_get {vs : List AV} {i x g n : Nat} (h : (vs ++ [AV.nils])[i]? = some (.sl x g 0 n)) : vs[i]? = some (.sl x g 0 n) := by
  by_cases hlt : i < vs.length
  · rwa [List.getElem?_append_left hlt] at h
  · rw [List.getElem?_append_right (by omega)] at h
    have := (List.getElem?_eq_some_iff.1 h).1
    have e0 : i - vs.length = 0 := by simp at this; omega
    rw [e0] at h; simp at h
theorem set_get {vs : List AV} {k i x g n : Nat} {v : AV} (h : (vs.set k v)[i]? = some (.sl x g 0 n)) : vs[i]? = some (.sl x g 0 n) ∨ v = .sl x g 0 n := by
  rw [List.getElem?_set] at h
  split at h
  · split at h
    · right; exact Option.some.inj h
    · cases h
  · exact .inl h
theorem RowsV.frz {lo : Nat} {v : AV} {vs : List AV} {ls : List (List Int)} {H : AHeap} (h : RowsV lo v vs ls H) : Frz H v (encS ls) := by
  rcases h.top with ⟨rfl, h1⟩ | ⟨id, g, rfl, hb, _, _⟩
  · have : ls = [] := List.eq_nil_of_length_eq_zero (by rw [← h.rows.len, h1]; rfl)
    subst this; exact .nils
  · exact h.rows.frz hb rfl
theorem RowsV.keep {lo : Nat} {v : AV} {vs : List AV} {ls : List (List Int)} {H H' : AHeap} (h : RowsV lo v vs ls H) (hk : ∀ id, H.get id ≠ none → H'.get id = H.get id) : RowsV lo v vs ls H' := by
  refine ⟨h.rows.keep fun id _ hid => hk id hid, ?_⟩
  rcases h.top with h1 | ⟨id, g, h1, hb, h2, h3⟩
  · exact .inl h1
  · exact .inr ⟨id, g, h1, by rw [hk id (by rw [hb]; simp)]; exact hb, h2, h3⟩
theorem RowsV.one {lo : Nat} {v : AV} {vs : List AV} {ls : List (List Int)} {H : AHeap} (h : RowsV lo v vs ls H) : v.one = true := by
  rcases h.top with ⟨rfl, _⟩ | ⟨id, g, rfl, _⟩ <;> rfl
theorem Rows.keepR {lo : Nat} {vs : List AV} {ls : List (List Int)} {H H' : AHeap} (h : Rows lo vs ls H) (hk : ∀ i id g n : Nat, vs[i]? = some (AV.sl id g 0 n) → H'.get id = H.get id) : Rows lo vs ls H' :=
  ⟨h.len, fun i v l hv hl => (h.own i v l hv hl).keep fun id g n e => hk i id g n (e ▸ hv), h.ne⟩
theorem RowsV.pushed {lo id g : Nat} {v : AV} {vs : List AV} {ls : List (List Int)} {H H' : AHeap} (h : RowsV lo v vs ls H) (hb : H'.get id = some (.row 26 1 g (vs ++ [.nils]))) (hlo : lo ≤ id)
    (hid : (∃ g0 : Nat, v = AV.sl id g0 0 vs.length) ∨ v = AV.nils) (hk : ∀ j, lo ≤ j → H.get j ≠ none → j ≠ id → H'.get j = H.get j) : RowsV lo (.sl id g 0 (vs.length + 1)) (vs ++ [.nils]) (ls ++ [[]]) H' := by
  have hne : ∀ i x g' n : Nat, vs[i]? = some (AV.sl x g' 0 n) → x ≠ id := by
    rcases h.top with ⟨rfl, h1⟩ | ⟨id', g', rfl, h1, h2, h3⟩
    · intro i x g' n hx; rw [h1] at hx; simp at hx
    · rcases hid with ⟨g0, e⟩ | e
      · cases e; exact h3
      · cases e
  refine ⟨(h.rows.keepR fun i x g' n hx => hk x (h.rows.used hx).2 (h.rows.used hx).1 (hne i x g' n hx)).push, .inr ⟨id, g, by simp, hb, hlo, fun i x g' n hx => hne i x g' n (push_get hx)⟩⟩
theorem RowsV.setR {lo iv gv k : Nat} {n : Nat} {vs : List AV} {ls : List (List Int)} {H H' : AHeap} {x : AV} {l : List Int} (h : RowsV lo (.sl iv gv 0 n) vs ls H) (hb : H'.get iv = some (.row 26 1 gv (vs.set k x)))
    (hx : OwnR 3 1 lo (l.map (AV.int IntKind.i64)) x H') (hxv : ∀ g' n' : Nat, x ≠ AV.sl iv g' 0 n')
    (ho : ∀ (j id g n : Nat), j ≠ k → vs[j]? = some (AV.sl id g 0 n) → H'.get id = H.get id ∧ ∀ g' n' : Nat, x ≠ AV.sl id g' 0 n') : RowsV lo (.sl iv gv 0 n) (vs.set k x) (ls.set k l) H' := by
  rcases h.top with ⟨h1, _⟩ | ⟨id', g', e, h1, h2, h3⟩
  · cases h1
  · cases e
    refine ⟨h.rows.set hx ho, .inr ⟨_, _, by simp, hb, h2, fun i y g' n' hy => ?_⟩⟩
    rcases set_get hy with hy | hy
    · exact h3 i y g' n' hy
    · intro e; subst e; exact hxv _ _ hy
theorem cmp_grp {g : Gr} {cmp : List Int} {cnt : Int} (hv : g.valid = true) (hn : IsNum g cmp cnt) {u w : Int} (hu : inR g.nodes.length u) (hw : inR g.nodes.length w) : gt cmp u = gt cmp w ↔ g.grp u.toNat = g.grp w.toNat := by
  rw [hn.same u w hu hw, grp_eq hv (in_toNat hu) (in_toNat hw), toNat_cast hu, toNat_cast hw]
theorem mem_len (g : Gr) (i r : Nat) : (g.mem i r).length ≤ i := by
  simp only [Gr.mem, List.length_map]
  exact Nat.le_trans (List.length_filter_le _ _) (by simp)
theorem ceP_len (g : Gr) (u : Nat) (ks : List Int) : (g.ceP u ks).length ≤ ks.length := by
  simp only [Gr.ceP, List.length_map]
  exact List.length_filter_le _ _
theorem ceR_len (g : Gr) (i r : Nat) : (g.ceR i r).length ≤ i * g.nodes.length := by
  induction i with
  | zero => simp [Gr.ceR]
  | succ i ih =>
    rw [ceR_succ, List.length_append, Nat.succ_mul]
    have h1 := ceP_len g i (g.succ i)
    have h2 := succ_len g i
    split <;> simp <;> omega
/-- The place of each component that has been met. -/
def PlOk (g : Gr) (cmp pl : List Int) (i : Nat) : Prop := ∀ u : Nat, u < g.nodes.length → gt pl (gt cmp u) = if g.grp u < i then (g.rank (g.grp u) : Int) else -1
theorem PlOk.new {g : Gr} {cmp pl : List Int} {cn i : Nat} (hv : g.valid = true) (hn : IsNum g cmp cn) (hl : pl.length = cn) (h : PlOk g cmp pl i) (hi : i < g.nodes.length) (hg : g.grp i = i) : PlOk g cmp (pl.set (gt cmp i).toNat (g.rank i)) (i + 1) := by
  intro u hu
  have hr : ∀ w : Nat, w < g.nodes.length → inR pl.length (gt cmp w) := fun w hw => by have := hn.rng w ⟨by omega, by omega⟩; exact ⟨this.1, by omega⟩
  rw [gt_set (hr i hi) (hr u hu), h u hu]
  have hc := cmp_grp hv hn (u := (u : Int)) (w := (i : Int)) ⟨by omega, by omega⟩ ⟨by omega, by omega⟩
  simp only [Int.toNat_natCast] at hc
  by_cases e : gt cmp u = gt cmp i
  · have e2 := hc.1 e
    rw [if_pos e, if_pos (by omega), e2, hg]
  · have e2 : ¬ g.grp u = g.grp i := fun h => e (hc.2 h)
    rw [if_neg e]
    by_cases h3 : g.grp u < i
    · rw [if_pos h3, if_pos (by omega)]
    · rw [if_neg h3, if_neg (by omega)]
theorem PlOk.old {g : Gr} {cmp pl : List Int} {i : Nat} (hv : g.valid = true) (h : PlOk g cmp pl i) (hi : i < g.nodes.length) (hg : ¬ g.grp i = i) : PlOk g cmp pl (i + 1) := by
  intro u hu
  rw [h u hu]
  have h1 : ¬ g.grp u = i := fun e => hg (by have := grp_grp hv hu; rw [e] at this; exact this)
  by_cases h3 : g.grp u < i
  · rw [if_pos h3, if_pos (by omega)]
  · rw [if_neg h3, if_neg (by omega)]
end Go.Proofs.Yteifhcohmipdcaa
