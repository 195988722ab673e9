/-
  GraphReaches answers true, whatever the input: part 6 of the proof. Conditions: none.
-/
import Derived.Test.YteifhcohmipdcaaKGraphReaches5
import Derived.OpenShut
import Derived.SizedLaws
import Derived.JoinedOf
import Derived.Test.YteifhcohmipdcaaRows
import Derived.ProofKit
/-
  THE GRAPH FUNCTIONS, 21: Order, and the reference's Less, Same, Reverse. Conditions: lengths under a bound. (Printed by w21.py.)
-/
namespace Go.Proofs.Yteifhcohmipdcaa
open Go.Abs
set_option linter.unusedSimpArgs false
set_option linter.unusedVariables false
theorem succs_ok2 {g : Gr} (hv : g.valid = true) : g.succs.length ≤ 100000 ∧ ∀ l ∈ g.succs, l.length ≤ 100000 ∧ ∀ x ∈ l, inR g.succs.length x := by
  obtain ⟨hb1, hb2⟩ := valid_nodes hv
  have hl : g.succs.length = g.nodes.length := by simp [Gr.succs]
  refine ⟨by omega, fun l hl2 => ?_⟩
  obtain ⟨i, hi, rfl⟩ := List.mem_map.1 hl2
  exact ⟨Nat.le_trans (succ_len g i) (by omega), fun x hx => by rw [hl]; exact succ_in hv hx⟩
/-- The nodes in order, and whether there is one. -/
def Gr.porder (g : Gr) : List Int × Bool := if g.valid = true ∧ g.pcycle = [] then (listedL g.succs g.succs.length, true) else ([], false)

set_option maxHeartbeats 1000000 in
theorem order0 (g : Gr) : ACalls Try.prog 25 [encG g] AHeap.nil (fun r H => Frz H r (.tup [.ro (g.porder.1.map (AV.int IntKind.i64)), .bool g.porder.2])) := by
  refine acalls_body TT_ok Try.func25 rfl rfl (by simp [Try.ntmps25]) ?_
  rw [Try.ntmps25]
  obtain ⟨σ, hσ⟩ : ∃ σ, σ = st0 [encG g] := ⟨_, rfl⟩
  rw [← hσ]
  have h0_0 := congrFun hσ 0
  simp [st0] at h0_0
  clear hσ
  obtain ⟨H, hH⟩ : ∃ H, H = AHeap.nil := ⟨_, rfl⟩
  rw [← hH]
  have hn_0 : H.n = 0 := by rw [hH]; rfl
  have hst_0 : H.st = 1 := by rw [hH]; rfl
  clear hH
  refine stp_reg TT_ok (by rfl) fun K hK => ?_
  simp [h0_0, hn_0, hst_0, encG]
  try refine And.intro (by first | omega | rfl) ?_
  refine hK _ _ fun σ1 hσ H1 hH => ?_
  clear hK K
  have h1_1 := congrFun hσ 1
  simp [] at h1_1
  clear hσ
  have g0_1 := gt_of hH 0
  simp [hn_0, hst_0] at g0_1
  have hn_1 := congrArg AHeap.n hH
  simp [hn_0, hst_0] at hn_1
  have hst_1 := congrArg AHeap.st hH
  simp [hn_0, hst_0] at hst_1
  clear hH
  refine awp_seq ?_
  by_cases hv : g.valid = true
  · skip
    by_cases hc : g.pcycle = []
    · skip
      refine stp_reg TT_ok (by rfl) fun K hK => ?_
      simp [h1_1, g0_1, hv, beq_iff_eq.2 hv, hc, beq_iff_eq.2 hc, encG, roN]
      try refine And.intro (by first | omega | rfl) ?_
      refine stp_call (valid_ok g) ?_
      simp [h1_1, g0_1, hv, beq_iff_eq.2 hv, hc, beq_iff_eq.2 hc, encG, roN]
      try refine And.intro (by first | omega | rfl) ?_
      refine stp_call (cycleN_ok g) ?_
      simp [h1_1, g0_1, hv, beq_iff_eq.2 hv, hc, beq_iff_eq.2 hc, encG, roN]
      try refine And.intro (by first | omega | rfl) ?_
      refine hK _ _ fun σ2 hσ H2 hH => ?_
      clear hK K
      have h1_2 := congrFun hσ 1
      have h11_2 := congrFun hσ 11
      simp [h1_1] at h1_2 h11_2
      clear hσ
      replace hH : H1 = H2 := Eq.symm hH
      subst hH
      refine stp_false (by simp [aeval_tmp, h11_2, hv, beq_iff_eq.2 hv, hc, beq_iff_eq.2 hc, encG]) ?_
      refine awp_skip ?_
      refine q_seq ?_
      refine stp_reg TT_ok (by rfl) fun K hK => ?_
      simp [h1_2, g0_1, hv, beq_iff_eq.2 hv, hc, beq_iff_eq.2 hc, encG]
      try refine And.intro (by first | omega | rfl) ?_
      refine stp_call (succs_ok g hv) ?_
      simp [h1_2, g0_1, hv, beq_iff_eq.2 hv, hc, beq_iff_eq.2 hc, encG]
      try refine And.intro (by first | omega | rfl) ?_
      refine stp_call (listed_ok g.succs (succs_ok2 hv).1 (succs_ok2 hv).2) ?_
      simp [h1_2, g0_1, hv, beq_iff_eq.2 hv, hc, beq_iff_eq.2 hc, encG]
      try refine And.intro (by first | omega | rfl) ?_
      refine hK _ _ fun σ3 hσ H3 hH => ?_
      clear hK K
      have h2_3 := congrFun hσ 2
      have h3_3 := congrFun hσ 3
      simp [] at h2_3 h3_3
      clear hσ
      replace hH : H1 = H3 := Eq.symm hH
      subst hH
      refine awp_ret ?_
      refine q_fin2 h2_3 h3_3 ?_
      have e : g.porder = (listedL g.succs g.succs.length, true) := by rw [Gr.porder, if_pos ⟨hv, hc⟩]
      rw [e]
      exact .pure (.tup (pu_cons (pu_ints _) (pu_cons (.bool _) pu_nil)))
    · skip
      obtain ⟨c0, cs, hcc⟩ : ∃ c0 cs, g.pcycle = c0 :: cs := by
        cases hp : g.pcycle with
        | nil => exact absurd hp hc
        | cons a b => exact ⟨a, b, rfl⟩
      refine stp_reg TT_ok (by rfl) fun K hK => ?_
      simp [h1_1, g0_1, hv, beq_iff_eq.2 hv, hc, beq_eq_false_iff_ne.2 hc, encG, roN, hcc]
      try refine And.intro (by first | omega | rfl) ?_
      refine stp_call (valid_ok g) ?_
      simp [h1_1, g0_1, hv, beq_iff_eq.2 hv, hc, beq_eq_false_iff_ne.2 hc, encG, roN, hcc]
      try refine And.intro (by first | omega | rfl) ?_
      refine stp_call (cycleN_ok g) ?_
      simp [h1_1, g0_1, hv, beq_iff_eq.2 hv, hc, beq_eq_false_iff_ne.2 hc, encG, roN, hcc]
      try refine And.intro (by first | omega | rfl) ?_
      refine hK _ _ fun σ4 hσ H4 hH => ?_
      clear hK K
      have h1_4 := congrFun hσ 1
      have h11_4 := congrFun hσ 11
      simp [h1_1] at h1_4 h11_4
      clear hσ
      replace hH : H1 = H4 := Eq.symm hH
      subst hH
      refine stp_true (by simp [aeval_tmp, h11_4, hv, beq_iff_eq.2 hv, hc, beq_eq_false_iff_ne.2 hc, encG]) ?_
      refine stp_reg TT_ok (by rfl) fun K hK => ?_
      simp [g0_1, hv, beq_iff_eq.2 hv, hc, beq_eq_false_iff_ne.2 hc, encG]
      try refine And.intro (by first | omega | rfl) ?_
      refine hK _ _ fun σ5 hσ H5 hH => ?_
      clear hK K
      have h2_5 := congrFun hσ 2
      have h3_5 := congrFun hσ 3
      simp [] at h2_5 h3_5
      clear hσ
      replace hH : H1 = H5 := Eq.symm hH
      subst hH
      refine awp_ret ?_
      refine q_seq_ret ?_
      refine q_fin2 h2_5 h3_5 ?_
      have e : g.porder = ([], false) := by rw [Gr.porder, if_neg (fun h => by first | exact hc h.2 | exact hv h.1)]
      rw [e]
      exact .tup rfl fun j x y hx hy => by
        match j, hx, hy with
        | 0, hx, hy => simp at hx hy; subst hx; subst hy; exact .nils
        | 1, hx, hy => simp at hx hy; subst hx; subst hy; exact .pure (.bool _)
  · skip
    refine stp_reg TT_ok (by rfl) fun K hK => ?_
    simp [h1_1, g0_1, hv, beq_eq_false_iff_ne.2 hv, encG]
    try refine And.intro (by first | omega | rfl) ?_
    refine stp_call (valid_ok g) ?_
    simp [h1_1, g0_1, hv, beq_eq_false_iff_ne.2 hv, encG]
    try refine And.intro (by first | omega | rfl) ?_
    refine hK _ _ fun σ6 hσ H6 hH => ?_
    clear hK K
    have h1_6 := congrFun hσ 1
    have h11_6 := congrFun hσ 11
    simp [h1_1] at h1_6 h11_6
    clear hσ
    replace hH : H1 = H6 := Eq.symm hH
    subst hH
    refine stp_true (by simp [aeval_tmp, h11_6, hv, beq_eq_false_iff_ne.2 hv, encG]) ?_
    refine stp_reg TT_ok (by rfl) fun K hK => ?_
    simp [g0_1, hv, beq_eq_false_iff_ne.2 hv, encG]
    try refine And.intro (by first | omega | rfl) ?_
    refine hK _ _ fun σ7 hσ H7 hH => ?_
    clear hK K
    have h2_7 := congrFun hσ 2
    have h3_7 := congrFun hσ 3
    simp [] at h2_7 h3_7
    clear hσ
    replace hH : H1 = H7 := Eq.symm hH
    subst hH
    refine awp_ret ?_
    refine q_seq_ret ?_
    refine q_fin2 h2_7 h3_7 ?_
    have e : g.porder = ([], false) := by rw [Gr.porder, if_neg (fun h => by first | exact hc h.2 | exact hv h.1)]
    rw [e]
    exact .tup rfl fun j x y hx hy => by
      match j, hx, hy with
      | 0, hx, hy => simp at hx hy; subst hx; subst hy; exact .nils
      | 1, hx, hy => simp at hx hy; subst hx; subst hy; exact .pure (.bool _)

theorem order_ok (g : Gr) : Fun1 Try.prog 25 [encG g] (.tup [.ro (g.porder.1.map (AV.int IntKind.i64)), .bool g.porder.2]) := fun1_frz (order0 g) (pu_cons (pu_graph g) pu_nil) (.tup (pu_cons (pu_ints _) (pu_cons (.bool _) pu_nil)))

/-- The reference's order of lists: the shorter one first, or the lexicographically least. -/
def lexL : List Int → List Int → Bool
  | x :: xs, y :: ys => if x = y then lexL xs ys else decide (x < y)
  | _, _ => false
def lessL (a b : List Int) : Bool := if a.length = b.length then lexL a b else decide (a.length < b.length)
theorem lexL_drop {a b : List Int} (h : a.length = b.length) {i : Nat} (hi : i < a.length) : lexL (a.drop i) (b.drop i) = if a[i] = b[i]'(by omega) then lexL (a.drop (i + 1)) (b.drop (i + 1)) else decide (a[i] < b[i]'(by omega)) := by
  rw [List.drop_eq_getElem_cons hi, List.drop_eq_getElem_cons (l := b) (by omega), lexL]

set_option maxHeartbeats 1000000 in
theorem less0 (a b : List Int) (ha : a.length ≤ 1000000) (hb : b.length ≤ 1000000) : ACalls Try.prog 53 [.ro (a.map (AV.int IntKind.i64)), .ro (b.map (AV.int IntKind.i64))] AHeap.nil (fun r _ => r = .bool (lessL a b)) := by
  refine acalls_body TT_ok Try.func53 rfl rfl (by simp [Try.ntmps53]) ?_
  rw [Try.ntmps53]
  obtain ⟨σ, hσ⟩ : ∃ σ, σ = st0 [.ro (a.map (AV.int IntKind.i64)), .ro (b.map (AV.int IntKind.i64))] := ⟨_, rfl⟩
  rw [← hσ]
  have h0_0 := congrFun hσ 0
  simp [st0] at h0_0
  have h1_0 := congrFun hσ 1
  simp [st0] at h1_0
  clear hσ
  obtain ⟨H, hH⟩ : ∃ H, H = AHeap.nil := ⟨_, rfl⟩
  rw [← hH]
  have hn_0 : H.n = 0 := by rw [hH]; rfl
  have hst_0 : H.st = 1 := by rw [hH]; rfl
  clear hH
  refine stp_reg TT_ok (by rfl) fun K hK => ?_
  simp []
  try refine And.intro (by first | omega | rfl) ?_
  refine hK _ _ fun σ1 hσ H1 hH => ?_
  clear hK K
  have h0_1 := congrFun hσ 0
  have h1_1 := congrFun hσ 1
  simp [h0_0, h1_0] at h0_1 h1_1
  clear hσ
  replace hH : H = H1 := Eq.symm hH
  subst hH
  refine awp_seq ?_
  by_cases hl : (a.length : Int) = b.length
  · skip
    refine stp_reg TT_ok (by rfl) fun K hK => ?_
    simp [h0_1, h1_1, hl, beq_iff_eq.2 hl]
    try refine And.intro (by first | omega | rfl) ?_
    refine hK _ _ fun σ2 hσ H2 hH => ?_
    clear hK K
    have h0_2 := congrFun hσ 0
    have h1_2 := congrFun hσ 1
    have h10_2 := congrFun hσ 10
    simp [h0_1, h1_1] at h0_2 h1_2 h10_2
    clear hσ
    replace hH : H = H2 := Eq.symm hH
    subst hH
    refine stp_false (by simp [aeval_tmp, h10_2, hl, beq_iff_eq.2 hl]) ?_
    refine awp_skip ?_
    refine q_seq ?_
    refine awp_seq ?_
    refine stp_reg TT_ok (by rfl) fun K hK => ?_
    simp [hl, beq_iff_eq.2 hl]
    try refine And.intro (by first | omega | rfl) ?_
    refine hK _ _ fun σ3 hσ H3 hH => ?_
    clear hK K
    have h0_3 := congrFun hσ 0
    have h1_3 := congrFun hσ 1
    have h5_3 := congrFun hσ 5
    simp [h0_2, h1_2] at h0_3 h1_3 h5_3
    clear hσ
    replace hH : H = H3 := Eq.symm hH
    subst hH
    refine awp_block ?_
    have hl2 : a.length = b.length := by omega
    refine awp_loopV (fun n σ' H' => ∃ (i : Nat), n = a.length - i ∧ σ' 0 = σ3 0 ∧ σ' 1 = σ3 1 ∧ σ' 5 = (AV.int IntKind.i64) i ∧ H' = H ∧ (i ≤ a.length) ∧ (lessL a b = lexL (a.drop i) (b.drop i))) ?_ ?_
    · refine ⟨_, 0, rfl, rfl, rfl, (by simp [h5_3]), rfl, ?_, ?_⟩
      · first | omega | (simp; done) | assumption
      · rw [lessL, if_pos hl2]; rfl
    · rintro n1 σ4 H4 ⟨i, hn1, q0_4, q1_4, h5_4, hHq, p1, p2⟩
      have h0_4 := q0_4.trans h0_3
      have h1_4 := q1_4.trans h1_3
      replace hHq := hHq.symm
      subst hHq
      refine awp_seq ?_
      refine stp_reg TT_ok (by rfl) fun K hK => ?_
      simp [h0_4, h5_4, hl, beq_iff_eq.2 hl]
      try refine And.intro (by first | omega | rfl) ?_
      refine hK _ _ fun σ5 hσ H5 hH => ?_
      clear hK K
      have h0_5 := congrFun hσ 0
      have h1_5 := congrFun hσ 1
      have h5_5 := congrFun hσ 5
      have h19_5 := congrFun hσ 19
      simp [h0_4, h1_4, h5_4] at h0_5 h1_5 h5_5 h19_5
      clear hσ
      replace hH : H = H5 := Eq.symm hH
      subst hH
      refine awp_cond _ (by simp only [aeval_tmp]; exact h19_5) (fun hc19 => ?_) (fun hc19 => ?_)
      · try simp at hc19
        have hlt : i < a.length := by have := hc19; omega
        have hlt2 : i < b.length := by omega
        have hst := lexL_drop hl2 hlt
        refine awp_skip ?_
        refine q_seq ?_
        refine awp_seq ?_
        refine awp_block ?_
        by_cases he : a[i] = b[i]
        · skip
          refine stp_lex false TT_ok mixed (by rfl) (by rfl) (by kernel_rfl) (by rfl) fun U hU K hK => ?_
          simp [h0_5, h1_5, h5_5, hl, beq_iff_eq.2 hl, he, beq_iff_eq.2 he, hlt, hlt2]
          try refine And.intro (by first | omega | rfl) ?_
          refine hK _ _ _ (by subst hU; kernel_rfl) fun σ6 hσ H6 hH => ?_
          clear hK K hU U
          have h0_6 := congrFun hσ 0
          have h1_6 := congrFun hσ 1
          have h5_6 := congrFun hσ 5
          have h30_6 := congrFun hσ 30
          simp [h0_5, h1_5, h5_5] at h0_6 h1_6 h5_6 h30_6
          clear hσ
          replace hH : H = H6 := Eq.symm hH
          subst hH
          refine stp_false (by simp [aeval_tmp, h30_6, hl, beq_iff_eq.2 hl, he, beq_iff_eq.2 he]) ?_
          refine awp_skip ?_
          refine q_block ?_
          refine q_seq ?_
          refine stp_regl TT_ok (by rfl) fun K hK => ?_
          simp [h5_6, hl, beq_iff_eq.2 hl, he, beq_iff_eq.2 he, wrap_ok (n := (i : Int) + 1) (by omega) (by omega)]
          try refine And.intro (by first | omega | rfl) ?_
          refine hK _ _ fun σ7 hσ H7 hH => ?_
          clear hK K
          have h0_7 := congrFun hσ 0
          have h1_7 := congrFun hσ 1
          have h5_7 := congrFun hσ 5
          simp [h0_6, h1_6] at h0_7 h1_7 h5_7
          clear hσ
          replace hH : H = H7 := Eq.symm hH
          subst hH
          refine ⟨_, ?_, i + 1, rfl, (h0_7.trans h0_3.symm), (h1_7.trans h1_3.symm), (by simp [h5_7]), rfl, ?_, ?_⟩
          · subst hn1; omega
          · first | omega | assumption | (simp; done)
          · rw [p2, hst, if_pos he]
        · skip
          refine stp_lex false TT_ok mixed (by rfl) (by rfl) (by kernel_rfl) (by rfl) fun U hU K hK => ?_
          simp [h0_5, h1_5, h5_5, hl, beq_iff_eq.2 hl, he, beq_eq_false_iff_ne.2 he, hlt, hlt2]
          try refine And.intro (by first | omega | rfl) ?_
          refine hK _ _ _ (by subst hU; kernel_rfl) fun σ8 hσ H8 hH => ?_
          clear hK K hU U
          have h0_8 := congrFun hσ 0
          have h1_8 := congrFun hσ 1
          have h5_8 := congrFun hσ 5
          have h30_8 := congrFun hσ 30
          simp [h0_5, h1_5, h5_5] at h0_8 h1_8 h5_8 h30_8
          clear hσ
          replace hH : H = H8 := Eq.symm hH
          subst hH
          refine stp_true (by simp [aeval_tmp, h30_8, hl, beq_iff_eq.2 hl, he, beq_eq_false_iff_ne.2 he]) ?_
          refine stp_lex false TT_ok mixed (by rfl) (by rfl) (by kernel_rfl) (by rfl) fun U hU K hK => ?_
          simp [h0_8, h1_8, h5_8, hl, beq_iff_eq.2 hl, he, beq_eq_false_iff_ne.2 he, hlt, hlt2]
          try refine And.intro (by first | omega | rfl) ?_
          refine hK _ _ _ (by subst hU; kernel_rfl) fun σ9 hσ H9 hH => ?_
          clear hK K hU U
          have h4_9 := congrFun hσ 4
          simp [] at h4_9
          clear hσ
          replace hH : H = H9 := Eq.symm hH
          subst hH
          refine awp_ret ?_
          refine q_block_ret ?_
          refine q_seq_ret ?_
          refine q_loop_ret ?_
          refine q_block_ret ?_
          refine q_seq_ret ?_
          refine q_fin1 h4_9 ?_
          rw [p2, hst, if_neg he]
      · try simp at hc19
        refine awp_exit ?_
        refine q_seq_exit ?_
        refine q_loop_exit ?_
        refine q_block_hit ?_
        refine q_seq ?_
        refine stp_reg TT_ok (by rfl) fun K hK => ?_
        simp [hl, beq_iff_eq.2 hl]
        try refine And.intro (by first | omega | rfl) ?_
        refine hK _ _ fun σ10 hσ H10 hH => ?_
        clear hK K
        have h4_10 := congrFun hσ 4
        simp [] at h4_10
        clear hσ
        replace hH : H = H10 := Eq.symm hH
        subst hH
        refine awp_ret ?_
        refine q_fin1 h4_10 ?_
        have hie : i = a.length := by have := hc19; omega
        rw [p2, hie, List.drop_length] <;> simp [lexL]
  · skip
    refine stp_reg TT_ok (by rfl) fun K hK => ?_
    simp [h0_1, h1_1, hl, beq_eq_false_iff_ne.2 hl]
    try refine And.intro (by first | omega | rfl) ?_
    refine hK _ _ fun σ11 hσ H11 hH => ?_
    clear hK K
    have h0_11 := congrFun hσ 0
    have h1_11 := congrFun hσ 1
    have h10_11 := congrFun hσ 10
    simp [h0_1, h1_1] at h0_11 h1_11 h10_11
    clear hσ
    replace hH : H = H11 := Eq.symm hH
    subst hH
    refine stp_true (by simp [aeval_tmp, h10_11, hl, beq_eq_false_iff_ne.2 hl]) ?_
    refine stp_reg TT_ok (by rfl) fun K hK => ?_
    simp [h0_11, h1_11, hl, beq_eq_false_iff_ne.2 hl]
    try refine And.intro (by first | omega | rfl) ?_
    refine hK _ _ fun σ12 hσ H12 hH => ?_
    clear hK K
    have h4_12 := congrFun hσ 4
    simp [] at h4_12
    clear hσ
    replace hH : H = H12 := Eq.symm hH
    subst hH
    refine awp_ret ?_
    refine q_seq_ret ?_
    refine q_fin1 h4_12 ?_
    rw [lessL, if_neg (by omega)] <;> simp

theorem less_ok (a b : List Int) (ha : a.length ≤ 1000000) (hb : b.length ≤ 1000000) : Fun1 Try.prog 53 [.ro (a.map (AV.int IntKind.i64)), .ro (b.map (AV.int IntKind.i64))] (.bool (lessL a b)) :=
  fun1_pure (less0 a b ha hb) (pu_cons (pu_ints _) (pu_cons (pu_ints _) pu_nil)) (.bool _)

theorem ext_take {α : Type} {a b : List α} {i : Nat} (ha : i < a.length) (hb : i < b.length) (h : a.take i = b.take i) : a.take (i + 1) = b.take (i + 1) ↔ a[i] = b[i] := by
  rw [List.take_succ_eq_append_getElem ha, List.take_succ_eq_append_getElem hb, h]
  constructor
  · intro e; have := List.append_cancel_left e; simpa using this
  · intro e; rw [e]

set_option maxHeartbeats 1000000 in
theorem same0 (a b : List (List Int)) (ha : a.length ≤ 1000000) (hb : ∀ l ∈ a, l.length ≤ 1000000) : ACalls Try.prog 27 [encS a, encS b] AHeap.nil (fun r _ => r = .bool (decide (a = b))) := by
  refine acalls_body TT_ok Try.func27 rfl rfl (by simp [Try.ntmps27]) ?_
  rw [Try.ntmps27]
  obtain ⟨σ, hσ⟩ : ∃ σ, σ = st0 [encS a, encS b] := ⟨_, rfl⟩
  rw [← hσ]
  have h0_0 := congrFun hσ 0
  simp [st0] at h0_0
  have h1_0 := congrFun hσ 1
  simp [st0] at h1_0
  clear hσ
  obtain ⟨H, hH⟩ : ∃ H, H = AHeap.nil := ⟨_, rfl⟩
  rw [← hH]
  have hn_0 : H.n = 0 := by rw [hH]; rfl
  have hst_0 : H.st = 1 := by rw [hH]; rfl
  clear hH
  refine stp_reg TT_ok (by rfl) fun K hK => ?_
  simp [encS]
  try refine And.intro (by first | omega | rfl) ?_
  refine hK _ _ fun σ1 hσ H1 hH => ?_
  clear hK K
  have h0_1 := congrFun hσ 0
  have h1_1 := congrFun hσ 1
  simp [h0_0, h1_0] at h0_1 h1_1
  clear hσ
  replace hH : H = H1 := Eq.symm hH
  subst hH
  refine awp_seq ?_
  by_cases hl : (a.length : Int) = b.length
  · skip
    refine stp_reg TT_ok (by rfl) fun K hK => ?_
    simp [h0_1, h1_1, hl, beq_iff_eq.2 hl, encS]
    try refine And.intro (by first | omega | rfl) ?_
    refine hK _ _ fun σ2 hσ H2 hH => ?_
    clear hK K
    have h0_2 := congrFun hσ 0
    have h1_2 := congrFun hσ 1
    have h11_2 := congrFun hσ 11
    simp [h0_1, h1_1] at h0_2 h1_2 h11_2
    clear hσ
    replace hH : H = H2 := Eq.symm hH
    subst hH
    refine stp_false (by simp [aeval_tmp, h11_2, hl, beq_iff_eq.2 hl, encS]) ?_
    refine awp_skip ?_
    refine q_seq ?_
    refine awp_seq ?_
    refine stp_reg TT_ok (by rfl) fun K hK => ?_
    simp [hl, beq_iff_eq.2 hl, encS]
    try refine And.intro (by first | omega | rfl) ?_
    refine hK _ _ fun σ3 hσ H3 hH => ?_
    clear hK K
    have h0_3 := congrFun hσ 0
    have h1_3 := congrFun hσ 1
    have h5_3 := congrFun hσ 5
    simp [h0_2, h1_2] at h0_3 h1_3 h5_3
    clear hσ
    replace hH : H = H3 := Eq.symm hH
    subst hH
    refine awp_block ?_
    have hl2 : a.length = b.length := by omega
    refine awp_loopV (fun n σ' H' => ∃ (i : Nat), n = a.length - i ∧ σ' 0 = σ3 0 ∧ σ' 1 = σ3 1 ∧ σ' 5 = (AV.int IntKind.i64) i ∧ H' = H ∧ (i ≤ a.length) ∧ (a.take i = b.take i)) ?_ ?_
    · refine ⟨_, 0, rfl, rfl, rfl, (by simp [h5_3]), rfl, ?_, ?_⟩
      · first | omega | (simp; done) | assumption
      · rfl
    · rintro n1 σ4 H4 ⟨i, hn1, q0_4, q1_4, h5_4, hHq, p1, p2⟩
      have h0_4 := q0_4.trans h0_3
      have h1_4 := q1_4.trans h1_3
      replace hHq := hHq.symm
      subst hHq
      refine awp_seq ?_
      refine stp_reg TT_ok (by rfl) fun K hK => ?_
      simp [h0_4, h5_4, hl, beq_iff_eq.2 hl, encS]
      try refine And.intro (by first | omega | rfl) ?_
      refine hK _ _ fun σ5 hσ H5 hH => ?_
      clear hK K
      have h0_5 := congrFun hσ 0
      have h1_5 := congrFun hσ 1
      have h5_5 := congrFun hσ 5
      have h15_5 := congrFun hσ 15
      simp [h0_4, h1_4, h5_4] at h0_5 h1_5 h5_5 h15_5
      clear hσ
      replace hH : H = H5 := Eq.symm hH
      subst hH
      refine awp_cond _ (by simp only [aeval_tmp]; exact h15_5) (fun hc15 => ?_) (fun hc15 => ?_)
      · try simp at hc15
        have hlt : i < a.length := by have := hc15; omega
        have hlt2 : i < b.length := by omega
        obtain ⟨x, hx⟩ : ∃ x, a[i] = x := ⟨_, rfl⟩
        obtain ⟨y, hy⟩ : ∃ y, b[i] = y := ⟨_, rfl⟩
        have hxl := hb x (by rw [← hx]; exact List.getElem_mem hlt)
        have hxy := ext_take hlt hlt2 p2
        rw [hx, hy] at hxy
        have hno : ¬ x = y → ¬ a = b := fun h e => h (by subst e; exact hx.symm.trans hy)
        refine awp_skip ?_
        refine q_seq ?_
        refine awp_seq ?_
        refine awp_block ?_
        refine awp_seq ?_
        by_cases hm : (x.length : Int) = y.length
        · skip
          refine stp_lex false TT_ok mixed (by rfl) (by rfl) (by kernel_rfl) (by rfl) fun U hU K hK => ?_
          simp [h0_5, h1_5, h5_5, hl, beq_iff_eq.2 hl, hm, beq_iff_eq.2 hm, encS, hlt, hlt2, hx, hy]
          try refine And.intro (by first | omega | rfl) ?_
          refine hK _ _ _ (by subst hU; kernel_rfl) fun σ6 hσ H6 hH => ?_
          clear hK K hU U
          have h0_6 := congrFun hσ 0
          have h1_6 := congrFun hσ 1
          have h5_6 := congrFun hσ 5
          have h28_6 := congrFun hσ 28
          simp [h0_5, h1_5, h5_5] at h0_6 h1_6 h5_6 h28_6
          clear hσ
          replace hH : H = H6 := Eq.symm hH
          subst hH
          refine stp_false (by simp [aeval_tmp, h28_6, hl, beq_iff_eq.2 hl, hm, beq_iff_eq.2 hm, encS]) ?_
          refine awp_skip ?_
          refine q_seq ?_
          refine stp_reg TT_ok (by rfl) fun K hK => ?_
          simp [hl, beq_iff_eq.2 hl, hm, beq_iff_eq.2 hm, encS]
          try refine And.intro (by first | omega | rfl) ?_
          refine hK _ _ fun σ7 hσ H7 hH => ?_
          clear hK K
          have h0_7 := congrFun hσ 0
          have h1_7 := congrFun hσ 1
          have h5_7 := congrFun hσ 5
          have h6_7 := congrFun hσ 6
          simp [h0_6, h1_6, h5_6] at h0_7 h1_7 h5_7 h6_7
          clear hσ
          replace hH : H = H7 := Eq.symm hH
          subst hH
          refine awp_block ?_
          have hm2 : x.length = y.length := by omega
          refine awp_loopV (fun n σ' H' => ∃ (k : Nat), n = x.length - k ∧ σ' 0 = σ7 0 ∧ σ' 1 = σ7 1 ∧ σ' 5 = σ7 5 ∧ σ' 6 = (AV.int IntKind.i64) k ∧ H' = H ∧ (k ≤ x.length) ∧ (x.take k = y.take k)) ?_ ?_
          · refine ⟨_, 0, rfl, rfl, rfl, rfl, (by simp [h6_7]), rfl, ?_, ?_⟩
            · first | omega | (simp; done) | assumption
            · rfl
          · rintro n2 σ8 H8 ⟨k, hn2, q0_8, q1_8, q5_8, h6_8, hHq, q1, q2⟩
            have h0_8 := q0_8.trans h0_7
            have h1_8 := q1_8.trans h1_7
            have h5_8 := q5_8.trans h5_7
            replace hHq := hHq.symm
            subst hHq
            refine awp_seq ?_
            refine stp_reg TT_ok (by rfl) fun K hK => ?_
            simp [h0_8, h5_8, h6_8, hl, beq_iff_eq.2 hl, hm, beq_iff_eq.2 hm, encS, hlt, hlt2, hx, hy]
            try refine And.intro (by first | omega | rfl) ?_
            refine hK _ _ fun σ9 hσ H9 hH => ?_
            clear hK K
            have h0_9 := congrFun hσ 0
            have h1_9 := congrFun hσ 1
            have h5_9 := congrFun hσ 5
            have h6_9 := congrFun hσ 6
            have h35_9 := congrFun hσ 35
            simp [h0_8, h1_8, h5_8, h6_8] at h0_9 h1_9 h5_9 h6_9 h35_9
            clear hσ
            replace hH : H = H9 := Eq.symm hH
            subst hH
            refine awp_cond _ (by simp only [aeval_tmp]; exact h35_9) (fun hc35 => ?_) (fun hc35 => ?_)
            · try simp at hc35
              have hkt : k < x.length := by have := hc35; omega
              have hkt2 : k < y.length := by omega
              have hkk := ext_take hkt hkt2 q2
              refine awp_skip ?_
              refine q_seq ?_
              refine awp_seq ?_
              refine awp_block ?_
              by_cases he : x[k] = y[k]
              · skip
                refine stp_lex false TT_ok mixed (by rfl) (by rfl) (by kernel_rfl) (by rfl) fun U hU K hK => ?_
                simp [h0_9, h1_9, h5_9, h6_9, hl, beq_iff_eq.2 hl, hm, beq_iff_eq.2 hm, he, beq_iff_eq.2 he, encS, hlt, hlt2, hx, hy, hkt, hkt2]
                try refine And.intro (by first | omega | rfl) ?_
                refine hK _ _ _ (by subst hU; kernel_rfl) fun σ10 hσ H10 hH => ?_
                clear hK K hU U
                have h0_10 := congrFun hσ 0
                have h1_10 := congrFun hσ 1
                have h5_10 := congrFun hσ 5
                have h6_10 := congrFun hσ 6
                have h52_10 := congrFun hσ 52
                simp [h0_9, h1_9, h5_9, h6_9] at h0_10 h1_10 h5_10 h6_10 h52_10
                clear hσ
                replace hH : H = H10 := Eq.symm hH
                subst hH
                refine stp_false (by simp [aeval_tmp, h52_10, hl, beq_iff_eq.2 hl, hm, beq_iff_eq.2 hm, he, beq_iff_eq.2 he, encS]) ?_
                refine awp_skip ?_
                refine q_block ?_
                refine q_seq ?_
                refine stp_regl TT_ok (by rfl) fun K hK => ?_
                simp [h6_10, hl, beq_iff_eq.2 hl, hm, beq_iff_eq.2 hm, he, beq_iff_eq.2 he, encS, wrap_ok (n := (k : Int) + 1) (by omega) (by omega)]
                try refine And.intro (by first | omega | rfl) ?_
                refine hK _ _ fun σ11 hσ H11 hH => ?_
                clear hK K
                have h0_11 := congrFun hσ 0
                have h1_11 := congrFun hσ 1
                have h5_11 := congrFun hσ 5
                have h6_11 := congrFun hσ 6
                simp [h0_10, h1_10, h5_10] at h0_11 h1_11 h5_11 h6_11
                clear hσ
                replace hH : H = H11 := Eq.symm hH
                subst hH
                refine ⟨_, ?_, k + 1, rfl, (h0_11.trans h0_7.symm), (h1_11.trans h1_7.symm), (h5_11.trans h5_7.symm), (by simp [h6_11]), rfl, ?_, ?_⟩
                · subst hn2; omega
                · first | omega | assumption | (simp; done)
                · exact hkk.2 he
              · skip
                refine stp_lex false TT_ok mixed (by rfl) (by rfl) (by kernel_rfl) (by rfl) fun U hU K hK => ?_
                simp [h0_9, h1_9, h5_9, h6_9, hl, beq_iff_eq.2 hl, hm, beq_iff_eq.2 hm, he, beq_eq_false_iff_ne.2 he, encS, hlt, hlt2, hx, hy, hkt, hkt2]
                try refine And.intro (by first | omega | rfl) ?_
                refine hK _ _ _ (by subst hU; kernel_rfl) fun σ12 hσ H12 hH => ?_
                clear hK K hU U
                have h0_12 := congrFun hσ 0
                have h1_12 := congrFun hσ 1
                have h5_12 := congrFun hσ 5
                have h6_12 := congrFun hσ 6
                have h52_12 := congrFun hσ 52
                simp [h0_9, h1_9, h5_9, h6_9] at h0_12 h1_12 h5_12 h6_12 h52_12
                clear hσ
                replace hH : H = H12 := Eq.symm hH
                subst hH
                refine stp_true (by simp [aeval_tmp, h52_12, hl, beq_iff_eq.2 hl, hm, beq_iff_eq.2 hm, he, beq_eq_false_iff_ne.2 he, encS]) ?_
                refine stp_reg TT_ok (by rfl) fun K hK => ?_
                simp [hl, beq_iff_eq.2 hl, hm, beq_iff_eq.2 hm, he, beq_eq_false_iff_ne.2 he, encS]
                try refine And.intro (by first | omega | rfl) ?_
                refine hK _ _ fun σ13 hσ H13 hH => ?_
                clear hK K
                have h4_13 := congrFun hσ 4
                simp [] at h4_13
                clear hσ
                replace hH : H = H13 := Eq.symm hH
                subst hH
                refine awp_ret ?_
                refine q_block_ret ?_
                refine q_seq_ret ?_
                refine q_loop_ret ?_
                refine q_block_ret ?_
                refine q_block_ret ?_
                refine q_seq_ret ?_
                refine q_loop_ret ?_
                refine q_block_ret ?_
                refine q_seq_ret ?_
                refine q_fin1 h4_13 ?_
                have : ¬ a = b := hno fun e => he (by subst e; rfl)
                simp [this]
            · try simp at hc35
              have hke : k = x.length := by have := hc35; omega
              have hxe : x = y := by rw [hke, List.take_length] at q2; rw [hm2, List.take_length] at q2; exact q2
              refine awp_exit ?_
              refine q_seq_exit ?_
              refine q_loop_exit ?_
              refine q_block_hit ?_
              refine q_block ?_
              refine q_seq ?_
              refine stp_regl TT_ok (by rfl) fun K hK => ?_
              simp [h5_9, hl, beq_iff_eq.2 hl, hm, beq_iff_eq.2 hm, encS, wrap_ok (n := (i : Int) + 1) (by omega) (by omega)]
              try refine And.intro (by first | omega | rfl) ?_
              refine hK _ _ fun σ14 hσ H14 hH => ?_
              clear hK K
              have h0_14 := congrFun hσ 0
              have h1_14 := congrFun hσ 1
              have h5_14 := congrFun hσ 5
              simp [h0_9, h1_9] at h0_14 h1_14 h5_14
              clear hσ
              replace hH : H = H14 := Eq.symm hH
              subst hH
              refine ⟨_, ?_, i + 1, rfl, (h0_14.trans h0_3.symm), (h1_14.trans h1_3.symm), (by simp [h5_14]), rfl, ?_, ?_⟩
              · subst hn1; omega
              · first | omega | assumption | (simp; done)
              · exact hxy.2 hxe
        · skip
          refine stp_lex false TT_ok mixed (by rfl) (by rfl) (by kernel_rfl) (by rfl) fun U hU K hK => ?_
          simp [h0_5, h1_5, h5_5, hl, beq_iff_eq.2 hl, hm, beq_eq_false_iff_ne.2 hm, encS, hlt, hlt2, hx, hy]
          try refine And.intro (by first | omega | rfl) ?_
          refine hK _ _ _ (by subst hU; kernel_rfl) fun σ15 hσ H15 hH => ?_
          clear hK K hU U
          have h0_15 := congrFun hσ 0
          have h1_15 := congrFun hσ 1
          have h5_15 := congrFun hσ 5
          have h28_15 := congrFun hσ 28
          simp [h0_5, h1_5, h5_5] at h0_15 h1_15 h5_15 h28_15
          clear hσ
          replace hH : H = H15 := Eq.symm hH
          subst hH
          refine stp_true (by simp [aeval_tmp, h28_15, hl, beq_iff_eq.2 hl, hm, beq_eq_false_iff_ne.2 hm, encS]) ?_
          refine stp_reg TT_ok (by rfl) fun K hK => ?_
          simp [hl, beq_iff_eq.2 hl, hm, beq_eq_false_iff_ne.2 hm, encS]
          try refine And.intro (by first | omega | rfl) ?_
          refine hK _ _ fun σ16 hσ H16 hH => ?_
          clear hK K
          have h4_16 := congrFun hσ 4
          simp [] at h4_16
          clear hσ
          replace hH : H = H16 := Eq.symm hH
          subst hH
          refine awp_ret ?_
          refine q_seq_ret ?_
          refine q_block_ret ?_
          refine q_seq_ret ?_
          refine q_loop_ret ?_
          refine q_block_ret ?_
          refine q_seq_ret ?_
          refine q_fin1 h4_16 ?_
          have : ¬ a = b := hno fun e => hm (by rw [e])
          simp [this]
      · try simp at hc15
        refine awp_exit ?_
        refine q_seq_exit ?_
        refine q_loop_exit ?_
        refine q_block_hit ?_
        refine q_seq ?_
        refine stp_reg TT_ok (by rfl) fun K hK => ?_
        simp [hl, beq_iff_eq.2 hl, encS]
        try refine And.intro (by first | omega | rfl) ?_
        refine hK _ _ fun σ17 hσ H17 hH => ?_
        clear hK K
        have h4_17 := congrFun hσ 4
        simp [] at h4_17
        clear hσ
        replace hH : H = H17 := Eq.symm hH
        subst hH
        refine awp_ret ?_
        refine q_fin1 h4_17 ?_
        have hie : i = a.length := by have := hc15; omega
        have : a = b := by rw [hie, List.take_length] at p2; rw [hl2, List.take_length] at p2; exact p2
        simp [this]
  · skip
    refine stp_reg TT_ok (by rfl) fun K hK => ?_
    simp [h0_1, h1_1, hl, beq_eq_false_iff_ne.2 hl, encS]
    try refine And.intro (by first | omega | rfl) ?_
    refine hK _ _ fun σ18 hσ H18 hH => ?_
    clear hK K
    have h0_18 := congrFun hσ 0
    have h1_18 := congrFun hσ 1
    have h11_18 := congrFun hσ 11
    simp [h0_1, h1_1] at h0_18 h1_18 h11_18
    clear hσ
    replace hH : H = H18 := Eq.symm hH
    subst hH
    refine stp_true (by simp [aeval_tmp, h11_18, hl, beq_eq_false_iff_ne.2 hl, encS]) ?_
    refine stp_reg TT_ok (by rfl) fun K hK => ?_
    simp [hl, beq_eq_false_iff_ne.2 hl, encS]
    try refine And.intro (by first | omega | rfl) ?_
    refine hK _ _ fun σ19 hσ H19 hH => ?_
    clear hK K
    have h4_19 := congrFun hσ 4
    simp [] at h4_19
    clear hσ
    replace hH : H = H19 := Eq.symm hH
    subst hH
    refine awp_ret ?_
    refine q_seq_ret ?_
    refine q_fin1 h4_19 ?_
    have : ¬ a = b := fun e => hl (by rw [e])
    simp [this]

theorem same_w (a b : List (List Int)) (ha : a.length ≤ 1000000) (hb : ∀ l ∈ a, l.length ≤ 1000000) : FunW Try.prog 27 [encS a, encS b] (.bool (decide (a = b))) :=
  funW_pure (same0 a b ha hb) (pu_cons (pu_encS _) (pu_cons (pu_encS _) pu_nil)) (.bool _) (.bool _)
theorem same_ok (a b : List (List Int)) (ha : a.length ≤ 1000000) (hb : ∀ l ∈ a, l.length ≤ 1000000) : Fun1 Try.prog 27 [encS a, encS b] (.bool (decide (a = b))) :=
  fun1_pure (same0 a b ha hb) (pu_cons (pu_encS _) (pu_cons (pu_encS _) pu_nil)) (.bool _)

end Go.Proofs.Yteifhcohmipdcaa

/-
  THE GRAPH FUNCTIONS, 22: the reference's Reverse and groups. Conditions: none. (Printed by w22.py.)
-/
namespace Go.Proofs.Yteifhcohmipdcaa
open Go.Abs
set_option linter.unusedSimpArgs false
set_option linter.unusedVariables false

set_option maxHeartbeats 1000000 in
theorem refRev0 (g : Gr) : ACalls Try.prog 18 [encG g] AHeap.nil (fun r H => Frz H r (encG g.rev)) := by
  refine acalls_body TT_ok Try.func18 rfl rfl (by simp [Try.ntmps18]) ?_
  rw [Try.ntmps18]
  obtain ⟨σ, hσ⟩ : ∃ σ, σ = st0 [encG g] := ⟨_, rfl⟩
  rw [← hσ]
  have h0_0 := congrFun hσ 0
  simp [st0] at h0_0
  clear hσ
  obtain ⟨H, hH⟩ : ∃ H, H = AHeap.nil := ⟨_, rfl⟩
  rw [← hH]
  have hn_0 : H.n = 0 := by rw [hH]; rfl
  have hst_0 : H.st = 1 := by rw [hH]; rfl
  clear hH
  refine stp_reg TT_ok (by rfl) fun K hK => ?_
  simp [h0_0, hn_0, hst_0, encG]
  try refine And.intro (by first | omega | rfl) ?_
  refine hK _ _ fun σ1 hσ H1 hH => ?_
  clear hK K
  have h1_1 := congrFun hσ 1
  have h2_1 := congrFun hσ 2
  simp [] at h1_1 h2_1
  clear hσ
  have g0_1 := gt_of hH 0
  have g1_1 := gt_of hH 1
  simp [hn_0, hst_0] at g0_1 g1_1
  have hn_1 := congrArg AHeap.n hH
  simp [hn_0, hst_0] at hn_1
  have hst_1 := congrArg AHeap.st hH
  simp [hn_0, hst_0] at hst_1
  clear hH
  refine awp_seq ?_
  refine stp_reg TT_ok (by rfl) fun K hK => ?_
  simp [h1_1, g0_1, g1_1, encG]
  try refine And.intro (by first | omega | rfl) ?_
  refine stp_call (refValid_ok g) ?_
  simp [h1_1, g0_1, g1_1, encG]
  try refine And.intro (by first | omega | rfl) ?_
  refine hK _ _ fun σ2 hσ H2 hH => ?_
  clear hK K
  have h1_2 := congrFun hσ 1
  have h2_2 := congrFun hσ 2
  have h7_2 := congrFun hσ 7
  simp [h1_1, h2_1] at h1_2 h2_2 h7_2
  clear hσ
  replace hH : H1 = H2 := Eq.symm hH
  subst hH
  refine awp_cond _ (by simp only [aeval_tmp]; exact h7_2) (fun hc7 => ?_) (fun hc7 => ?_)
  · try simp at hc7
    refine stp_reg TT_ok (by rfl) fun K hK => ?_
    simp [h2_2, g0_1, g1_1, encG]
    try refine And.intro (by first | omega | rfl) ?_
    refine hK _ _ fun σ3 hσ H3 hH => ?_
    clear hK K
    have h2_3 := congrFun hσ 2
    simp [h2_2] at h2_3
    clear hσ
    have g0_3 := gt_of hH 0
    have g1_3 := gt_of hH 1
    simp [g0_1, g1_1, hn_1, hst_1] at g0_3 g1_3
    have hn_3 : H3.n = _ := (congrArg AHeap.n hH).trans hn_1
    have hst_3 : H3.st = _ := (congrArg AHeap.st hH).trans hst_1
    clear hH
    refine awp_ret ?_
    refine q_seq_ret ?_
    refine q_finC (H' := H3) (v := .agg [.nils, .nils]) (by rfl) (by simp [h2_3, g0_3, g1_3]) ?_
    rw [show g.rev = ⟨[], []⟩ by simp only [Gr.rev, hc7]; rfl]; exact frz_graph .nils .nils
  · try simp at hc7
    obtain ⟨hn1, hn2⟩ := valid_nodes hc7
    refine awp_skip ?_
    refine q_seq ?_
    refine stp_reg TT_ok (by rfl) fun K hK => ?_
    simp [h1_2, g0_1, g1_1, hn_1, hst_1, encG, show g.nodes.length * 16 ≤ 140737488355328 by omega, show g.nodes.length ≤ 9223372036854775807 by omega]
    try refine And.intro (by first | omega | rfl) ?_
    refine hK _ _ fun σ4 hσ H4 hH => ?_
    clear hK K
    have h1_4 := congrFun hσ 1
    have h2_4 := congrFun hσ 2
    have h3_4 := congrFun hσ 3
    simp [h1_2, h2_2] at h1_4 h2_4 h3_4
    clear hσ
    have g0_4 := gt_of hH 0
    have g1_4 := gt_of hH 1
    have g2_4 := gt_of hH 2
    have g3_4 := gt_of hH 3
    simp [g0_1, g1_1, hn_1, hst_1] at g0_4 g1_4 g2_4 g3_4
    have hn_4 := congrArg AHeap.n hH
    simp [hn_1, hst_1] at hn_4
    have hst_4 := congrArg AHeap.st hH
    simp [hn_1, hst_1] at hst_4
    clear hH
    refine awp_seq ?_
    refine stp_reg TT_ok (by rfl) fun K hK => ?_
    simp [g0_4, g1_4, g2_4, g3_4, encG]
    try refine And.intro (by first | omega | rfl) ?_
    refine hK _ _ fun σ5 hσ H5 hH => ?_
    clear hK K
    have h1_5 := congrFun hσ 1
    have h2_5 := congrFun hσ 2
    have h3_5 := congrFun hσ 3
    have h4_5 := congrFun hσ 4
    simp [h1_4, h2_4, h3_4] at h1_5 h2_5 h3_5 h4_5
    clear hσ
    replace hH : H4 = H5 := Eq.symm hH
    subst hH
    refine awp_block ?_
    refine awp_loopV (fun n σ' H' => ∃ (i : Nat) (v : AV), n = g.edges.length - i ∧ σ' 1 = σ5 1 ∧ σ' 2 = σ5 2 ∧ σ' 3 = σ5 3 ∧ σ' 4 = (AV.int IntKind.i64) i ∧ H'.get 0 = H4.get 0 ∧ H'.get 1 = H4.get 1 ∧ H'.get 2 = H4.get 2 ∧ H'.get 3 = some (.row 25 2 0 [.agg [.sl 2 1 0 g.nodes.length, v]]) ∧ H'.st = H4.st ∧ (i ≤ g.edges.length) ∧ (Own 39 2 4 (((g.edges.take i).map swapE).map encE) v H')) ?_ ?_
    · refine ⟨_, 0, .nils, rfl, rfl, rfl, rfl, (by simp [h4_5]), rfl, rfl, rfl, (by simp [g3_4]), rfl, ?_, ?_⟩
      · first | omega | (simp; done) | assumption
      · exact .inl ⟨rfl, by simp⟩
    · rintro n1 σ6 H6 ⟨i, v, hn1, q1_6, q2_6, q3_6, h4_6, qg0_6, qg1_6, qg2_6, g3_6, qst_6, p1, p2⟩
      have h1_6 := q1_6.trans h1_5
      have h2_6 := q2_6.trans h2_5
      have h3_6 := q3_6.trans h3_5
      have g0_6 := qg0_6.trans g0_4
      have g1_6 := qg1_6.trans g1_4
      have g2_6 := qg2_6.trans g2_4
      have hst_6 := qst_6.trans hst_4
      refine awp_seq ?_
      refine stp_reg TT_ok (by rfl) fun K hK => ?_
      simp [h1_6, h4_6, g0_6, g1_6, g2_6, g3_6, encG]
      try refine And.intro (by first | omega | rfl) ?_
      refine hK _ _ fun σ7 hσ H7 hH => ?_
      clear hK K
      have h1_7 := congrFun hσ 1
      have h2_7 := congrFun hσ 2
      have h3_7 := congrFun hσ 3
      have h4_7 := congrFun hσ 4
      have h18_7 := congrFun hσ 18
      simp [h1_6, h2_6, h3_6, h4_6] at h1_7 h2_7 h3_7 h4_7 h18_7
      clear hσ
      replace hH : H6 = H7 := Eq.symm hH
      subst hH
      refine awp_cond _ (by simp only [aeval_tmp]; exact h18_7) (fun hc18 => ?_) (fun hc18 => ?_)
      · try simp at hc18
        have hlt : i < g.edges.length := by simpa using hc18
        have hge : (g.edges.map encE)[i]? = some (encE g.edges[i]) := by simp [hlt]
        have hsn := map_take_succ (f := swapE) hlt
        have hln : (((g.edges.take i).map swapE).map encE).length = i := by simp; omega
        have hln2 : min i g.edges.length = i := by omega
        refine awp_skip ?_
        refine q_seq ?_
        refine awp_seq ?_
        refine awp_block ?_
        rcases p2 with ⟨rfl, hnil⟩ | ⟨id, gn, rfl, hb, hid⟩
        · skip
          have hi0 : i = 0 := by rw [hnil] at hln; simpa using hln.symm
          refine awp_ok fun hok => ?_
          obtain ⟨m8, hn_m8⟩ : ∃ m, H6.n = m := ⟨_, rfl⟩
          have hf_m8_15 := hok.free 15
          simp [hn_m8, hst_6] at hf_m8_15
          have nx1 := ne_get hf_m8_15 g0_6
          have nx2 := ne_get hf_m8_15 g1_6
          have nx3 := ne_get hf_m8_15 g2_6
          have nx4 := ne_get hf_m8_15 g3_6
          have hf_m8_16 := hok.free 16
          simp [hn_m8, hst_6] at hf_m8_16
          have nx5 := ne_get hf_m8_16 g0_6
          have nx6 := ne_get hf_m8_16 g1_6
          have nx7 := ne_get hf_m8_16 g2_6
          have nx8 := ne_get hf_m8_16 g3_6
          refine stp_lexl true TT_ok mixed (by rfl) (by rfl) (by kernel_rfl) (by rfl) fun U hU K hK => ?_
          simp [h1_7, h3_7, h4_7, g0_6, g1_6, g2_6, g3_6, hn_m8, hst_6, nx1, nx2, nx3, nx4, nx5, nx6, nx7, nx8, encG, hge, hlt, encE]
          try refine And.intro (by first | omega | rfl) ?_
          refine hK _ _ _ (by rw [hU.trans (by kernel_rfl : _ = [(0, 2), (1, 2), (0, 3), (1, 3), (0, 4), (1, 4), (2, 4), (3, 4), (0, 5), (1, 5), (0, 6), (1, 6), (0, 7), (1, 7), (0, 8), (1, 8), (2, 8), (3, 8), (4, 8), (5, 8), (6, 8), (7, 8), (0, 9), (1, 9), (2, 9), (3, 9), (4, 9), (5, 9), (6, 9), (7, 9), (0, 10), (1, 10), (2, 10), (3, 10), (4, 10), (5, 10), (6, 10), (7, 10), (8, 10), (9, 10), (0, 11), (1, 11), (2, 11), (3, 11), (4, 11), (5, 11), (6, 11), (7, 11), (0, 12), (1, 12), (2, 12), (3, 12), (4, 12), (5, 12), (6, 12), (7, 12), (0, 13), (1, 13), (2, 13), (3, 13), (4, 13), (5, 13), (6, 13), (7, 13), (0, 14), (1, 14), (0, 15), (1, 15)])]; simp [logOk, ftFree, h1_7, h3_7, h4_7, g0_6, g1_6, g2_6, g3_6, hn_m8, hst_6, nx1, nx2, nx3, nx4, nx5, nx6, nx7, nx8, encG, hge, hlt, encE]) fun σ9 hσ H9 hH => ?_
          clear hK K hU U
          have h1_9 := congrFun hσ 1
          have h2_9 := congrFun hσ 2
          have h3_9 := congrFun hσ 3
          have h4_9 := congrFun hσ 4
          simp [h1_7, h2_7, h3_7, h4_7] at h1_9 h2_9 h3_9 h4_9
          clear hσ
          have g0_9 := gt_of hH 0
          have g1_9 := gt_of hH 1
          have g2_9 := gt_of hH 2
          have g3_9 := gt_of hH 3
          have g_m8_15__9 := gt_of hH (m8 + 15)
          have g_m8_16__9 := gt_of hH (m8 + 16)
          simp [g0_6, g1_6, g2_6, g3_6, hn_m8, hst_6, nx1, nx2, nx3, nx4, nx5, nx6, nx7, nx8] at g0_9 g1_9 g2_9 g3_9 g_m8_15__9 g_m8_16__9
          have hst_9 := congrArg AHeap.st hH
          simp [hst_6] at hst_9
          clear hH
          refine q_block ?_
          refine q_seq ?_
          refine stp_regl TT_ok (by rfl) fun K hK => ?_
          simp [h4_9, g0_9, g1_9, g2_9, g3_9, g_m8_15__9, g_m8_16__9, nx1, nx2, nx3, nx4, nx5, nx6, nx7, nx8, encG, wrap_ok (n := (i : Int) + 1) (by omega) (by omega)]
          try refine And.intro (by first | omega | rfl) ?_
          refine hK _ _ fun σ10 hσ H10 hH => ?_
          clear hK K
          have h1_10 := congrFun hσ 1
          have h2_10 := congrFun hσ 2
          have h3_10 := congrFun hσ 3
          have h4_10 := congrFun hσ 4
          simp [h1_9, h2_9, h3_9] at h1_10 h2_10 h3_10 h4_10
          clear hσ
          replace hH : H9 = H10 := Eq.symm hH
          subst hH
          refine ⟨_, ?_, i + 1, .sl (m8 + 16) 0 0 1, rfl, (h1_10.trans h1_5.symm), (h2_10.trans h2_5.symm), (h3_10.trans h3_5.symm), (by simp [h4_10]), (g0_9.trans g0_4.symm), (g1_9.trans g1_4.symm), (g2_9.trans g2_4.symm), (by simp [g3_9]), (hst_9.trans hst_4.symm), ?_, ?_⟩
          · subst hn1; omega
          · first | omega | assumption | (simp; done)
          · exact Own.mk g_m8_16__9 (by rw [hsn, List.map_append, hnil]; simp [encE, swapE]) (by simp; omega) (by omega)
        · skip
          rw [hln] at g3_6
          have nx9 : ¬ id = 0 ∧ ¬ 0 = id := by omega
          have nx10 : ¬ id = 1 ∧ ¬ 1 = id := by omega
          have nx11 : ¬ id = 2 ∧ ¬ 2 = id := by omega
          have nx12 : ¬ id = 3 ∧ ¬ 3 = id := by omega
          refine awp_ok fun hok => ?_
          obtain ⟨m11, hn_m11⟩ : ∃ m, H6.n = m := ⟨_, rfl⟩
          have hf_m11_15 := hok.free 15
          simp [hn_m11, hst_6] at hf_m11_15
          have nx13 := ne_get hf_m11_15 g0_6
          have nx14 := ne_get hf_m11_15 g1_6
          have nx15 := ne_get hf_m11_15 g2_6
          have nx16 := ne_get hf_m11_15 g3_6
          have nx17 := ne_get hf_m11_15 hb
          refine stp_lexl true TT_ok mixed (by rfl) (by rfl) (by kernel_rfl) (by rfl) fun U hU K hK => ?_
          simp [h1_7, h3_7, h4_7, g0_6, g1_6, g2_6, g3_6, hb, hn_m11, hst_6, nx9, nx10, nx11, nx12, nx13, nx14, nx15, nx16, nx17, encG, hge, hlt, encE, hln, hln2, show (i + 1) * 16 ≤ 140737488355328 by omega, show i ≤ 9223372036854775806 by omega]
          try refine And.intro (by first | omega | rfl) ?_
          refine hK _ _ _ (by rw [hU.trans (by kernel_rfl : _ = [(0, 2), (1, 2), (0, 3), (1, 3), (0, 4), (1, 4), (2, 4), (3, 4), (0, 5), (1, 5), (0, 6), (1, 6), (0, 7), (1, 7), (0, 8), (1, 8), (2, 8), (3, 8), (4, 8), (5, 8), (6, 8), (7, 8), (0, 9), (1, 9), (2, 9), (3, 9), (4, 9), (5, 9), (6, 9), (7, 9), (0, 10), (1, 10), (2, 10), (3, 10), (4, 10), (5, 10), (6, 10), (7, 10), (8, 10), (9, 10), (0, 11), (1, 11), (2, 11), (3, 11), (4, 11), (5, 11), (6, 11), (7, 11), (0, 12), (1, 12), (2, 12), (3, 12), (4, 12), (5, 12), (6, 12), (7, 12), (0, 13), (1, 13), (2, 13), (3, 13), (4, 13), (5, 13), (6, 13), (7, 13), (0, 14), (1, 14), (0, 15), (1, 15)])]; simp [logOk, ftFree, h1_7, h3_7, h4_7, g0_6, g1_6, g2_6, g3_6, hb, hn_m11, hst_6, nx9, nx10, nx11, nx12, nx13, nx14, nx15, nx16, nx17, encG, hge, hlt, encE, hln, hln2, show (i + 1) * 16 ≤ 140737488355328 by omega, show i ≤ 9223372036854775806 by omega]) fun σ12 hσ H12 hH => ?_
          clear hK K hU U
          have h1_12 := congrFun hσ 1
          have h2_12 := congrFun hσ 2
          have h3_12 := congrFun hσ 3
          have h4_12 := congrFun hσ 4
          simp [h1_7, h2_7, h3_7, h4_7] at h1_12 h2_12 h3_12 h4_12
          clear hσ
          have g0_12 := gt_of hH 0
          have g1_12 := gt_of hH 1
          have g2_12 := gt_of hH 2
          have g3_12 := gt_of hH 3
          have gid_12 := gt_of hH id
          have g_m11_15__12 := gt_of hH (m11 + 15)
          simp [g0_6, g1_6, g2_6, g3_6, hb, hn_m11, hst_6, nx9, nx10, nx11, nx12, nx13, nx14, nx15, nx16, nx17] at g0_12 g1_12 g2_12 g3_12 gid_12 g_m11_15__12
          have hst_12 := congrArg AHeap.st hH
          simp [hst_6] at hst_12
          clear hH
          refine q_block ?_
          refine q_seq ?_
          refine stp_regl TT_ok (by rfl) fun K hK => ?_
          simp [h4_12, g0_12, g1_12, g2_12, g3_12, gid_12, g_m11_15__12, nx9, nx10, nx11, nx12, nx13, nx14, nx15, nx16, nx17, encG, wrap_ok (n := (i : Int) + 1) (by omega) (by omega)]
          try refine And.intro (by first | omega | rfl) ?_
          refine hK _ _ fun σ13 hσ H13 hH => ?_
          clear hK K
          have h1_13 := congrFun hσ 1
          have h2_13 := congrFun hσ 2
          have h3_13 := congrFun hσ 3
          have h4_13 := congrFun hσ 4
          simp [h1_12, h2_12, h3_12] at h1_13 h2_13 h3_13 h4_13
          clear hσ
          replace hH : H12 = H13 := Eq.symm hH
          subst hH
          refine ⟨_, ?_, i + 1, .sl id (gn + 1) 0 (i + 1), rfl, (h1_13.trans h1_5.symm), (h2_13.trans h2_5.symm), (h3_13.trans h3_5.symm), (by simp [h4_13]), (g0_12.trans g0_4.symm), (g1_12.trans g1_4.symm), (g2_12.trans g2_4.symm), (by simp [g3_12]), (hst_12.trans hst_4.symm), ?_, ?_⟩
          · subst hn1; omega
          · first | omega | assumption | (simp; done)
          · exact Own.mk gid_12 (by rw [hsn, List.map_append]; simp [encE, swapE, List.take_take]) (by simp; omega) (by omega)
      · try simp at hc18
        refine awp_exit ?_
        refine q_seq_exit ?_
        refine q_loop_exit ?_
        refine q_block_hit ?_
        refine q_seq ?_
        have hvo := p2.one
        simp [AV.one] at hvo
        have hie : i = g.edges.length := by have := hc18; omega
        subst hie
        rw [List.take_length] at p2
        refine stp_reg TT_ok (by rfl) fun K hK => ?_
        simp [h2_7, h3_7, g0_6, g1_6, g2_6, g3_6, encG, hvo]
        try refine And.intro (by first | omega | rfl) ?_
        refine hK _ _ fun σ14 hσ H14 hH => ?_
        clear hK K
        have h2_14 := congrFun hσ 2
        simp [h2_7] at h2_14
        clear hσ
        have g0_14 := gt_of hH 0
        have g1_14 := gt_of hH 1
        have g2_14 := gt_of hH 2
        have g3_14 := gt_of hH 3
        simp [g0_6, g1_6, g2_6, g3_6, hst_6] at g0_14 g1_14 g2_14 g3_14
        have hst_14 := congrArg AHeap.st hH
        simp [hst_6] at hst_14
        have hall : ∀ j, 4 ≤ j → H14.get j = H6.get j := fun j hj => by rw [hH, put_getH, if_neg (by omega)]
        clear hH
        refine awp_ret ?_
        refine q_finC (H' := H14) (v := .agg [.sl 2 1 0 g.nodes.length, v]) (by rfl) (by simp [h2_14, g0_14, g1_14, g2_14, g3_14]) ?_
        rw [rev_of hc7]; exact frz_graph (frz_row g2_14 (by simp) (fun x hx => by obtain ⟨b, _, rfl⟩ := List.mem_map.1 hx; exact .str _) (fun x hx v hv => by obtain ⟨b, _, rfl⟩ := List.mem_map.1 hx; simp only [AV.cells, List.mem_singleton] at hv; subst hv; rfl)) ((p2.keep hall).frz (fun _ => pu_of_edges) (fun _ => one_edge))

theorem refRev_ok (g : Gr) : Fun1 Try.prog 18 [encG g] (encG g.rev) := fun1_frz (refRev0 g) (pu_cons (pu_graph _) pu_nil) (pu_graph _)

end Go.Proofs.Yteifhcohmipdcaa

/-
  THE ABSTRACT LAYER, 25: what a call of plain data is handed, as abstract values; a law's row out of its contract. Conditions: none. Generic in the program.
-/
namespace Go.Abs
set_option linter.unusedSimpArgs false
set_option linter.unusedVariables false

/-- The cells of a value of plain data, by its type. -/
inductive Ty (T : TypeId → Option TE) : TypeId → List AV → Prop
  | bool {t : TypeId} {te : TE} {b : Bool} (h : T t = some te) (hk : te.kind = .bool) : Ty T t [.bool b]
  | int {t : TypeId} {te : TE} {k : IntKind} {n : Int} (h : T t = some te) (hk : te.kind = .int k) (hn : (Lit.int k n).wf = true) : Ty T t [.int k n]
  | str {t : TypeId} {te : TE} {s : ByteArray} (h : T t = some te) (hk : te.kind = .string) (hs : s.size ≤ maxLen) : Ty T t [.str s]
  | slice {t e : TypeId} {te ee : TE} {es : List AV} (h : T t = some te) (hk : te.kind = .slice e) (he : T e = some ee) (hl : es.length ≤ maxLen)
      (hx : ∀ x ∈ es, (∃ cs, x = .agg cs) ↔ ee.kind.agg = true) (hc : ∀ x ∈ es, x.cells.length = ee.size) (ht : ∀ x ∈ es, Ty T e x.cells) : Ty T t [.ro es]
  | struct {t : TypeId} {te : TE} {fs : List (Nat × TypeId)} {cs : List AV} (h : T t = some te) (hk : te.kind = .struct fs) (hl : cs.length = te.size)
      (hf : ∀ p ∈ fs, ∀ fe, T p.2 = some fe → Ty T p.2 ((cs.drop p.1).take fe.size)) : Ty T t cs

/-- Where the fields of a struct end, if they lie one behind the other. -/
def tile (T : TypeId → Option TE) : Nat → List (Nat × TypeId) → Option Nat
  | o, [] => some o
  | o, (p, t) :: r => match T t with | some te => if p = o then tile T (o + te.size) r else none | none => none
/-- A type of plain data. -/
def plainTy (T : TypeId → Option TE) : Nat → TypeId → Bool
  | 0, _ => false
  | n + 1, t => match T t with
    | some te => match te.kind with
      | .int _ | .bool | .string => te.size == 1
      | .slice e => te.size == 1 && plainTy T n e && (match T e with | some ee => decide (0 < ee.size) | none => false)
      | .struct fs => fs.all (fun p => plainTy T n p.2) && tile T 0 fs == some te.size
      | _ => false
    | none => false

/-- Cells that stand to abstract cells. -/
structure Good (G : Gh) (w : World) (cs : List Value) (avs : List AV) : Prop where
  len : avs.length = cs.length
  one : ∀ v ∈ avs, v.one = true
  pu : ∀ v ∈ avs, Pu v
  rel : ∀ (j : Nat) (v : AV) (c : Value), avs[j]? = some v → cs[j]? = some c → VRel G w v c
theorem Good.nil {G : Gh} {w : World} : Good G w [] [] := ⟨rfl, fun _ h => (nomatch h), fun _ h => (nomatch h), fun j v c h => by simp at h⟩
theorem Good.single {G : Gh} {w : World} {c : Value} {v : AV} (h1 : v.one = true) (hp : Pu v) (h : VRel G w v c) : Good G w [c] [v] :=
  ⟨rfl, fun x hx => (List.mem_singleton.1 hx) ▸ h1, fun x hx => (List.mem_singleton.1 hx) ▸ hp, fun j x y hx hy => by
    cases j with
    | zero => simp only [List.getElem?_cons_zero, Option.some.injEq] at hx hy; subst hx; subst hy; exact h
    | succ j => simp at hx⟩
theorem Good.append {G : Gh} {w : World} {cs ds : List Value} {avs bvs : List AV} (h : Good G w cs avs) (k : Good G w ds bvs) : Good G w (cs ++ ds) (avs ++ bvs) :=
  ⟨by simp [h.len, k.len], fun v hv => (List.mem_append.1 hv).elim (h.one v) (k.one v), fun v hv => (List.mem_append.1 hv).elim (h.pu v) (k.pu v), fun j v c hv hc => by
    rw [List.getElem?_append] at hv hc
    rw [h.len] at hv
    split at hv
    · rename_i hlt; rw [if_pos hlt] at hc; exact h.rel j v c hv hc
    · rename_i hlt; rw [if_neg hlt] at hc; exact k.rel _ v c hv hc⟩
section
variable {P : Program} {T : TypeId → Option TE}
theorem tile_ge : ∀ {fs : List (Nat × TypeId)} {o e : Nat}, tile T o fs = some e → o ≤ e
  | [], o, e, h => by simp [tile] at h; omega
  | (p, t) :: r, o, e, h => by
    simp only [tile] at h
    split at h
    · split at h
      · have := tile_ge h; omega
      · cases h
    · cases h
theorem tile_mem : ∀ {fs : List (Nat × TypeId)} {o e : Nat}, tile T o fs = some e → ∀ p ∈ fs, ∃ te, T p.2 = some te ∧ o ≤ p.1 ∧ p.1 + te.size ≤ e
  | [], o, e, h => fun p hp => by cases hp
  | (p, t) :: r, o, e, h => by
    simp only [tile] at h
    split at h
    · rename_i te hte
      split at h
      · rename_i hpo
        subst hpo
        intro q hq
        rcases List.mem_cons.1 hq with rfl | hq
        · exact ⟨te, hte, Nat.le_refl _, tile_ge h⟩
        · obtain ⟨fe, h1, h2, h3⟩ := tile_mem h q hq
          exact ⟨fe, h1, by omega, h3⟩
      · cases h
    · cases h
/-- The fields' cells, one behind the other. -/
theorem tile_good {G : Gh} {w : World} {cs : List Value} : ∀ (fs : List (Nat × TypeId)) (o e : Nat), tile T o fs = some e → e ≤ cs.length →
    (∀ p ∈ fs, ∀ fe, T p.2 = some fe → ∃ avs, Ty T p.2 avs ∧ Good G w ((cs.drop p.1).take fe.size) avs) →
    ∃ avs, Good G w ((cs.drop o).take (e - o)) avs ∧ ∀ p ∈ fs, ∀ fe, T p.2 = some fe → Ty T p.2 ((avs.drop (p.1 - o)).take fe.size)
  | [], o, e, h, hle, hf => by
    simp only [tile, Option.some.injEq] at h
    subst h
    exact ⟨[], by rw [Nat.sub_self]; exact Good.nil, fun p hp => by cases hp⟩
  | (p, t) :: r, o, e, h, hle, hf => by
    simp only [tile] at h
    split at h
    · rename_i te hte
      split at h
      · rename_i hpo
        subst hpo
        have hge := tile_ge h
        obtain ⟨avs, ha, hb⟩ := hf (p, t) (by simp) te hte
        obtain ⟨bvs, hc, hd⟩ := tile_good r (p + te.size) e h hle fun q hq => hf q (List.mem_cons_of_mem _ hq)
        have hal : avs.length = te.size := by rw [hb.len, List.length_take, List.length_drop]; simp only; omega
        refine ⟨avs ++ bvs, ?_, ?_⟩
        · have : (cs.drop p).take (e - p) = (cs.drop p).take te.size ++ (cs.drop (p + te.size)).take (e - (p + te.size)) := by
            rw [← List.drop_drop, show e - p = te.size + (e - (p + te.size)) by omega, List.take_add]
          rw [this]; exact hb.append hc
        · intro q hq fe hfe
          rcases List.mem_cons.1 hq with rfl | hq
          · simp only at hfe ⊢
            rw [hte] at hfe; cases hfe
            rw [Nat.sub_self, List.drop_zero, ← hal, List.take_left]; exact ha
          · obtain ⟨fe', q1, q2, q3⟩ := tile_mem h q hq
            have := hd q hq fe hfe
            rw [List.drop_append, List.drop_of_length_le (by omega), List.nil_append, hal, show q.1 - p - te.size = q.1 - (p + te.size) by omega]
            exact this
      · cases h
    · cases h
theorem cellsOf_of (hT : TOK P T) {t : TypeId} {te : TE} (h : T t = some te) : P.cellsOf t = te.size := by
  obtain ⟨i, z, h1, h2, _⟩ := hT.info h
  simp [Program.cellsOf, h1, h2]
/-- FROM A READING TO ABSTRACT CELLS: all that the reading meets is immutable. -/
theorem open_cells (hT : TOK P T) {H : Type} {enc : TypeId × Value → H} {G : Gh} {w : World} (hI : ∀ b, b < w.heap.size → G.I b) : ∀ (n fuel : Nat) (t : TypeId) (cs : List Value) (x : DataW H × List MemPlace),
    plainTy T n t = true → DataW.trod enc P w 0 (fun _ => true) true fuel t cs = some x → ∃ avs, Ty T t avs ∧ Good G w cs avs
  | 0, _, _, _, _, h, _ => by cases h
  | n + 1, fuel, t, cs, x, h, hx => by
    have hcell : ∀ a v, w.cell? a = some v → a.block < w.heap.size := fun a v ha => by
      rcases Nat.lt_or_ge a.block w.heap.size with h | h
      · exact h
      · rw [World.cell?, Array.getElem?_eq_none h] at ha; cases ha
    simp only [plainTy] at h
    cases hte : T t with
    | none => simp [hte] at h
    | some te =>
      simp only [hte] at h
      have hkk := hT.kind hte
      cases hk : te.kind with
      | int k =>
        rw [hk] at hkk
        obtain ⟨m, rfl, _, hwf⟩ := DataW.trod_int hkk hx
        exact ⟨[.int k m], .int hte hk hwf, .single rfl (.int _ _) (.int _ _)⟩
      | bool =>
        rw [hk] at hkk
        obtain ⟨b, rfl, _⟩ := DataW.trod_bool hkk hx
        exact ⟨[.bool b], .bool hte hk, .single rfl (.bool _) (.bool _)⟩
      | string =>
        rw [hk] at hkk
        obtain ⟨s, rfl, _, hs⟩ := DataW.trod_string hkk hx
        exact ⟨[.str s], .str hte hk hs, .single rfl (.str _) (.str _)⟩
      | slice e =>
        rw [hk] at hkk
        simp only [hk, Bool.and_eq_true] at h
        obtain ⟨⟨_, hpe⟩, hpos⟩ := h
        cases hee : T e with
        | none => simp [hee] at hpos
        | some ee =>
          simp only [hee, decide_eq_true_eq] at hpos
          have hce := cellsOf_of hT hee
          rcases DataW.trod_slice hkk hx with ⟨rfl, _⟩ | ⟨a, len, cap, elems, rest, m, rfl, rfl, _, _, hlc, hcm, hel, helem, hsp, _⟩
          · exact ⟨[.ro []], .slice hte hk hee (Nat.zero_le _) (fun x hx => by cases hx) (fun x hx => by cases hx) (fun x hx => by cases hx), .single rfl (.ro fun v hv => by cases hv) (.ronil _)⟩
          · -- each element's cells
            have each : ∀ i, i < len → ∃ avs cs', Ty T e avs ∧ Good G w cs' avs ∧ cs'.length = ee.size ∧ ∀ j, j < ee.size → w.cell? ((a.add (i * ee.size)).add j) = cs'[j]? := by
              intro i hi
              have h1 := helem i hi
              have h2 : elems[i]? = some elems[i] := by rw [List.getElem?_eq_getElem]
              rw [h2, Option.bind_eq_some_iff] at h1
              obtain ⟨cs', h3, h4⟩ := h1
              rw [hce] at h3
              obtain ⟨_, h5, h6⟩ := World.cells?_some h3
              obtain ⟨avs, h7, h8⟩ := open_cells hT hI n m e cs' _ hpe h4
              exact ⟨avs, cs', h7, h8, h5, h6⟩
            have hmk : ∀ (avs : List AV), (ee.kind.agg = false → avs.length = 1) → (∀ v ∈ avs, v.one = true) → ∃ x : AV, x.cells = avs ∧ ((∃ cs, x = .agg cs) ↔ ee.kind.agg = true) := by
              intro avs h1 h2
              cases hg : ee.kind.agg with
              | true => exact ⟨.agg avs, rfl, by simp⟩
              | false =>
                obtain ⟨v, rfl⟩ := List.length_eq_one_iff.1 (h1 hg)
                have h3 := h2 v (by simp)
                exact ⟨v, one_cells h3, ⟨fun ⟨cs, hcs⟩ => by subst hcs; simp [AV.one] at h3, fun h => by cases h⟩⟩
            have hagg : ee.kind.agg = false → ee.size = 1 := by
              intro hg
              cases n with
              | zero => simp [plainTy] at hpe
              | succ n =>
                simp only [plainTy, hee] at hpe
                cases hek : ee.kind <;> simp [hek, TK.agg] at hpe hg <;> first | exact hpe | exact hpe.1.1
            have all : ∃ (es : List AV), es.length = len ∧ ∀ i x, es[i]? = some x → ((∃ cs, x = .agg cs) ↔ ee.kind.agg = true) ∧ ∃ cs', Ty T e x.cells ∧ Good G w cs' x.cells ∧ cs'.length = ee.size ∧ ∀ j, j < ee.size → w.cell? ((a.add (i * ee.size)).add j) = cs'[j]? := by
              have go : ∀ k, k ≤ len → ∃ (es : List AV), es.length = k ∧ ∀ i x, es[i]? = some x → ((∃ cs, x = .agg cs) ↔ ee.kind.agg = true) ∧ ∃ cs', Ty T e x.cells ∧ Good G w cs' x.cells ∧ cs'.length = ee.size ∧ ∀ j, j < ee.size → w.cell? ((a.add (i * ee.size)).add j) = cs'[j]? := by
                intro k
                induction k with
                | zero => exact fun _ => ⟨[], rfl, fun i x h => by simp at h⟩
                | succ k ih =>
                  intro hk
                  obtain ⟨es, h1, h2⟩ := ih (by omega)
                  obtain ⟨avs, cs', h3, h4, h5, h6⟩ := each k (by omega)
                  obtain ⟨x, h7, h8⟩ := hmk avs (fun hg => by rw [h4.len, h5, hagg hg]) h4.one
                  refine ⟨es ++ [x], by simp [h1], fun i y hy => ?_⟩
                  rw [List.getElem?_append] at hy
                  split at hy
                  · exact h2 i y hy
                  · rename_i hlt
                    have hi : i = k := by
                      have := (List.getElem?_eq_some_iff.1 hy).1
                      simp at this; omega
                    subst hi
                    rw [h1, Nat.sub_self] at hy
                    simp only [List.getElem?_cons_zero, Option.some.injEq] at hy
                    subst hy
                    exact ⟨h8, cs', by rw [h7]; exact h3, by rw [h7]; exact h4, h5, h6⟩
              exact go len (Nat.le_refl _)
            obtain ⟨es, hesl, hes⟩ := all
            have hmem : ∀ x ∈ es, ∃ i, es[i]? = some x := fun x hx => List.mem_iff_getElem?.1 hx
            refine ⟨[.ro es], .slice hte hk hee (by omega) (fun x hx => ?_) (fun x hx => ?_) (fun x hx => ?_), .single rfl (.ro fun v hv => ?_) ?_⟩
            · obtain ⟨i, hi⟩ := hmem x hx; exact (hes i x hi).1
            · obtain ⟨i, hi⟩ := hmem x hx; obtain ⟨_, cs', _, h2, h3, _⟩ := hes i x hi; rw [h2.len, h3]
            · obtain ⟨i, hi⟩ := hmem x hx; obtain ⟨_, cs', h1, _⟩ := hes i x hi; exact h1
            · obtain ⟨i, hi⟩ := hmem v hv
              obtain ⟨h1, cs', _, h2, _⟩ := hes i v hi
              by_cases hg : ∃ cs, v = .agg cs
              · obtain ⟨cs, rfl⟩ := hg; exact .agg h2.pu
              · have : v.cells = [v] := by cases v <;> first | rfl | exact absurd ⟨_, rfl⟩ hg
                exact h2.pu v (by rw [this]; simp)
            · cases hes0 : es with
              | nil =>
                have hl0 : len = 0 := by rw [← hesl, hes0]; rfl
                subst hl0
                by_cases hc0 : cap = 0
                · subst hc0; exact .ronil _
                · obtain ⟨_, hr⟩ := hsp rfl
                  obtain ⟨h0, h1⟩ := hsp rfl
                  have h1 := h1 0 (by omega)
                  have h2 : rest[0]? = some (rest[0]'(by omega)) := by rw [List.getElem?_eq_getElem]
                  rw [h2, Option.bind_eq_some_iff] at h1
                  obtain ⟨cs', h3, _⟩ := h1
                  rw [hce] at h3
                  obtain ⟨_, h5, h6⟩ := World.cells?_some h3
                  have h7 := h6 0 hpos
                  obtain ⟨b, o, sp⟩ := a
                  have : sp = none := by
                    cases sp with
                    | none => rfl
                    | some s =>
                      rw [show cs'[0]? = some (cs'[0]'(by omega)) from by rw [List.getElem?_eq_getElem]] at h7
                      simp only [World.cell?, Addr.add] at h7
                      split at h7
                      · simp at h7
                      · cases h7
                  subst this
                  exact VRel.ro (es := []) (sz := 1) (f := fun _ => Go.undef) (by simp) (by simp) (by simp) (by simp) (Nat.zero_le _)
              | cons e0 er =>
                rw [← hes0]
                have hlen : 0 < len := by rw [← hesl, hes0]; simp
                have hsp0 : a.spot = none := by
                  obtain ⟨_, cs', _, h2, h5, h6⟩ := hes 0 e0 (by rw [hes0]; rfl)
                  have h7 := h6 0 hpos
                  cases hs : a.spot with
                  | none => rfl
                  | some s =>
                    rw [show cs'[0]? = some (cs'[0]'(by omega)) from by rw [List.getElem?_eq_getElem]] at h7
                    simp only [World.cell?, Addr.add] at h7
                    split at h7
                    · simp [hs] at h7
                    · cases h7
                obtain ⟨b, o, sp⟩ := a
                simp only at hsp0
                subst hsp0
                rw [← hesl]
                refine VRel.ro (sz := ee.size) (f := fun k => (w.cell? ⟨b, o + k, none⟩).getD Go.undef) (fun x hx => ?_) (fun x hx => ?_) (fun k hk => ?_) (fun i x j v hx hv => ?_) (by omega)
                · obtain ⟨i, hi⟩ := hmem x hx; obtain ⟨_, cs', _, h2, h3, _⟩ := hes i x hi; rw [h2.len, h3]
                · obtain ⟨i, hi⟩ := hmem x hx; obtain ⟨_, cs', _, h2, h3, _⟩ := hes i x hi; exact h2.one
                · have hi : k / ee.size < es.length := Nat.div_lt_of_lt_mul (by rw [Nat.mul_comm]; exact hk)
                  have hm : k % ee.size < ee.size := Nat.mod_lt _ hpos
                  obtain ⟨_, cs', _, h2, h3, h4⟩ := hes (k / ee.size) es[k / ee.size] (by rw [List.getElem?_eq_getElem])
                  have h5 := h4 (k % ee.size) hm
                  rw [show cs'[k % ee.size]? = some (cs'[k % ee.size]'(by omega)) from by rw [List.getElem?_eq_getElem]] at h5
                  have h6 : ((Addr.mk b o none).add (k / ee.size * ee.size)).add (k % ee.size) = ⟨b, o + k, none⟩ := by
                    have := Nat.div_add_mod k ee.size
                    rw [Nat.mul_comm] at this
                    rw [Addr.add_lit, Addr.add_lit, Nat.add_assoc, this]
                  rw [h6] at h5
                  exact ⟨hI _ (hcell _ _ h5), by rw [h5]; rfl⟩
                · obtain ⟨_, cs', _, h2, h3, h4⟩ := hes i x hx
                  have hj : j < ee.size := by rw [← h3, ← h2.len]; exact (List.getElem?_eq_some_iff.1 hv).1
                  have h5 := h4 j hj
                  have h6 : ((Addr.mk b o none).add (i * ee.size)).add j = ⟨b, o + (i * ee.size + j), none⟩ := by
                    rw [Addr.add_lit, Addr.add_lit, Nat.add_assoc]
                  rw [h6] at h5
                  rw [show cs'[j]? = some (cs'[j]'(by omega)) from by rw [List.getElem?_eq_getElem]] at h5
                  rw [h5, Option.getD_some]
                  exact h2.rel j v _ hv (by rw [List.getElem?_eq_getElem])
      | struct fs =>
        rw [hk] at hkk
        simp only [hk, Bool.and_eq_true, List.all_eq_true, beq_iff_eq] at h
        obtain ⟨hall, htile⟩ := h
        obtain ⟨fields, hu, rfl, _⟩ := hkk
        obtain ⟨xs, m, rfl, _, hlen, hxl, hfield⟩ := DataW.trod_struct hu hx
        rw [cellsOf_of hT hte] at hlen
        obtain ⟨avs, h1, h2⟩ := tile_good (G := G) (w := w) (cs := cs) _ 0 te.size htile (by omega) (by
          intro p hp fe hfe
          obtain ⟨f, hf, rfl⟩ := List.mem_map.1 hp
          obtain ⟨i, hi⟩ := List.mem_iff_getElem?.1 hf
          have hi' : fields[i]? = some f := by simpa using hi
          have h3 := hfield i f hi'
          have hil : i < xs.length := by rw [hxl]; exact (Array.getElem?_eq_some_iff.1 hi').1
          rw [show xs[i]? = some xs[i] from by rw [List.getElem?_eq_getElem], cellsOf_of hT hfe] at h3
          exact open_cells hT hI n m f.type _ _ (hall _ hp) h3)
        rw [Nat.sub_zero, List.drop_zero, List.take_of_length_le (by omega)] at h1
        exact ⟨avs, .struct hte hk (by rw [h1.len, hlen]) (fun p hp fe hfe => by have := h2 p hp fe hfe; rwa [Nat.sub_zero] at this), h1⟩
      | map k e => simp [hk] at h
      | pointer => simp [hk] at h
      | func => simp [hk] at h
      | other => simp [hk] at h

/-! ### The arguments of a call -/
def TyV (T : TypeId → Option TE) (t : TypeId) (v : AV) : Prop := Ty T t v.cells ∧ ∀ te, T t = some te → ((∃ cs, v = .agg cs) ↔ te.kind.agg = true)
def Args (T : TypeId → Option TE) : List TypeId → List AV → Prop
  | [], [] => True
  | t :: ts, v :: vs => TyV T t v ∧ Args T ts vs
  | _, _ => False
def baseG (w : World) : Gh := { dom := fun _ => False, gm := fun _ => 0, blk := fun _ _ => 0, base := fun _ _ => 0, cap := fun _ _ => 0, sz := fun _ => 0, I := fun b => b < w.heap.size }
theorem baseG_rel (w : World) : Rel (baseG w) AHeap.nil w :=
  ⟨⟨Nat.one_pos, fun _ => rfl⟩, fun _ h => h.elim, fun id b h => by simp [AHeap.nil] at h, fun i j a b h => by simp [AHeap.nil] at h, fun i a h => by simp [AHeap.nil] at h, fun b hb => hb⟩
theorem open_val (hT : TOK P T) {H : Type} {enc : TypeId × Value → H} {w : World} {n base : Nat} {t : TypeId} {v : Value} {d : DataW H} {ps : List MemPlace}
    (hp : plainTy T n t = true) (hok : Value.okWide P w .any base t v) (h : DataW.Trod enc P w 0 (fun _ => true) true t v d ps) : ∃ a, TyV T t a ∧ Pu a ∧ VRel (baseG w) w a v := by
  obtain ⟨fuel, h⟩ := h
  obtain ⟨avs, h1, h2⟩ := open_cells hT (G := baseG w) (fun b hb => hb) n fuel t _ _ hp h
  cases n with
  | zero => cases hp
  | succ n =>
    simp only [plainTy] at hp
    cases hte : T t with
    | none => simp [hte] at hp
    | some te =>
      simp only [hte] at hp
      have hkk := hT.kind hte
      have one : (∀ cs, v ≠ .agg cs) → te.kind.agg = false → ∃ a, TyV T t a ∧ Pu a ∧ VRel (baseG w) w a v := by
        intro hna hg
        have hv : v.cells = #[v] := by cases v <;> first | rfl | exact absurd rfl (hna _)
        rw [hv] at h2
        obtain ⟨a, rfl⟩ := List.length_eq_one_iff.1 (show avs.length = 1 from h2.len)
        have ha := h2.one a (by simp)
        refine ⟨a, ⟨by rw [one_cells ha]; exact h1, fun te' hte' => ?_⟩, h2.pu a (by simp), h2.rel 0 a v rfl rfl⟩
        rw [hte] at hte'; cases hte'
        exact ⟨fun ⟨cs, hcs⟩ => by subst hcs; simp [AV.one] at ha, fun h => by rw [hg] at h; cases h⟩
      cases hk : te.kind with
      | int k =>
        rw [hk] at hkk; simp only [KOK] at hkk
        exact one (fun cs e => by subst e; simp [Value.okWide, hkk, Cell.okWide, Cell.ok] at hok) (by rw [hk]; rfl)
      | bool =>
        rw [hk] at hkk; simp only [KOK] at hkk
        exact one (fun cs e => by subst e; simp [Value.okWide, hkk, Cell.okWide, Cell.ok] at hok) (by rw [hk]; rfl)
      | string =>
        rw [hk] at hkk; simp only [KOK] at hkk
        exact one (fun cs e => by subst e; simp [Value.okWide, hkk, Cell.okWide, Cell.ok] at hok) (by rw [hk]; rfl)
      | slice e =>
        rw [hk] at hkk; simp only [KOK] at hkk
        exact one (fun cs e => by subst e; simp [Value.okWide, hkk, Cell.okWide, Cell.ok] at hok) (by rw [hk]; rfl)
      | struct fs =>
        rw [hk] at hkk
        obtain ⟨fields, hu, _, _⟩ := hkk
        simp only [Value.okWide, hu] at hok
        obtain ⟨cs, rfl, _, _⟩ := hok
        refine ⟨.agg avs, ⟨h1, fun te' hte' => ?_⟩, .agg h2.pu, .agg (by simpa [Value.cells] using h2.len.symm) h2.one (fun j v c hv hc => h2.rel j v c hv (by simpa [Value.cells] using hc))⟩
        rw [hte] at hte'; cases hte'
        simp [hk, TK.agg]
      | map k e => simp [hk] at hp
      | pointer => simp [hk] at hp
      | func => simp [hk] at hp
      | other => simp [hk] at hp
theorem open_args (hT : TOK P T) {H : Type} {enc : TypeId × Value → H} {w : World} {n base : Nat} : ∀ {ts : List TypeId} {vs : List Value} {ds : List (DataW H)} {ps : List MemPlace},
    (∀ t ∈ ts, plainTy T n t = true) → (∀ (j : Nat) (t : TypeId) (v : Value), ts[j]? = some t → vs[j]? = some v → Value.okWide P w .any base t v) → DataW.TrodAll enc P w 0 (fun _ => true) true ts vs ds ps →
    ∃ avs : List AV, Args T ts avs ∧ avs.length = vs.length ∧ ds.length = ts.length ∧ (∀ a ∈ avs, Pu a) ∧ (∀ (j : Nat) (a : AV) (c : Value), avs[j]? = some a → vs[j]? = some c → VRel (baseG w) w a c)
  | [], [], [], ps, _, _, _ => ⟨[], trivial, rfl, rfl, fun a h => (nomatch h), fun j a c h => by simp at h⟩
  | t :: ts, v :: vs, d :: ds, ps, hp, hok, h => by
    obtain ⟨p, q, h1, h2, _⟩ := h
    obtain ⟨a, ha, hpa, hva⟩ := open_val hT (hp t (by simp)) (hok 0 t v rfl rfl) h1
    obtain ⟨avs, k1, k2, k3, k4, k5⟩ := open_args hT (fun t' h' => hp t' (List.mem_cons_of_mem _ h')) (fun j t' v' hj hv => hok (j + 1) t' v' (by simpa using hj) (by simpa using hv)) h2
    refine ⟨a :: avs, ⟨ha, k1⟩, by simp [k2], by simp [k3], fun x hx => ?_, fun j x c hx hc => ?_⟩
    · rcases List.mem_cons.1 hx with rfl | hx
      · exact hpa
      · exact k4 x hx
    · cases j with
      | zero => simp only [List.getElem?_cons_zero, Option.some.injEq] at hx hc; subst hx; subst hc; exact hva
      | succ j => exact k5 j x c (by simpa using hx) (by simpa using hc)
  | [], _ :: _, _, _, _, _, h => by cases h
  | [], [], _ :: _, _, _, _, h => by cases h
  | _ :: _, [], _, _, _, _, h => by cases h
  | _ :: _, _ :: _, [], _, _, _, h => by cases h
theorem below_args {H : Type} {enc : TypeId × Value → H} (hl : laidOutB P = true) {w w' : World} (hb : RowKit.Below w.heap.size w w') : ∀ {ts : List TypeId} {vs : List Value} {ds : List (DataW H)} {ps : List MemPlace},
    (∀ t ∈ ts, P.readableRec t = true ∧ t < P.types.size) → DataW.TrodAll enc P w 0 (fun _ => true) true ts vs ds ps → DataW.TrodAll enc P w' 0 (fun b => decide (b < w.heap.size)) true ts vs ds ps
  | [], [], [], ps, _, h => h
  | t :: ts, v :: vs, d :: ds, ps, hp, h => by
    obtain ⟨p, q, h1, h2, h3⟩ := h
    have hlt : ∀ x ∈ p, x.block < w.heap.size := by obtain ⟨m, hm⟩ := h1; exact DataW.trod_lt m _ _ _ hm
    exact ⟨p, q, RowKit.Below.trod hl (hp t (by simp)).1 (hp t (by simp)).2 h1 hb hlt, below_args hl hb (fun t' h' => hp t' (List.mem_cons_of_mem _ h')) h2, h3⟩
  | [], _ :: _, _, _, _, h => by cases h
  | [], [], _ :: _, _, _, h => by cases h
  | _ :: _, [], _, _, _, h => by cases h
  | _ :: _, _ :: _, [], _, _, h => by cases h
/-- A LAW: it answers true, whatever plain data it is handed, and leaves all as it was. -/
theorem law_calls (hT : TOK P T) (hl : laidOutB P = true) {H : Type} {enc : TypeId × Value → H} {f : FuncId} {fn : Func} {s : ChangeSpec} {tb : TypeId} {n : Nat} (hvars : s.vars = []) (hres : fn.resultTypes = #[tb]) (hb : P.underlying tb = some .bool)
    (hp : ∀ t ∈ fn.params.toList, plainTy T n t = true ∧ P.readableRec t = true ∧ t < P.types.size) (hs : ∀ ds : List (DataW H), ds.length = fn.params.size → s.fn H ds = { results := [.lit (.bool true)], args := ds })
    (hlaw : ∀ avs, Args T fn.params.toList avs → (∀ a ∈ avs, Pu a) → ACalls P f avs AHeap.nil fun r _ => r = .bool true)
    {W : World} {base : Nat} {args : Array Value} {ds gs : List (DataW H)} {before : List MemPlace} (hval : ∀ (j : Nat) t v, fn.params[j]? = some t → args[j]? = some v → Value.okWide P W .any base t v)
    (hW : DataW.Whole enc P fn.params.toList s.vars false W args.toList ds gs before) : Calls P f args W fun e W' => ∃ v, e = .returned v ∧ s.post enc P fn false true false false W args v W' := by
  have hW0 := hW
  obtain ⟨p, q, hA, hV, rfl, _, _⟩ := hW
  obtain ⟨avs, k1, k2, k3, k4, k5⟩ := open_args hT (base := base) (fun t ht => (hp t ht).1) (fun j t v hj hv => hval j t v (by simpa using hj) (by simpa using hv)) hA
  rw [hvars] at hV
  have hgs : gs = [] ∧ q = [] := by
    cases gs with
    | nil => exact ⟨rfl, hV⟩
    | cons => cases hV
  obtain ⟨rfl, rfl⟩ := hgs
  refine ((hlaw avs k1 k4).2 (baseG W) W args (baseG_rel W) (by simpa using k2.symm) (fun j a c hj hc => k5 j a c hj (by simpa using hc))).mono ?_
  rintro e W' ⟨v, r, H', G', rfl, rfl, hv, hg⟩
  cases hv
  have hbel : RowKit.Below W.heap.size W W' := ⟨hg.fr.os, hg.fr.tape, hg.fr.output, hg.fr.size, fun b hb => hg.fr.block b hb (fun i a ha => by simp [AHeap.nil] at ha)⟩
  have hdl : ds.length = fn.params.size := by simpa using k3
  refine ⟨_, rfl, ds, [], _, [], p, [], hW0, ?_, ?_, ?_, hbel.frame _, fun h => by cases h⟩
  · rw [List.append_nil, hs ds hdl, hres]
    exact ChangeShapes.trodAll_mk1 (RowKit.shut_bool hb _)
  · rw [List.append_nil, hs ds hdl]
    exact below_args hl hbel (fun t ht => (hp t ht).2) hA
  · rw [List.append_nil, hs ds hdl, hvars]; rfl
end
end Go.Abs

/-
  THE ABSTRACT LAYER, 26: what a function that was called from the empty heap owns may be left alone from some point on. Conditions: none. Generic in the program.
-/
namespace Go.Abs
set_option linter.unusedSimpArgs false
set_option linter.unusedVariables false
section
variable {P : Program} {T : TypeId → Option TE} {nt : Nat} {c y : Code} {σ : St} {H : AHeap} {Q : APost}
/-- A piece of code of a function that was entered with the empty heap. -/
def AWPt (P : Program) (nt : Nat) (c : Code) (σ : St) (H : AHeap) (Q : APost) : Prop :=
  ∀ (F : Fence) (G0 G : Gh) (a : Act) (w0 w : World) (B : Nat), (∀ id, ¬ G0.dom id) → B ≤ w0.heap.size → Wide F false → Run G0 AHeap.nil w0 G H w → TRel G w σ a nt → Marks B G w a.defers →
    c.wpIn F 0 P (Post Q nt B G0 AHeap.nil w0) a w
theorem AWP.of_top (h : AWPt P nt c σ AHeap.nil Q) : AWP P false nt c σ AHeap.nil Q :=
  fun F G a w B hB hF hr ht hm => h F G G a w w B (fun id hd => hr.dom id hd rfl) hB hF (Run.refl hr) ht hm
theorem AWPt.of_awp (h : AWP P false nt c σ H Q) : AWPt P nt c σ H Q :=
  fun F G0 G a w0 w B _ hB hF hrun ht hm => wpIn_mono (h F G a w B (Nat.le_trans hB hrun.fr.size) hF hrun.rel ht hm) fun e a' w' ⟨x, σ', H', G', h1, h2, h3, h4, h5⟩ =>
    ⟨x, σ', H', G', h1, h2, h3, hrun.trans h4, h5⟩
theorem AWPt.seq (h : AWP P false nt c σ H fun e σ' H' => e = .normal ∧ AWPt P nt y σ' H' Q) : AWPt P nt (.seq c y) σ H Q := by
  intro F G0 G a w0 w B h0 hB hF hrun ht hm
  refine wpIn_seq (wpIn_mono (h F G a w B (Nat.le_trans hB hrun.fr.size) hF hrun.rel ht hm) ?_)
  rintro e a' w' ⟨x, σ', H', G', rfl, ⟨rfl, h2⟩, h3, h4, h5⟩
  exact h2 F G0 G' a' w0 w' B h0 hB hF (hrun.trans h4) h3 h5
theorem AWPt.freeze (σ' : St) (hf : ∀ t, σ' t = .undef ∨ (Frz H (σ t) (σ' t) ∧ Pu (σ' t))) (h : AWPt P nt c σ' AHeap.nil Q) : AWPt P nt c σ H Q := by
  intro F G0 G a w0 w B h0 hB hF hrun ht hm
  have hr := hrun.rel
  have hn : Rel { (G.freeze H) with dom := fun _ => False } AHeap.nil w :=
    ⟨⟨Nat.one_pos, fun _ => rfl⟩, fun _ h => h.elim, fun id b h => by simp [AHeap.nil] at h, fun i j a b h => by simp [AHeap.nil] at h, fun i a h => by simp [AHeap.nil] at h, fun b hb => by
      rcases hb with hb | ⟨i, a, ha, rfl⟩
      · exact hr.ilt b hb
      · exact hr.lt ha⟩
  refine h F G0 { (G.freeze H) with dom := fun _ => False } a w0 w B h0 hB hF ⟨hn, ⟨fun id hd => (h0 id hd).elim, fun id hd => (h0 id hd).elim, fun id hd => (h0 id hd).elim, fun id g hd => (h0 id hd).elim, fun id g hd => (h0 id hd).elim, fun id g hd => (h0 id hd).elim, fun b hb => .inl (hrun.ext.I b hb)⟩, hrun.fr, fun i a ha => by simp [AHeap.nil] at ha, fun b hb => ?_⟩ ⟨ht.size, fun t => ?_⟩ ?_
  · rcases hb with hb | ⟨i, a, ha, rfl⟩
    · exact hrun.imm b hb
    · rcases hrun.own i a ha with h1 | ⟨j, b, hb, _⟩
      · exact .inr (.inl h1)
      · simp [AHeap.nil] at hb
  · rcases hf t with h1 | ⟨h1, h2⟩
    · rw [h1]; exact .undef _
    · exact (VRel.freeze hr h1 (ht.tmp t)).toI h2 _ (fun b hb => hb)
  · obtain ⟨rs, h1, h2, h3⟩ := hm
    exact ⟨rs, h1, h2, fun r hr' => ⟨⟨.inl (h3 r hr').1.1, (h3 r hr').1.2⟩, (h3 r hr').2⟩⟩
theorem stp_regT (hT : TOK P T) {id : Nat} {ops : Array Oper} (hd : dstOk nt ops.toList = true)
    (h : ∀ K : St → AHeap → Prop, (∀ σ H, (∀ σ', σ' = σ → ∀ H', H' = H → AWPt P nt y σ' H' Q) → K σ H) → aSeq P T ops.toList ops.toList σ H K) : AWPt P nt (.seq (.region id ops false) y) σ H Q :=
  AWPt.seq (stp_regl hT hd fun K hK => h K fun σ H h => hK σ H fun σ' h1 H' h2 => ⟨rfl, h σ' h1 H' h2⟩)
end
end Go.Abs

/-
  THE GRAPH FUNCTIONS, plain law 21: the example that each law checks first. Conditions: none.
-/
namespace Go.Proofs.Yteifhcohmipdcaa
open Go.Abs
def g0 : Gr := ⟨List.replicate 5 ByteArray.empty, [(0, 1), (1, 2), (2, 1), (2, 3), (4, 3)]⟩
theorem g0_valid : g0.valid = true := by kernel_rfl
theorem g0_comps : g0.gcomps = [[3], [1, 2], [0], [4]] := by kernel_rfl
theorem g0_path : g0.path 0 3 = [0, 1, 2, 3] := by kernel_rfl
theorem g0_cyc : g0.pcycle = [1, 2] := by kernel_rfl
theorem g0_reach : (g0.rev.reach [3]).length = 5 := by kernel_rfl
theorem g0_lv2 : (lv2 g0.cedges g0.comps g0.order).2 = [[3], [1, 2, 4], [0]] := by kernel_rfl
theorem g0_levels : g0.glevels = [[3], [1, 2, 4], [0]] := by
  rw [Gr.glevels, g0_valid, if_pos rfl, g0_lv2]
  have s1 : ∀ x : Int, sortI [x] = [x] := fun x => by simp [sortI]
  have s2 : sortI [1, 2, 4] = [1, 2, 4] := List.mergeSort_of_pairwise (by decide)
  simp [s1, s2]
end Go.Proofs.Yteifhcohmipdcaa

/-
  THE GRAPH FUNCTIONS, 26: the example that each law checks first is as the document says. Conditions: none. (Printed by w26.py.)
-/
namespace Go.Proofs.Yteifhcohmipdcaa
open Go.Abs
set_option linter.unusedSimpArgs false
set_option linter.unusedVariables false
/-- A row of rows of numbers that the call owns, as it reads. -/
theorem frz_rows {H : AHeap} {id g n : Nat} {e : TypeId} {vs : List AV} {ls : List (List Int)} (hb : H.get id = some (.row e 1 g vs)) (hn : n = vs.length) (h : FrzL H vs (roS ls)) (h1 : ∀ v ∈ vs, v.one = true) : Frz H (.sl id g 0 n) (encS ls) := by
  subst hn
  refine .sl (fs := roS ls) hb (by simp) h.1.symm (fun j x y hx hy q u v hu hv => ?_) (fun y hy => ?_) (fun y hy v hv => ?_)
  · rw [Nat.zero_add] at hx
    have ho := h1 x (List.mem_of_getElem? hx)
    have hy1 : y.cells = [y] := by
      obtain ⟨l, _, rfl⟩ := List.mem_map.1 (List.mem_of_getElem? hy); rfl
    rw [one_cells ho] at hu
    rw [hy1] at hv
    cases q with
    | zero => simp at hu hv; subst hu; subst hv; exact h.2 j _ _ hx hy
    | succ q => simp at hu
  · obtain ⟨l, hl2, rfl⟩ := List.mem_map.1 hy
    cases vs with
    | nil => cases ls with
      | nil => cases hl2
      | cons => exact absurd h.1 (by simp [roS])
    | cons x xs => exact ⟨x, by simp, by rw [one_cells (h1 x (by simp))]; rfl⟩
  · obtain ⟨l, hl2, rfl⟩ := List.mem_map.1 hy
    simp [AV.cells] at hv; subst hv; rfl
theorem rng3 : ([0, 1, 2] : List Nat) = List.range 3 := rfl
theorem rng4 : ([0, 1, 2, 3] : List Nat) = List.range 4 := rfl

set_option maxHeartbeats 1000000 in
theorem awake0  : ACalls Try.prog 10 [] AHeap.nil (fun r _ => r = .bool true) := by
  refine acalls_body TT_ok Try.func10 rfl rfl (by simp [Try.ntmps10]) ?_
  rw [Try.ntmps10]
  obtain ⟨σ, hσ⟩ : ∃ σ, σ = st0 [] := ⟨_, rfl⟩
  rw [← hσ]
  clear hσ
  refine AWP.of_top ?_
  obtain ⟨H, hH⟩ : ∃ H, H = AHeap.nil := ⟨_, rfl⟩
  rw [← hH]
  have hn_0 : H.n = 0 := by rw [hH]; rfl
  have hst_0 : H.st = 1 := by rw [hH]; rfl
  clear hH
  refine stp_regT TT_ok (by rfl) fun K hK => ?_
  simp []
  try refine And.intro (by first | omega | rfl) ?_
  refine hK _ _ fun σ1 hσ H1 hH => ?_
  clear hK K
  clear hσ
  replace hH : H = H1 := Eq.symm hH
  subst hH
  refine stp_regT TT_ok (by rfl) fun K hK => ?_
  simp [hn_0, hst_0]
  try refine And.intro (by first | omega | rfl) ?_
  refine hK _ _ fun σ2 hσ H2 hH => ?_
  clear hK K
  have h1_2 := congrFun hσ 1
  simp [] at h1_2
  clear hσ
  have g0_2 := gt_of hH 0
  have g1_2 := gt_of hH 1
  have g2_2 := gt_of hH 2
  simp [hn_0, hst_0] at g0_2 g1_2 g2_2
  have hn_2 := congrArg AHeap.n hH
  simp [hn_0, hst_0] at hn_2
  have hst_2 := congrArg AHeap.st hH
  simp [hn_0, hst_0] at hst_2
  clear hH
  refine AWPt.freeze (fun t : Nat => if t = 1 then .rop (encG g0).cells else AV.undef) (fun t => ?_) ?_
  · skip
    split
    · rename_i e; subst e; right; rw [h1_2]
      refine ⟨?_, .rop (by have h := pu_graph g0; cases h with | agg h => exact h)⟩
      refine frz_box (by assumption) (FrzL.cons ?_ (FrzL.cons ?_ (FrzL.nil _))) (by simp [encG, AV.cells, AV.one])
      exact frz_row (es := g0.nodes.map .str) (by first | assumption | exact g0_2) rfl (fun x hx => by obtain ⟨y, _, rfl⟩ := List.mem_map.1 hx; exact .str _) (fun _ => one_strs)
      exact frz_row (es := g0.edges.map encE) (by first | assumption | exact g1_2) rfl (fun _ => pu_of_edges) (fun _ => one_edge)
    · skip
      exact .inl rfl
  refine AWPt.of_awp ?_
  obtain ⟨σ3, hσ⟩ : ∃ s, s = (fun t : Nat => if t = 1 then .rop (encG g0).cells else AV.undef) := ⟨_, rfl⟩
  rw [← hσ]
  have h1_3 := congrFun hσ 1
  simp at h1_3
  clear hσ
  obtain ⟨H3, hH⟩ : ∃ H, H = AHeap.nil := ⟨_, rfl⟩
  rw [← hH]
  have hn_3 : H3.n = 0 := by rw [hH]; rfl
  have hst_3 : H3.st = 1 := by rw [hH]; rfl
  clear hH
  refine stp_reg TT_ok (by rfl) fun K hK => ?_
  simp [h1_3, hn_3, hst_3, g0_valid, g0_comps, g0_levels, g0_path, g0_cyc, g0_reach, rng3, rng4, encG]
  try refine And.intro (by first | omega | rfl) ?_
  refine stp_call (valid_ok g0) ?_
  simp [h1_3, hn_3, hst_3, g0_valid, g0_comps, g0_levels, g0_path, g0_cyc, g0_reach, rng3, rng4, encG]
  try refine And.intro (by first | omega | rfl) ?_
  refine stp_call (comps_ok g0) ?_
  simp [h1_3, hn_3, hst_3, g0_valid, g0_comps, g0_levels, g0_path, g0_cyc, g0_reach, rng3, rng4, encG]
  try refine And.intro (by first | omega | rfl) ?_
  refine FunW.at (same_w [[3], [1, 2], [0], [4]] [[3], [1, 2], [0], [4]] (by simp) (by simp)) ?hf ?_
  case hf => exact (FrzL.cons (Frz.pure (pu_encS _)) (FrzL.cons (frz_rows (id := 4) (g := 0) (e := 26) (vs := [.sl 0 0 0 1, .sl 1 0 0 2, .sl 2 0 0 1, .sl 3 0 0 1]) (ls := [[3], [1, 2], [0], [4]]) (by simp [h1_3, hn_3, hst_3, g0_valid, g0_comps, g0_levels, g0_path, g0_cyc, g0_reach, rng3, rng4, encG]) rfl (FrzL.cons (frz_ints (id := 0) (g := 0) (e := 3) (xs := [3]) (by simp [h1_3, hn_3, hst_3, g0_valid, g0_comps, g0_levels, g0_path, g0_cyc, g0_reach, rng3, rng4, encG]) rfl) (FrzL.cons (frz_ints (id := 1) (g := 0) (e := 3) (xs := [1, 2]) (by simp [h1_3, hn_3, hst_3, g0_valid, g0_comps, g0_levels, g0_path, g0_cyc, g0_reach, rng3, rng4, encG]) rfl) (FrzL.cons (frz_ints (id := 2) (g := 0) (e := 3) (xs := [0]) (by simp [h1_3, hn_3, hst_3, g0_valid, g0_comps, g0_levels, g0_path, g0_cyc, g0_reach, rng3, rng4, encG]) rfl) (FrzL.cons (frz_ints (id := 3) (g := 0) (e := 3) (xs := [4]) (by simp [h1_3, hn_3, hst_3, g0_valid, g0_comps, g0_levels, g0_path, g0_cyc, g0_reach, rng3, rng4, encG]) rfl) (FrzL.nil _))))) (by simp [AV.one])) (FrzL.nil _)))
  simp [h1_3, hn_3, hst_3, g0_valid, g0_comps, g0_levels, g0_path, g0_cyc, g0_reach, rng3, rng4, encG]
  try refine And.intro (by first | omega | rfl) ?_
  refine stp_call (levels_ok g0) ?_
  simp [h1_3, hn_3, hst_3, g0_valid, g0_comps, g0_levels, g0_path, g0_cyc, g0_reach, rng3, rng4, encG]
  try refine And.intro (by first | omega | rfl) ?_
  refine FunW.at (same_w [[3], [1, 2, 4], [0]] [[3], [1, 2, 4], [0]] (by simp) (by simp)) ?hf ?_
  case hf => exact (FrzL.cons (Frz.pure (pu_encS _)) (FrzL.cons (frz_rows (id := 8) (g := 0) (e := 26) (vs := [.sl 5 0 0 1, .sl 6 0 0 3, .sl 7 0 0 1]) (ls := [[3], [1, 2, 4], [0]]) (by simp [h1_3, hn_3, hst_3, g0_valid, g0_comps, g0_levels, g0_path, g0_cyc, g0_reach, rng3, rng4, encG]) rfl (FrzL.cons (frz_ints (id := 5) (g := 0) (e := 3) (xs := [3]) (by simp [h1_3, hn_3, hst_3, g0_valid, g0_comps, g0_levels, g0_path, g0_cyc, g0_reach, rng3, rng4, encG]) rfl) (FrzL.cons (frz_ints (id := 6) (g := 0) (e := 3) (xs := [1, 2, 4]) (by simp [h1_3, hn_3, hst_3, g0_valid, g0_comps, g0_levels, g0_path, g0_cyc, g0_reach, rng3, rng4, encG]) rfl) (FrzL.cons (frz_ints (id := 7) (g := 0) (e := 3) (xs := [0]) (by simp [h1_3, hn_3, hst_3, g0_valid, g0_comps, g0_levels, g0_path, g0_cyc, g0_reach, rng3, rng4, encG]) rfl) (FrzL.nil _)))) (by simp [AV.one])) (FrzL.nil _)))
  simp [h1_3, hn_3, hst_3, g0_valid, g0_comps, g0_levels, g0_path, g0_cyc, g0_reach, rng3, rng4, encG]
  try refine And.intro (by first | omega | rfl) ?_
  refine stp_call (path_ok g0 0 3) ?_
  simp [h1_3, hn_3, hst_3, g0_valid, g0_comps, g0_levels, g0_path, g0_cyc, g0_reach, rng3, rng4, encG]
  try refine And.intro (by first | omega | rfl) ?_
  refine FunW.at (equalI_w [0, 1, 2, 3] [0, 1, 2, 3] (by simp)) ?hf ?_
  case hf => exact (FrzL.cons (Frz.pure (pu_ints [0, 1, 2, 3])) (FrzL.cons (frz_ints (id := 9) (g := 0) (e := 3) (xs := [0, 1, 2, 3]) (by simp [h1_3, hn_3, hst_3, g0_valid, g0_comps, g0_levels, g0_path, g0_cyc, g0_reach, rng3, rng4, encG]) rfl) (FrzL.nil _)))
  simp [h1_3, hn_3, hst_3, g0_valid, g0_comps, g0_levels, g0_path, g0_cyc, g0_reach, rng3, rng4, encG]
  try refine And.intro (by first | omega | rfl) ?_
  refine stp_call (cycle_ok g0) ?_
  simp [h1_3, hn_3, hst_3, g0_valid, g0_comps, g0_levels, g0_path, g0_cyc, g0_reach, rng3, rng4, encG]
  try refine And.intro (by first | omega | rfl) ?_
  refine FunW.at (equalI_w [1, 2] [1, 2] (by simp)) ?hf ?_
  case hf => exact (FrzL.cons (Frz.pure (pu_ints [1, 2])) (FrzL.cons (frz_ints (id := 10) (g := 0) (e := 3) (xs := [1, 2]) (by simp [h1_3, hn_3, hst_3, g0_valid, g0_comps, g0_levels, g0_path, g0_cyc, g0_reach, rng3, rng4, encG]) rfl) (FrzL.nil _)))
  simp [h1_3, hn_3, hst_3, g0_valid, g0_comps, g0_levels, g0_path, g0_cyc, g0_reach, rng3, rng4, encG]
  try refine And.intro (by first | omega | rfl) ?_
  refine stp_call (reverse_ok g0) ?_
  simp [h1_3, hn_3, hst_3, g0_valid, g0_comps, g0_levels, g0_path, g0_cyc, g0_reach, rng3, rng4, encG]
  try refine And.intro (by first | omega | rfl) ?_
  refine FunW.at (reach_w g0.rev [3] (by simp)) ?hf ?_
  case hf => exact (FrzL.cons (Frz.pure (pu_graph _)) (FrzL.cons (frz_ints (id := 11) (g := 0) (e := 3) (xs := [3]) (by simp [h1_3, hn_3, hst_3, g0_valid, g0_comps, g0_levels, g0_path, g0_cyc, g0_reach, rng3, rng4, encG]) rfl) (FrzL.nil _)))
  simp [h1_3, hn_3, hst_3, g0_valid, g0_comps, g0_levels, g0_path, g0_cyc, g0_reach, rng3, rng4, encG]
  try refine And.intro (by first | omega | rfl) ?_
  refine hK _ _ fun σ4 hσ H4 hH => ?_
  clear hK K
  have h0_4 := congrFun hσ 0
  simp [] at h0_4
  clear hσ
  have hn_4 := congrArg AHeap.n hH
  simp [hn_3, hst_3] at hn_4
  have hst_4 := congrArg AHeap.st hH
  simp [hn_3, hst_3] at hst_4
  clear hH
  refine awp_ret ?_
  refine q_fin1 h0_4 ?_
  first | rfl | (simp; done)

end Go.Proofs.Yteifhcohmipdcaa

/-
  THE ABSTRACT LAYER, 27: plain data by its type, taken apart. Conditions: none. Generic in the program.
-/
namespace Go.Abs
set_option linter.unusedSimpArgs false
set_option linter.unusedVariables false
section
variable {T : TypeId → Option TE} {t : TypeId} {te : TE} {v : AV}
theorem TyV.one (h : TyV T t v) (ht : T t = some te) (hk : te.kind.agg = false) : v.cells = [v] := by
  have := (h.2 te ht)
  cases v <;> first | rfl | (rw [hk] at this; exact absurd (this.1 ⟨_, rfl⟩) (by simp))
theorem TyV.int {k : IntKind} (h : TyV T t v) (ht : T t = some te) (hk : te.kind = .int k) : ∃ n, v = .int k n ∧ (Lit.int k n).wf = true := by
  have h1 := h.1
  rw [h.one ht (by rw [hk]; rfl)] at h1
  generalize hc : [v] = cs at h1
  cases h1 with
  | int h2 h3 h4 => rw [ht] at h2; cases h2; rw [hk] at h3; cases h3; simp at hc; exact ⟨_, hc, h4⟩
  | bool h2 h3 => rw [ht] at h2; cases h2; rw [hk] at h3; cases h3
  | str h2 h3 => rw [ht] at h2; cases h2; rw [hk] at h3; cases h3
  | slice h2 h3 => rw [ht] at h2; cases h2; rw [hk] at h3; cases h3
  | struct h2 h3 => rw [ht] at h2; cases h2; rw [hk] at h3; cases h3
theorem TyV.bool (h : TyV T t v) (ht : T t = some te) (hk : te.kind = .bool) : ∃ b, v = .bool b := by
  have h1 := h.1
  rw [h.one ht (by rw [hk]; rfl)] at h1
  generalize hc : [v] = cs at h1
  cases h1 with
  | bool h2 h3 => simp at hc; exact ⟨_, hc⟩
  | int h2 h3 => rw [ht] at h2; cases h2; rw [hk] at h3; cases h3
  | str h2 h3 => rw [ht] at h2; cases h2; rw [hk] at h3; cases h3
  | slice h2 h3 => rw [ht] at h2; cases h2; rw [hk] at h3; cases h3
  | struct h2 h3 => rw [ht] at h2; cases h2; rw [hk] at h3; cases h3
theorem TyV.str (h : TyV T t v) (ht : T t = some te) (hk : te.kind = .string) : ∃ s : ByteArray, v = .str s ∧ s.size ≤ maxLen := by
  have h1 := h.1
  rw [h.one ht (by rw [hk]; rfl)] at h1
  generalize hc : [v] = cs at h1
  cases h1 with
  | str h2 h3 h4 => simp at hc; exact ⟨_, hc, h4⟩
  | int h2 h3 => rw [ht] at h2; cases h2; rw [hk] at h3; cases h3
  | bool h2 h3 => rw [ht] at h2; cases h2; rw [hk] at h3; cases h3
  | slice h2 h3 => rw [ht] at h2; cases h2; rw [hk] at h3; cases h3
  | struct h2 h3 => rw [ht] at h2; cases h2; rw [hk] at h3; cases h3
theorem TyV.slice {e : TypeId} (h : TyV T t v) (ht : T t = some te) (hk : te.kind = .slice e) : ∃ es, v = .ro es ∧ es.length ≤ maxLen ∧ ∀ x ∈ es, TyV T e x := by
  have h1 := h.1
  rw [h.one ht (by rw [hk]; rfl)] at h1
  generalize hc : [v] = cs at h1
  cases h1 with
  | slice h2 h3 h4 h5 h6 h7 h8 =>
    rw [ht] at h2; cases h2; rw [hk] at h3; cases h3; simp at hc
    exact ⟨_, hc, h5, fun x hx => ⟨h8 x hx, fun te' h => by rw [h4] at h; cases h; exact h6 x hx⟩⟩
  | int h2 h3 => rw [ht] at h2; cases h2; rw [hk] at h3; cases h3
  | bool h2 h3 => rw [ht] at h2; cases h2; rw [hk] at h3; cases h3
  | str h2 h3 => rw [ht] at h2; cases h2; rw [hk] at h3; cases h3
  | struct h2 h3 => rw [ht] at h2; cases h2; rw [hk] at h3; cases h3
theorem TyV.struct {fs : List (Nat × TypeId)} (h : TyV T t v) (ht : T t = some te) (hk : te.kind = .struct fs) :
    ∃ cs, v = .agg cs ∧ cs.length = te.size ∧ ∀ p ∈ fs, ∀ fe, T p.2 = some fe → Ty T p.2 ((cs.drop p.1).take fe.size) := by
  obtain ⟨cs, rfl⟩ := (h.2 te ht).2 (by rw [hk]; rfl)
  have h1 := h.1
  simp only [AV.cells] at h1
  refine ⟨cs, rfl, ?_⟩
  cases h1 with
  | struct h2 h3 h4 h5 => rw [ht] at h2; cases h2; rw [hk] at h3; cases h3; exact ⟨h4, h5⟩
  | int h2 h3 => rw [ht] at h2; cases h2; rw [hk] at h3; cases h3
  | bool h2 h3 => rw [ht] at h2; cases h2; rw [hk] at h3; cases h3
  | str h2 h3 => rw [ht] at h2; cases h2; rw [hk] at h3; cases h3
  | slice h2 h3 => rw [ht] at h2; cases h2; rw [hk] at h3; cases h3
/-- A field of one cell. -/
theorem Ty.one {x : AV} (h : Ty T t [x]) (hx : x.one = true) (ht : T t = some te) (hk : te.kind.agg = false) : TyV T t x :=
  ⟨by rw [one_cells hx]; exact h, fun te' h' => by rw [ht] at h'; cases h'; rw [hk]; simp; intro cs e; subst e; simp [AV.one] at hx⟩
/-- A field that is a struct. -/
theorem Ty.agg {cs : List AV} (h : Ty T t cs) (ht : T t = some te) (hk : te.kind.agg = true) : TyV T t (.agg cs) :=
  ⟨h, fun te' h' => by rw [ht] at h'; cases h'; rw [hk]; simp⟩
theorem Ty.cells_one {cs : List AV} (h : Ty T t cs) (ht : T t = some te) (hk : te.kind.agg = false) : ∃ x, cs = [x] ∧ TyV T t x := by
  cases h with
  | struct h2 h3 => rw [ht] at h2; cases h2; rw [h3] at hk; simp [TK.agg] at hk
  | int h2 h3 h4 => exact ⟨_, rfl, Ty.one (.int h2 h3 h4) rfl ht hk⟩
  | bool h2 h3 => exact ⟨_, rfl, Ty.one (.bool h2 h3) rfl ht hk⟩
  | str h2 h3 h4 => exact ⟨_, rfl, Ty.one (.str h2 h3 h4) rfl ht hk⟩
  | slice h2 h3 h4 h5 h6 h7 h8 => exact ⟨_, rfl, Ty.one (.slice h2 h3 h4 h5 h6 h7 h8) rfl ht hk⟩
theorem map_of {α : Type} {enc : α → AV} {Q : α → Prop} : ∀ {es : List AV}, (∀ x ∈ es, ∃ a, x = enc a ∧ Q a) → ∃ xs : List α, es = xs.map enc ∧ ∀ a ∈ xs, Q a
  | [], _ => ⟨[], rfl, fun _ h => (nomatch h)⟩
  | x :: es, h => by
    obtain ⟨a, rfl, ha⟩ := h x (by simp)
    obtain ⟨xs, rfl, hx⟩ := map_of (es := es) fun y hy => h y (List.mem_cons_of_mem _ hy)
    exact ⟨a :: xs, rfl, fun b hb => by
      rcases List.mem_cons.1 hb with rfl | hb
      · exact ha
      · exact hx b hb⟩
theorem Args.nil {vs : List AV} (h : Args T [] vs) : vs = [] := by cases vs <;> first | rfl | cases h
theorem Args.cons {ts : List TypeId} {vs : List AV} (h : Args T (t :: ts) vs) : ∃ v r, vs = v :: r ∧ TyV T t v ∧ Args T ts r := by
  cases vs with
  | nil => cases h
  | cons v r => exact ⟨v, r, rfl, h.1, h.2⟩
theorem law_calls2 {P : Program} (hT : TOK P T) (hl : laidOutB P = true) {H : Type} {enc : TypeId × Value → H} {f : FuncId} {fn : Func} {s : ChangeSpec} {tb : TypeId} (n : Nat) (hvars : s.vars = []) (hres : fn.resultTypes = #[tb]) (hb : P.underlying tb = some .bool)
    (hp : (fn.params.toList.all fun t => plainTy T n t && P.readableRec t && decide (t < P.types.size)) = true) (hs : ∀ ds : List (DataW H), ds.length = fn.params.size → s.fn H ds = { results := [.lit (.bool true)], args := ds })
    (hlaw : ∀ avs, Args T fn.params.toList avs → ACalls P f avs AHeap.nil fun r _ => r = .bool true)
    {W : World} {base : Nat} {args : Array Value} {ds gs : List (DataW H)} {before : List MemPlace} (hval : ∀ (j : Nat) t v, fn.params[j]? = some t → args[j]? = some v → Value.okWide P W .any base t v)
    (hW : DataW.Whole enc P fn.params.toList s.vars false W args.toList ds gs before) : Calls P f args W fun e W' => ∃ v, e = .returned v ∧ s.post enc P fn false true false false W args v W' :=
  law_calls hT hl hvars hres hb (fun t ht => by
    have := List.all_eq_true.1 hp t ht
    simp only [Bool.and_eq_true, decide_eq_true_eq] at this
    exact ⟨this.1.1, this.1.2, this.2⟩) hs (fun avs h _ => hlaw avs h) hval hW
end
end Go.Abs

/-
  THE GRAPH LAWS: what they are handed; a row out of a contract. Conditions: none.
-/
namespace Go.Proofs.Yteifhcohmipdcaa
open Go.Abs
set_option linter.unusedSimpArgs false
set_option linter.unusedVariables false
theorem len_two {α : Type} {l : List α} (h : l.length = 2) : ∃ a b, l = [a, b] := by
  match l, h with
  | [a, b], _ => exact ⟨a, b, rfl⟩
theorem ty_int {v : AV} (h : TyV TT 3 v) : ∃ n, v = (AV.int IntKind.i64) n := by
  obtain ⟨n, h1, _⟩ := h.int (te := ⟨1, 8, .int .i64, .int .i64 0, none⟩) rfl rfl
  exact ⟨n, h1⟩
theorem ty_u8 {v : AV} (h : TyV TT 5 v) : ∃ n : Int, v = .int .u8 n ∧ 0 ≤ n ∧ n ≤ 255 := by
  obtain ⟨n, h1, h2⟩ := h.int (te := ⟨1, 1, .int .u8, .int .u8 0, none⟩) rfl rfl
  exact ⟨n, h1, bounds_u8 h2⟩
theorem ty_ints {v : AV} (h : TyV TT 26 v) : ∃ l : List Int, v = .ro (l.map (AV.int IntKind.i64)) := by
  obtain ⟨es, rfl, _, h2⟩ := h.slice (te := ⟨1, 24, .slice 3, .nils, none⟩) rfl rfl
  obtain ⟨xs, rfl, _⟩ := map_of (enc := (AV.int IntKind.i64)) (Q := fun _ => True) fun x hx => by
    obtain ⟨n, hn⟩ := ty_int (h2 x hx); exact ⟨n, hn, trivial⟩
  exact ⟨xs, rfl⟩
theorem ty_str {v : AV} (h : TyV TT 9 v) : ∃ s, v = .str s := by
  obtain ⟨s, h1, _⟩ := h.str (te := ⟨1, 16, .string, .str ByteArray.empty, none⟩) rfl rfl
  exact ⟨s, h1⟩
theorem ty_strs {v : AV} (h : TyV TT 22 v) : ∃ l : List ByteArray, v = .ro (l.map .str) := by
  obtain ⟨es, rfl, _, h2⟩ := h.slice (te := ⟨1, 24, .slice 9, .nils, none⟩) rfl rfl
  obtain ⟨xs, rfl, _⟩ := map_of (enc := AV.str) (Q := fun _ => True) fun x hx => by
    obtain ⟨n, hn⟩ := ty_str (h2 x hx); exact ⟨n, hn, trivial⟩
  exact ⟨xs, rfl⟩
theorem ty_edge {v : AV} (h : TyV TT 39 v) : ∃ e, v = encE e := by
  obtain ⟨cs, rfl, h1, h2⟩ := h.struct (te := ⟨2, 16, .struct [(0, 3), (1, 3)], .agg [.int .i64 0, .int .i64 0], some [.int, .int]⟩) rfl rfl
  obtain ⟨a, b, rfl⟩ := len_two h1
  obtain ⟨x, hx, hxt⟩ := (h2 (0, 3) (by simp) ⟨1, 8, .int .i64, .int .i64 0, none⟩ rfl).cells_one rfl rfl
  obtain ⟨y, hy, hyt⟩ := (h2 (1, 3) (by simp) ⟨1, 8, .int .i64, .int .i64 0, none⟩ rfl).cells_one rfl rfl
  simp at hx hy
  subst hx; subst hy
  obtain ⟨m, rfl⟩ := ty_int hxt
  obtain ⟨n, rfl⟩ := ty_int hyt
  exact ⟨(m, n), rfl⟩
theorem ty_edges {v : AV} (h : TyV TT 23 v) : ∃ l : List (Int × Int), v = .ro (l.map encE) := by
  obtain ⟨es, rfl, _, h2⟩ := h.slice (te := ⟨1, 24, .slice 39, .nils, none⟩) rfl rfl
  obtain ⟨xs, rfl, _⟩ := map_of (enc := encE) (Q := fun _ => True) fun x hx => by
    obtain ⟨n, hn⟩ := ty_edge (h2 x hx); exact ⟨n, hn, trivial⟩
  exact ⟨xs, rfl⟩
theorem ty_graph {v : AV} (h : TyV TT 25 v) : ∃ g, v = encG g := by
  obtain ⟨cs, rfl, h1, h2⟩ := h.struct (te := ⟨2, 48, .struct [(0, 22), (1, 23)], .agg [.nils, .nils], none⟩) rfl rfl
  obtain ⟨a, b, rfl⟩ := len_two h1
  obtain ⟨x, hx, hxt⟩ := (h2 (0, 22) (by simp) ⟨1, 24, .slice 9, .nils, none⟩ rfl).cells_one rfl rfl
  obtain ⟨y, hy, hyt⟩ := (h2 (1, 23) (by simp) ⟨1, 24, .slice 39, .nils, none⟩ rfl).cells_one rfl rfl
  simp at hx hy
  subst hx; subst hy
  obtain ⟨m, rfl⟩ := ty_strs hxt
  obtain ⟨n, rfl⟩ := ty_edges hyt
  exact ⟨⟨m, n⟩, rfl⟩
theorem laid : laidOutB Try.prog = true := by kernel_rfl
theorem own : ownKnob Try.prog.godebug = none := by kernel_rfl
end Go.Proofs.Yteifhcohmipdcaa

/-
  THE GRAPH LAWS, 1: GraphReaches answers true. Conditions: none. (Printed by w27.py.)
-/
namespace Go.Proofs.Yteifhcohmipdcaa
open Go.Abs
set_option linter.unusedSimpArgs false
set_option linter.unusedVariables false
theorem awake_ok : Fun1 Try.prog 10 [] (.bool true) := fun1_pure awake0 pu_nil (.bool _)
theorem reach_len (g : Gr) (l : List Int) : (g.reach l).length ≤ g.nodes.length := by
  rw [Gr.reach]; split
  · exact listUpto_len _ _
  · exact Nat.zero_le _
theorem path_len {g : Gr} {a b : Int} : (g.path a b).length ≤ g.nodes.length := by
  rw [Gr.path]
  by_cases he : g.exist [a, b] = true
  · obtain ⟨h1, hv⟩ := exist_iff.1 he
    have ha := h1 a (by simp)
    have hD := dist_is hv (h1 b (by simp))
    have hal : a.toNat < (g.dist b).length := by rw [hD.len]; exact in_toNat ha
    rw [if_pos he]
    by_cases hn : (g.dist b).getD a.toNat 0 < 0
    · rw [if_pos hn]; exact Nat.zero_le _
    · rw [if_neg hn, way_len]
      have hg : (g.dist b).getD a.toNat 0 = (g.dist b)[a.toNat] := by rw [List.getD_eq_getElem?_getD, List.getElem?_eq_getElem hal]; rfl
      rcases hD.val a.toNat _ (List.getElem?_eq_getElem hal) with q | ⟨n, q, hf⟩
      · rw [hg, q] at hn; omega
      · rw [toNat_cast ha] at hf
        have := hf.lt hv ha
        rw [hg, q]; omega
  · rw [if_neg he]; exact Nat.zero_le _

set_option maxHeartbeats 1000000 in
theorem reaches0 (g : Gr) (l : List Int) (a b : Int) : ACalls Try.prog 3 [encG g, .ro (l.map (AV.int IntKind.i64)), (AV.int IntKind.i64) a, (AV.int IntKind.i64) b] AHeap.nil (fun r _ => r = .bool true) := by
  refine acalls_body TT_ok Try.func3 rfl rfl (by simp [Try.ntmps3]) ?_
  rw [Try.ntmps3]
  obtain ⟨σ, hσ⟩ : ∃ σ, σ = st0 [encG g, .ro (l.map (AV.int IntKind.i64)), (AV.int IntKind.i64) a, (AV.int IntKind.i64) b] := ⟨_, rfl⟩
  rw [← hσ]
  have h0_0 := congrFun hσ 0
  simp [st0] at h0_0
  have h1_0 := congrFun hσ 1
  simp [st0] at h1_0
  have h2_0 := congrFun hσ 2
  simp [st0] at h2_0
  have h3_0 := congrFun hσ 3
  simp [st0] at h3_0
  clear hσ
  obtain ⟨H, hH⟩ : ∃ H, H = AHeap.nil := ⟨_, rfl⟩
  rw [← hH]
  have hn_0 : H.n = 0 := by rw [hH]; rfl
  have hst_0 : H.st = 1 := by rw [hH]; rfl
  clear hH
  refine stp_reg TT_ok (by rfl) fun K hK => ?_
  simp [h0_0, hn_0, hst_0, encG]
  try refine And.intro (by first | omega | rfl) ?_
  refine hK _ _ fun σ1 hσ H1 hH => ?_
  clear hK K
  have h1_1 := congrFun hσ 1
  have h2_1 := congrFun hσ 2
  have h3_1 := congrFun hσ 3
  have h4_1 := congrFun hσ 4
  simp [h1_0, h2_0, h3_0] at h1_1 h2_1 h3_1 h4_1
  clear hσ
  have g0_1 := gt_of hH 0
  simp [hn_0, hst_0] at g0_1
  have hn_1 := congrArg AHeap.n hH
  simp [hn_0, hst_0] at hn_1
  have hst_1 := congrArg AHeap.st hH
  simp [hn_0, hst_0] at hst_1
  clear hH
  refine awp_seq ?_
  refine stp_reg TT_ok (by rfl) fun K hK => ?_
  simp [g0_1, encG]
  try refine And.intro (by first | omega | rfl) ?_
  refine stp_call (awake_ok) ?_
  simp [g0_1, encG]
  try refine And.intro (by first | omega | rfl) ?_
  refine hK _ _ fun σ2 hσ H2 hH => ?_
  clear hK K
  have h1_2 := congrFun hσ 1
  have h2_2 := congrFun hσ 2
  have h3_2 := congrFun hσ 3
  have h4_2 := congrFun hσ 4
  have h10_2 := congrFun hσ 10
  simp [h1_1, h2_1, h3_1, h4_1] at h1_2 h2_2 h3_2 h4_2 h10_2
  clear hσ
  replace hH : H1 = H2 := Eq.symm hH
  subst hH
  refine stp_false (by simp [aeval_tmp, h10_2, encG]) ?_
  refine awp_skip ?_
  refine q_seq ?_
  refine awp_seq ?_
  by_cases hf : g.nodes.length ≤ 14 ∧ g.edges.length ≤ 60
  · skip
    by_cases hl : (20 : Int) < l.length
    · skip
      refine stp_reg TT_ok (by rfl) fun K hK => ?_
      simp [h1_2, h4_2, g0_1, hf, hl, encG]
      try refine And.intro (by first | omega | rfl) ?_
      refine stp_call (few_ok g) ?_
      simp [h1_2, h4_2, g0_1, hf, hl, encG]
      try refine And.intro (by first | omega | rfl) ?_
      refine hK _ _ fun σ3 hσ H3 hH => ?_
      clear hK K
      have h1_3 := congrFun hσ 1
      have h2_3 := congrFun hσ 2
      have h3_3 := congrFun hσ 3
      have h4_3 := congrFun hσ 4
      have h18_3 := congrFun hσ 18
      simp [h1_2, h2_2, h3_2, h4_2] at h1_3 h2_3 h3_3 h4_3 h18_3
      clear hσ
      replace hH : H1 = H3 := Eq.symm hH
      subst hH
      refine stp_true (by simp [aeval_tmp, h18_3, hf, hl, encG]) ?_
      refine stp_reg TT_ok (by rfl) fun K hK => ?_
      simp [g0_1, hf, hl, encG]
      try refine And.intro (by first | omega | rfl) ?_
      refine hK _ _ fun σ4 hσ H4 hH => ?_
      clear hK K
      have h8_4 := congrFun hσ 8
      simp [] at h8_4
      clear hσ
      replace hH : H1 = H4 := Eq.symm hH
      subst hH
      refine awp_ret ?_
      refine q_seq_ret ?_
      refine q_fin1 h8_4 ?_
      first | rfl | (simp; done)
    · skip
      refine stp_reg TT_ok (by rfl) fun K hK => ?_
      simp [h1_2, h4_2, g0_1, hf, hl, encG]
      try refine And.intro (by first | omega | rfl) ?_
      refine stp_call (few_ok g) ?_
      simp [h1_2, h4_2, g0_1, hf, hl, encG]
      try refine And.intro (by first | omega | rfl) ?_
      refine hK _ _ fun σ5 hσ H5 hH => ?_
      clear hK K
      have h1_5 := congrFun hσ 1
      have h2_5 := congrFun hσ 2
      have h3_5 := congrFun hσ 3
      have h4_5 := congrFun hσ 4
      have h18_5 := congrFun hσ 18
      simp [h1_2, h2_2, h3_2, h4_2] at h1_5 h2_5 h3_5 h4_5 h18_5
      clear hσ
      replace hH : H1 = H5 := Eq.symm hH
      subst hH
      refine stp_false (by simp [aeval_tmp, h18_5, hf, hl, encG]) ?_
      refine awp_skip ?_
      refine q_seq ?_
      have hrl := reach_len g l
      have hpl := path_len (g := g) (a := a) (b := b)
      refine stp_lex false TT_ok mixed (by rfl) (by rfl) (by kernel_rfl) (by rfl) fun U hU K hK => ?_
      simp [h1_5, h2_5, h3_5, h4_5, g0_1, hf, hl, encG]
      try refine And.intro (by first | omega | rfl) ?_
      refine lex_call (reach_ok g l (by omega)) ?_
      simp [h1_5, h2_5, h3_5, h4_5, g0_1, hf, hl, encG]
      try refine And.intro (by first | omega | rfl) ?_
      refine lex_call (refReach_ok g l (by omega)) ?_
      simp [h1_5, h2_5, h3_5, h4_5, g0_1, hf, hl, encG]
      try refine And.intro (by first | omega | rfl) ?_
      refine lex_call (equalI (g.reach l) (g.reach l) (by omega)) ?_
      simp [h1_5, h2_5, h3_5, h4_5, g0_1, hf, hl, encG]
      try refine And.intro (by first | omega | rfl) ?_
      refine lex_call (path_ok g a b) ?_
      simp [h1_5, h2_5, h3_5, h4_5, g0_1, hf, hl, encG]
      try refine And.intro (by first | omega | rfl) ?_
      refine lex_call (refPath_ok g a b (by omega)) ?_
      simp [h1_5, h2_5, h3_5, h4_5, g0_1, hf, hl, encG]
      try refine And.intro (by first | omega | rfl) ?_
      refine lex_call (equalI (g.path a b) (g.path a b) (by omega)) ?_
      simp [h1_5, h2_5, h3_5, h4_5, g0_1, hf, hl, encG]
      try refine And.intro (by first | omega | rfl) ?_
      refine hK _ _ _ (by subst hU; kernel_rfl) fun σ6 hσ H6 hH => ?_
      clear hK K hU U
      have h8_6 := congrFun hσ 8
      simp [] at h8_6
      clear hσ
      replace hH : H1 = H6 := Eq.symm hH
      subst hH
      refine awp_ret ?_
      refine q_fin1 h8_6 ?_
      first | rfl | (simp; done)
  · skip
    refine stp_reg TT_ok (by rfl) fun K hK => ?_
    simp [h1_2, h4_2, g0_1, hf, encG]
    try refine And.intro (by first | omega | rfl) ?_
    refine stp_call (few_ok g) ?_
    simp [h1_2, h4_2, g0_1, hf, encG]
    try refine And.intro (by first | omega | rfl) ?_
    refine hK _ _ fun σ7 hσ H7 hH => ?_
    clear hK K
    have h1_7 := congrFun hσ 1
    have h2_7 := congrFun hσ 2
    have h3_7 := congrFun hσ 3
    have h4_7 := congrFun hσ 4
    have h18_7 := congrFun hσ 18
    simp [h1_2, h2_2, h3_2, h4_2] at h1_7 h2_7 h3_7 h4_7 h18_7
    clear hσ
    replace hH : H1 = H7 := Eq.symm hH
    subst hH
    refine stp_true (by simp [aeval_tmp, h18_7, hf, encG]) ?_
    refine stp_reg TT_ok (by rfl) fun K hK => ?_
    simp [g0_1, hf, encG]
    try refine And.intro (by first | omega | rfl) ?_
    refine hK _ _ fun σ8 hσ H8 hH => ?_
    clear hK K
    have h8_8 := congrFun hσ 8
    simp [] at h8_8
    clear hσ
    replace hH : H1 = H8 := Eq.symm hH
    subst hH
    refine awp_ret ?_
    refine q_seq_ret ?_
    refine q_fin1 h8_8 ?_
    first | rfl | (simp; done)

set_option maxRecDepth 100000 in
theorem graphReaches_lifted (os : Os) (started : os.Started) (H : Type) (enc : TypeId × Value → H) :
    ReturnsInHanded {} Try.checked os 3 .any (Rows.graphReachesSpec.pre6 enc Try.prog Try.f3 Rows.graphReachesRow.domain false) (Rows.graphReachesSpec.post enc Try.prog Try.f3 false true false false) := by
  refine returnsInHanded_of_change (C := Try.checked) own started (by kernel_rfl) Try.func3
    (ChangeSpec.witness6 (enc := enc) (C := Try.checked) false ⟨#[], #[.agg #[.slice none 0 0, .slice none 0 0], .slice none 0 0, .int .i64 0, .int .i64 0], []⟩ 9 (by kernel_rfl) (by kernel_rfl) (by kernel_rfl) (by kernel_rfl)) ?_
  intro W base args ds gs before hval hW hcnd _
  refine law_calls2 TT_ok laid (fn := Try.f3) (s := Rows.graphReachesSpec) (tb := 4) 9 rfl rfl Try.underlying4 (by kernel_rfl) (fun ds h => ?_) (fun avs ha => ?_) hval hW
  · match ds, h with
    | [d0, d1, d2, d3], _ => rfl
  · have ha0 := ha
    obtain ⟨v0, r0, rfl, hv0, ha⟩ := Args.cons ha
    obtain ⟨v1, r1, rfl, hv1, ha⟩ := Args.cons ha
    obtain ⟨v2, r2, rfl, hv2, ha⟩ := Args.cons ha
    obtain ⟨v3, r3, rfl, hv3, ha⟩ := Args.cons ha
    obtain rfl := Args.nil ha
    obtain ⟨g, rfl⟩ := ty_graph hv0
    obtain ⟨l, rfl⟩ := ty_ints hv1
    obtain ⟨a, rfl⟩ := ty_int hv2
    obtain ⟨b, rfl⟩ := ty_int hv3
    exact reaches0 g l a b
theorem graphReaches_over : Rows.graphReachesRow.holds Try.pinned (OpenSpec.ofChange Rows.graphReachesSpec) :=
  OpenClaim.holds_of_wide 3 Try.f3 rfl rfl rfl rfl rfl rfl rfl ⟨rfl, rfl, rfl, rfl, rfl⟩ rfl rfl rfl rfl rfl (by kernel_rfl) Try.func3 (by kernel_rfl)
    (of_decide_eq_true (by kernel_rfl)) (by unfold Func.isWrapper; first | (rw [if_pos (by decide +kernel)]; kernel_rfl) | (rw [if_neg (by decide +kernel)]; exact ⟨rfl, rfl⟩))
    (fun os started H enc _ => graphReaches_lifted os started H enc)
/-- THE STATEMENT. -/
theorem graphReaches_holds : Rows.GraphReachesSaid := graphReaches_over

end Go.Proofs.Yteifhcohmipdcaa
