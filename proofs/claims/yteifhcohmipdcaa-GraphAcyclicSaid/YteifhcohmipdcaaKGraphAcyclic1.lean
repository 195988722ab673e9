/-
  The law GraphAcyclic answers true, whatever the input: part 1. Conditions: none.
-/
import Derived.Test.YteifhcohmipdcaaB5
namespace Go.Proofs.Yteifhcohmipdcaa
open Go.Abs
set_option linter.unusedSimpArgs false
set_option linter.unusedVariables false
theorem awake_ok : Fun1 Try.prog 10 [] (.bool true) := fun1_pure awake0 pu_nil (.bool _)
end Go.Proofs.Yteifhcohmipdcaa

namespace Go.Proofs.Yteifhcohmipdcaa
open Go.Abs
set_option linter.unusedSimpArgs false
set_option linter.unusedVariables false
theorem any_mem {α : Type} [DecidableEq α] {x : α} {es : List α} : (es.any fun y => decide (x = y)) = decide (x ∈ es) := by
 rw [Bool.eq_iff_iff, List.any_eq_true, decide_eq_true_eq]
 exact ⟨fun ⟨y, h1, h2⟩ => by rw [of_decide_eq_true h2]; exact h1, fun h => ⟨x, h, by simp⟩⟩
set_option maxHeartbeats 1000000 in
theorem indexI0 (es : List Int) (x : Int) (hl : es.length ≤ 1000000) : ACalls Try.prog 36 [.ro (es.map (AV.int .i64)), ((AV.int .i64) x)] AHeap.nil (fun r _ => r = .int .i64 (idxOf (fun y => decide (x = y)) es)) := by
 refine acalls_body TT_ok Try.func36 rfl rfl (by simp [Try.ntmps36]) ?_
 rw [Try.ntmps36]
 obtain ⟨σ, hσ⟩ : ∃ σ, σ = st0 [.ro (es.map (AV.int .i64)), ((AV.int .i64) x)] := ⟨_, rfl⟩
 rw [← hσ]
 obtain ⟨h0_0, h1_0⟩ := fs2 hσ 0 1
 simp [st0] at h0_0 h1_0
 clear hσ
 obtain ⟨H, hH⟩ : ∃ H, H = AHeap.nil := ⟨_, rfl⟩
 rw [← hH]
 have hn_0 : H.n = 0 := by rw [hH]; rfl
 have hst_0 : H.st = 1 := by rw [hH]; rfl
 clear hH
 refine stp_reg TT_ok (by rfl) fun K hK => ?_
 simp []
 try refine And.intro (by first | omega | rfl) ?_
 refine hK _ _ fun σ1 hσ H1 hH => ?_
 clear hK K
 obtain ⟨h0_1, h1_1⟩ := fs2 hσ 0 1
 simp [h0_0, h1_0] at h0_1 h1_1
 clear hσ
 replace hH : H = H1 := Eq.symm hH
 subst hH
 refine awp_seq ?_
 refine stp_reg TT_ok (by rfl) fun K hK => ?_
 simp [h0_1]
 try refine And.intro (by first | omega | rfl) ?_
 refine hK _ _ fun σ2 hσ H2 hH => ?_
 clear hK K
 obtain ⟨h0_2, h1_2, h7_2, h8_2⟩ := fs4 hσ 0 1 7 8
 simp [h0_1, h1_1] at h0_2 h1_2 h7_2 h8_2
 clear hσ
 replace hH : H = H2 := Eq.symm hH
 subst hH
 refine awp_block ?_
 refine awp_loopV (fun n σ' H' => ∃ (i : Nat), n = es.length - i ∧ σ' 0 = σ2 0 ∧ σ' 1 = σ2 1 ∧ σ' 7 = .int .i64 es.length ∧ σ' 8 = .int .i64 i ∧ H' = H ∧ (i ≤ es.length) ∧ ((es.take i).any (fun y => decide (x = y)) = false)) ?_ ?_
 ·refine ⟨_, 0, rfl, rfl, rfl, (by simp [h7_2]), (by simp [h8_2]), rfl, ?_, ?_⟩
  ·first | omega | (simp; done) | assumption
  ·first | omega | (simp; done) | assumption
 ·rintro n1 σ3 H3 ⟨i, hn1, q0_3, q1_3, h7_3, h8_3, hHq, p1, p2⟩
  have h0_3 := q0_3.trans h0_2
  have h1_3 := q1_3.trans h1_2
  replace hHq := hHq.symm
  subst hHq
  refine stp_reg TT_ok (by rfl) fun K hK => ?_
  simp [h7_3, h8_3]
  try refine And.intro (by first | omega | rfl) ?_
  refine hK _ _ fun σ4 hσ H4 hH => ?_
  clear hK K
  obtain ⟨h0_4, h1_4, h7_4, h8_4, h9_4⟩ := fs5 hσ 0 1 7 8 9
  simp [h0_3, h1_3, h7_3, h8_3] at h0_4 h1_4 h7_4 h8_4 h9_4
  clear hσ
  replace hH : H = H4 := Eq.symm hH
  subst hH
  refine awp_seq ?_
  refine awp_cond _ (by simp only [aeval_tmp]; exact h9_4) (fun hc9 => ?_) (fun hc9 => ?_)
  ·try simp at hc9
   have hlt : i < es.length := by simpa using hc9
   have hge : (es.map (AV.int .i64))[i]? = some ((AV.int .i64) es[i]) := by simp [hlt]
   refine awp_skip ?_
   refine q_seq ?_
   refine awp_seq ?_
   refine awp_block ?_
   refine stp_reg TT_ok (by rfl) fun K hK => ?_
   simp [h8_4]
   try refine And.intro (by first | omega | rfl) ?_
   refine hK _ _ fun σ5 hσ H5 hH => ?_
   clear hK K
   obtain ⟨h0_5, h1_5, h5_5, h7_5, h8_5⟩ := fs5 hσ 0 1 5 7 8
   simp [h0_4, h1_4, h7_4, h8_4] at h0_5 h1_5 h5_5 h7_5 h8_5
   clear hσ
   replace hH : H = H5 := Eq.symm hH
   subst hH
   refine stp_reg TT_ok (by rfl) fun K hK => ?_
   simp [h0_5, h1_5, h5_5, hge, hlt]
   try refine And.intro (by first | omega | rfl) ?_
   refine hK _ _ fun σ6 hσ H6 hH => ?_
   clear hK K
   obtain ⟨h0_6, h1_6, h5_6, h7_6, h8_6, h16_6⟩ := fs6 hσ 0 1 5 7 8 16
   simp [h0_5, h1_5, h5_5, h7_5, h8_5] at h0_6 h1_6 h5_6 h7_6 h8_6 h16_6
   clear hσ
   replace hH : H = H6 := Eq.symm hH
   subst hH
   refine awp_cond _ (by simp only [aeval_tmp]; exact h16_6) (fun hc16 => ?_) (fun hc16 => ?_)
   ·try simp at hc16
    skip
    have heq : x = es[i] := by first | exact hc16 | exact Prod.ext hc16.1 hc16.2
    refine stp_reg TT_ok (by rfl) fun K hK => ?_
    simp [h5_6]
    try refine And.intro (by first | omega | rfl) ?_
    refine hK _ _ fun σ7 hσ H7 hH => ?_
    clear hK K
    have h4_7 := congrFun hσ 4
    simp [] at h4_7
    clear hσ
    replace hH : H = H7 := Eq.symm hH
    subst hH
    refine awp_ret ?_
    refine q_block_ret ?_
    refine q_seq_ret ?_
    refine q_loop_ret ?_
    refine q_block_ret ?_
    refine q_seq_ret ?_
    refine q_fin1 h4_7 ?_
    rw [idxOf_at hlt p2 (by simp [heq])]
   ·try simp at hc16
    skip
    have heq : ¬ x = es[i] := by first | exact hc16 | (intro e; rw [e] at hc16; simp at hc16)
    refine awp_skip ?_
    refine q_block ?_
    refine q_seq ?_
    refine stp_regl TT_ok (by rfl) fun K hK => ?_
    simp [h8_6, wrap_ok (n := (i : Int) + 1) (by omega) (by omega)]
    try refine And.intro (by first | omega | rfl) ?_
    refine hK _ _ fun σ8 hσ H8 hH => ?_
    clear hK K
    obtain ⟨h0_8, h1_8, h7_8, h8_8⟩ := fs4 hσ 0 1 7 8
    simp [h0_6, h1_6, h7_6] at h0_8 h1_8 h7_8 h8_8
    clear hσ
    replace hH : H = H8 := Eq.symm hH
    subst hH
    refine ⟨_, ?_, i + 1, rfl, (h0_8.trans h0_2.symm), (h1_8.trans h1_2.symm), (by simp [h7_8]), (by simp [h8_8]), rfl, ?_, ?_⟩
    ·subst hn1; omega
    ·first | omega | assumption | (simp; done)
    ·exact any_take_succ hlt p2 (by simp [heq])
  ·try simp at hc9
   refine awp_exit ?_
   refine q_seq_exit ?_
   refine q_loop_exit ?_
   refine q_block_hit ?_
   refine q_seq ?_
   refine stp_reg TT_ok (by rfl) fun K hK => ?_
   simp []
   try refine And.intro (by first | omega | rfl) ?_
   refine hK _ _ fun σ9 hσ H9 hH => ?_
   clear hK K
   have h4_9 := congrFun hσ 4
   simp [] at h4_9
   clear hσ
   replace hH : H = H9 := Eq.symm hH
   subst hH
   refine awp_ret ?_
   refine q_fin1 h4_9 ?_
   have : i = es.length := by have := hc9; omega
   subst this
   rw [List.take_length] at p2
   rw [idxOf_none p2]
theorem indexI_w (es : List Int) (x : Int) (hl : es.length ≤ 1000000) : FunW Try.prog 36 [.ro (es.map (AV.int .i64)), (AV.int .i64) x] (.int .i64 (idxOf (fun y => decide (x = y)) es)) :=
 funW_pure (indexI0 es x hl) (pu_cons (.ro fun v hv => by obtain ⟨x, _, rfl⟩ := List.mem_map.1 hv; exact pu_int _ _) (pu_cons (pu_int _ _) pu_nil)) (.int _ _) (.int _ _)
set_option maxHeartbeats 1000000 in
theorem indexE0 (es : List (Int × Int)) (x : (Int × Int)) (hl : es.length ≤ 1000000) : ACalls Try.prog 58 [.ro (es.map encE), (encE x)] AHeap.nil (fun r _ => r = .int .i64 (idxOf (fun y => decide (x = y)) es)) := by
 refine acalls_body TT_ok Try.func58 rfl rfl (by simp [Try.ntmps58]) ?_
 rw [Try.ntmps58]
 obtain ⟨σ, hσ⟩ : ∃ σ, σ = st0 [.ro (es.map encE), (encE x)] := ⟨_, rfl⟩
 rw [← hσ]
 obtain ⟨h0_0, h1_0⟩ := fs2 hσ 0 1
 simp [st0] at h0_0 h1_0
 clear hσ
 obtain ⟨H, hH⟩ : ∃ H, H = AHeap.nil := ⟨_, rfl⟩
 rw [← hH]
 have hn_0 : H.n = 0 := by rw [hH]; rfl
 have hst_0 : H.st = 1 := by rw [hH]; rfl
 clear hH
 refine stp_reg TT_ok (by rfl) fun K hK => ?_
 simp [h1_0, hn_0, hst_0, encE]
 try refine And.intro (by first | omega | rfl) ?_
 refine hK _ _ fun σ1 hσ H1 hH => ?_
 clear hK K
 obtain ⟨h0_1, h3_1⟩ := fs2 hσ 0 3
 simp [h0_0] at h0_1 h3_1
 clear hσ
 have g0_1 := gt_of hH 0
 simp [hn_0, hst_0] at g0_1
 have hn_1 := congrArg AHeap.n hH
 simp [hn_0, hst_0] at hn_1
 have hst_1 := congrArg AHeap.st hH
 simp [hn_0, hst_0] at hst_1
 clear hH
 refine awp_seq ?_
 refine stp_reg TT_ok (by rfl) fun K hK => ?_
 simp [h0_1, g0_1, encE]
 try refine And.intro (by first | omega | rfl) ?_
 refine hK _ _ fun σ2 hσ H2 hH => ?_
 clear hK K
 obtain ⟨h0_2, h3_2, h7_2, h8_2⟩ := fs4 hσ 0 3 7 8
 simp [h0_1, h3_1] at h0_2 h3_2 h7_2 h8_2
 clear hσ
 replace hH : H1 = H2 := Eq.symm hH
 subst hH
 refine awp_block ?_
 refine awp_loopV (fun n σ' H' => ∃ (i : Nat), n = es.length - i ∧ σ' 0 = σ2 0 ∧ σ' 3 = σ2 3 ∧ σ' 7 = .int .i64 es.length ∧ σ' 8 = .int .i64 i ∧ H' = H1 ∧ (i ≤ es.length) ∧ ((es.take i).any (fun y => decide (x = y)) = false)) ?_ ?_
 ·refine ⟨_, 0, rfl, rfl, rfl, (by simp [h7_2]), (by simp [h8_2]), rfl, ?_, ?_⟩
  ·first | omega | (simp; done) | assumption
  ·first | omega | (simp; done) | assumption
 ·rintro n1 σ3 H3 ⟨i, hn1, q0_3, q3_3, h7_3, h8_3, hHq, p1, p2⟩
  have h0_3 := q0_3.trans h0_2
  have h3_3 := q3_3.trans h3_2
  replace hHq := hHq.symm
  subst hHq
  refine stp_reg TT_ok (by rfl) fun K hK => ?_
  simp [h7_3, h8_3, g0_1, encE]
  try refine And.intro (by first | omega | rfl) ?_
  refine hK _ _ fun σ4 hσ H4 hH => ?_
  clear hK K
  obtain ⟨h0_4, h3_4, h7_4, h8_4, h9_4⟩ := fs5 hσ 0 3 7 8 9
  simp [h0_3, h3_3, h7_3, h8_3] at h0_4 h3_4 h7_4 h8_4 h9_4
  clear hσ
  replace hH : H1 = H4 := Eq.symm hH
  subst hH
  refine awp_seq ?_
  refine awp_cond _ (by simp only [aeval_tmp]; exact h9_4) (fun hc9 => ?_) (fun hc9 => ?_)
  ·try simp at hc9
   have hlt : i < es.length := by simpa using hc9
   have hge : (es.map encE)[i]? = some (encE es[i]) := by simp [hlt]
   refine awp_skip ?_
   refine q_seq ?_
   refine awp_seq ?_
   refine awp_block ?_
   refine stp_reg TT_ok (by rfl) fun K hK => ?_
   simp [h8_4, g0_1, encE]
   try refine And.intro (by first | omega | rfl) ?_
   refine hK _ _ fun σ5 hσ H5 hH => ?_
   clear hK K
   obtain ⟨h0_5, h3_5, h5_5, h7_5, h8_5⟩ := fs5 hσ 0 3 5 7 8
   simp [h0_4, h3_4, h7_4, h8_4] at h0_5 h3_5 h5_5 h7_5 h8_5
   clear hσ
   replace hH : H1 = H5 := Eq.symm hH
   subst hH
   refine stp_lex false TT_ok mixed (by rfl) (by rfl) (by kernel_rfl) (by rfl) fun U hU K hK => ?_
   simp [h0_5, h3_5, h5_5, g0_1, encE, hge, hlt, encE]
   try refine And.intro (by first | omega | rfl) ?_
   refine hK _ _ _ (by subst hU; kernel_rfl) fun σ6 hσ H6 hH => ?_
   clear hK K hU U
   obtain ⟨h0_6, h3_6, h5_6, h7_6, h8_6, h16_6⟩ := fs6 hσ 0 3 5 7 8 16
   simp [h0_5, h3_5, h5_5, h7_5, h8_5] at h0_6 h3_6 h5_6 h7_6 h8_6 h16_6
   clear hσ
   replace hH : H1 = H6 := Eq.symm hH
   subst hH
   refine awp_cond _ (by simp only [aeval_tmp]; exact h16_6) (fun hc16 => ?_) (fun hc16 => ?_)
   ·try simp at hc16
    skip
    have heq : x = es[i] := by first | exact hc16 | exact Prod.ext hc16.1 hc16.2
    refine stp_reg TT_ok (by rfl) fun K hK => ?_
    simp [h5_6, g0_1, encE]
    try refine And.intro (by first | omega | rfl) ?_
    refine hK _ _ fun σ7 hσ H7 hH => ?_
    clear hK K
    have h4_7 := congrFun hσ 4
    simp [] at h4_7
    clear hσ
    replace hH : H1 = H7 := Eq.symm hH
    subst hH
    refine awp_ret ?_
    refine q_block_ret ?_
    refine q_seq_ret ?_
    refine q_loop_ret ?_
    refine q_block_ret ?_
    refine q_seq_ret ?_
    refine q_fin1 h4_7 ?_
    rw [idxOf_at hlt p2 (by simp [heq])]
   ·try simp at hc16
    skip
    have heq : ¬ x = es[i] := by first | exact hc16 | (intro e; rw [e] at hc16; simp at hc16)
    refine awp_skip ?_
    refine q_block ?_
    refine q_seq ?_
    refine stp_regl TT_ok (by rfl) fun K hK => ?_
    simp [h8_6, g0_1, encE, wrap_ok (n := (i : Int) + 1) (by omega) (by omega)]
    try refine And.intro (by first | omega | rfl) ?_
    refine hK _ _ fun σ8 hσ H8 hH => ?_
    clear hK K
    obtain ⟨h0_8, h3_8, h7_8, h8_8⟩ := fs4 hσ 0 3 7 8
    simp [h0_6, h3_6, h7_6] at h0_8 h3_8 h7_8 h8_8
    clear hσ
    replace hH : H1 = H8 := Eq.symm hH
    subst hH
    refine ⟨_, ?_, i + 1, rfl, (h0_8.trans h0_2.symm), (h3_8.trans h3_2.symm), (by simp [h7_8]), (by simp [h8_8]), rfl, ?_, ?_⟩
    ·subst hn1; omega
    ·first | omega | assumption | (simp; done)
    ·exact any_take_succ hlt p2 (by simp [heq])
  ·try simp at hc9
   refine awp_exit ?_
   refine q_seq_exit ?_
   refine q_loop_exit ?_
   refine q_block_hit ?_
   refine q_seq ?_
   refine stp_reg TT_ok (by rfl) fun K hK => ?_
   simp [g0_1, encE]
   try refine And.intro (by first | omega | rfl) ?_
   refine hK _ _ fun σ9 hσ H9 hH => ?_
   clear hK K
   have h4_9 := congrFun hσ 4
   simp [] at h4_9
   clear hσ
   replace hH : H1 = H9 := Eq.symm hH
   subst hH
   refine awp_ret ?_
   refine q_fin1 h4_9 ?_
   have : i = es.length := by have := hc9; omega
   subst this
   rw [List.take_length] at p2
   rw [idxOf_none p2]
theorem indexE_w (es : List (Int × Int)) (x : (Int × Int)) (hl : es.length ≤ 1000000) : FunW Try.prog 58 [.ro (es.map encE), encE x] (.int .i64 (idxOf (fun y => decide (x = y)) es)) :=
 funW_pure (indexE0 es x hl) (pu_cons (.ro fun v hv => by obtain ⟨x, _, rfl⟩ := List.mem_map.1 hv; exact pu_edge _) (pu_cons (pu_edge _) pu_nil)) (.int _ _) (.int _ _)
set_option maxHeartbeats 1000000 in
theorem containsE0 (es : List (Int × Int)) (x : (Int × Int)) (hl : es.length ≤ 1000000) : ACalls Try.prog 33 [.ro (es.map encE), (encE x)] AHeap.nil (fun r _ => r = .bool (decide (x ∈ es))) := by
 refine acalls_body TT_ok Try.func33 rfl rfl (by simp [Try.ntmps33]) ?_
 rw [Try.ntmps33]
 obtain ⟨σ, hσ⟩ : ∃ σ, σ = st0 [.ro (es.map encE), (encE x)] := ⟨_, rfl⟩
 rw [← hσ]
 obtain ⟨h0_0, h1_0⟩ := fs2 hσ 0 1
 simp [st0] at h0_0 h1_0
 clear hσ
 obtain ⟨H, hH⟩ : ∃ H, H = AHeap.nil := ⟨_, rfl⟩
 rw [← hH]
 have hn_0 : H.n = 0 := by rw [hH]; rfl
 have hst_0 : H.st = 1 := by rw [hH]; rfl
 clear hH
 refine stp_reg TT_ok (by rfl) fun K hK => ?_
 simp [h1_0, hn_0, hst_0, encE]
 try refine And.intro (by first | omega | rfl) ?_
 refine hK _ _ fun σ1 hσ H1 hH => ?_
 clear hK K
 obtain ⟨h0_1, h3_1⟩ := fs2 hσ 0 3
 simp [h0_0] at h0_1 h3_1
 clear hσ
 have g0_1 := gt_of hH 0
 simp [hn_0, hst_0] at g0_1
 have hn_1 := congrArg AHeap.n hH
 simp [hn_0, hst_0] at hn_1
 have hst_1 := congrArg AHeap.st hH
 simp [hn_0, hst_0] at hst_1
 clear hH
 have hFF0 := an3 h0_1 h3_1 g0_1
 refine stp_reg TT_ok (by rfl) fun K hK => ?_
 simp [hFF0, encE]
 try refine And.intro (by first | omega | rfl) ?_
 refine FunW.at (indexE_w es x hl) ?hf ?_
 case hf => exact FrzL.cons (.pure (.ro fun v hv => by obtain ⟨x, _, rfl⟩ := List.mem_map.1 hv; exact pu_edge _)) (FrzL.cons (.pure (pu_edge _)) (FrzL.nil _))
 simp [hFF0, encE]
 try refine And.intro (by first | omega | rfl) ?_
 refine hK _ _ fun σ2 hσ H2 hH => ?_
 clear hK K hFF0
 have h4_2 := congrFun hσ 4
 simp [] at h4_2
 clear hσ
 replace hH : H1 = H2 := Eq.symm hH
 subst hH
 refine awp_ret ?_
 refine q_fin1 h4_2 ?_
 first | (rw [idxOf_nonneg, any_mem]; done) | (rw [idxOf_nonneg, any_mem]; congr)
theorem containsE_w (es : List (Int × Int)) (x : (Int × Int)) (hl : es.length ≤ 1000000) : FunW Try.prog 33 [.ro (es.map encE), encE x] (.bool (decide (x ∈ es))) :=
 funW_pure (containsE0 es x hl) (pu_cons (.ro fun v hv => by obtain ⟨x, _, rfl⟩ := List.mem_map.1 hv; exact pu_edge _) (pu_cons (pu_edge _) pu_nil)) (.bool _) (.bool _)
end Go.Proofs.Yteifhcohmipdcaa

namespace Go.Proofs.Yteifhcohmipdcaa
open Go.Abs
set_option linter.unusedSimpArgs false
set_option linter.unusedVariables false
def Gr.lst (g : Gr) (i kk : Nat) : Nat := ((List.range' kk (g.nodes.length - kk)).find? fun k => g.both i k).getD i
def Gr.grpL (g : Gr) (i : Nat) : List Int := (List.range i).map fun v : Nat => (g.grp v : Int)
end Go.Proofs.Yteifhcohmipdcaa

namespace Go.Proofs.Yteifhcohmipdcaa
open Go.Abs
set_option linter.unusedSimpArgs false
set_option linter.unusedVariables false
theorem filter_lt {α : Type} {p q : α → Bool} : ∀ {l : List α}, (∀ x ∈ l, p x = true → q x = true) → ∀ {y : α}, y ∈ l → q y = true → p y = false → (l.filter p).length < (l.filter q).length
 | [], _, y, hy, _, _ => by cases hy
 | a :: l, h, y, hy, hq, hp => by
  have hle : ∀ {l : List α}, (∀ x ∈ l, p x = true → q x = true) → (l.filter p).length ≤ (l.filter q).length := by
   intro l
   induction l with
   | nil => intro _; exact Nat.le_refl _
   | cons b l ih =>
    intro h
    have h1 := ih fun x hx => h x (List.mem_cons_of_mem _ hx)
    have h2 := h b (List.mem_cons_self ..)
    simp only [List.filter_cons]
    cases hb : p b with
    | false => cases hb2 : q b <;> simp <;> omega
    | true => rw [h2 hb]; simp; omega
  simp only [List.filter_cons]
  rcases List.mem_cons.1 hy with rfl | hy2
  ·rw [hq, hp]
   have := hle fun x hx => h x (List.mem_cons_of_mem _ hx)
   simp; omega
  ·have := filter_lt (fun x hx => h x (List.mem_cons_of_mem _ hx)) hy2 hq hp
   have h2 := h a (List.mem_cons_self ..)
   cases hb : p a with
   | false => cases hb2 : q a <;> simp <;> omega
   | true => rw [h2 hb]; simp; omega
def Progress (ss : List (List Int)) : Prop := ∀ l : List Int, (∃ k : Nat, k < ss.length ∧ (k : Int) ∉ l) → ∃ k : Nat, k < ss.length ∧ readyAt ss l k = true
theorem readyAt_not {ss : List (List Int)} {l : List Int} {k : Nat} (h : readyAt ss l k = true) : (k : Int) ∉ l := by
 simp only [readyAt, Bool.and_eq_true, Bool.not_eq_true', decide_eq_false_iff_not] at h; exact h.1
theorem pickN_spec {ss : List (List Int)} {l : List Int} (h : ∃ k : Nat, k < ss.length ∧ readyAt ss l k = true) : pickN ss l < ss.length ∧ readyAt ss l (pickN ss l) = true ∧ ∀ k, k < pickN ss l → readyAt ss l k = false := by
 obtain ⟨k, hk, hr⟩ := h
 cases hf : (List.range ss.length).find? (readyAt ss l) with
 | none => have := List.find?_eq_none.1 hf k (List.mem_range.2 hk); rw [hr] at this; simp at this
 | some i =>
  have he : pickN ss l = i := by rw [pickN, hf]; rfl
  have h2 := List.find?_range_eq_some.1 hf
  rw [he]
  exact ⟨List.mem_range.1 h2.2.1, h2.1, fun k hk => by have := h2.2.2 k hk; simpa using this⟩
theorem lacks {n : Nat} {l : List Int} (h : l.length < n) : ∃ k : Nat, k < n ∧ (k : Int) ∉ l := by
 rcases Classical.em (∃ k : Nat, k < n ∧ (k : Int) ∉ l) with h1 | h1
 ·exact h1
 ·exfalso
  have hall : ∀ k : Nat, k < n → (k : Int) ∈ l := fun k hk => Classical.byContradiction fun h2 => h1 ⟨k, hk, h2⟩
  have hsub : (List.range n).map (fun k : Nat => (k : Int)) ⊆ l := by
   intro x hx
   obtain ⟨k, hk, rfl⟩ := List.mem_map.1 hx
   exact hall k (List.mem_range.1 hk)
  have hnd : ((List.range n).map (fun k : Nat => (k : Int))).Nodup := by
   rw [List.nodup_iff_pairwise_ne, List.pairwise_map]
   exact (List.nodup_iff_pairwise_ne.1 List.nodup_range).imp fun h e => h (by omega)
  have := hnd.length_le_of_subset hsub
  simp at this; omega
structure ListedOk (ss : List (List Int)) (j : Nat) : Prop where
 nodup : (listedL ss j).Nodup
 inn : ∀ x ∈ listedL ss j, inR ss.length x
 ready : ∀ i, i < j → readyAt ss (listedL ss i) (pickN ss (listedL ss i)) = true
theorem listed_pick {ss : List (List Int)} (hp : Progress ss) {j : Nat} (h : j < ss.length) : pickN ss (listedL ss j) < ss.length ∧ readyAt ss (listedL ss j) (pickN ss (listedL ss j)) = true ∧ ∀ k, k < pickN ss (listedL ss j) → readyAt ss (listedL ss j) k = false :=
 pickN_spec (hp _ (lacks (by rw [listed_len]; exact h)))
theorem listed_ok2 {ss : List (List Int)} (hp : Progress ss) : ∀ {j : Nat}, j ≤ ss.length → ListedOk ss j
 | 0, _ => ⟨by simp [listedL], fun x hx => by simp [listedL] at hx, fun i hi => by omega⟩
 | j + 1, h => by
  have ih := listed_ok2 hp (j := j) (by omega)
  obtain ⟨h1, h2, h3⟩ := listed_pick hp (j := j) (by omega)
  have hn := readyAt_not h2
  refine ⟨?_, listed_in h, fun i hi => ?_⟩
  ·rw [listedL, List.nodup_append]
   exact ⟨ih.nodup, by simp, fun a ha b hb => by simp at hb; subst hb; intro e; subst e; exact hn ha⟩
  ·by_cases e : i = j
   ·subst e; exact h2
   ·exact ih.ready i (by omega)
theorem listed_all {ss : List (List Int)} (hp : Progress ss) : ∀ k : Nat, k < ss.length → (k : Int) ∈ listedL ss ss.length := by
 intro k hk
 have h := listed_ok2 hp (Nat.le_refl ss.length)
 rcases Classical.em ((k : Int) ∈ listedL ss ss.length) with h1 | h1
 ·exact h1
 ·exfalso
  have hnd : ((k : Int) :: listedL ss ss.length).Nodup := List.nodup_cons.2 ⟨h1, h.nodup⟩
  have hsub : ((k : Int) :: listedL ss ss.length) ⊆ (List.range ss.length).map (fun k : Nat => (k : Int)) := by
   intro x hx
   have hx2 : inR ss.length x := by
    rcases List.mem_cons.1 hx with rfl | hx
    ·exact ⟨by omega, by omega⟩
    ·exact h.inn x hx
   exact List.mem_map.2 ⟨x.toNat, List.mem_range.2 (in_toNat hx2), toNat_cast hx2⟩
  have := hnd.length_le_of_subset hsub
  rw [List.length_cons, listed_len, List.length_map, List.length_range] at this
  omega
def Gr.reachN (g : Gr) (r : Nat) : Nat := ((List.range g.nodes.length).filter fun v => (g.marks [(r : Int)]).getD v false).length
theorem ready_iff {g : Gr} (hv : g.valid = true) {l : List Int} {r : Nat} (hr : r < g.nodes.length) (hg : g.grp r = r) :
  readyAt g.cedges l (g.rank r) = true ↔ (g.rank r : Int) ∉ l ∧ ∀ a b : Int, (a, b) ∈ g.edges → g.grp a.toNat = r → ¬ g.grp b.toNat = r → (g.rank (g.grp b.toNat) : Int) ∈ l := by
 have hce : g.cedges.getD (g.rank r) [] = g.ceR g.nodes.length r := by
  have := ceU_get (g := g) (i := g.nodes.length) hv hr
  rw [hg] at this
  rw [List.getD_eq_getElem?_getD, Gr.cedges, this]; rfl
 simp only [readyAt, Bool.and_eq_true, Bool.not_eq_true', decide_eq_false_iff_not, hce, List.all_eq_true, decide_eq_true_eq]
 refine and_congr_right fun _ => ⟨fun h a b he ha hb => ?_, fun h x hx => ?_⟩
 ·have hea := (valid_edge hv he).1
  exact h _ (ceR_mem.2 ⟨a.toNat, in_toNat hea, ha, b, (succ_mem hv).2 (by rw [toNat_cast hea]; exact he), by rw [ha]; exact hb, rfl⟩)
 ·obtain ⟨u, h1, h2, k, h3, h4, rfl⟩ := ceR_mem.1 hx
  exact h u k ((succ_mem hv).1 h3) (by simpa using h2) (by rw [h2] at h4; exact h4)
theorem comps_progress {g : Gr} (hv : g.valid = true) : Progress g.cedges := by
 intro l hl
 have key : ∀ (n r : Nat), g.reachN r ≤ n → r < g.nodes.length → g.grp r = r → (g.rank r : Int) ∉ l → ∃ k : Nat, k < g.cedges.length ∧ readyAt g.cedges l k = true := by
  intro n
  induction n with
  | zero =>
   intro r h hr _ _
   have hself := (marks_R hv hr hr).2 (.refl g _)
   have : r ∈ (List.range g.nodes.length).filter fun v => (g.marks [(r : Int)]).getD v false := List.mem_filter.2 ⟨List.mem_range.2 hr, hself⟩
   have := List.length_pos_of_mem this
   simp only [Gr.reachN] at h; omega
  | succ n ih =>
   intro r h hr hg hn
   rcases Classical.em (readyAt g.cedges l (g.rank r) = true) with h1 | h1
   ·exact ⟨g.rank r, by rw [cedges_len]; exact rank_lt hr hg, h1⟩
   ·have h2 : ∃ a b : Int, (a, b) ∈ g.edges ∧ g.grp a.toNat = r ∧ ¬ g.grp b.toNat = r ∧ (g.rank (g.grp b.toNat) : Int) ∉ l := by
     rcases Classical.em (∃ a b : Int, (a, b) ∈ g.edges ∧ g.grp a.toNat = r ∧ ¬ g.grp b.toNat = r ∧ (g.rank (g.grp b.toNat) : Int) ∉ l) with h3 | h3
     ·exact h3
     ·exfalso
      exact h1 ((ready_iff hv hr hg).2 ⟨hn, fun a b he ha hb => Classical.byContradiction fun h4 => h3 ⟨a, b, he, ha, hb, h4⟩⟩)
    obtain ⟨a, b, he, ha, hb, hnb⟩ := h2
    obtain ⟨har, hbr⟩ := valid_edge hv he
    have hga := grp_spec hv (in_toNat har)
    have hgb := grp_spec hv (in_toNat hbr)
    have hRab : g.R r (g.grp b.toNat) := by
     have h5 : g.R r a := by have := hga.2.2.2.1; rw [ha, toNat_cast har] at this; exact this
     have h6 : g.R b (g.grp b.toNat) := by have := hgb.2.2.1; rw [toNat_cast hbr] at this; exact this
     exact (h5.trans (.edge he)).trans h6
    have hnot : ¬ g.R (g.grp b.toNat) r := fun h7 => by
     have h8 := (grp_eq hv hr hgb.2.1).2 ⟨hRab, h7⟩
     rw [hg, grp_grp hv (in_toNat hbr)] at h8
     exact hb h8.symm
    refine ih (g.grp b.toNat) ?_ hgb.2.1 (grp_grp hv (in_toNat hbr)) hnb
    have : g.reachN (g.grp b.toNat) < g.reachN r := by
     refine filter_lt (fun v hv2 h9 => ?_) (List.mem_range.2 hr) ((marks_R hv hr hr).2 (.refl g _)) ?_
     ·have hvn := List.mem_range.1 hv2
      exact (marks_R hv hr hvn).2 (hRab.trans ((marks_R hv hgb.2.1 hvn).1 h9))
     ·rw [Bool.eq_false_iff]
      exact fun h9 => hnot ((marks_R hv hgb.2.1 hr).1 h9)
    omega
 obtain ⟨k, hk, hkn⟩ := hl
 rw [cedges_len] at hk
 have hkr : (g.reps g.nodes.length)[k]? = some (g.reps g.nodes.length)[k] := List.getElem?_eq_getElem hk
 obtain ⟨hr1, hr2⟩ := reps_mem.1 (List.getElem_mem hk)
 have hrk : g.rank (g.reps g.nodes.length)[k] = k := by
  have h2 := reps_rank hr1 hr2
  have hnd : (g.reps g.nodes.length).Nodup := (List.nodup_range).filter _
  exact (List.getElem?_inj (rank_lt hr1 hr2) hnd).1 (h2.trans hkr.symm)
 exact key _ _ (Nat.le_refl _) hr1 hr2 (by rw [hrk]; exact hkn)
end Go.Proofs.Yteifhcohmipdcaa

namespace Go.Proofs.Yteifhcohmipdcaa
open Go.Abs
set_option linter.unusedSimpArgs false
set_option linter.unusedVariables false
def lsL (g : Gr) (l : List Int) : List Bool := (List.range g.nodes.length).map fun i : Nat => decide (g.grp i = i ∧ (g.rank i : Int) ∈ l)
def edgeOk (g : Gr) (bs : List Bool) (i : Nat) (e : Int × Int) : Bool := !decide (g.grp e.1.toNat = i) || decide (g.grp e.2.toNat = i) || bs.getD (g.grp e.2.toNat) false
def rdyB (g : Gr) (bs : List Bool) (i : Nat) : Bool := (decide (g.grp i = i) && !bs.getD i false) && g.edges.all (edgeOk g bs i)
def nxR (g : Gr) (bs : List Bool) (kk : Nat) : Int := match (List.range' kk (g.nodes.length - kk)).find? (rdyB g bs) with | some i => (i : Int) | none => -1
def cmpsL (g : Gr) (j : Nat) : List (List Int) := (listedL g.cedges j).map fun k => g.comps.getD k.toNat []
end Go.Proofs.Yteifhcohmipdcaa

namespace Go.Proofs.Yteifhcohmipdcaa
open Go.Abs
set_option linter.unusedSimpArgs false
set_option linter.unusedVariables false
end Go.Proofs.Yteifhcohmipdcaa

namespace Go.Proofs.Yteifhcohmipdcaa
open Go.Abs
set_option linter.unusedSimpArgs false
set_option linter.unusedVariables false
theorem far_ge {g : Gr} {i to : Int} (hi : i ≤ to) {k : Nat} {v : Int} (h : g.Far (fun x => i ≤ x) to k v) : i ≤ v := by
 have hw := h.1
 cases hw with
 | nil => exact hi
 | cons _ ha _ => exact ha
def tgE (g : Gr) (i m : Nat) : List Int := ((List.range' i m).filter fun k => g.hasEdge i (k : Nat)).map fun k : Nat => (k : Int)
def rcand (g : Gr) (i k : Nat) : List Int := if (g.sub i).hasEdge i k = true then (if (g.sub i).path k i = [] then [] else (i : Int) :: ((g.sub i).path k i).dropLast) else []
def rc1 (g : Gr) (i : Nat) (best : List Int) (k : Nat) : List Int := if rcand g i k = [] then best else if best = [] ∨ lessL (rcand g i k) best = true then rcand g i k else best
def rcI (g : Gr) (i : Nat) (best : List Int) (m : Nat) : List Int := (List.range' i m).foldl (rc1 g i) best
def Gr.rcyc (g : Gr) (i : Nat) : List Int := (List.range i).foldl (fun best i => rcI g i best (g.nodes.length - i)) []
theorem cand_len (g : Gr) (far : List Int) (i : Int) (n : Nat) (k : Int) : (i :: (g.way far n k).dropLast).length = n + 1 := by
 rw [List.length_cons, List.length_dropLast, way_len]; rfl
end Go.Proofs.Yteifhcohmipdcaa

namespace Go.Proofs.Yteifhcohmipdcaa
open Go.Abs
set_option linter.unusedSimpArgs false
set_option linter.unusedVariables false
abbrev TT_ : Int → Prop := fun _ => True
theorem Gr.Walk.snoc {g : Gr} {to c v : Int} {k : Nat} (h : g.Walk TT_ to k v) (he : (to, c) ∈ g.edges) : g.Walk TT_ c (k + 1) v := by
 induction h with
 | nil => exact .cons he trivial .nil
 | cons h1 h2 _ ih => exact .cons h1 trivial ih
theorem Gr.Walk.reach {g : Gr} {to v : Int} {k : Nat} (h : g.Walk TT_ to k v) {l : List Int} (hl : g.Reach l v) : g.Reach l to := by
 induction h with
 | nil => exact hl
 | cons h1 _ _ ih => exact ih (hl.step h1)
theorem reach_walk {g : Gr} {a x : Int} (h : g.Reach [a] x) : ∃ k, g.Walk TT_ x k a := by
 induction h with
 | base h => simp at h; subst h; exact ⟨0, .nil⟩
 | step _ he ih => obtain ⟨k, hk⟩ := ih; exact ⟨k + 1, hk.snoc he⟩
theorem path_cases {g : Gr} (hv : g.valid = true) {a b : Int} (ha : inR g.nodes.length a) (hb : inR g.nodes.length b) :
  (g.path a b = [] ∧ ∀ k, ¬ g.Walk TT_ b k a) ∨ ∃ n, g.Far TT_ b n a ∧ g.path a b = g.way (g.dist b) n a := by
 have he : g.exist [a, b] = true := exist_iff.2 ⟨fun x hx => by simp at hx; rcases hx with rfl | rfl <;> assumption, hv⟩
 have hD := dist_is hv hb
 have hal : a.toNat < (g.dist b).length := by rw [hD.len]; exact in_toNat ha
 have hg : (g.dist b).getD a.toNat 0 = (g.dist b)[a.toNat] := by rw [List.getD_eq_getElem?_getD, List.getElem?_eq_getElem hal]; rfl
 rw [Gr.path, if_pos he, hg]
 by_cases hw : ∃ k, g.Walk TT_ b k a
 ·obtain ⟨k, hk⟩ := hw
  obtain ⟨n, _, hf⟩ := hk.far
  have := hD.all a.toNat n (in_toNat ha) (by rw [toNat_cast ha]; exact hf)
  rw [List.getElem?_eq_getElem hal] at this
  simp only [Option.some.injEq] at this
  rw [this, if_neg (by omega)]
  exact .inr ⟨n, hf, rfl⟩
 ·rcases hD.val a.toNat _ (List.getElem?_eq_getElem hal) with q | ⟨n, q, hf⟩
  ·rw [q, if_pos (by omega)]
   exact .inl ⟨rfl, fun k hk => hw ⟨k, hk⟩⟩
  ·rw [toNat_cast ha] at hf
   exact absurd ⟨n, hf.1⟩ hw
def lenL (g : Gr) (a : Int) (i : Nat) : List Int := (List.range g.nodes.length).map fun j : Nat => if j < i then ((g.path a j).length : Int) else 0
end Go.Proofs.Yteifhcohmipdcaa

namespace Go.Proofs.Yteifhcohmipdcaa
open Go.Abs
set_option linter.unusedSimpArgs false
set_option linter.unusedVariables false
theorem idxOf_lt_of_take {l : List Int} {a : Int} {j : Nat} (h : a ∈ l.take j) : l.idxOf a < j := by
 have h1 := List.idxOf_lt_length_of_mem h
 have h2 : (l.take j ++ l.drop j).idxOf a = (l.take j).idxOf a := by rw [List.idxOf_append, if_pos h]
 rw [List.take_append_drop] at h2
 rw [h2]
 rw [List.length_take] at h1
 omega
theorem listedL_take (ss : List (List Int)) : ∀ (m j : Nat), j ≤ m → (listedL ss m).take j = listedL ss j
 | 0, j, h => by
  obtain rfl : j = 0 := by omega
  rfl
 | m + 1, j, h => by
  by_cases hj : j = m + 1
  ·subst hj; rw [List.take_of_length_le (by rw [listed_len]; omega)]
  ·rw [listedL, List.take_append_of_le_length (by rw [listed_len]; omega)]
   exact listedL_take ss m j (by omega)
theorem listedL_get (ss : List (List Int)) {m j : Nat} (h : j < m) : (listedL ss m)[j]? = some (pickN ss (listedL ss j) : Int) := by
 have h1 := listedL_take ss m (j + 1) (by omega)
 have h2 : ((listedL ss m).take (j + 1))[j]? = (listedL ss m)[j]? := by rw [List.getElem?_take, if_pos (by omega)]
 rw [← h2, h1, listedL, List.getElem?_append_right (by rw [listed_len]; omega), listed_len, Nat.sub_self]; rfl
theorem listed_before {ss : List (List Int)} (hp : Progress ss) {k x : Nat} (hk : k < ss.length) (hx : (x : Int) ∈ ss.getD k []) : (listedL ss ss.length).idxOf (x : Int) < (listedL ss ss.length).idxOf (k : Int) := by
 have hok := listed_ok2 hp (Nat.le_refl ss.length)
 have hm := listed_all hp k hk
 have hlt := List.idxOf_lt_length_of_mem hm
 rw [listed_len] at hlt
 obtain ⟨j, hj⟩ : ∃ j, (listedL ss ss.length).idxOf (k : Int) = j := ⟨_, rfl⟩
 have hg : (listedL ss ss.length)[j]? = some (k : Int) := by
  rw [← hj, List.getElem?_eq_getElem (by rw [listed_len]; exact hlt), List.getElem_idxOf]
 rw [hj] at hlt ⊢
 rw [listedL_get ss hlt] at hg
 have hpk : pickN ss (listedL ss j) = k := by have := Option.some.inj hg; omega
 have hr := hok.ready j hlt
 rw [hpk] at hr
 simp only [readyAt, Bool.and_eq_true, List.all_eq_true, decide_eq_true_eq] at hr
 have hxm := hr.2 _ hx
 rw [← listedL_take ss ss.length j (by omega)] at hxm
 exact idxOf_lt_of_take hxm
def Gr.cpos (g : Gr) (v : Nat) : Nat := g.order.idxOf (g.rank (g.grp v) : Int)
theorem grp_lt {g : Gr} (hv : g.valid = true) {v : Nat} (h : v < g.nodes.length) : g.grp v < g.nodes.length := (grp_spec hv h).2.1
theorem rank_in {g : Gr} (hv : g.valid = true) {v : Nat} (h : v < g.nodes.length) : g.rank (g.grp v) < g.cedges.length := by
 rw [cedges_len]; exact rank_lt (grp_lt hv h) (grp_grp hv h)
theorem order_all {g : Gr} (hv : g.valid = true) {v : Nat} (h : v < g.nodes.length) : (g.rank (g.grp v) : Int) ∈ g.order := listed_all (comps_progress hv) _ (rank_in hv h)
theorem cpos_lt {g : Gr} (hv : g.valid = true) {v : Nat} (h : v < g.nodes.length) : g.cpos v < g.order.length := List.idxOf_lt_length_of_mem (order_all hv h)
theorem cpos_get {g : Gr} (hv : g.valid = true) {v : Nat} (h : v < g.nodes.length) : g.order[g.cpos v]'(cpos_lt hv h) = (g.rank (g.grp v) : Int) := List.getElem_idxOf _
theorem cpos_inj {g : Gr} (hv : g.valid = true) {u v : Nat} (hu : u < g.nodes.length) (h : v < g.nodes.length) : g.cpos u = g.cpos v ↔ g.grp u = g.grp v := by
 constructor
 ·intro e
  have h1 := cpos_get hv hu
  have h2 := cpos_get hv h
  simp only [e] at h1
  rw [h1] at h2
  exact rank_inj (grp_grp hv hu) (grp_grp hv h) (by omega)
 ·intro e; rw [Gr.cpos, Gr.cpos, e]
theorem edge_cpos {g : Gr} (hv : g.valid = true) {u w : Int} (he : (u, w) ∈ g.edges) : g.cpos w.toNat ≤ g.cpos u.toNat := by
 obtain ⟨hu, hw⟩ := valid_edge hv he
 by_cases e : g.grp u.toNat = g.grp w.toNat
 ·rw [Gr.cpos, Gr.cpos, e]; exact Nat.le_refl _
 ·have hcu : (g.rank (g.grp w.toNat) : Int) ∈ g.cedges.getD (g.rank (g.grp u.toNat)) [] := by
   have h1 := ceU_get hv (i := g.nodes.length) (in_toNat hu)
   rw [Gr.cedges, List.getD_eq_getElem?_getD, h1, Option.getD_some, ceR_mem]
   refine ⟨u.toNat, in_toNat hu, rfl, w, (succ_mem hv).2 (by rw [toNat_cast hu]; exact he), fun h => e h.symm, rfl⟩
  exact Nat.le_of_lt (listed_before (comps_progress hv) (rank_in hv (in_toNat hu)) hcu)
def atL (g : Gr) (i j : Nat) : List Int := (List.range g.nodes.length).map fun v : Nat => if g.cpos v < i ∨ (g.cpos v = i ∧ (v : Int) ∈ (g.gcomps.getD i []).take j) then (g.cpos v : Int) + 1 else 0
end Go.Proofs.Yteifhcohmipdcaa

namespace Go.Proofs.Yteifhcohmipdcaa
open Go.Abs
set_option linter.unusedSimpArgs false
set_option linter.unusedVariables false
def mxL (lev : List Int) (xs : List Int) : Int := xs.foldl (fun m x => max m (gt lev x + 1)) 0
structure Topo (ce : List (List Int)) (l : List Int) : Prop where
 nodup : l.Nodup
 inn : ∀ x ∈ l, inR ce.length x
 inn2 : ∀ k : Nat, ∀ x ∈ ce.getD k [], inR ce.length x
 before : ∀ i : Nat, ∀ k, l[i]? = some k → ∀ x ∈ ce.getD k.toNat [], x ∈ l.take i
section
variable {ce cs : List (List Int)} {l : List Int}
structure OutOk (ce cs : List (List Int)) (l : List Int) (i : Nat) (out : List (List Int)) : Prop where
 lt : ∀ j (h : j < l.length), j < i → (gt (lv2 ce cs l).1 l[j]).toNat < out.length
 top : out.length = 0 ∨ ∃ j, ∃ h : j < l.length, j < i ∧ (gt (lv2 ce cs l).1 l[j]).toNat + 1 = out.length
 mem : ∀ d, d < out.length → ∀ x, x ∈ out.getD d [] ↔ ∃ j, ∃ h : j < l.length, j < i ∧ (gt (lv2 ce cs l).1 l[j]).toNat = d ∧ x ∈ cs.getD (l[j]).toNat []
 nodup : ∀ d, d < out.length → (out.getD d []).Nodup
end
end Go.Proofs.Yteifhcohmipdcaa

namespace Go.Proofs.Yteifhcohmipdcaa
open Go.Abs
set_option linter.unusedSimpArgs false
set_option linter.unusedVariables false
def Gr.lvF (g : Gr) : List Int := (lv2 g.cedges g.comps g.order).1
def Gr.lv (g : Gr) (v : Nat) : Nat := (gt g.lvF (g.rank (g.grp v))).toNat
def levN (g : Gr) (d : Nat) : List Int := ((List.range g.nodes.length).filter fun v => decide (g.lv v = d)).map fun v : Nat => (v : Int)
def lvT (g : Gr) (i j : Nat) : List Int := (List.range g.nodes.length).map fun v : Nat => if g.lv v < i ∨ (g.lv v = i ∧ (v : Int) ∈ (levN g i).take j) then (g.lv v : Int) + 1 else 0
end Go.Proofs.Yteifhcohmipdcaa

namespace Go.Proofs.Yteifhcohmipdcaa
open Go.Abs
set_option linter.unusedSimpArgs false
set_option linter.unusedVariables false
theorem pickC_spec (far : List Int) : ∀ (m : Nat) (ks : List Int), ks.length = m → (∀ k ∈ ks, 0 ≤ k) →
  (pickC far ks = (-1, 0) ∧ ∀ k ∈ ks, gt far k < 0) ∨ ((pickC far ks).1 ∈ ks ∧ (pickC far ks).2 = gt far (pickC far ks).1 ∧ 0 ≤ (pickC far ks).2 ∧ ∀ k ∈ ks, 0 ≤ gt far k → (pickC far ks).2 ≤ gt far k)
 | 0, ks, hm, _ => by
  obtain rfl := List.eq_nil_of_length_eq_zero hm
  exact .inl ⟨rfl, fun k h => by cases h⟩
 | m + 1, ks, hm, hp => by
  obtain ⟨az, x, rfl⟩ : ∃ a x, ks = a ++ [x] := ⟨ks.dropLast, ks.getLast (by intro e; rw [e] at hm; cases hm), (List.dropLast_concat_getLast _).symm⟩
  have ih := pickC_spec far m az (by simp at hm; omega) fun k hk => hp k (List.mem_append_left _ hk)
  have hx := hp x (by simp)
  rw [pickC_snoc]
  obtain ⟨nx, ln, hs⟩ : ∃ nx ln, pickC far az = (nx, ln) := ⟨_, _, rfl⟩
  rw [hs] at ih ⊢
  simp only [pstep]
  rcases ih with ⟨h1, h2⟩ | ⟨h1, h2, h3, h4⟩
  ·obtain ⟨rfl, rfl⟩ := Prod.mk.inj h1
   by_cases hg : 0 ≤ gt far x
   ·rw [if_pos ⟨hg, .inl (by omega)⟩]
    refine .inr ⟨by simp, rfl, hg, fun k hk hk0 => ?_⟩
    rcases List.mem_append.1 hk with hk | hk
    ·have := h2 k hk; omega
    ·simp at hk; subst hk; exact Int.le_refl _
   ·rw [if_neg (fun h => hg h.1)]
    refine .inl ⟨rfl, fun k hk => ?_⟩
    rcases List.mem_append.1 hk with hk | hk
    ·exact h2 k hk
    ·simp at hk; subst hk; omega
  ·simp only at h1 h2 h3 h4
   by_cases hg : 0 ≤ gt far x ∧ (nx < 0 ∨ gt far x < ln)
   ·rw [if_pos hg]
    refine .inr ⟨by simp, rfl, hg.1, fun k hk hk0 => ?_⟩
    have hnx := hp nx (List.mem_append_left _ h1)
    rcases List.mem_append.1 hk with hk | hk
    ·have := h4 k hk hk0; simp only; omega
    ·simp at hk; subst hk; exact Int.le_refl _
   ·rw [if_neg hg]
    refine .inr ⟨List.mem_append_left _ h1, h2, h3, fun k hk hk0 => ?_⟩
    rcases List.mem_append.1 hk with hk | hk
    ·exact h4 k hk hk0
    ·simp at hk; subst hk; simp only; omega
theorem geL_mem {g : Gr} (hv : g.valid = true) {f : Nat} {k : Int} : k ∈ geL f (g.succ f) ↔ ((f : Int), k) ∈ g.edges ∧ (f : Int) ≤ k := by
 simp only [geL, List.mem_filter, decide_eq_true_eq, succ_mem hv]
structure CycOk (g : Gr) (i : Nat) (best : List Int) : Prop where
 short : ∀ f : Nat, f < i → ∀ (L : Nat) (k : Int), ((f : Int), k) ∈ g.edges → (f : Int) ≤ k → g.Walk (fun x => (f : Int) ≤ x) f L k → best ≠ [] ∧ best.length ≤ L + 1
 form : best = [] ∨ ∃ (f : Nat) (n : Nat) (nx : Int), f < i ∧ ((f : Int), nx) ∈ g.edges ∧ g.Far (fun x => (f : Int) ≤ x) f n nx ∧ best = (f : Int) :: (g.way ((g.sub f).dist f) n nx).dropLast
theorem pcyc_ok {g : Gr} (hv : g.valid = true) : ∀ i, i ≤ g.nodes.length → CycOk g i (g.pcyc i)
 | 0, _ => ⟨fun f h => by omega, .inl rfl⟩
 | i + 1, h => by
  have ih := pcyc_ok hv i (by omega)
  have hi : inR g.nodes.length (i : Int) := ⟨by omega, by omega⟩
  have hD := dist_sub hv (Int.le_refl (i : Int)) hi
  have hps := pickC_spec ((g.sub i).dist i) _ (geL i (g.succ i)) rfl fun k hk => by have := ((geL_mem hv).1 hk).2; omega
  have hwalk : ∀ (L : Nat) (k : Int), ((i : Int), k) ∈ g.edges → g.Walk (fun x => (i : Int) ≤ x) i L k → 0 ≤ gt ((g.sub i).dist i) k ∧ gt ((g.sub i).dist i) k ≤ L := by
   intro L k he hw
   have hk := (valid_edge hv he).2
   obtain ⟨j, hj, hf⟩ := hw.far
   have := hD.all k.toNat j (in_toNat hk) (by rw [toNat_cast hk]; exact hf)
   have hg : gt ((g.sub i).dist i) k = j := by rw [gt, List.getD_eq_getElem?_getD, this]; rfl
   omega
  rw [pcyc_succ, Gr.cstep]
  obtain ⟨far, hfar⟩ : ∃ far, (g.sub i).dist i = far := ⟨_, rfl⟩
  rw [hfar] at hD hps hwalk ⊢
  obtain ⟨nx, ln, hs⟩ : ∃ nx ln, pickC far (geL i (g.succ i)) = (nx, ln) := ⟨_, _, rfl⟩
  rw [hs] at hps ⊢
  simp only at hps ⊢
  have hlt : ∀ {f : Nat}, f < i + 1 → ¬ f = i → f < i := fun h1 h2 => by omega
  rcases hps with ⟨h1, h2⟩ | ⟨h1, h2, h3, h4⟩
  ·obtain ⟨rfl, rfl⟩ := Prod.mk.inj h1
   rw [if_pos (.inl (by omega))]
   refine ⟨fun f hf L k he hk hw => ?_, ?_⟩
   ·by_cases e : f = i
    ·subst e
     have := h2 k ((geL_mem hv).2 ⟨he, hk⟩)
     have := hwalk L k he hw
     omega
    ·exact ih.short f (hlt hf e) L k he hk hw
   ·rcases ih.form with h5 | ⟨f, n, nx, h5, h6⟩
    ·exact .inl h5
    ·exact .inr ⟨f, n, nx, by omega, h6⟩
  ·obtain ⟨he0, hge0⟩ := (geL_mem hv).1 h1
   have hnx := (valid_edge hv he0).2
   obtain ⟨n, hn, hfn⟩ : ∃ n : Nat, ln = n ∧ g.Far (fun x => (i : Int) ≤ x) i n nx := by
    have hnl : nx.toNat < far.length := by rw [hD.len]; exact in_toNat hnx
    rcases hD.val nx.toNat _ (List.getElem?_eq_getElem hnl) with q | ⟨n, q, hf⟩
    ·rw [gt_elem hnl] at q; omega
    ·rw [gt_elem hnl] at q; exact ⟨n, by omega, by rwa [toNat_cast hnx] at hf⟩
   subst hn
   by_cases hA : nx < 0 ∨ (g.pcyc i ≠ [] ∧ (n : Int) + 1 ≥ (g.pcyc i).length)
   ·rw [if_pos hA]
    have hA2 := hA.resolve_left (by omega)
    refine ⟨fun f hf L k he hk hw => ?_, ?_⟩
    ·by_cases e : f = i
     ·subst e
      have h5 := h4 k ((geL_mem hv).2 ⟨he, hk⟩) (hwalk L k he hw).1
      have h6 := (hwalk L k he hw).2
      exact ⟨hA2.1, by omega⟩
     ·exact ih.short f (hlt hf e) L k he hk hw
    ·rcases ih.form with h5 | ⟨f, n, nx, h5, h6⟩
     ·exact .inl h5
     ·exact .inr ⟨f, n, nx, by omega, h6⟩
   ·rw [if_neg hA, Int.toNat_natCast]
    have hcl := cand_len g far (i : Int) n nx
    refine ⟨fun f hf L k he hk hw => ⟨by simp, ?_⟩, .inr ⟨i, n, nx, by omega, he0, hfn, by rw [hfar]⟩⟩
    rw [hcl]
    by_cases e : f = i
    ·subst e
     have h5 := h4 k ((geL_mem hv).2 ⟨he, hk⟩) (hwalk L k he hw).1
     have h6 := (hwalk L k he hw).2
     omega
    ·obtain ⟨h5, h6⟩ := ih.short f (hlt hf e) L k he hk hw
     have : ¬ (n : Int) + 1 ≥ (g.pcyc i).length := fun h => hA (.inr ⟨h5, h⟩)
     omega
theorem walk_fun {g : Gr} {to : Int} {k : Nat} {v : Int} (h : g.Walk TT_ to k v) : ∃ f : Nat → Int, f 0 = v ∧ f k = to ∧ ∀ i, i < k → (f i, f (i + 1)) ∈ g.edges := by
 induction h with
 | nil => exact ⟨fun _ => to, rfl, rfl, fun i h => by omega⟩
 | @cons a b k he _ _ ih =>
  obtain ⟨f, h1, h2, h3⟩ := ih
  refine ⟨fun i => match i with | 0 => a | i + 1 => f i, rfl, h2, fun i hi => ?_⟩
  cases i with
  | zero => simp only; rw [h1]; exact he
  | succ i => exact h3 i (by omega)
theorem fun_walk {g : Gr} {ok : Int → Prop} {h : Nat → Int} (he : ∀ i, (h i, h (i + 1)) ∈ g.edges) (hok : ∀ i, ok (h i)) : ∀ (k a : Nat), g.Walk ok (h (a + k)) k (h a)
 | 0, a => .nil
 | k + 1, a => by
  have := fun_walk he hok k (a + 1)
  rw [show a + 1 + k = a + (k + 1) by omega] at this
  exact .cons (he a) (hok a) this
theorem min_at (h : Nat → Int) : ∀ L, 0 < L → ∃ j, j < L ∧ ∀ i, i < L → h j ≤ h i
 | 0, h0 => by omega
 | 1, _ => by
  refine ⟨0, by omega, fun i hi => ?_⟩
  obtain rfl : i = 0 := by omega
  exact Int.le_refl _
 | L + 2, _ => by
  obtain ⟨j, h1, h2⟩ := min_at h (L + 1) (by omega)
  by_cases hc : h j ≤ h (L + 1)
  ·refine ⟨j, by omega, fun i hi => ?_⟩
   by_cases e : i = L + 1
   ·subst e; exact hc
   ·exact h2 i (by omega)
  ·refine ⟨L + 1, by omega, fun i hi => ?_⟩
   by_cases e : i = L + 1
   ·subst e; exact Int.le_refl _
   ·have := h2 i (by omega); omega
theorem closed_least {g : Gr} (hv : g.valid = true) {L : Nat} {u w : Int} (he : (u, w) ∈ g.edges) (h : g.Walk TT_ u L w) :
  ∃ (f : Nat) (k : Int), f < g.nodes.length ∧ ((f : Int), k) ∈ g.edges ∧ (f : Int) ≤ k ∧ g.Walk (fun x => (f : Int) ≤ x) f L k := by
 obtain ⟨p, h1, h2, h3⟩ := walk_fun (Gr.Walk.cons (k := L) he trivial h)
 have hp : ∀ i, (p (i % (L + 1)), p ((i + 1) % (L + 1))) ∈ g.edges := by
  intro i
  have hlt := Nat.mod_lt i (show 0 < L + 1 by omega)
  have := h3 (i % (L + 1)) hlt
  by_cases e : i % (L + 1) + 1 = L + 1
  ·have e2 : (i + 1) % (L + 1) = 0 := by rw [Nat.add_mod, show i % (L + 1) = L by omega]; simp
   rw [e, h2, ← h1] at this
   rw [e2]; exact this
  ·have e2 : (i + 1) % (L + 1) = i % (L + 1) + 1 := by
    rw [Nat.add_mod]
    by_cases hL : L = 0
    ·subst hL; omega
    ·rw [Nat.mod_eq_of_lt (a := 1) (by omega), Nat.mod_eq_of_lt (a := i % (L + 1) + 1) (by omega)]
   rw [e2]; exact this
 obtain ⟨j, hj, hmin⟩ := min_at (fun i => p (i % (L + 1))) (L + 1) (by omega)
 have hall : ∀ i, p (j % (L + 1)) ≤ p (i % (L + 1)) := fun i => by
  have := hmin (i % (L + 1)) (Nat.mod_lt _ (by omega))
  simpa using this
 have hr := (valid_edge hv (hp j)).1
 obtain ⟨f, hf⟩ : ∃ f : Nat, p (j % (L + 1)) = f := ⟨(p (j % (L + 1))).toNat, (Int.toNat_of_nonneg hr.1).symm⟩
 have hw := fun_walk (g := g) (ok := fun x => (f : Int) ≤ x) (h := fun i => p (i % (L + 1))) hp (fun i => by rw [← hf]; exact hall i) L (j + 1)
 have e3 : (j + 1 + L) % (L + 1) = j % (L + 1) := by rw [show j + 1 + L = j + (L + 1) by omega, Nat.add_mod_right]
 simp only [e3, hf] at hw
 refine ⟨f, p ((j + 1) % (L + 1)), by rw [hf] at hr; have := hr.2; simp at this; omega, by rw [← hf]; exact hp j, by rw [← hf]; exact hall _, hw⟩
theorem pcycle_short {g : Gr} (hv : g.valid = true) {L : Nat} {u w : Int} (he : (u, w) ∈ g.edges) (h : g.Walk TT_ u L w) : g.pcycle ≠ [] ∧ g.pcycle.length ≤ L + 1 := by
 obtain ⟨f, k, h1, h2, h3, h4⟩ := closed_least hv he h
 rw [Gr.pcycle, if_pos hv]
 exact (pcyc_ok hv _ (Nat.le_refl _)).short f h1 L k h2 h3 h4
theorem back_short {g : Gr} (hv : g.valid = true) {u w : Int} (he : (u, w) ∈ g.edges) (h : ¬ g.path w u = []) : g.pcycle.length ≤ (g.path w u).length := by
 obtain ⟨hu, hw⟩ := valid_edge hv he
 rcases path_cases hv hw hu with ⟨h1, _⟩ | ⟨n, h1, h2⟩
 ·exact absurd h1 h
 ·rw [h2, way_len]; exact (pcycle_short hv he h1.1).2
theorem way_far' {g : Gr} (hv : g.valid = true) {ok : Int → Prop} {to : Int} {d : List Int} (hd : IsDist g ok to d) : ∀ {n : Nat} {a : Int}, inR g.nodes.length a → g.Far ok to n a →
  ∀ (i : Nat) (x : Int), (g.way d n a)[i]? = some x → i ≤ n ∧ g.Far ok to (n - i) x ∧ ∀ y, (g.way d n a)[i + 1]? = some y → (x, y) ∈ g.edges
 | 0, a, ha, hf, i, x, hx => by
  cases i with
  | zero => simp [Gr.way] at hx ⊢; subst hx; exact hf
  | succ i => simp [Gr.way] at hx
 | n + 1, a, ha, hf, i, x, hx => by
  obtain ⟨k, h1, h2, _, h3, h4⟩ := next_far' hv hd ha hf
  have ih := way_far' hv hd (n := n) (a := (k : Int)) ⟨by omega, by omega⟩ h4
  rw [Gr.way, h1] at hx ⊢
  cases i with
  | zero =>
   simp at hx; subst hx
   refine ⟨by omega, hf, fun y hy => ?_⟩
   rw [List.getElem?_cons_succ, way_head] at hy
   simp at hy; subst hy; exact h3
  | succ i =>
   rw [List.getElem?_cons_succ] at hx
   obtain ⟨h5, h6, h7⟩ := ih i x hx
   refine ⟨by omega, by rw [show n + 1 - (i + 1) = n - i by omega]; exact h6, fun y hy => ?_⟩
   rw [List.getElem?_cons_succ] at hy
   exact h7 y hy
structure IsCyc (g : Gr) (c : List Int) : Prop where
 least : ∀ x ∈ c, c.getD 0 0 ≤ x
 nodup : c.Nodup
 edge : ∀ i (h : i < c.length), (c[i], c.getD ((i + 1) % c.length) 0) ∈ g.edges
theorem pcycle_is {g : Gr} (hv : g.valid = true) (h : ¬ g.pcycle = []) : IsCyc g g.pcycle := by
 have hok := pcyc_ok hv _ (Nat.le_refl g.nodes.length)
 rw [Gr.pcycle, if_pos hv] at h ⊢
 obtain ⟨f, n, nx, h1, h2, h3, h4⟩ := hok.form.resolve_left h
 rw [h4]
 have hf : inR g.nodes.length (f : Int) := ⟨by omega, by omega⟩
 have hD := dist_sub hv (Int.le_refl (f : Int)) hf
 have hw := fun i x => way_far' hv hD (valid_edge hv h2).2 h3 i x
 have hlen := way_len g ((g.sub f).dist f) n nx
 have hhead : (g.way ((g.sub f).dist f) n nx)[0]? = some nx := by rw [way_head]; rfl
 obtain ⟨W, hW⟩ : ∃ W, g.way ((g.sub f).dist f) n nx = W := ⟨_, rfl⟩
 rw [hW] at hw hlen hhead ⊢
 have hdl : W.dropLast.length = n := by rw [List.length_dropLast, hlen]; rfl
 have hdg : ∀ i, i < n → W.dropLast[i]? = W[i]? := fun i hi => by rw [List.getElem?_dropLast, if_pos (by omega)]
 have hin : ∀ x ∈ W.dropLast, ∃ i, i < n ∧ W[i]? = some x := fun x hx => by
  obtain ⟨i, hi⟩ := List.mem_iff_getElem?.1 hx
  have hil := (List.getElem?_eq_some_iff.1 hi).1
  exact ⟨i, by omega, by rw [← hdg i (by omega)]; exact hi⟩
 have hlast : W[n]? = some (f : Int) := by
  have hn : n < W.length := by omega
  have h5 := hw n W[n] (List.getElem?_eq_getElem hn)
  have h6 := h5.2.1
  rw [Nat.sub_self] at h6
  rw [List.getElem?_eq_getElem hn, h6.zero]
 refine ⟨fun x hx => ?_, ?_, fun i hi => ?_⟩
 ·rcases List.mem_cons.1 hx with rfl | hx
  ·exact Int.le_refl _
  ·obtain ⟨i, hi, hix⟩ := hin x hx
   exact far_ge (Int.le_refl _) (hw i x hix).2.1
 ·rw [List.nodup_cons]
  constructor
  ·intro hx
   obtain ⟨i, hi, hix⟩ := hin _ hx
   have := (hw i _ hix).2.1.uniq (g.far_to _ _)
   omega
  ·rw [List.nodup_iff_pairwise_ne, List.pairwise_iff_getElem]
   intro i j hi hj hij e
   have h5 : W[i]? = some W.dropLast[i] := by rw [← hdg i (by omega), List.getElem?_eq_getElem hi]
   have h6 : W[j]? = some W.dropLast[j] := by rw [← hdg j (by omega), List.getElem?_eq_getElem hj]
   rw [← e] at h6
   have := (hw i _ h5).2.1.uniq (hw j _ h6).2.1
   have := (hw j _ h6).1
   omega
 ·have hcl : ((f : Int) :: W.dropLast).length = n + 1 := by rw [List.length_cons, hdl]
  have hnext : ((f : Int) :: W.dropLast).getD ((i + 1) % ((f : Int) :: W.dropLast).length) 0 = W.getD i 0 := by
   rw [hcl] at hi ⊢
   by_cases e : i = n
   ·subst e
    rw [Nat.mod_self, List.getD_eq_getElem?_getD (l := W), hlast]; rfl
   ·rw [Nat.mod_eq_of_lt (by omega), List.getD_eq_getElem?_getD, List.getElem?_cons_succ, hdg i (by omega), List.getD_eq_getElem?_getD]
  rw [hnext]
  cases i with
  | zero =>
   rw [List.getD_eq_getElem?_getD, hhead]; exact h2
  | succ i =>
   rw [hcl] at hi
   have h5 : W[i]? = some (((f : Int) :: W.dropLast)[i + 1]'(by rw [hcl]; omega)) := by
    rw [← hdg i (by omega), ← List.getElem?_cons_succ (a := (f : Int)), List.getElem?_eq_getElem (by rw [hcl]; omega)]
   have hil : i + 1 < W.length := by omega
   rw [List.getD_eq_getElem?_getD, List.getElem?_eq_getElem hil]
   exact (hw i _ h5).2.2 _ (List.getElem?_eq_getElem hil)
end Go.Proofs.Yteifhcohmipdcaa

namespace Go.Proofs.Yteifhcohmipdcaa
open Go.Abs
set_option linter.unusedSimpArgs false
set_option linter.unusedVariables false
theorem nocyc {g : Gr} (hv : g.valid = true) (h : g.pcycle = []) {u w : Int} (he : (u, w) ∈ g.edges) : ¬ g.Reach [w] u := fun hr => by
 obtain ⟨k, hk⟩ := reach_walk hr
 exact (pcycle_short hv he hk).1 h
theorem walk_first {g : Gr} {to a : Int} {k : Nat} (h : g.Walk TT_ to k a) : to = a ∨ ∃ b k, (a, b) ∈ g.edges ∧ g.Walk TT_ to k b := by
 cases h with
 | nil => exact .inl rfl
 | cons he _ hw => exact .inr ⟨_, _, he, hw⟩
theorem grp_self {g : Gr} (hv : g.valid = true) (h : g.pcycle = []) {v : Nat} (hvn : v < g.nodes.length) : g.grp v = v := by
 obtain ⟨_, _, h1, h2, _⟩ := grp_spec hv hvn
 obtain ⟨k, hk⟩ := reach_walk h1
 rcases walk_first hk with e | ⟨b, k, he, hw⟩
 ·omega
 ·exact absurd (Gr.R.trans (hw.reach (l := [b]) (.base (by simp))) h2) (nocyc hv h he)
theorem reps_self {g : Gr} (hv : g.valid = true) (h : g.pcycle = []) {i : Nat} (hi : i ≤ g.nodes.length) : g.reps i = List.range i := by
 rw [Gr.reps, List.filter_eq_self]
 intro v hm
 rw [decide_eq_true_eq]
 exact grp_self hv h (by have := List.mem_range.1 hm; omega)
theorem rank_self {g : Gr} (hv : g.valid = true) (h : g.pcycle = []) {r : Nat} (hr : r ≤ g.nodes.length) : g.rank r = r := by rw [Gr.rank, reps_self hv h hr, List.length_range]
theorem filter_range_eq {r : Nat} : ∀ {n : Nat}, r < n → (List.range n).filter (fun u => decide (u = r)) = [r]
 | 0, h => by omega
 | n + 1, h => by
  rw [List.range_succ, List.filter_append]
  by_cases e : r = n
  ·subst e
   have : (List.range r).filter (fun u => decide (u = r)) = [] := by
    rw [List.filter_eq_nil_iff]
    intro u hu
    have := List.mem_range.1 hu
    simp; omega
   rw [this]; simp
  ·rw [filter_range_eq (by omega)]
   have : ¬ n = r := fun h => e h.symm
   simp [this]
theorem cedges_self {g : Gr} (hv : g.valid = true) (h : g.pcycle = []) : g.cedges = g.succs := by
 rw [Gr.cedges, Gr.ceU, reps_self hv h (Nat.le_refl _), Gr.succs]
 refine List.map_congr_left fun r hr => ?_
 have hrn := List.mem_range.1 hr
 have h1 : (List.range g.nodes.length).filter (fun u => decide (g.grp u = r)) = [r] := by
  rw [← filter_range_eq hrn]
  exact List.filter_congr fun u hu => by rw [grp_self hv h (List.mem_range.1 hu)]
 rw [Gr.ceR, h1, List.flatMap_cons, List.flatMap_nil, List.append_nil, Gr.ceP]
 have h2 : (g.succ r).filter (fun k => decide (g.grp k.toNat ≠ g.grp r)) = g.succ r := by
  rw [List.filter_eq_self]
  intro k hk
  have he := (succ_mem hv).1 hk
  have hkr := (valid_edge hv he).2
  rw [decide_eq_true_eq, grp_self hv h (in_toNat hkr), grp_self hv h hrn]
  intro e
  refine nocyc hv h he (.base ?_)
  have := toNat_cast hkr
  simp only at this e
  simp; omega
 rw [h2]
 refine (List.map_congr_left fun k hk => ?_).trans (List.map_id _)
 have hkr := (valid_edge hv ((succ_mem hv).1 hk)).2
 rw [grp_self hv h (in_toNat hkr), rank_self hv h (Nat.le_of_lt (in_toNat hkr)), toNat_cast hkr]; rfl
theorem porder_self {g : Gr} (hv : g.valid = true) (h : g.pcycle = []) : g.porder = (g.order, true) := by
 rw [Gr.porder, if_pos ⟨hv, h⟩, Gr.order, cedges_self hv h]
theorem order_len2 {g : Gr} (hv : g.valid = true) (h : g.pcycle = []) : g.order.length = g.nodes.length := by
 rw [order_len, cedges_self hv h]; simp [Gr.succs]
theorem cpos_self {g : Gr} (hv : g.valid = true) (h : g.pcycle = []) {v : Nat} (hvn : v < g.nodes.length) : g.cpos v = g.order.idxOf (v : Int) := by
 rw [Gr.cpos, grp_self hv h hvn, rank_self hv h (Nat.le_of_lt hvn)]
theorem idxOf_eq {l : List Int} {x : Int} (h : x ∈ l) : idxOf (fun y => decide (x = y)) l = (l.idxOf x : Int) := by
 have hl := List.idxOf_lt_length_of_mem h
 refine idxOf_at hl ?_ ?_
 ·rw [List.any_eq_false]
  intro y hy e
  have hxy : x = y := of_decide_eq_true e
  rw [← hxy] at hy
  exact absurd (idxOf_lt_of_take hy) (Nat.lt_irrefl _)
 ·rw [decide_eq_true_eq, List.getElem_idxOf]
theorem order_edge {g : Gr} (hv : g.valid = true) (h : g.pcycle = []) {u w : Int} (he : (u, w) ∈ g.edges) :
  0 ≤ idxOf (fun y => decide (w = y)) g.order ∧ idxOf (fun y => decide (w = y)) g.order < idxOf (fun y => decide (u = y)) g.order := by
 obtain ⟨hu, hw⟩ := valid_edge hv he
 simp only at hu hw
 have mem : ∀ x : Int, inR g.nodes.length x → x ∈ g.order := fun x hx => by
  have := order_all hv (in_toNat hx)
  rw [grp_self hv h (in_toNat hx), rank_self hv h (Nat.le_of_lt (in_toNat hx)), toNat_cast hx] at this
  exact this
 have h1 := edge_cpos hv he
 have h2 : ¬ g.cpos w.toNat = g.cpos u.toNat := fun e => by
  rw [cpos_inj hv (in_toNat hw) (in_toNat hu), grp_self hv h (in_toNat hw), grp_self hv h (in_toNat hu)] at e
  refine nocyc hv h he (.base ?_)
  have := toNat_cast hw
  have := toNat_cast hu
  simp; omega
 rw [cpos_self hv h (in_toNat hw), cpos_self hv h (in_toNat hu), toNat_cast hw, toNat_cast hu] at h1 h2
 rw [idxOf_eq (mem w hw), idxOf_eq (mem u hu)]
 omega
end Go.Proofs.Yteifhcohmipdcaa

namespace Go.Proofs.Yteifhcohmipdcaa
open Go.Abs
set_option linter.unusedSimpArgs false
set_option linter.unusedVariables false
def capOr (l : List Int) : AV := .rop [.ro (l.map (AV.int IntKind.i64))]
theorem pu_capOr (l : List Int) : Pu (capOr l) := .rop fun v hv => by simp at hv; subst hv; exact pu_ints _
set_option maxHeartbeats 1000000 in
theorem acyc1_0 (g : Gr) (hv : g.valid = true) (h : g.pcycle = []) (e : Int × Int) (he : e ∈ g.edges) (hol : g.order.length ≤ 1000000) : ACalls Try.prog 35 [encE e, capOr g.order] AHeap.nil (fun r _ => r = .bool false) := by
 have he2 : (e.1, e.2) ∈ g.edges := he
 obtain ⟨h1, h2⟩ := order_edge hv h he2
 obtain ⟨a, ha⟩ : ∃ a, idxOf (fun y => decide (e.1 = y)) g.order = a := ⟨_, rfl⟩
 obtain ⟨b, hb⟩ : ∃ b, idxOf (fun y => decide (e.2 = y)) g.order = b := ⟨_, rfl⟩
 rw [ha] at h2
 rw [hb] at h1 h2
 refine acalls_body TT_ok Try.func35 rfl rfl (by simp [Try.ntmps35]) ?_
 rw [Try.ntmps35]
 obtain ⟨σ, hσ⟩ : ∃ σ, σ = st0 [encE e, capOr g.order] := ⟨_, rfl⟩
 rw [← hσ]
 obtain ⟨h0_0, h1_0⟩ := fs2 hσ 0 1
 simp [st0] at h0_0 h1_0
 clear hσ
 obtain ⟨H, hH⟩ : ∃ H, H = AHeap.nil := ⟨_, rfl⟩
 rw [← hH]
 have hn_0 : H.n = 0 := by rw [hH]; rfl
 have hst_0 : H.st = 1 := by rw [hH]; rfl
 clear hH
 refine stp_reg TT_ok (by rfl) fun K hK => ?_
 simp [h0_0, hn_0, hst_0, encE, capOr]
 try refine And.intro (by first | omega | rfl) ?_
 refine hK _ _ fun σ1 hσ H1 hH => ?_
 clear hK K
 obtain ⟨h1_1, h2_1⟩ := fs2 hσ 1 2
 simp [h1_0] at h1_1 h2_1
 clear hσ
 have g0_1 := gt_of hH 0
 simp [hn_0, hst_0] at g0_1
 have hn_1 := congrArg AHeap.n hH
 simp [hn_0, hst_0] at hn_1
 have hst_1 := congrArg AHeap.st hH
 simp [hn_0, hst_0] at hst_1
 clear hH
 have hFF0 := an3 h1_1 h2_1 g0_1
 refine stp_lex false TT_ok mixed (by rfl) (by rfl) (by kernel_rfl) (by rfl) fun U hU K hK => ?_
 simp [hFF0, encE, capOr, ha, hb]
 try refine And.intro (by first | omega | rfl) ?_
 refine lex_callW (indexI_w g.order e.1 (by omega)) [] (fun H' hH' => FrzL.cons (.pure (pu_ints _)) (FrzL.cons (.pure (pu_int _ _)) (FrzL.nil _))) ?_
 simp [hFF0, encE, capOr, ha, hb]
 try refine And.intro (by first | omega | rfl) ?_
 refine lex_callW (indexI_w g.order e.2 (by omega)) [] (fun H' hH' => FrzL.cons (.pure (pu_ints _)) (FrzL.cons (.pure (pu_int _ _)) (FrzL.nil _))) ?_
 simp [hFF0, encE, capOr, ha, hb]
 try refine And.intro (by first | omega | rfl) ?_
 refine hK _ _ _ (by subst hU; kernel_rfl) fun σ2 hσ H2 hH => ?_
 clear hK K hU U hFF0
 obtain ⟨h4_2, h5_2⟩ := fs2 hσ 4 5
 simp [] at h4_2 h5_2
 clear hσ
 replace hH : H1 = H2 := Eq.symm hH
 subst hH
 refine stp_reg TT_ok (by rfl) fun K hK => ?_
 simp [h4_2, h5_2, g0_1, encE, capOr, show ¬ a < 0 by omega, show ¬ b < 0 by omega, show ¬ a ≤ b by omega]
 try refine And.intro (by first | omega | rfl) ?_
 refine hK _ _ fun σ3 hσ H3 hH => ?_
 clear hK K
 have h3_3 := congrFun hσ 3
 simp [] at h3_3
 clear hσ
 replace hH : H1 = H3 := Eq.symm hH
 subst hH
 refine awp_ret ?_
 refine q_fin1 h3_3 ?_
 first | rfl | (simp; done)
theorem acyc1_ok (g : Gr) (hv : g.valid = true) (h : g.pcycle = []) (e : Int × Int) (he : e ∈ g.edges) (hol : g.order.length ≤ 1000000) : Fun1 Try.prog 35 [encE e, capOr g.order] (.bool false) :=
 fun1_pure (acyc1_0 g hv h e he hol) (pu_cons (pu_edge _) (pu_cons (pu_capOr _) pu_nil)) (.bool _)
theorem pcyc_len2 (g : Gr) (hv : g.valid = true) (h : ¬ g.pcycle = []) : g.pcycle.length ≤ g.nodes.length := by
 have hc := pcycle_is hv h
 have hsub : g.pcycle ⊆ (List.range g.nodes.length).map (fun k : Nat => (k : Int)) := fun x hx => by
  obtain ⟨i, hi⟩ := List.mem_iff_getElem?.1 hx
  have hil := (List.getElem?_eq_some_iff.1 hi).1
  have he := hc.edge i hil
  rw [(List.getElem?_eq_some_iff.1 hi).2] at he
  have hr := (valid_edge hv he).1
  exact List.mem_map.2 ⟨x.toNat, List.mem_range.2 (in_toNat hr), toNat_cast hr⟩
 have := hc.nodup.length_le_of_subset hsub
 simpa using this
set_option maxHeartbeats 1000000 in
theorem acyclic0 (g : Gr) : ACalls Try.prog 8 [encG g] AHeap.nil (fun r _ => r = .bool true) := by
 refine acalls_body TT_ok Try.func8 rfl rfl (by simp [Try.ntmps8]) ?_
 rw [Try.ntmps8]
 obtain ⟨σ, hσ⟩ : ∃ σ, σ = st0 [encG g] := ⟨_, rfl⟩
 rw [← hσ]
 have h0_0 := congrFun hσ 0
 simp [st0] at h0_0
 clear hσ
 obtain ⟨H, hH⟩ : ∃ H, H = AHeap.nil := ⟨_, rfl⟩
 rw [← hH]
 have hn_0 : H.n = 0 := by rw [hH]; rfl
 have hst_0 : H.st = 1 := by rw [hH]; rfl
 clear hH
 refine stp_reg TT_ok (by rfl) fun K hK => ?_
 simp [h0_0, hn_0, hst_0, encG]
 try refine And.intro (by first | omega | rfl) ?_
 refine hK _ _ fun σ1 hσ H1 hH => ?_
 clear hK K
 have h1_1 := congrFun hσ 1
 simp [] at h1_1
 clear hσ
 have g0_1 := gt_of hH 0
 simp [hn_0, hst_0] at g0_1
 have hn_1 := congrArg AHeap.n hH
 simp [hn_0, hst_0] at hn_1
 have hst_1 := congrArg AHeap.st hH
 simp [hn_0, hst_0] at hst_1
 clear hH
 refine awp_seq ?_
 refine stp_reg TT_ok (by rfl) fun K hK => ?_
 simp [g0_1, encG]
 try refine And.intro (by first | omega | rfl) ?_
 refine stp_call (awake_ok) ?_
 simp [g0_1, encG]
 try refine And.intro (by first | omega | rfl) ?_
 refine hK _ _ fun σ2 hσ H2 hH => ?_
 clear hK K
 obtain ⟨h1_2, h12_2⟩ := fs2 hσ 1 12
 simp [h1_1] at h1_2 h12_2
 clear hσ
 replace hH : H1 = H2 := Eq.symm hH
 subst hH
 refine stp_false (by simp [aeval_tmp, h12_2, encG]) ?_
 refine awp_skip ?_
 refine q_seq ?_
 refine awp_seq ?_
 by_cases hf : g.nodes.length ≤ 14 ∧ g.edges.length ≤ 60
 ·skip
  by_cases hv : g.valid = true
  ·skip
   have hFF0 := an5 h1_2 g0_1 hf hv (beq_iff_eq.2 hv)
   refine stp_reg TT_ok (by rfl) fun K hK => ?_
   simp [hFF0, encG]
   try refine And.intro (by first | omega | rfl) ?_
   refine stp_call (few_ok g) ?_
   simp [hFF0, encG]
   try refine And.intro (by first | omega | rfl) ?_
   refine stp_call (refValid_ok g) ?_
   simp [hFF0, encG]
   try refine And.intro (by first | omega | rfl) ?_
   refine hK _ _ fun σ3 hσ H3 hH => ?_
   clear hK K hFF0
   obtain ⟨h1_3, h20_3⟩ := fs2 hσ 1 20
   simp [h1_2] at h1_3 h20_3
   clear hσ
   replace hH : H1 = H3 := Eq.symm hH
   subst hH
   refine stp_false (by simp [aeval_tmp, h20_3, hf, hv, beq_iff_eq.2 hv, encG]) ?_
   refine awp_skip ?_
   refine q_seq ?_
   by_cases hc : (g.pcycle.length : Int) = 0
   ·skip
    have hce : g.pcycle = [] := List.eq_nil_of_length_eq_zero (by omega)
    have hpo := porder_self hv hce
    have hol := order_len2 hv hce
    have hFF0 := an9 h1_3 g0_1 hn_1 hst_1 hf hv (beq_iff_eq.2 hv) hc (beq_iff_eq.2 hc)
    refine stp_reg TT_ok (by rfl) fun K hK => ?_
    simp [hFF0, encG, hpo]
    try refine And.intro (by first | omega | rfl) ?_
    refine stp_call (order_ok g) ?_
    simp [hFF0, encG, hpo]
    try refine And.intro (by first | omega | rfl) ?_
    refine hK _ _ fun σ4 hσ H4 hH => ?_
    clear hK K hFF0
    obtain ⟨h1_4, h3_4, h4_4⟩ := fs3 hσ 1 3 4
    simp [h1_3] at h1_4 h3_4 h4_4
    clear hσ
    have g0_4 := gt_of hH 0
    have g1_4 := gt_of hH 1
    simp [g0_1, hn_1, hst_1, hf, hv, beq_iff_eq.2 hv, hc, beq_iff_eq.2 hc] at g0_4 g1_4
    have hn_4 := congrArg AHeap.n hH
    simp [hn_1, hst_1] at hn_4
    have hst_4 := congrArg AHeap.st hH
    simp [hn_1, hst_1] at hst_4
    clear hH
    have hFF0 := an8 h1_4 g0_4 g1_4 hf hv (beq_iff_eq.2 hv) hc (beq_iff_eq.2 hc)
    refine stp_reg TT_ok (by rfl) fun K hK => ?_
    simp [hFF0, encG, hce]
    try refine And.intro (by first | omega | rfl) ?_
    refine stp_call (cycle_ok g) ?_
    simp [hFF0, encG, hce]
    try refine And.intro (by first | omega | rfl) ?_
    refine hK _ _ fun σ5 hσ H5 hH => ?_
    clear hK K hFF0
    obtain ⟨h1_5, h3_5, h4_5, h5_5⟩ := fs4 hσ 1 3 4 5
    simp [h1_4, h3_4, h4_4] at h1_5 h3_5 h4_5 h5_5
    clear hσ
    replace hH : H4 = H5 := Eq.symm hH
    subst hH
    refine awp_seq ?_
    refine stp_reg TT_ok (by rfl) fun K hK => ?_
    simp [h4_5, h5_5, g0_4, g1_4, hf, hv, beq_iff_eq.2 hv, hc, beq_iff_eq.2 hc, encG, hce]
    try refine And.intro (by first | omega | rfl) ?_
    refine hK _ _ fun σ6 hσ H6 hH => ?_
    clear hK K
    obtain ⟨h1_6, h3_6, h4_6, h5_6, h32_6⟩ := fs5 hσ 1 3 4 5 32
    simp [h1_5, h3_5, h4_5, h5_5] at h1_6 h3_6 h4_6 h5_6 h32_6
    clear hσ
    replace hH : H4 = H6 := Eq.symm hH
    subst hH
    refine stp_false (by simp [aeval_tmp, h32_6, hf, hv, beq_iff_eq.2 hv, hc, beq_iff_eq.2 hc, encG, hce]) ?_
    refine awp_skip ?_
    refine q_seq ?_
    refine awp_seq ?_
    refine stp_reg TT_ok (by rfl) fun K hK => ?_
    simp [h4_6, g0_4, g1_4, hf, hv, beq_iff_eq.2 hv, hc, beq_iff_eq.2 hc, encG]
    try refine And.intro (by first | omega | rfl) ?_
    refine hK _ _ fun σ7 hσ H7 hH => ?_
    clear hK K
    obtain ⟨h1_7, h3_7, h5_7, h33_7⟩ := fs4 hσ 1 3 5 33
    simp [h1_6, h3_6, h5_6] at h1_7 h3_7 h5_7 h33_7
    clear hσ
    replace hH : H4 = H7 := Eq.symm hH
    subst hH
    refine stp_true (by simp [aeval_tmp, h33_7, hf, hv, beq_iff_eq.2 hv, hc, beq_iff_eq.2 hc, encG]) ?_
    refine awp_seq ?_
    refine stp_reg TT_ok (by rfl) fun K hK => ?_
    simp [h1_7, h3_7, g0_4, g1_4, hf, hv, beq_iff_eq.2 hv, hc, beq_iff_eq.2 hc, encG, hol]
    try refine And.intro (by first | omega | rfl) ?_
    refine hK _ _ fun σ8 hσ H8 hH => ?_
    clear hK K
    obtain ⟨h1_8, h3_8, h39_8⟩ := fs3 hσ 1 3 39
    simp [h1_7, h3_7] at h1_8 h3_8 h39_8
    clear hσ
    replace hH : H4 = H8 := Eq.symm hH
    subst hH
    refine stp_false (by simp [aeval_tmp, h39_8, hf, hv, beq_iff_eq.2 hv, hc, beq_iff_eq.2 hc, encG, hol]) ?_
    refine awp_skip ?_
    refine q_seq ?_
    have hFF0 := an9 h1_8 h3_8 g0_4 g1_4 hf hv (beq_iff_eq.2 hv) hc (beq_iff_eq.2 hc)
    refine stp_reg TT_ok (by rfl) fun K hK => ?_
    simp [hFF0, encG]
    try refine And.intro (by first | omega | rfl) ?_
    refine FunW.at (containsFuncE_w g.edges 35 [capOr g.order] (fun _ => false) (fun e he => acyc1_ok g hv hce e he (by omega)) (by omega) (pu_cons (pu_capOr g.order) pu_nil)) ?hf ?_
    case hf => exact FrzL.cons (.pure (pu_edges _)) (FrzL.cons (frz_fn (FrzL.cons (frz_box (e := 26) (sz := 1) (x := .ro (g.order.map (AV.int IntKind.i64))) (by simp [hFF0, encG]) (FrzL.cons (.pure (pu_ints _)) (FrzL.nil _)) (by simp [AV.one])) (FrzL.nil _))) (FrzL.nil _))
    simp [hFF0, encG]
    try refine And.intro (by first | omega | rfl) ?_
    refine hK _ _ fun σ9 hσ H9 hH => ?_
    clear hK K hFF0
    have h2_9 := congrFun hσ 2
    simp [] at h2_9
    clear hσ
    replace hH : H4 = H9 := Eq.symm hH
    subst hH
    refine awp_ret ?_
    refine q_seq_ret ?_
    refine q_fin1 h2_9 ?_
    first | rfl | (simp; done)
   ·skip
    have hce : ¬ g.pcycle = [] := fun e => hc (by rw [e]; rfl)
    have hpo : g.porder = ([], false) := by rw [Gr.porder, if_neg (fun h => hce h.2)]
    have hFF0 := an9 h1_3 g0_1 hn_1 hst_1 hf hv (beq_iff_eq.2 hv) hc (beq_eq_false_iff_ne.2 hc)
    refine stp_reg TT_ok (by rfl) fun K hK => ?_
    simp [hFF0, encG, hpo]
    try refine And.intro (by first | omega | rfl) ?_
    refine stp_call (order_ok g) ?_
    simp [hFF0, encG, hpo]
    try refine And.intro (by first | omega | rfl) ?_
    refine hK _ _ fun σ10 hσ H10 hH => ?_
    clear hK K hFF0
    obtain ⟨h1_10, h3_10, h4_10⟩ := fs3 hσ 1 3 4
    simp [h1_3] at h1_10 h3_10 h4_10
    clear hσ
    have g0_10 := gt_of hH 0
    have g1_10 := gt_of hH 1
    simp [g0_1, hn_1, hst_1, hf, hv, beq_iff_eq.2 hv, hc, beq_eq_false_iff_ne.2 hc] at g0_10 g1_10
    have hn_10 := congrArg AHeap.n hH
    simp [hn_1, hst_1] at hn_10
    have hst_10 := congrArg AHeap.st hH
    simp [hn_1, hst_1] at hst_10
    clear hH
    have hFF0 := an8 h1_10 g0_10 g1_10 hf hv (beq_iff_eq.2 hv) hc (beq_eq_false_iff_ne.2 hc)
    refine stp_reg TT_ok (by rfl) fun K hK => ?_
    simp [hFF0, encG, hce]
    try refine And.intro (by first | omega | rfl) ?_
    refine stp_call (cycle_ok g) ?_
    simp [hFF0, encG, hce]
    try refine And.intro (by first | omega | rfl) ?_
    refine hK _ _ fun σ11 hσ H11 hH => ?_
    clear hK K hFF0
    obtain ⟨h1_11, h3_11, h4_11, h5_11⟩ := fs4 hσ 1 3 4 5
    simp [h1_10, h3_10, h4_10] at h1_11 h3_11 h4_11 h5_11
    clear hσ
    replace hH : H10 = H11 := Eq.symm hH
    subst hH
    refine awp_seq ?_
    refine stp_reg TT_ok (by rfl) fun K hK => ?_
    simp [h4_11, h5_11, g0_10, g1_10, hf, hv, beq_iff_eq.2 hv, hc, beq_eq_false_iff_ne.2 hc, encG, hce]
    try refine And.intro (by first | omega | rfl) ?_
    refine hK _ _ fun σ12 hσ H12 hH => ?_
    clear hK K
    obtain ⟨h1_12, h3_12, h4_12, h5_12, h32_12⟩ := fs5 hσ 1 3 4 5 32
    simp [h1_11, h3_11, h4_11, h5_11] at h1_12 h3_12 h4_12 h5_12 h32_12
    clear hσ
    replace hH : H10 = H12 := Eq.symm hH
    subst hH
    refine stp_false (by simp [aeval_tmp, h32_12, hf, hv, beq_iff_eq.2 hv, hc, beq_eq_false_iff_ne.2 hc, encG, hce]) ?_
    refine awp_skip ?_
    refine q_seq ?_
    refine awp_seq ?_
    refine stp_reg TT_ok (by rfl) fun K hK => ?_
    simp [h4_12, g0_10, g1_10, hf, hv, beq_iff_eq.2 hv, hc, beq_eq_false_iff_ne.2 hc, encG]
    try refine And.intro (by first | omega | rfl) ?_
    refine hK _ _ fun σ13 hσ H13 hH => ?_
    clear hK K
    obtain ⟨h1_13, h3_13, h5_13, h33_13⟩ := fs4 hσ 1 3 5 33
    simp [h1_12, h3_12, h5_12] at h1_13 h3_13 h5_13 h33_13
    clear hσ
    replace hH : H10 = H13 := Eq.symm hH
    subst hH
    refine stp_false (by simp [aeval_tmp, h33_13, hf, hv, beq_iff_eq.2 hv, hc, beq_eq_false_iff_ne.2 hc, encG]) ?_
    refine awp_skip ?_
    refine q_seq ?_
    refine awp_seq ?_
    have hcyc := pcycle_is hv hce
    have hcl := pcyc_len2 g hv hce
    have hback := fun u w he h => back_short hv (u := u) (w := w) he h
    obtain ⟨c, hcc⟩ : ∃ c, g.pcycle = c := ⟨_, rfl⟩
    rw [hcc] at hcyc hcl hback hce hc
    have hcp : 0 < c.length := List.length_pos_iff.2 hce
    refine stp_reg TT_ok (by rfl) fun K hK => ?_
    simp [h5_13, g0_10, g1_10, hf, hv, beq_iff_eq.2 hv, hc, beq_eq_false_iff_ne.2 hc, encG, hcc]
    try refine And.intro (by first | omega | rfl) ?_
    refine hK _ _ fun σ14 hσ H14 hH => ?_
    clear hK K
    obtain ⟨h1_14, h3_14, h5_14, h45_14, h46_14, h47_14⟩ := fs6 hσ 1 3 5 45 46 47
    simp [h1_13, h3_13, h5_13] at h1_14 h3_14 h5_14 h45_14 h46_14 h47_14
    clear hσ
    replace hH : H10 = H14 := Eq.symm hH
    subst hH
    refine awp_block ?_
    refine awp_loopV (fun n σ' H' => ∃ (i : Nat), n = c.length - i ∧ σ' 1 = σ14 1 ∧ σ' 3 = σ14 3 ∧ σ' 5 = .ro (c.map (AV.int IntKind.i64)) ∧ σ' 45 = σ14 45 ∧ σ' 46 = σ14 46 ∧ σ' 47 = (AV.int IntKind.i64) i ∧ H'.get 0 = H10.get 0 ∧ H'.get 1 = H10.get 1 ∧ H'.st = H10.st ∧ (i ≤ c.length)) ?_ ?_
    ·refine ⟨_, 0, rfl, rfl, rfl, (by simp [h5_14, hcc]), rfl, rfl, (by simp [h47_14, hcc]), rfl, rfl, rfl, ?_⟩
     ·first | omega | (simp; done) | assumption
    ·rintro n1 σ15 H15 ⟨i, hn1, q1_15, q3_15, h5_15, q45_15, q46_15, h47_15, qg0_15, qg1_15, qst_15, q1⟩
     have h1_15 := q1_15.trans h1_14
     have h3_15 := q3_15.trans h3_14
     have h45_15 := q45_15.trans h45_14
     have h46_15 := q46_15.trans h46_14
     have g0_15 := qg0_15.trans g0_10
     have g1_15 := qg1_15.trans g1_10
     have hst_15 := qst_15.trans hst_10
     refine stp_reg TT_ok (by rfl) fun K hK => ?_
     simp [h46_15, h47_15, g0_15, g1_15, hf, hv, beq_iff_eq.2 hv, hc, beq_eq_false_iff_ne.2 hc, encG]
     try refine And.intro (by first | omega | rfl) ?_
     refine hK _ _ fun σ16 hσ H16 hH => ?_
     clear hK K
     obtain ⟨h1_16, h3_16, h5_16, h45_16, h46_16, h47_16, h48_16⟩ := fs7 hσ 1 3 5 45 46 47 48
     simp [h1_15, h3_15, h5_15, h45_15, h46_15, h47_15] at h1_16 h3_16 h5_16 h45_16 h46_16 h47_16 h48_16
     clear hσ
     replace hH : H15 = H16 := Eq.symm hH
     subst hH
     refine awp_seq ?_
     refine awp_cond _ (by simp only [aeval_tmp]; exact h48_16) (fun hc48 => ?_) (fun hc48 => ?_)
     ·try simp at hc48
      have hit : i < c.length := by simpa using hc48
      have hl0 := hcyc.least _ (List.getElem_mem hit)
      have hc0 : c.getD 0 0 = c[0] := by rw [List.getD_eq_getElem?_getD, List.getElem?_eq_getElem hcp]; rfl
      rw [hc0] at hl0
      have hix : idxOf (fun y => decide (c[i] = y)) c = i := by
       rw [idxOf_eq (List.getElem_mem hit), hcyc.nodup.idxOf_getElem i hit]
      have hed := hcyc.edge i hit
      have hmt : ((i : Int) + 1) % (c.length : Int) = (((i + 1) % c.length : Nat) : Int) := by simp
      have hmt2 : ((i : Int) + 1).tmod c.length = (((i + 1) % c.length : Nat) : Int) := by rw [Int.tmod_eq_emod_of_nonneg (by omega)]; exact hmt
      have hmt3 : 0 ≤ ((i : Int) + 1) % (c.length : Int) ∧ ((i : Int) + 1) % (c.length : Int) < c.length := ⟨Int.emod_nonneg _ (by omega), Int.emod_lt_of_pos _ (by omega)⟩
      have hmt4 : (((i : Int) + 1) % (c.length : Int)).toNat = (i + 1) % c.length := by rw [hmt]; rfl
      have hml : (i + 1) % c.length < c.length := Nat.mod_lt _ hcp
      have hcm : c.getD ((i + 1) % c.length) 0 = c[(i + 1) % c.length] := by rw [List.getD_eq_getElem?_getD, List.getElem?_eq_getElem hml]; rfl
      rw [hcm] at hed
      have hcz : ¬ (c.length : Int) = 0 := by omega
      refine awp_skip ?_
      refine q_seq ?_
      refine awp_seq ?_
      refine awp_block ?_
      refine stp_reg TT_ok (by rfl) fun K hK => ?_
      simp [h45_16, h47_16, g0_15, g1_15, hf, hv, beq_iff_eq.2 hv, hc, beq_eq_false_iff_ne.2 hc, encG, hit]
      try refine And.intro (by first | omega | rfl) ?_
      refine hK _ _ fun σ17 hσ H17 hH => ?_
      clear hK K
      obtain ⟨h1_17, h3_17, h5_17, h6_17, h7_17, h45_17, h46_17, h47_17⟩ := fs8 hσ 1 3 5 6 7 45 46 47
      simp [h1_16, h3_16, h5_16, h45_16, h46_16, h47_16] at h1_17 h3_17 h5_17 h6_17 h7_17 h45_17 h46_17 h47_17
      clear hσ
      replace hH : H15 = H17 := Eq.symm hH
      subst hH
      have hFF0 := an11 h1_17 h5_17 h6_17 h7_17 g0_15 g1_15 hf hv (beq_iff_eq.2 hv) hc (beq_eq_false_iff_ne.2 hc)
      refine stp_lex false TT_ok mixed (by rfl) (by rfl) (by kernel_rfl) (by rfl) fun U hU K hK => ?_
      simp [hFF0, encG, hit, hcp, show ¬ c[i] < c[0] by omega, hmt2, hmt3, hmt4, hml, hed, hce, hix, wrap_ok (n := (i : Int) + 1) (by omega) (by omega)]
      try refine And.intro (by first | omega | rfl) ?_
      refine lex_callW (indexI_w c c[i] (by omega)) [] (fun H' hH' => FrzL.cons (.pure (pu_ints _)) (FrzL.cons (.pure (pu_int _ _)) (FrzL.nil _))) ?_
      simp [hFF0, encG, hit, hcp, show ¬ c[i] < c[0] by omega, hmt2, hmt3, hmt4, hml, hed, hce, hix, wrap_ok (n := (i : Int) + 1) (by omega) (by omega)]
      try refine And.intro (by first | omega | rfl) ?_
      refine lex_callW (containsE_w g.edges (c[i], c[(i + 1) % c.length]) (by omega)) [] ?hf ?_
      case hf => exact fun H' _ => FrzL.cons (.pure (pu_edges _)) (FrzL.cons (.pure (pu_edge (c[i], c[(i + 1) % c.length]))) (FrzL.nil _))
      simp [hFF0, encG, hit, hcp, show ¬ c[i] < c[0] by omega, hmt2, hmt3, hmt4, hml, hed, hce, hix, wrap_ok (n := (i : Int) + 1) (by omega) (by omega)]
      try refine And.intro (by first | omega | rfl) ?_
      refine hK _ _ _ (by subst hU; kernel_rfl) fun σ18 hσ H18 hH => ?_
      clear hK K hU U hFF0
      obtain ⟨h1_18, h3_18, h5_18, h45_18, h46_18, h47_18, h79_18⟩ := fs7 hσ 1 3 5 45 46 47 79
      simp [h1_17, h3_17, h5_17, h45_17, h46_17, h47_17] at h1_18 h3_18 h5_18 h45_18 h46_18 h47_18 h79_18
      clear hσ
      replace hH : H15 = H18 := Eq.symm hH
      subst hH
      refine stp_false (by simp [aeval_tmp, h79_18, hf, hv, beq_iff_eq.2 hv, hc, beq_eq_false_iff_ne.2 hc, encG]) ?_
      refine awp_skip ?_
      refine q_block ?_
      refine q_seq ?_
      refine stp_regl TT_ok (by rfl) fun K hK => ?_
      simp [h47_18, g0_15, g1_15, hf, hv, beq_iff_eq.2 hv, hc, beq_eq_false_iff_ne.2 hc, encG, wrap_ok (n := (i : Int) + 1) (by omega) (by omega)]
      try refine And.intro (by first | omega | rfl) ?_
      refine hK _ _ fun σ19 hσ H19 hH => ?_
      clear hK K
      obtain ⟨h1_19, h3_19, h5_19, h45_19, h46_19, h47_19⟩ := fs6 hσ 1 3 5 45 46 47
      simp [h1_18, h3_18, h5_18, h45_18, h46_18] at h1_19 h3_19 h5_19 h45_19 h46_19 h47_19
      clear hσ
      replace hH : H15 = H19 := Eq.symm hH
      subst hH
      refine ⟨_, ?_, i + 1, rfl, (h1_19.trans h1_14.symm), (h3_19.trans h3_14.symm), (by simp [h5_19]), (h45_19.trans h45_14.symm), (h46_19.trans h46_14.symm), (by simp [h47_19]), (g0_15.trans g0_10.symm), (g1_15.trans g1_10.symm), (hst_15.trans hst_10.symm), ?_⟩
      ·subst hn1; omega
      ·first | omega | assumption | (simp; done)
     ·try simp at hc48
      refine awp_exit ?_
      refine q_seq_exit ?_
      refine q_loop_exit ?_
      refine q_block_hit ?_
      refine q_seq ?_
      refine awp_seq ?_
      refine stp_reg TT_ok (by rfl) fun K hK => ?_
      simp [h1_16, g0_15, g1_15, hf, hv, beq_iff_eq.2 hv, hc, beq_eq_false_iff_ne.2 hc, encG]
      try refine And.intro (by first | omega | rfl) ?_
      refine hK _ _ fun σ20 hσ H20 hH => ?_
      clear hK K
      obtain ⟨h1_20, h3_20, h5_20, h82_20, h83_20, h84_20⟩ := fs6 hσ 1 3 5 82 83 84
      simp [h1_16, h3_16, h5_16] at h1_20 h3_20 h5_20 h82_20 h83_20 h84_20
      clear hσ
      replace hH : H15 = H20 := Eq.symm hH
      subst hH
      refine awp_block ?_
      refine awp_loopV (fun n σ' H' => ∃ (k : Nat), n = g.edges.length - k ∧ σ' 1 = σ20 1 ∧ σ' 3 = σ20 3 ∧ σ' 5 = σ20 5 ∧ σ' 82 = σ20 82 ∧ σ' 83 = σ20 83 ∧ σ' 84 = (AV.int IntKind.i64) k ∧ H'.get 0 = H15.get 0 ∧ H'.get 1 = H15.get 1 ∧ H'.st = H15.st ∧ (k ≤ g.edges.length)) ?_ ?_
      ·refine ⟨_, 0, rfl, rfl, rfl, rfl, rfl, rfl, (by simp [h84_20]), rfl, rfl, rfl, ?_⟩
       ·first | omega | (simp; done) | assumption
      ·rintro n2 σ21 H21 ⟨k, hn2, q1_21, q3_21, q5_21, q82_21, q83_21, h84_21, qg0_21, qg1_21, qst_21, q2⟩
       have h1_21 := q1_21.trans h1_20
       have h3_21 := q3_21.trans h3_20
       have h5_21 := q5_21.trans h5_20
       have h82_21 := q82_21.trans h82_20
       have h83_21 := q83_21.trans h83_20
       have g0_21 := qg0_21.trans g0_15
       have g1_21 := qg1_21.trans g1_15
       have hst_21 := qst_21.trans hst_15
       refine stp_reg TT_ok (by rfl) fun K hK => ?_
       simp [h83_21, h84_21, g0_21, g1_21, hf, hv, beq_iff_eq.2 hv, hc, beq_eq_false_iff_ne.2 hc, encG]
       try refine And.intro (by first | omega | rfl) ?_
       refine hK _ _ fun σ22 hσ H22 hH => ?_
       clear hK K
       obtain ⟨h1_22, h3_22, h5_22, h82_22, h83_22, h84_22, h85_22⟩ := fs7 hσ 1 3 5 82 83 84 85
       simp [h1_21, h3_21, h5_21, h82_21, h83_21, h84_21] at h1_22 h3_22 h5_22 h82_22 h83_22 h84_22 h85_22
       clear hσ
       replace hH : H21 = H22 := Eq.symm hH
       subst hH
       refine awp_seq ?_
       refine awp_cond _ (by simp only [aeval_tmp]; exact h85_22) (fun hc85 => ?_) (fun hc85 => ?_)
       ·try simp at hc85
        have hkt : k < g.edges.length := by simpa using hc85
        have hge : (g.edges.map encE)[k]? = some (encE g.edges[k]) := by simp [hkt]
        have hmem : (g.edges[k].1, g.edges[k].2) ∈ g.edges := List.getElem_mem hkt
        have hbk := hback _ _ hmem
        obtain ⟨pp, hpp⟩ : ∃ pp, g.path g.edges[k].2 g.edges[k].1 = pp := ⟨_, rfl⟩
        rw [hpp] at hbk
        refine awp_skip ?_
        refine q_seq ?_
        refine awp_seq ?_
        refine awp_block ?_
        refine awp_ok fun hok => ?_
        obtain ⟨m23, hn_m23⟩ : ∃ m, H21.n = m := ⟨_, rfl⟩
        have hf_m23_0 := hok.free 0
        simp [hn_m23, hst_21] at hf_m23_0
        have nx1 := ne_get hf_m23_0 g0_21
        have nx2 := ne_get hf_m23_0 g1_21
        refine stp_reg TT_ok (by rfl) fun K hK => ?_
        simp [h82_22, h84_22, g0_21, g1_21, hn_m23, hst_21, hf, hv, beq_iff_eq.2 hv, hc, beq_eq_false_iff_ne.2 hc, nx1, nx2, encG, hge, hkt, encE]
        try refine And.intro (by first | omega | rfl) ?_
        refine hK _ _ fun σ24 hσ H24 hH => ?_
        clear hK K
        obtain ⟨h1_24, h3_24, h5_24, h9_24, h82_24, h83_24, h84_24⟩ := fs7 hσ 1 3 5 9 82 83 84
        simp [h1_22, h3_22, h5_22, h82_22, h83_22, h84_22] at h1_24 h3_24 h5_24 h9_24 h82_24 h83_24 h84_24
        clear hσ
        have g0_24 := gt_of hH 0
        have g1_24 := gt_of hH 1
        have gm23_24 := gt_of hH m23
        simp [g0_21, g1_21, hn_m23, hst_21, hf, hv, beq_iff_eq.2 hv, hc, beq_eq_false_iff_ne.2 hc, nx1, nx2] at g0_24 g1_24 gm23_24
        have hst_24 := congrArg AHeap.st hH
        simp [hst_21] at hst_24
        clear hH
        have hFF0 := an12 h1_24 h9_24 g0_24 g1_24 gm23_24 hf hv (beq_iff_eq.2 hv) hc (beq_eq_false_iff_ne.2 hc) nx1 nx2
        refine stp_reg TT_ok (by rfl) fun K hK => ?_
        simp [hFF0, encG, hpp]
        try refine And.intro (by first | omega | rfl) ?_
        refine stp_call (path_ok g g.edges[k].2 g.edges[k].1) ?_
        simp [hFF0, encG, hpp]
        try refine And.intro (by first | omega | rfl) ?_
        refine hK _ _ fun σ25 hσ H25 hH => ?_
        clear hK K hFF0
        obtain ⟨h1_25, h3_25, h5_25, h10_25, h82_25, h83_25, h84_25⟩ := fs7 hσ 1 3 5 10 82 83 84
        simp [h1_24, h3_24, h5_24, h82_24, h83_24, h84_24] at h1_25 h3_25 h5_25 h10_25 h82_25 h83_25 h84_25
        clear hσ
        replace hH : H24 = H25 := Eq.symm hH
        subst hH
        by_cases hz : pp = []
        ·skip
         refine stp_reg TT_ok (by rfl) fun K hK => ?_
         simp [h5_25, h10_25, g0_24, g1_24, gm23_24, hf, hv, beq_iff_eq.2 hv, hc, beq_eq_false_iff_ne.2 hc, nx1, nx2, hz, beq_iff_eq.2 hz, encG]
         try refine And.intro (by first | omega | rfl) ?_
         refine hK _ _ fun σ26 hσ H26 hH => ?_
         clear hK K
         obtain ⟨h1_26, h3_26, h5_26, h82_26, h83_26, h84_26, h103_26⟩ := fs7 hσ 1 3 5 82 83 84 103
         simp [h1_25, h3_25, h5_25, h82_25, h83_25, h84_25] at h1_26 h3_26 h5_26 h82_26 h83_26 h84_26 h103_26
         clear hσ
         replace hH : H24 = H26 := Eq.symm hH
         subst hH
         refine stp_false (by simp [aeval_tmp, h103_26, hf, hv, beq_iff_eq.2 hv, hc, beq_eq_false_iff_ne.2 hc, nx1, nx2, hz, beq_iff_eq.2 hz, encG]) ?_
         refine awp_skip ?_
         refine q_block ?_
         refine q_seq ?_
         refine stp_regl TT_ok (by rfl) fun K hK => ?_
         simp [h84_26, g0_24, g1_24, gm23_24, hf, hv, beq_iff_eq.2 hv, hc, beq_eq_false_iff_ne.2 hc, nx1, nx2, hz, beq_iff_eq.2 hz, encG, wrap_ok (n := (k : Int) + 1) (by omega) (by omega)]
         try refine And.intro (by first | omega | rfl) ?_
         refine hK _ _ fun σ27 hσ H27 hH => ?_
         clear hK K
         obtain ⟨h1_27, h3_27, h5_27, h82_27, h83_27, h84_27⟩ := fs6 hσ 1 3 5 82 83 84
         simp [h1_26, h3_26, h5_26, h82_26, h83_26] at h1_27 h3_27 h5_27 h82_27 h83_27 h84_27
         clear hσ
         replace hH : H24 = H27 := Eq.symm hH
         subst hH
         refine ⟨_, ?_, k + 1, rfl, (h1_27.trans h1_20.symm), (h3_27.trans h3_20.symm), (h5_27.trans h5_20.symm), (h82_27.trans h82_20.symm), (h83_27.trans h83_20.symm), (by simp [h84_27]), (g0_24.trans g0_15.symm), (g1_24.trans g1_15.symm), (hst_24.trans hst_15.symm), ?_⟩
         ·subst hn2; omega
         ·first | omega | assumption | (simp; done)
        ·skip
         have hbz := hbk hz
         refine stp_reg TT_ok (by rfl) fun K hK => ?_
         simp [h5_25, h10_25, g0_24, g1_24, gm23_24, hf, hv, beq_iff_eq.2 hv, hc, beq_eq_false_iff_ne.2 hc, nx1, nx2, hz, beq_eq_false_iff_ne.2 hz, encG, List.length_pos_iff.2 hz, show ¬ (pp.length : Int) < c.length by omega, show ¬ pp.length < c.length by omega]
         try refine And.intro (by first | omega | rfl) ?_
         refine hK _ _ fun σ28 hσ H28 hH => ?_
         clear hK K
         obtain ⟨h1_28, h3_28, h5_28, h82_28, h83_28, h84_28, h103_28⟩ := fs7 hσ 1 3 5 82 83 84 103
         simp [h1_25, h3_25, h5_25, h82_25, h83_25, h84_25] at h1_28 h3_28 h5_28 h82_28 h83_28 h84_28 h103_28
         clear hσ
         replace hH : H24 = H28 := Eq.symm hH
         subst hH
         refine stp_false (by simp [aeval_tmp, h103_28, hf, hv, beq_iff_eq.2 hv, hc, beq_eq_false_iff_ne.2 hc, nx1, nx2, hz, beq_eq_false_iff_ne.2 hz, encG]) ?_
         refine awp_skip ?_
         refine q_block ?_
         refine q_seq ?_
         refine stp_regl TT_ok (by rfl) fun K hK => ?_
         simp [h84_28, g0_24, g1_24, gm23_24, hf, hv, beq_iff_eq.2 hv, hc, beq_eq_false_iff_ne.2 hc, nx1, nx2, hz, beq_eq_false_iff_ne.2 hz, encG, wrap_ok (n := (k : Int) + 1) (by omega) (by omega)]
         try refine And.intro (by first | omega | rfl) ?_
         refine hK _ _ fun σ29 hσ H29 hH => ?_
         clear hK K
         obtain ⟨h1_29, h3_29, h5_29, h82_29, h83_29, h84_29⟩ := fs6 hσ 1 3 5 82 83 84
         simp [h1_28, h3_28, h5_28, h82_28, h83_28] at h1_29 h3_29 h5_29 h82_29 h83_29 h84_29
         clear hσ
         replace hH : H24 = H29 := Eq.symm hH
         subst hH
         refine ⟨_, ?_, k + 1, rfl, (h1_29.trans h1_20.symm), (h3_29.trans h3_20.symm), (h5_29.trans h5_20.symm), (h82_29.trans h82_20.symm), (h83_29.trans h83_20.symm), (by simp [h84_29]), (g0_24.trans g0_15.symm), (g1_24.trans g1_15.symm), (hst_24.trans hst_15.symm), ?_⟩
         ·subst hn2; omega
         ·first | omega | assumption | (simp; done)
       ·try simp at hc85
        refine awp_exit ?_
        refine q_seq_exit ?_
        refine q_loop_exit ?_
        refine q_block_hit ?_
        refine q_seq ?_
        refine stp_reg TT_ok (by rfl) fun K hK => ?_
        simp [h3_22, g0_21, g1_21, hf, hv, beq_iff_eq.2 hv, hc, beq_eq_false_iff_ne.2 hc, encG, hpo]
        try refine And.intro (by first | omega | rfl) ?_
        refine hK _ _ fun σ30 hσ H30 hH => ?_
        clear hK K
        have h2_30 := congrFun hσ 2
        simp [] at h2_30
        clear hσ
        replace hH : H21 = H30 := Eq.symm hH
        subst hH
        refine awp_ret ?_
        refine q_fin1 h2_30 ?_
        first | rfl | (simp; done)
  ·skip
   have hFF0 := an5 h1_2 g0_1 hf hv (beq_eq_false_iff_ne.2 hv)
   refine stp_reg TT_ok (by rfl) fun K hK => ?_
   simp [hFF0, encG]
   try refine And.intro (by first | omega | rfl) ?_
   refine stp_call (few_ok g) ?_
   simp [hFF0, encG]
   try refine And.intro (by first | omega | rfl) ?_
   refine stp_call (refValid_ok g) ?_
   simp [hFF0, encG]
   try refine And.intro (by first | omega | rfl) ?_
   refine hK _ _ fun σ31 hσ H31 hH => ?_
   clear hK K hFF0
   obtain ⟨h1_31, h20_31⟩ := fs2 hσ 1 20
   simp [h1_2] at h1_31 h20_31
   clear hσ
   replace hH : H1 = H31 := Eq.symm hH
   subst hH
   refine stp_true (by simp [aeval_tmp, h20_31, hf, hv, beq_eq_false_iff_ne.2 hv, encG]) ?_
   refine stp_reg TT_ok (by rfl) fun K hK => ?_
   simp [g0_1, hf, hv, beq_eq_false_iff_ne.2 hv, encG]
   try refine And.intro (by first | omega | rfl) ?_
   refine hK _ _ fun σ32 hσ H32 hH => ?_
   clear hK K
   have h2_32 := congrFun hσ 2
   simp [] at h2_32
   clear hσ
   replace hH : H1 = H32 := Eq.symm hH
   subst hH
   refine awp_ret ?_
   refine q_seq_ret ?_
   refine q_fin1 h2_32 ?_
   first | rfl | (simp; done)
 ·skip
  have hFF0 := an3 h1_2 g0_1 hf
  refine stp_reg TT_ok (by rfl) fun K hK => ?_
  simp [hFF0, encG]
  try refine And.intro (by first | omega | rfl) ?_
  refine stp_call (few_ok g) ?_
  simp [hFF0, encG]
  try refine And.intro (by first | omega | rfl) ?_
  refine hK _ _ fun σ33 hσ H33 hH => ?_
  clear hK K hFF0
  obtain ⟨h1_33, h20_33⟩ := fs2 hσ 1 20
  simp [h1_2] at h1_33 h20_33
  clear hσ
  replace hH : H1 = H33 := Eq.symm hH
  subst hH
  refine stp_true (by simp [aeval_tmp, h20_33, hf, encG]) ?_
  refine stp_reg TT_ok (by rfl) fun K hK => ?_
  simp [g0_1, hf, encG]
  try refine And.intro (by first | omega | rfl) ?_
  refine hK _ _ fun σ34 hσ H34 hH => ?_
  clear hK K
  have h2_34 := congrFun hσ 2
  simp [] at h2_34
  clear hσ
  replace hH : H1 = H34 := Eq.symm hH
  subst hH
  refine awp_ret ?_
  refine q_seq_ret ?_
  refine q_fin1 h2_34 ?_
  first | rfl | (simp; done)
set_option maxRecDepth 100000 in
theorem graphAcyclic_lifted (os : Os) (started : os.Started) (H : Type) (enc : TypeId × Value → H) :
  ReturnsInHanded {} Try.checked os 8 .any (Rows.graphAcyclicSpec.pre6 enc Try.prog Try.f8 Rows.graphAcyclicRow.domain false) (Rows.graphAcyclicSpec.post enc Try.prog Try.f8 false true false false) := by
 refine returnsInHanded_of_change (C := Try.checked) own started (by kernel_rfl) Try.func8
  (ChangeSpec.witness6 (enc := enc) (C := Try.checked) false ⟨#[], #[.agg #[.slice none 0 0, .slice none 0 0]], []⟩ 9 (by kernel_rfl) (by kernel_rfl) (by kernel_rfl) (by kernel_rfl)) ?_
 intro W base args ds gs before hval hW hcnd _
 refine law_calls2 TT_ok laid (fn := Try.f8) (s := Rows.graphAcyclicSpec) (tb := 4) 9 rfl rfl Try.underlying4 (by kernel_rfl) (fun ds h => ?_) (fun avs ha => ?_) hval hW
 ·match ds, h with
  | [d0], _ => rfl
 ·have ha0 := ha
  obtain ⟨v0, r0, rfl, hv0, ha⟩ := Args.cons ha
  obtain rfl := Args.nil ha
  obtain ⟨g, rfl⟩ := ty_graph hv0
  exact acyclic0 g
theorem graphAcyclic_over : Rows.graphAcyclicRow.holds Try.pinned (OpenSpec.ofChange Rows.graphAcyclicSpec) :=
 OpenClaim.holds_of_wide 8 Try.f8 rfl rfl rfl rfl rfl rfl rfl ⟨rfl, rfl, rfl, rfl, rfl⟩ rfl rfl rfl rfl rfl (by kernel_rfl) Try.func8 (by kernel_rfl)
  (of_decide_eq_true (by kernel_rfl)) (by unfold Func.isWrapper; first | (rw [if_pos (by decide +kernel)]; kernel_rfl) | (rw [if_neg (by decide +kernel)]; exact ⟨rfl, rfl⟩))
  (fun os started H enc _ => graphAcyclic_lifted os started H enc)
theorem graphAcyclic_holds : Rows.GraphAcyclicSaid := graphAcyclic_over
end Go.Proofs.Yteifhcohmipdcaa
