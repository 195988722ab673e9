/-
  The law GraphShortest answers true, whatever the input: part 1. Conditions: none.
-/
import Derived.Test.YteifhcohmipdcaaB5
namespace Go.Proofs.Yteifhcohmipdcaa
open Go.Abs
set_option linter.unusedSimpArgs false
set_option linter.unusedVariables false
theorem awake_ok : Fun1 Try.prog 10 [] (.bool true) := fun1_pure awake0 pu_nil (.bool _)
theorem reach_len (g : Gr) (l : List Int) : (g.reach l).length ≤ g.nodes.length := by
 rw [Gr.reach]; split
 ·exact listUpto_len _ _
 ·exact Nat.zero_le _
theorem path_len {g : Gr} {a b : Int} : (g.path a b).length ≤ g.nodes.length := by
 rw [Gr.path]
 by_cases he : g.exist [a, b] = true
 ·obtain ⟨h1, hv⟩ := exist_iff.1 he
  have ha := h1 a (by simp)
  have hD := dist_is hv (h1 b (by simp))
  have hal : a.toNat < (g.dist b).length := by rw [hD.len]; exact in_toNat ha
  rw [if_pos he]
  by_cases hn : (g.dist b).getD a.toNat 0 < 0
  ·rw [if_pos hn]; exact Nat.zero_le _
  ·rw [if_neg hn, way_len]
   have hg : (g.dist b).getD a.toNat 0 = (g.dist b)[a.toNat] := by rw [List.getD_eq_getElem?_getD, List.getElem?_eq_getElem hal]; rfl
   rcases hD.val a.toNat _ (List.getElem?_eq_getElem hal) with q | ⟨n, q, hf⟩
   ·rw [hg, q] at hn; omega
   ·rw [toNat_cast ha] at hf
    have := hf.lt hv ha
    rw [hg, q]; omega
 ·rw [if_neg he]; exact Nat.zero_le _
set_option maxHeartbeats 1000000 in
theorem reaches0 (g : Gr) (l : List Int) (a b : Int) : ACalls Try.prog 3 [encG g, .ro (l.map (AV.int IntKind.i64)), (AV.int IntKind.i64) a, (AV.int IntKind.i64) b] AHeap.nil (fun r _ => r = .bool true) := by
 refine acalls_body TT_ok Try.func3 rfl rfl (by simp [Try.ntmps3]) ?_
 rw [Try.ntmps3]
 obtain ⟨σ, hσ⟩ : ∃ σ, σ = st0 [encG g, .ro (l.map (AV.int IntKind.i64)), (AV.int IntKind.i64) a, (AV.int IntKind.i64) b] := ⟨_, rfl⟩
 rw [← hσ]
 obtain ⟨h0_0, h1_0, h2_0, h3_0⟩ := fs4 hσ 0 1 2 3
 simp [st0] at h0_0 h1_0 h2_0 h3_0
 clear hσ
 obtain ⟨H, hH⟩ : ∃ H, H = AHeap.nil := ⟨_, rfl⟩
 rw [← hH]
 have hn_0 : H.n = 0 := by rw [hH]; rfl
 have hst_0 : H.st = 1 := by rw [hH]; rfl
 clear hH
 refine stp_reg TT_ok (by rfl) fun K hK => ?_
 simp [h0_0, hn_0, hst_0, encG]
 try refine And.intro (by first | omega | rfl) ?_
 refine hK _ _ fun σ1 hσ H1 hH => ?_
 clear hK K
 obtain ⟨h1_1, h2_1, h3_1, h4_1⟩ := fs4 hσ 1 2 3 4
 simp [h1_0, h2_0, h3_0] at h1_1 h2_1 h3_1 h4_1
 clear hσ
 have g0_1 := gt_of hH 0
 simp [hn_0, hst_0] at g0_1
 have hn_1 := congrArg AHeap.n hH
 simp [hn_0, hst_0] at hn_1
 have hst_1 := congrArg AHeap.st hH
 simp [hn_0, hst_0] at hst_1
 clear hH
 refine awp_seq ?_
 refine stp_reg TT_ok (by rfl) fun K hK => ?_
 simp [g0_1, encG]
 try refine And.intro (by first | omega | rfl) ?_
 refine stp_call (awake_ok) ?_
 simp [g0_1, encG]
 try refine And.intro (by first | omega | rfl) ?_
 refine hK _ _ fun σ2 hσ H2 hH => ?_
 clear hK K
 obtain ⟨h1_2, h2_2, h3_2, h4_2, h10_2⟩ := fs5 hσ 1 2 3 4 10
 simp [h1_1, h2_1, h3_1, h4_1] at h1_2 h2_2 h3_2 h4_2 h10_2
 clear hσ
 replace hH : H1 = H2 := Eq.symm hH
 subst hH
 refine stp_false (by simp [aeval_tmp, h10_2, encG]) ?_
 refine awp_skip ?_
 refine q_seq ?_
 refine awp_seq ?_
 by_cases hf : g.nodes.length ≤ 14 ∧ g.edges.length ≤ 60
 ·skip
  by_cases hl : (20 : Int) < l.length
  ·skip
   have hFF0 := an5 h1_2 h4_2 g0_1 hf hl
   refine stp_reg TT_ok (by rfl) fun K hK => ?_
   simp [hFF0, encG]
   try refine And.intro (by first | omega | rfl) ?_
   refine stp_call (few_ok g) ?_
   simp [hFF0, encG]
   try refine And.intro (by first | omega | rfl) ?_
   refine hK _ _ fun σ3 hσ H3 hH => ?_
   clear hK K hFF0
   obtain ⟨h1_3, h2_3, h3_3, h4_3, h18_3⟩ := fs5 hσ 1 2 3 4 18
   simp [h1_2, h2_2, h3_2, h4_2] at h1_3 h2_3 h3_3 h4_3 h18_3
   clear hσ
   replace hH : H1 = H3 := Eq.symm hH
   subst hH
   refine stp_true (by simp [aeval_tmp, h18_3, hf, hl, encG]) ?_
   refine stp_reg TT_ok (by rfl) fun K hK => ?_
   simp [g0_1, hf, hl, encG]
   try refine And.intro (by first | omega | rfl) ?_
   refine hK _ _ fun σ4 hσ H4 hH => ?_
   clear hK K
   have h8_4 := congrFun hσ 8
   simp [] at h8_4
   clear hσ
   replace hH : H1 = H4 := Eq.symm hH
   subst hH
   refine awp_ret ?_
   refine q_seq_ret ?_
   refine q_fin1 h8_4 ?_
   first | rfl | (simp; done)
  ·skip
   have hFF0 := an5 h1_2 h4_2 g0_1 hf hl
   refine stp_reg TT_ok (by rfl) fun K hK => ?_
   simp [hFF0, encG]
   try refine And.intro (by first | omega | rfl) ?_
   refine stp_call (few_ok g) ?_
   simp [hFF0, encG]
   try refine And.intro (by first | omega | rfl) ?_
   refine hK _ _ fun σ5 hσ H5 hH => ?_
   clear hK K hFF0
   obtain ⟨h1_5, h2_5, h3_5, h4_5, h18_5⟩ := fs5 hσ 1 2 3 4 18
   simp [h1_2, h2_2, h3_2, h4_2] at h1_5 h2_5 h3_5 h4_5 h18_5
   clear hσ
   replace hH : H1 = H5 := Eq.symm hH
   subst hH
   refine stp_false (by simp [aeval_tmp, h18_5, hf, hl, encG]) ?_
   refine awp_skip ?_
   refine q_seq ?_
   have hrl := reach_len g l
   have hpl := path_len (g := g) (a := a) (b := b)
   have hFF0 := an7 h1_5 h2_5 h3_5 h4_5 g0_1 hf hl
   refine stp_lex false TT_ok mixed (by rfl) (by rfl) (by kernel_rfl) (by rfl) fun U hU K hK => ?_
   simp [hFF0, encG]
   try refine And.intro (by first | omega | rfl) ?_
   refine lex_call (reach_ok g l (by omega)) ?_
   simp [hFF0, encG]
   try refine And.intro (by first | omega | rfl) ?_
   refine lex_call (refReach_ok g l (by omega)) ?_
   simp [hFF0, encG]
   try refine And.intro (by first | omega | rfl) ?_
   refine lex_call (equalI (g.reach l) (g.reach l) (by omega)) ?_
   simp [hFF0, encG]
   try refine And.intro (by first | omega | rfl) ?_
   refine lex_call (path_ok g a b) ?_
   simp [hFF0, encG]
   try refine And.intro (by first | omega | rfl) ?_
   refine lex_call (refPath_ok g a b (by omega)) ?_
   simp [hFF0, encG]
   try refine And.intro (by first | omega | rfl) ?_
   refine lex_call (equalI (g.path a b) (g.path a b) (by omega)) ?_
   simp [hFF0, encG]
   try refine And.intro (by first | omega | rfl) ?_
   refine hK _ _ _ (by subst hU; kernel_rfl) fun σ6 hσ H6 hH => ?_
   clear hK K hU U hFF0
   have h8_6 := congrFun hσ 8
   simp [] at h8_6
   clear hσ
   replace hH : H1 = H6 := Eq.symm hH
   subst hH
   refine awp_ret ?_
   refine q_fin1 h8_6 ?_
   first | rfl | (simp; done)
 ·skip
  have hFF0 := an4 h1_2 h4_2 g0_1 hf
  refine stp_reg TT_ok (by rfl) fun K hK => ?_
  simp [hFF0, encG]
  try refine And.intro (by first | omega | rfl) ?_
  refine stp_call (few_ok g) ?_
  simp [hFF0, encG]
  try refine And.intro (by first | omega | rfl) ?_
  refine hK _ _ fun σ7 hσ H7 hH => ?_
  clear hK K hFF0
  obtain ⟨h1_7, h2_7, h3_7, h4_7, h18_7⟩ := fs5 hσ 1 2 3 4 18
  simp [h1_2, h2_2, h3_2, h4_2] at h1_7 h2_7 h3_7 h4_7 h18_7
  clear hσ
  replace hH : H1 = H7 := Eq.symm hH
  subst hH
  refine stp_true (by simp [aeval_tmp, h18_7, hf, encG]) ?_
  refine stp_reg TT_ok (by rfl) fun K hK => ?_
  simp [g0_1, hf, encG]
  try refine And.intro (by first | omega | rfl) ?_
  refine hK _ _ fun σ8 hσ H8 hH => ?_
  clear hK K
  have h8_8 := congrFun hσ 8
  simp [] at h8_8
  clear hσ
  replace hH : H1 = H8 := Eq.symm hH
  subst hH
  refine awp_ret ?_
  refine q_seq_ret ?_
  refine q_fin1 h8_8 ?_
  first | rfl | (simp; done)
set_option maxRecDepth 100000 in
theorem graphReaches_lifted (os : Os) (started : os.Started) (H : Type) (enc : TypeId × Value → H) :
  ReturnsInHanded {} Try.checked os 3 .any (Rows.graphReachesSpec.pre6 enc Try.prog Try.f3 Rows.graphReachesRow.domain false) (Rows.graphReachesSpec.post enc Try.prog Try.f3 false true false false) := by
 refine returnsInHanded_of_change (C := Try.checked) own started (by kernel_rfl) Try.func3
  (ChangeSpec.witness6 (enc := enc) (C := Try.checked) false ⟨#[], #[.agg #[.slice none 0 0, .slice none 0 0], .slice none 0 0, .int .i64 0, .int .i64 0], []⟩ 9 (by kernel_rfl) (by kernel_rfl) (by kernel_rfl) (by kernel_rfl)) ?_
 intro W base args ds gs before hval hW hcnd _
 refine law_calls2 TT_ok laid (fn := Try.f3) (s := Rows.graphReachesSpec) (tb := 4) 9 rfl rfl Try.underlying4 (by kernel_rfl) (fun ds h => ?_) (fun avs ha => ?_) hval hW
 ·match ds, h with
  | [d0, d1, d2, d3], _ => rfl
 ·have ha0 := ha
  obtain ⟨v0, r0, rfl, hv0, ha⟩ := Args.cons ha
  obtain ⟨v1, r1, rfl, hv1, ha⟩ := Args.cons ha
  obtain ⟨v2, r2, rfl, hv2, ha⟩ := Args.cons ha
  obtain ⟨v3, r3, rfl, hv3, ha⟩ := Args.cons ha
  obtain rfl := Args.nil ha
  obtain ⟨g, rfl⟩ := ty_graph hv0
  obtain ⟨l, rfl⟩ := ty_ints hv1
  obtain ⟨a, rfl⟩ := ty_int hv2
  obtain ⟨b, rfl⟩ := ty_int hv3
  exact reaches0 g l a b
theorem graphReaches_over : Rows.graphReachesRow.holds Try.pinned (OpenSpec.ofChange Rows.graphReachesSpec) :=
 OpenClaim.holds_of_wide 3 Try.f3 rfl rfl rfl rfl rfl rfl rfl ⟨rfl, rfl, rfl, rfl, rfl⟩ rfl rfl rfl rfl rfl (by kernel_rfl) Try.func3 (by kernel_rfl)
  (of_decide_eq_true (by kernel_rfl)) (by unfold Func.isWrapper; first | (rw [if_pos (by decide +kernel)]; kernel_rfl) | (rw [if_neg (by decide +kernel)]; exact ⟨rfl, rfl⟩))
  (fun os started H enc _ => graphReaches_lifted os started H enc)
theorem graphReaches_holds : Rows.GraphReachesSaid := graphReaches_over
end Go.Proofs.Yteifhcohmipdcaa

namespace Go.Proofs.Yteifhcohmipdcaa
open Go.Abs
set_option linter.unusedSimpArgs false
set_option linter.unusedVariables false
theorem any_mem {α : Type} [DecidableEq α] {x : α} {es : List α} : (es.any fun y => decide (x = y)) = decide (x ∈ es) := by
 rw [Bool.eq_iff_iff, List.any_eq_true, decide_eq_true_eq]
 exact ⟨fun ⟨y, h1, h2⟩ => by rw [of_decide_eq_true h2]; exact h1, fun h => ⟨x, h, by simp⟩⟩
set_option maxHeartbeats 1000000 in
theorem indexI0 (es : List Int) (x : Int) (hl : es.length ≤ 1000000) : ACalls Try.prog 36 [.ro (es.map (AV.int .i64)), ((AV.int .i64) x)] AHeap.nil (fun r _ => r = .int .i64 (idxOf (fun y => decide (x = y)) es)) := by
 refine acalls_body TT_ok Try.func36 rfl rfl (by simp [Try.ntmps36]) ?_
 rw [Try.ntmps36]
 obtain ⟨σ, hσ⟩ : ∃ σ, σ = st0 [.ro (es.map (AV.int .i64)), ((AV.int .i64) x)] := ⟨_, rfl⟩
 rw [← hσ]
 obtain ⟨h0_0, h1_0⟩ := fs2 hσ 0 1
 simp [st0] at h0_0 h1_0
 clear hσ
 obtain ⟨H, hH⟩ : ∃ H, H = AHeap.nil := ⟨_, rfl⟩
 rw [← hH]
 have hn_0 : H.n = 0 := by rw [hH]; rfl
 have hst_0 : H.st = 1 := by rw [hH]; rfl
 clear hH
 refine stp_reg TT_ok (by rfl) fun K hK => ?_
 simp []
 try refine And.intro (by first | omega | rfl) ?_
 refine hK _ _ fun σ1 hσ H1 hH => ?_
 clear hK K
 obtain ⟨h0_1, h1_1⟩ := fs2 hσ 0 1
 simp [h0_0, h1_0] at h0_1 h1_1
 clear hσ
 replace hH : H = H1 := Eq.symm hH
 subst hH
 refine awp_seq ?_
 refine stp_reg TT_ok (by rfl) fun K hK => ?_
 simp [h0_1]
 try refine And.intro (by first | omega | rfl) ?_
 refine hK _ _ fun σ2 hσ H2 hH => ?_
 clear hK K
 obtain ⟨h0_2, h1_2, h7_2, h8_2⟩ := fs4 hσ 0 1 7 8
 simp [h0_1, h1_1] at h0_2 h1_2 h7_2 h8_2
 clear hσ
 replace hH : H = H2 := Eq.symm hH
 subst hH
 refine awp_block ?_
 refine awp_loopV (fun n σ' H' => ∃ (i : Nat), n = es.length - i ∧ σ' 0 = σ2 0 ∧ σ' 1 = σ2 1 ∧ σ' 7 = .int .i64 es.length ∧ σ' 8 = .int .i64 i ∧ H' = H ∧ (i ≤ es.length) ∧ ((es.take i).any (fun y => decide (x = y)) = false)) ?_ ?_
 ·refine ⟨_, 0, rfl, rfl, rfl, (by simp [h7_2]), (by simp [h8_2]), rfl, ?_, ?_⟩
  ·first | omega | (simp; done) | assumption
  ·first | omega | (simp; done) | assumption
 ·rintro n1 σ3 H3 ⟨i, hn1, q0_3, q1_3, h7_3, h8_3, hHq, p1, p2⟩
  have h0_3 := q0_3.trans h0_2
  have h1_3 := q1_3.trans h1_2
  replace hHq := hHq.symm
  subst hHq
  refine stp_reg TT_ok (by rfl) fun K hK => ?_
  simp [h7_3, h8_3]
  try refine And.intro (by first | omega | rfl) ?_
  refine hK _ _ fun σ4 hσ H4 hH => ?_
  clear hK K
  obtain ⟨h0_4, h1_4, h7_4, h8_4, h9_4⟩ := fs5 hσ 0 1 7 8 9
  simp [h0_3, h1_3, h7_3, h8_3] at h0_4 h1_4 h7_4 h8_4 h9_4
  clear hσ
  replace hH : H = H4 := Eq.symm hH
  subst hH
  refine awp_seq ?_
  refine awp_cond _ (by simp only [aeval_tmp]; exact h9_4) (fun hc9 => ?_) (fun hc9 => ?_)
  ·try simp at hc9
   have hlt : i < es.length := by simpa using hc9
   have hge : (es.map (AV.int .i64))[i]? = some ((AV.int .i64) es[i]) := by simp [hlt]
   refine awp_skip ?_
   refine q_seq ?_
   refine awp_seq ?_
   refine awp_block ?_
   refine stp_reg TT_ok (by rfl) fun K hK => ?_
   simp [h8_4]
   try refine And.intro (by first | omega | rfl) ?_
   refine hK _ _ fun σ5 hσ H5 hH => ?_
   clear hK K
   obtain ⟨h0_5, h1_5, h5_5, h7_5, h8_5⟩ := fs5 hσ 0 1 5 7 8
   simp [h0_4, h1_4, h7_4, h8_4] at h0_5 h1_5 h5_5 h7_5 h8_5
   clear hσ
   replace hH : H = H5 := Eq.symm hH
   subst hH
   refine stp_reg TT_ok (by rfl) fun K hK => ?_
   simp [h0_5, h1_5, h5_5, hge, hlt]
   try refine And.intro (by first | omega | rfl) ?_
   refine hK _ _ fun σ6 hσ H6 hH => ?_
   clear hK K
   obtain ⟨h0_6, h1_6, h5_6, h7_6, h8_6, h16_6⟩ := fs6 hσ 0 1 5 7 8 16
   simp [h0_5, h1_5, h5_5, h7_5, h8_5] at h0_6 h1_6 h5_6 h7_6 h8_6 h16_6
   clear hσ
   replace hH : H = H6 := Eq.symm hH
   subst hH
   refine awp_cond _ (by simp only [aeval_tmp]; exact h16_6) (fun hc16 => ?_) (fun hc16 => ?_)
   ·try simp at hc16
    skip
    have heq : x = es[i] := by first | exact hc16 | exact Prod.ext hc16.1 hc16.2
    refine stp_reg TT_ok (by rfl) fun K hK => ?_
    simp [h5_6]
    try refine And.intro (by first | omega | rfl) ?_
    refine hK _ _ fun σ7 hσ H7 hH => ?_
    clear hK K
    have h4_7 := congrFun hσ 4
    simp [] at h4_7
    clear hσ
    replace hH : H = H7 := Eq.symm hH
    subst hH
    refine awp_ret ?_
    refine q_block_ret ?_
    refine q_seq_ret ?_
    refine q_loop_ret ?_
    refine q_block_ret ?_
    refine q_seq_ret ?_
    refine q_fin1 h4_7 ?_
    rw [idxOf_at hlt p2 (by simp [heq])]
   ·try simp at hc16
    skip
    have heq : ¬ x = es[i] := by first | exact hc16 | (intro e; rw [e] at hc16; simp at hc16)
    refine awp_skip ?_
    refine q_block ?_
    refine q_seq ?_
    refine stp_regl TT_ok (by rfl) fun K hK => ?_
    simp [h8_6, wrap_ok (n := (i : Int) + 1) (by omega) (by omega)]
    try refine And.intro (by first | omega | rfl) ?_
    refine hK _ _ fun σ8 hσ H8 hH => ?_
    clear hK K
    obtain ⟨h0_8, h1_8, h7_8, h8_8⟩ := fs4 hσ 0 1 7 8
    simp [h0_6, h1_6, h7_6] at h0_8 h1_8 h7_8 h8_8
    clear hσ
    replace hH : H = H8 := Eq.symm hH
    subst hH
    refine ⟨_, ?_, i + 1, rfl, (h0_8.trans h0_2.symm), (h1_8.trans h1_2.symm), (by simp [h7_8]), (by simp [h8_8]), rfl, ?_, ?_⟩
    ·subst hn1; omega
    ·first | omega | assumption | (simp; done)
    ·exact any_take_succ hlt p2 (by simp [heq])
  ·try simp at hc9
   refine awp_exit ?_
   refine q_seq_exit ?_
   refine q_loop_exit ?_
   refine q_block_hit ?_
   refine q_seq ?_
   refine stp_reg TT_ok (by rfl) fun K hK => ?_
   simp []
   try refine And.intro (by first | omega | rfl) ?_
   refine hK _ _ fun σ9 hσ H9 hH => ?_
   clear hK K
   have h4_9 := congrFun hσ 4
   simp [] at h4_9
   clear hσ
   replace hH : H = H9 := Eq.symm hH
   subst hH
   refine awp_ret ?_
   refine q_fin1 h4_9 ?_
   have : i = es.length := by have := hc9; omega
   subst this
   rw [List.take_length] at p2
   rw [idxOf_none p2]
theorem indexI_w (es : List Int) (x : Int) (hl : es.length ≤ 1000000) : FunW Try.prog 36 [.ro (es.map (AV.int .i64)), (AV.int .i64) x] (.int .i64 (idxOf (fun y => decide (x = y)) es)) :=
 funW_pure (indexI0 es x hl) (pu_cons (.ro fun v hv => by obtain ⟨x, _, rfl⟩ := List.mem_map.1 hv; exact pu_int _ _) (pu_cons (pu_int _ _) pu_nil)) (.int _ _) (.int _ _)
set_option maxHeartbeats 1000000 in
theorem containsI0 (es : List Int) (x : Int) (hl : es.length ≤ 1000000) : ACalls Try.prog 32 [.ro (es.map (AV.int .i64)), ((AV.int .i64) x)] AHeap.nil (fun r _ => r = .bool (decide (x ∈ es))) := by
 refine acalls_body TT_ok Try.func32 rfl rfl (by simp [Try.ntmps32]) ?_
 rw [Try.ntmps32]
 obtain ⟨σ, hσ⟩ : ∃ σ, σ = st0 [.ro (es.map (AV.int .i64)), ((AV.int .i64) x)] := ⟨_, rfl⟩
 rw [← hσ]
 obtain ⟨h0_0, h1_0⟩ := fs2 hσ 0 1
 simp [st0] at h0_0 h1_0
 clear hσ
 obtain ⟨H, hH⟩ : ∃ H, H = AHeap.nil := ⟨_, rfl⟩
 rw [← hH]
 have hn_0 : H.n = 0 := by rw [hH]; rfl
 have hst_0 : H.st = 1 := by rw [hH]; rfl
 clear hH
 refine stp_reg TT_ok (by rfl) fun K hK => ?_
 simp []
 try refine And.intro (by first | omega | rfl) ?_
 refine hK _ _ fun σ1 hσ H1 hH => ?_
 clear hK K
 obtain ⟨h0_1, h1_1⟩ := fs2 hσ 0 1
 simp [h0_0, h1_0] at h0_1 h1_1
 clear hσ
 replace hH : H = H1 := Eq.symm hH
 subst hH
 refine stp_reg TT_ok (by rfl) fun K hK => ?_
 simp [h0_1, h1_1]
 try refine And.intro (by first | omega | rfl) ?_
 refine FunW.at (indexI_w es x hl) ?hf ?_
 case hf => exact FrzL.cons (.pure (.ro fun v hv => by obtain ⟨x, _, rfl⟩ := List.mem_map.1 hv; exact pu_int _ _)) (FrzL.cons (.pure (pu_int _ _)) (FrzL.nil _))
 simp [h0_1, h1_1]
 try refine And.intro (by first | omega | rfl) ?_
 refine hK _ _ fun σ2 hσ H2 hH => ?_
 clear hK K
 have h4_2 := congrFun hσ 4
 simp [] at h4_2
 clear hσ
 replace hH : H = H2 := Eq.symm hH
 subst hH
 refine awp_ret ?_
 refine q_fin1 h4_2 ?_
 first | (rw [idxOf_nonneg, any_mem]; done) | (rw [idxOf_nonneg, any_mem]; congr)
theorem containsI_w (es : List Int) (x : Int) (hl : es.length ≤ 1000000) : FunW Try.prog 32 [.ro (es.map (AV.int .i64)), (AV.int .i64) x] (.bool (decide (x ∈ es))) :=
 funW_pure (containsI0 es x hl) (pu_cons (.ro fun v hv => by obtain ⟨x, _, rfl⟩ := List.mem_map.1 hv; exact pu_int _ _) (pu_cons (pu_int _ _) pu_nil)) (.bool _) (.bool _)
set_option maxHeartbeats 1000000 in
theorem indexE0 (es : List (Int × Int)) (x : (Int × Int)) (hl : es.length ≤ 1000000) : ACalls Try.prog 58 [.ro (es.map encE), (encE x)] AHeap.nil (fun r _ => r = .int .i64 (idxOf (fun y => decide (x = y)) es)) := by
 refine acalls_body TT_ok Try.func58 rfl rfl (by simp [Try.ntmps58]) ?_
 rw [Try.ntmps58]
 obtain ⟨σ, hσ⟩ : ∃ σ, σ = st0 [.ro (es.map encE), (encE x)] := ⟨_, rfl⟩
 rw [← hσ]
 obtain ⟨h0_0, h1_0⟩ := fs2 hσ 0 1
 simp [st0] at h0_0 h1_0
 clear hσ
 obtain ⟨H, hH⟩ : ∃ H, H = AHeap.nil := ⟨_, rfl⟩
 rw [← hH]
 have hn_0 : H.n = 0 := by rw [hH]; rfl
 have hst_0 : H.st = 1 := by rw [hH]; rfl
 clear hH
 refine stp_reg TT_ok (by rfl) fun K hK => ?_
 simp [h1_0, hn_0, hst_0, encE]
 try refine And.intro (by first | omega | rfl) ?_
 refine hK _ _ fun σ1 hσ H1 hH => ?_
 clear hK K
 obtain ⟨h0_1, h3_1⟩ := fs2 hσ 0 3
 simp [h0_0] at h0_1 h3_1
 clear hσ
 have g0_1 := gt_of hH 0
 simp [hn_0, hst_0] at g0_1
 have hn_1 := congrArg AHeap.n hH
 simp [hn_0, hst_0] at hn_1
 have hst_1 := congrArg AHeap.st hH
 simp [hn_0, hst_0] at hst_1
 clear hH
 refine awp_seq ?_
 refine stp_reg TT_ok (by rfl) fun K hK => ?_
 simp [h0_1, g0_1, encE]
 try refine And.intro (by first | omega | rfl) ?_
 refine hK _ _ fun σ2 hσ H2 hH => ?_
 clear hK K
 obtain ⟨h0_2, h3_2, h7_2, h8_2⟩ := fs4 hσ 0 3 7 8
 simp [h0_1, h3_1] at h0_2 h3_2 h7_2 h8_2
 clear hσ
 replace hH : H1 = H2 := Eq.symm hH
 subst hH
 refine awp_block ?_
 refine awp_loopV (fun n σ' H' => ∃ (i : Nat), n = es.length - i ∧ σ' 0 = σ2 0 ∧ σ' 3 = σ2 3 ∧ σ' 7 = .int .i64 es.length ∧ σ' 8 = .int .i64 i ∧ H' = H1 ∧ (i ≤ es.length) ∧ ((es.take i).any (fun y => decide (x = y)) = false)) ?_ ?_
 ·refine ⟨_, 0, rfl, rfl, rfl, (by simp [h7_2]), (by simp [h8_2]), rfl, ?_, ?_⟩
  ·first | omega | (simp; done) | assumption
  ·first | omega | (simp; done) | assumption
 ·rintro n1 σ3 H3 ⟨i, hn1, q0_3, q3_3, h7_3, h8_3, hHq, p1, p2⟩
  have h0_3 := q0_3.trans h0_2
  have h3_3 := q3_3.trans h3_2
  replace hHq := hHq.symm
  subst hHq
  refine stp_reg TT_ok (by rfl) fun K hK => ?_
  simp [h7_3, h8_3, g0_1, encE]
  try refine And.intro (by first | omega | rfl) ?_
  refine hK _ _ fun σ4 hσ H4 hH => ?_
  clear hK K
  obtain ⟨h0_4, h3_4, h7_4, h8_4, h9_4⟩ := fs5 hσ 0 3 7 8 9
  simp [h0_3, h3_3, h7_3, h8_3] at h0_4 h3_4 h7_4 h8_4 h9_4
  clear hσ
  replace hH : H1 = H4 := Eq.symm hH
  subst hH
  refine awp_seq ?_
  refine awp_cond _ (by simp only [aeval_tmp]; exact h9_4) (fun hc9 => ?_) (fun hc9 => ?_)
  ·try simp at hc9
   have hlt : i < es.length := by simpa using hc9
   have hge : (es.map encE)[i]? = some (encE es[i]) := by simp [hlt]
   refine awp_skip ?_
   refine q_seq ?_
   refine awp_seq ?_
   refine awp_block ?_
   refine stp_reg TT_ok (by rfl) fun K hK => ?_
   simp [h8_4, g0_1, encE]
   try refine And.intro (by first | omega | rfl) ?_
   refine hK _ _ fun σ5 hσ H5 hH => ?_
   clear hK K
   obtain ⟨h0_5, h3_5, h5_5, h7_5, h8_5⟩ := fs5 hσ 0 3 5 7 8
   simp [h0_4, h3_4, h7_4, h8_4] at h0_5 h3_5 h5_5 h7_5 h8_5
   clear hσ
   replace hH : H1 = H5 := Eq.symm hH
   subst hH
   refine stp_lex false TT_ok mixed (by rfl) (by rfl) (by kernel_rfl) (by rfl) fun U hU K hK => ?_
   simp [h0_5, h3_5, h5_5, g0_1, encE, hge, hlt, encE]
   try refine And.intro (by first | omega | rfl) ?_
   refine hK _ _ _ (by subst hU; kernel_rfl) fun σ6 hσ H6 hH => ?_
   clear hK K hU U
   obtain ⟨h0_6, h3_6, h5_6, h7_6, h8_6, h16_6⟩ := fs6 hσ 0 3 5 7 8 16
   simp [h0_5, h3_5, h5_5, h7_5, h8_5] at h0_6 h3_6 h5_6 h7_6 h8_6 h16_6
   clear hσ
   replace hH : H1 = H6 := Eq.symm hH
   subst hH
   refine awp_cond _ (by simp only [aeval_tmp]; exact h16_6) (fun hc16 => ?_) (fun hc16 => ?_)
   ·try simp at hc16
    skip
    have heq : x = es[i] := by first | exact hc16 | exact Prod.ext hc16.1 hc16.2
    refine stp_reg TT_ok (by rfl) fun K hK => ?_
    simp [h5_6, g0_1, encE]
    try refine And.intro (by first | omega | rfl) ?_
    refine hK _ _ fun σ7 hσ H7 hH => ?_
    clear hK K
    have h4_7 := congrFun hσ 4
    simp [] at h4_7
    clear hσ
    replace hH : H1 = H7 := Eq.symm hH
    subst hH
    refine awp_ret ?_
    refine q_block_ret ?_
    refine q_seq_ret ?_
    refine q_loop_ret ?_
    refine q_block_ret ?_
    refine q_seq_ret ?_
    refine q_fin1 h4_7 ?_
    rw [idxOf_at hlt p2 (by simp [heq])]
   ·try simp at hc16
    skip
    have heq : ¬ x = es[i] := by first | exact hc16 | (intro e; rw [e] at hc16; simp at hc16)
    refine awp_skip ?_
    refine q_block ?_
    refine q_seq ?_
    refine stp_regl TT_ok (by rfl) fun K hK => ?_
    simp [h8_6, g0_1, encE, wrap_ok (n := (i : Int) + 1) (by omega) (by omega)]
    try refine And.intro (by first | omega | rfl) ?_
    refine hK _ _ fun σ8 hσ H8 hH => ?_
    clear hK K
    obtain ⟨h0_8, h3_8, h7_8, h8_8⟩ := fs4 hσ 0 3 7 8
    simp [h0_6, h3_6, h7_6] at h0_8 h3_8 h7_8 h8_8
    clear hσ
    replace hH : H1 = H8 := Eq.symm hH
    subst hH
    refine ⟨_, ?_, i + 1, rfl, (h0_8.trans h0_2.symm), (h3_8.trans h3_2.symm), (by simp [h7_8]), (by simp [h8_8]), rfl, ?_, ?_⟩
    ·subst hn1; omega
    ·first | omega | assumption | (simp; done)
    ·exact any_take_succ hlt p2 (by simp [heq])
  ·try simp at hc9
   refine awp_exit ?_
   refine q_seq_exit ?_
   refine q_loop_exit ?_
   refine q_block_hit ?_
   refine q_seq ?_
   refine stp_reg TT_ok (by rfl) fun K hK => ?_
   simp [g0_1, encE]
   try refine And.intro (by first | omega | rfl) ?_
   refine hK _ _ fun σ9 hσ H9 hH => ?_
   clear hK K
   have h4_9 := congrFun hσ 4
   simp [] at h4_9
   clear hσ
   replace hH : H1 = H9 := Eq.symm hH
   subst hH
   refine awp_ret ?_
   refine q_fin1 h4_9 ?_
   have : i = es.length := by have := hc9; omega
   subst this
   rw [List.take_length] at p2
   rw [idxOf_none p2]
theorem indexE_w (es : List (Int × Int)) (x : (Int × Int)) (hl : es.length ≤ 1000000) : FunW Try.prog 58 [.ro (es.map encE), encE x] (.int .i64 (idxOf (fun y => decide (x = y)) es)) :=
 funW_pure (indexE0 es x hl) (pu_cons (.ro fun v hv => by obtain ⟨x, _, rfl⟩ := List.mem_map.1 hv; exact pu_edge _) (pu_cons (pu_edge _) pu_nil)) (.int _ _) (.int _ _)
set_option maxHeartbeats 1000000 in
theorem containsE0 (es : List (Int × Int)) (x : (Int × Int)) (hl : es.length ≤ 1000000) : ACalls Try.prog 33 [.ro (es.map encE), (encE x)] AHeap.nil (fun r _ => r = .bool (decide (x ∈ es))) := by
 refine acalls_body TT_ok Try.func33 rfl rfl (by simp [Try.ntmps33]) ?_
 rw [Try.ntmps33]
 obtain ⟨σ, hσ⟩ : ∃ σ, σ = st0 [.ro (es.map encE), (encE x)] := ⟨_, rfl⟩
 rw [← hσ]
 obtain ⟨h0_0, h1_0⟩ := fs2 hσ 0 1
 simp [st0] at h0_0 h1_0
 clear hσ
 obtain ⟨H, hH⟩ : ∃ H, H = AHeap.nil := ⟨_, rfl⟩
 rw [← hH]
 have hn_0 : H.n = 0 := by rw [hH]; rfl
 have hst_0 : H.st = 1 := by rw [hH]; rfl
 clear hH
 refine stp_reg TT_ok (by rfl) fun K hK => ?_
 simp [h1_0, hn_0, hst_0, encE]
 try refine And.intro (by first | omega | rfl) ?_
 refine hK _ _ fun σ1 hσ H1 hH => ?_
 clear hK K
 obtain ⟨h0_1, h3_1⟩ := fs2 hσ 0 3
 simp [h0_0] at h0_1 h3_1
 clear hσ
 have g0_1 := gt_of hH 0
 simp [hn_0, hst_0] at g0_1
 have hn_1 := congrArg AHeap.n hH
 simp [hn_0, hst_0] at hn_1
 have hst_1 := congrArg AHeap.st hH
 simp [hn_0, hst_0] at hst_1
 clear hH
 have hFF0 := an3 h0_1 h3_1 g0_1
 refine stp_reg TT_ok (by rfl) fun K hK => ?_
 simp [hFF0, encE]
 try refine And.intro (by first | omega | rfl) ?_
 refine FunW.at (indexE_w es x hl) ?hf ?_
 case hf => exact FrzL.cons (.pure (.ro fun v hv => by obtain ⟨x, _, rfl⟩ := List.mem_map.1 hv; exact pu_edge _)) (FrzL.cons (.pure (pu_edge _)) (FrzL.nil _))
 simp [hFF0, encE]
 try refine And.intro (by first | omega | rfl) ?_
 refine hK _ _ fun σ2 hσ H2 hH => ?_
 clear hK K hFF0
 have h4_2 := congrFun hσ 4
 simp [] at h4_2
 clear hσ
 replace hH : H1 = H2 := Eq.symm hH
 subst hH
 refine awp_ret ?_
 refine q_fin1 h4_2 ?_
 first | (rw [idxOf_nonneg, any_mem]; done) | (rw [idxOf_nonneg, any_mem]; congr)
theorem containsE_w (es : List (Int × Int)) (x : (Int × Int)) (hl : es.length ≤ 1000000) : FunW Try.prog 33 [.ro (es.map encE), encE x] (.bool (decide (x ∈ es))) :=
 funW_pure (containsE0 es x hl) (pu_cons (.ro fun v hv => by obtain ⟨x, _, rfl⟩ := List.mem_map.1 hv; exact pu_edge _) (pu_cons (pu_edge _) pu_nil)) (.bool _) (.bool _)
end Go.Proofs.Yteifhcohmipdcaa

namespace Go.Proofs.Yteifhcohmipdcaa
open Go.Abs
set_option linter.unusedSimpArgs false
set_option linter.unusedVariables false
theorem listUpto_mem {bs : List Bool} {n : Nat} {x : Int} : x ∈ listUpto bs n ↔ ∃ i : Nat, i < n ∧ bs[i]? = some true ∧ x = i := by
 simp only [listUpto, List.mem_map, List.mem_filter, List.mem_range]
 constructor
 ·rintro ⟨i, ⟨h1, h2⟩, rfl⟩; exact ⟨i, h1, getD_true.1 h2, rfl⟩
 ·rintro ⟨i, h1, h2, rfl⟩; exact ⟨i, ⟨h1, getD_true.2 h2⟩, rfl⟩
theorem reach_mem {g : Gr} (hv : g.valid = true) {l : List Int} (hl : ∀ x ∈ l, inR g.nodes.length x) {x : Int} : x ∈ g.reach l ↔ g.Reach l x := by
 rw [Gr.reach, if_pos (exist_iff.2 ⟨hl, hv⟩), listUpto_mem]
 have hm := marks_is hv hl
 constructor
 ·rintro ⟨i, h1, h2, rfl⟩; exact (hm.iff i h1).1 h2
 ·intro h
  have hr := h.inR hv hl
  exact ⟨x.toNat, in_toNat hr, (hm.iff _ (in_toNat hr)).2 (by rw [toNat_cast hr]; exact h), (toNat_cast hr).symm⟩
abbrev TT_ : Int → Prop := fun _ => True
theorem Gr.Walk.snoc {g : Gr} {to c v : Int} {k : Nat} (h : g.Walk TT_ to k v) (he : (to, c) ∈ g.edges) : g.Walk TT_ c (k + 1) v := by
 induction h with
 | nil => exact .cons he trivial .nil
 | cons h1 h2 _ ih => exact .cons h1 trivial ih
theorem Gr.Walk.reach {g : Gr} {to v : Int} {k : Nat} (h : g.Walk TT_ to k v) {l : List Int} (hl : g.Reach l v) : g.Reach l to := by
 induction h with
 | nil => exact hl
 | cons h1 _ _ ih => exact ih (hl.step h1)
theorem reach_walk {g : Gr} {a x : Int} (h : g.Reach [a] x) : ∃ k, g.Walk TT_ x k a := by
 induction h with
 | base h => simp at h; subst h; exact ⟨0, .nil⟩
 | step _ he ih => obtain ⟨k, hk⟩ := ih; exact ⟨k + 1, hk.snoc he⟩
theorem path_cases {g : Gr} (hv : g.valid = true) {a b : Int} (ha : inR g.nodes.length a) (hb : inR g.nodes.length b) :
  (g.path a b = [] ∧ ∀ k, ¬ g.Walk TT_ b k a) ∨ ∃ n, g.Far TT_ b n a ∧ g.path a b = g.way (g.dist b) n a := by
 have he : g.exist [a, b] = true := exist_iff.2 ⟨fun x hx => by simp at hx; rcases hx with rfl | rfl <;> assumption, hv⟩
 have hD := dist_is hv hb
 have hal : a.toNat < (g.dist b).length := by rw [hD.len]; exact in_toNat ha
 have hg : (g.dist b).getD a.toNat 0 = (g.dist b)[a.toNat] := by rw [List.getD_eq_getElem?_getD, List.getElem?_eq_getElem hal]; rfl
 rw [Gr.path, if_pos he, hg]
 by_cases hw : ∃ k, g.Walk TT_ b k a
 ·obtain ⟨k, hk⟩ := hw
  obtain ⟨n, _, hf⟩ := hk.far
  have := hD.all a.toNat n (in_toNat ha) (by rw [toNat_cast ha]; exact hf)
  rw [List.getElem?_eq_getElem hal] at this
  simp only [Option.some.injEq] at this
  rw [this, if_neg (by omega)]
  exact .inr ⟨n, hf, rfl⟩
 ·rcases hD.val a.toNat _ (List.getElem?_eq_getElem hal) with q | ⟨n, q, hf⟩
  ·rw [q, if_pos (by omega)]
   exact .inl ⟨rfl, fun k hk => hw ⟨k, hk⟩⟩
  ·rw [toNat_cast ha] at hf
   exact absurd ⟨n, hf.1⟩ hw
theorem path_pos {g : Gr} (hv : g.valid = true) {a b : Int} (ha : inR g.nodes.length a) (hb : inR g.nodes.length b) : b ∈ g.reach [a] ↔ ¬ g.path a b = [] := by
 rw [reach_mem hv (fun x hx => by simp at hx; subst hx; exact ha)]
 rcases path_cases hv ha hb with ⟨h1, h2⟩ | ⟨n, h1, h2⟩
 ·exact ⟨fun h => by obtain ⟨k, hk⟩ := reach_walk h; exact absurd hk (h2 k), fun h => absurd h1 h⟩
 ·exact ⟨fun _ => by rw [h2, way_head]; simp, fun _ => h1.1.reach (.base (by simp))⟩
theorem way_last {g : Gr} (hv : g.valid = true) {to : Int} {d : List Int} (hd : IsDist g TT_ to d) : ∀ {n : Nat} {a : Int}, inR g.nodes.length a → g.Far TT_ to n a → (g.way d n a)[n]? = some to
 | 0, a, ha, hf => by rw [hf.zero]; rfl
 | n + 1, a, ha, hf => by
  obtain ⟨h1, h2, h3⟩ := next_far hv hd ha hf
  rw [Gr.way, List.getElem?_cons_succ]
  exact way_last hv hd h1 h3
theorem way_edge {g : Gr} (hv : g.valid = true) {to : Int} {d : List Int} (hd : IsDist g TT_ to d) : ∀ {n : Nat} {a : Int}, inR g.nodes.length a → g.Far TT_ to n a → ∀ (i : Nat) (x y : Int), (g.way d n a)[i]? = some x → (g.way d n a)[i + 1]? = some y → (x, y) ∈ g.edges
 | 0, a, ha, hf, i, x, y, hx, hy => by simp [Gr.way] at hy
 | n + 1, a, ha, hf, i, x, y, hx, hy => by
  obtain ⟨h1, h2, h3⟩ := next_far hv hd ha hf
  rw [Gr.way] at hx hy
  cases i with
  | zero =>
   rw [List.getElem?_cons_succ, way_head] at hy
   simp at hx hy
   subst hx; subst hy; exact h2
  | succ i =>
   rw [List.getElem?_cons_succ] at hx hy
   exact way_edge hv hd h1 h3 i x y hx hy
theorem path_way {g : Gr} (hv : g.valid = true) {a b : Int} (ha : inR g.nodes.length a) (hb : inR g.nodes.length b) (h : ¬ g.path a b = []) :
  (∃ r, g.path a b = a :: r) ∧ (g.path a b)[(g.path a b).length - 1]? = some b ∧ ∀ (i : Nat) (x y : Int), (g.path a b)[i]? = some x → (g.path a b)[i + 1]? = some y → (x, y) ∈ g.edges := by
 rcases path_cases hv ha hb with ⟨h1, _⟩ | ⟨n, h1, h2⟩
 ·exact absurd h1 h
 ·rw [h2, way_len]
  exact ⟨⟨_, way_head⟩, way_last hv (dist_is hv hb) ha h1, way_edge hv (dist_is hv hb) ha h1⟩
theorem path_step {g : Gr} (hv : g.valid = true) {a u w : Int} (ha : inR g.nodes.length a) (he : (u, w) ∈ g.edges) (h : ¬ g.path a u = []) : (g.path a w).length ≤ (g.path a u).length + 1 := by
 obtain ⟨hu, hw⟩ := valid_edge hv he
 rcases path_cases hv ha hu with ⟨h1, _⟩ | ⟨n, h1, h2⟩
 ·exact absurd h1 h
 ·rcases path_cases hv ha hw with ⟨h3, _⟩ | ⟨m, h3, h4⟩
  ·rw [h3]; simp
  ·rw [h2, h4, way_len, way_len]
   have hk := h1.1.snoc he
   have : ¬ n + 1 < m := fun hlt => h3.2 _ hlt hk
   omega
theorem path_self2 {g : Gr} (hv : g.valid = true) {a : Int} (ha : inR g.nodes.length a) : g.path a a = [a] := by
 rcases path_cases hv ha ha with ⟨_, h⟩ | ⟨n, h1, h2⟩
 ·exact absurd Gr.Walk.nil (h 0)
 ·have : n = 0 := h1.uniq (g.far_to _ _)
  subst this; rw [h2]; rfl
def lenL (g : Gr) (a : Int) (i : Nat) : List Int := (List.range g.nodes.length).map fun j : Nat => if j < i then ((g.path a j).length : Int) else 0
theorem lenL_len (g : Gr) (a : Int) (i : Nat) : (lenL g a i).length = g.nodes.length := by simp [lenL]
theorem lenL_zero (g : Gr) (a : Int) : lenL g a 0 = List.replicate g.nodes.length 0 := by
 refine List.ext_getElem (by simp [lenL]) fun i h1 h2 => by simp [lenL]
theorem lenL_set {g : Gr} {a : Int} {i : Nat} (h : i < g.nodes.length) : (lenL g a i).set i ((g.path a i).length : Int) = lenL g a (i + 1) := by
 refine List.ext_getElem (by simp [lenL]) fun j h1 h2 => ?_
 simp only [List.getElem_set, lenL, List.getElem_map, List.getElem_range]
 split
 ·rename_i e; subst e; simp
 ·rename_i e
  by_cases hj : j < i
  ·rw [if_pos hj, if_pos (by omega)]
  ·rw [if_neg hj, if_neg (by omega)]
theorem lenL_get {g : Gr} {a : Int} {x : Int} (h : inR g.nodes.length x) : (lenL g a g.nodes.length)[x.toNat]? = some ((g.path a x).length : Int) := by
 have := in_toNat h
 simp [lenL, this, toNat_cast h]
theorem lenL_gete {g : Gr} {a : Int} {x : Int} (hx : inR g.nodes.length x) {h : x.toNat < (lenL g a g.nodes.length).length} : (lenL g a g.nodes.length)[x.toNat]'h = ((g.path a x).length : Int) := by
 have := lenL_get (g := g) (a := a) hx
 rw [List.getElem?_eq_getElem h] at this
 exact Option.some.inj this
end Go.Proofs.Yteifhcohmipdcaa

namespace Go.Proofs.Yteifhcohmipdcaa
open Go.Abs
set_option linter.unusedSimpArgs false
set_option linter.unusedVariables false
theorem head_get {pp r : List Int} {a : Int} (h : pp = a :: r) : pp[0]? = some a := by rw [h]; rfl
set_option maxHeartbeats 1000000 in
theorem shortest0 (g : Gr) (u : Int) (hu : 0 ≤ u ∧ u ≤ 255) : ACalls Try.prog 6 [encG g, .int .u8 u] AHeap.nil (fun r _ => r = .bool true) := by
 refine acalls_body TT_ok Try.func6 rfl rfl (by simp [Try.ntmps6]) ?_
 rw [Try.ntmps6]
 obtain ⟨σ, hσ⟩ : ∃ σ, σ = st0 [encG g, .int .u8 u] := ⟨_, rfl⟩
 rw [← hσ]
 obtain ⟨h0_0, h1_0⟩ := fs2 hσ 0 1
 simp [st0] at h0_0 h1_0
 clear hσ
 obtain ⟨H, hH⟩ : ∃ H, H = AHeap.nil := ⟨_, rfl⟩
 rw [← hH]
 have hn_0 : H.n = 0 := by rw [hH]; rfl
 have hst_0 : H.st = 1 := by rw [hH]; rfl
 clear hH
 refine stp_reg TT_ok (by rfl) fun K hK => ?_
 simp [h0_0, hn_0, hst_0, encG]
 try refine And.intro (by first | omega | rfl) ?_
 refine hK _ _ fun σ1 hσ H1 hH => ?_
 clear hK K
 obtain ⟨h1_1, h2_1⟩ := fs2 hσ 1 2
 simp [h1_0] at h1_1 h2_1
 clear hσ
 have g0_1 := gt_of hH 0
 simp [hn_0, hst_0] at g0_1
 have hn_1 := congrArg AHeap.n hH
 simp [hn_0, hst_0] at hn_1
 have hst_1 := congrArg AHeap.st hH
 simp [hn_0, hst_0] at hst_1
 clear hH
 refine awp_seq ?_
 refine stp_reg TT_ok (by rfl) fun K hK => ?_
 simp [g0_1, encG]
 try refine And.intro (by first | omega | rfl) ?_
 refine stp_call (awake_ok) ?_
 simp [g0_1, encG]
 try refine And.intro (by first | omega | rfl) ?_
 refine hK _ _ fun σ2 hσ H2 hH => ?_
 clear hK K
 obtain ⟨h1_2, h2_2, h14_2⟩ := fs3 hσ 1 2 14
 simp [h1_1, h2_1] at h1_2 h2_2 h14_2
 clear hσ
 replace hH : H1 = H2 := Eq.symm hH
 subst hH
 refine stp_false (by simp [aeval_tmp, h14_2, encG]) ?_
 refine awp_skip ?_
 refine q_seq ?_
 refine awp_seq ?_
 by_cases hf : g.nodes.length ≤ 14 ∧ g.edges.length ≤ 60
 ·skip
  by_cases hv : g.valid = true
  ·skip
   by_cases hn : (g.nodes.length : Int) = 0
   ·skip
    have hFF0 := an7 h2_2 g0_1 hf hv (beq_iff_eq.2 hv) hn (beq_iff_eq.2 hn)
    refine stp_reg TT_ok (by rfl) fun K hK => ?_
    simp [hFF0, encG]
    try refine And.intro (by first | omega | rfl) ?_
    refine stp_call (few_ok g) ?_
    simp [hFF0, encG]
    try refine And.intro (by first | omega | rfl) ?_
    refine stp_call (refValid_ok g) ?_
    simp [hFF0, encG]
    try refine And.intro (by first | omega | rfl) ?_
    refine hK _ _ fun σ3 hσ H3 hH => ?_
    clear hK K hFF0
    obtain ⟨h1_3, h2_3, h28_3⟩ := fs3 hσ 1 2 28
    simp [h1_2, h2_2] at h1_3 h2_3 h28_3
    clear hσ
    replace hH : H1 = H3 := Eq.symm hH
    subst hH
    refine stp_true (by simp [aeval_tmp, h28_3, hf, hv, beq_iff_eq.2 hv, hn, beq_iff_eq.2 hn, encG]) ?_
    refine stp_reg TT_ok (by rfl) fun K hK => ?_
    simp [g0_1, hf, hv, beq_iff_eq.2 hv, hn, beq_iff_eq.2 hn, encG]
    try refine And.intro (by first | omega | rfl) ?_
    refine hK _ _ fun σ4 hσ H4 hH => ?_
    clear hK K
    have h4_4 := congrFun hσ 4
    simp [] at h4_4
    clear hσ
    replace hH : H1 = H4 := Eq.symm hH
    subst hH
    refine awp_ret ?_
    refine q_seq_ret ?_
    refine q_fin1 h4_4 ?_
    first | rfl | (simp; done)
   ·skip
    have hFF0 := an7 h2_2 g0_1 hf hv (beq_iff_eq.2 hv) hn (beq_eq_false_iff_ne.2 hn)
    refine stp_reg TT_ok (by rfl) fun K hK => ?_
    simp [hFF0, encG]
    try refine And.intro (by first | omega | rfl) ?_
    refine stp_call (few_ok g) ?_
    simp [hFF0, encG]
    try refine And.intro (by first | omega | rfl) ?_
    refine stp_call (refValid_ok g) ?_
    simp [hFF0, encG]
    try refine And.intro (by first | omega | rfl) ?_
    refine hK _ _ fun σ5 hσ H5 hH => ?_
    clear hK K hFF0
    obtain ⟨h1_5, h2_5, h28_5⟩ := fs3 hσ 1 2 28
    simp [h1_2, h2_2] at h1_5 h2_5 h28_5
    clear hσ
    replace hH : H1 = H5 := Eq.symm hH
    subst hH
    refine stp_false (by simp [aeval_tmp, h28_5, hf, hv, beq_iff_eq.2 hv, hn, beq_eq_false_iff_ne.2 hn, encG]) ?_
    refine awp_skip ?_
    refine q_seq ?_
    have hpos : 0 < g.nodes.length := by omega
    obtain ⟨a, hae⟩ : ∃ a, u.tmod g.nodes.length = a := ⟨_, rfl⟩
    have har : inR g.nodes.length a := by
     rw [← hae, Int.tmod_eq_emod_of_nonneg hu.1]
     exact ⟨Int.emod_nonneg _ (by omega), Int.emod_lt_of_pos _ (by omega)⟩
    have hl1 : ∀ x ∈ [a], inR g.nodes.length x := fun x hx => by simp at hx; subst hx; exact har
    refine stp_reg TT_ok (by rfl) fun K hK => ?_
    simp [h1_5, h2_5, g0_1, hf, hv, beq_iff_eq.2 hv, hn, beq_eq_false_iff_ne.2 hn, encG, wrap_ok (n := u) (by omega) (by omega), hae, List.length_pos_iff.1 hpos]
    try refine And.intro (by first | omega | rfl) ?_
    refine hK _ _ fun σ6 hσ H6 hH => ?_
    clear hK K
    obtain ⟨h2_6, h5_6⟩ := fs2 hσ 2 5
    simp [h2_5] at h2_6 h5_6
    clear hσ
    replace hH : H1 = H6 := Eq.symm hH
    subst hH
    have hFF0 := an10 h2_6 h5_6 g0_1 hn_1 hst_1 hf hv (beq_iff_eq.2 hv) hn (beq_eq_false_iff_ne.2 hn)
    refine stp_reg TT_ok (by rfl) fun K hK => ?_
    simp [hFF0, encG]
    try refine And.intro (by first | omega | rfl) ?_
    refine FunW.at (reach_w g [a] (by simp)) ?hf ?_
    case hf => exact FrzL.cons (.pure (pu_graph g)) (FrzL.cons (frz_ints (xs := [a]) (e := 3) (g := 0) (by simp [hFF0, encG]) rfl) (FrzL.nil _))
    simp [hFF0, encG]
    try refine And.intro (by first | omega | rfl) ?_
    refine hK _ _ fun σ7 hσ H7 hH => ?_
    clear hK K hFF0
    obtain ⟨h2_7, h5_7, h6_7⟩ := fs3 hσ 2 5 6
    simp [h2_6, h5_6] at h2_7 h5_7 h6_7
    clear hσ
    have g0_7 := gt_of hH 0
    have g1_7 := gt_of hH 1
    simp [g0_1, hn_1, hst_1, hf, hv, beq_iff_eq.2 hv, hn, beq_eq_false_iff_ne.2 hn] at g0_7 g1_7
    have hn_7 := congrArg AHeap.n hH
    simp [hn_1, hst_1] at hn_7
    have hst_7 := congrArg AHeap.st hH
    simp [hn_1, hst_1] at hst_7
    clear hH
    refine stp_reg TT_ok (by rfl) fun K hK => ?_
    simp [h2_7, g0_7, g1_7, hn_7, hst_7, hf, hv, beq_iff_eq.2 hv, hn, beq_eq_false_iff_ne.2 hn, encG, show (g.nodes.length : Int) ≤ 281474976710656 by omega]
    try refine And.intro (by first | omega | rfl) ?_
    refine hK _ _ fun σ8 hσ H8 hH => ?_
    clear hK K
    obtain ⟨h2_8, h5_8, h6_8, h7_8⟩ := fs4 hσ 2 5 6 7
    simp [h2_7, h5_7, h6_7] at h2_8 h5_8 h6_8 h7_8
    clear hσ
    have g0_8 := gt_of hH 0
    have g1_8 := gt_of hH 1
    have g2_8 := gt_of hH 2
    simp [g0_7, g1_7, hn_7, hst_7, hf, hv, beq_iff_eq.2 hv, hn, beq_eq_false_iff_ne.2 hn] at g0_8 g1_8 g2_8
    have hn_8 := congrArg AHeap.n hH
    simp [hn_7, hst_7] at hn_8
    have hst_8 := congrArg AHeap.st hH
    simp [hn_7, hst_7] at hst_8
    clear hH
    refine awp_seq ?_
    refine stp_reg TT_ok (by rfl) fun K hK => ?_
    simp [h2_8, g0_8, g1_8, g2_8, hf, hv, beq_iff_eq.2 hv, hn, beq_eq_false_iff_ne.2 hn, encG]
    try refine And.intro (by first | omega | rfl) ?_
    refine hK _ _ fun σ9 hσ H9 hH => ?_
    clear hK K
    obtain ⟨h2_9, h5_9, h6_9, h7_9, h45_9, h46_9⟩ := fs6 hσ 2 5 6 7 45 46
    simp [h2_8, h5_8, h6_8, h7_8] at h2_9 h5_9 h6_9 h7_9 h45_9 h46_9
    clear hσ
    replace hH : H8 = H9 := Eq.symm hH
    subst hH
    refine awp_block ?_
    refine awp_loopV (fun n σ' H' => ∃ (i : Nat), n = g.nodes.length - i ∧ σ' 2 = σ9 2 ∧ σ' 5 = σ9 5 ∧ σ' 6 = σ9 6 ∧ σ' 7 = σ9 7 ∧ σ' 45 = σ9 45 ∧ σ' 46 = (AV.int IntKind.i64) i ∧ H'.get 0 = H8.get 0 ∧ H'.get 1 = H8.get 1 ∧ H'.get 2 = some (.row 3 1 0 ((lenL g a i).map (AV.int IntKind.i64))) ∧ H'.st = H8.st ∧ (i ≤ g.nodes.length)) ?_ ?_
    ·refine ⟨_, 0, rfl, rfl, rfl, rfl, rfl, rfl, (by simp [h46_9, lenL_zero]), rfl, rfl, (by simp [g2_8, lenL_zero]), rfl, ?_⟩
     ·first | omega | (simp; done) | assumption
    ·rintro n1 σ10 H10 ⟨i, hn1, q2_10, q5_10, q6_10, q7_10, q45_10, h46_10, qg0_10, qg1_10, g2_10, qst_10, p1⟩
     have h2_10 := q2_10.trans h2_9
     have h5_10 := q5_10.trans h5_9
     have h6_10 := q6_10.trans h6_9
     have h7_10 := q7_10.trans h7_9
     have h45_10 := q45_10.trans h45_9
     have g0_10 := qg0_10.trans g0_8
     have g1_10 := qg1_10.trans g1_8
     have hst_10 := qst_10.trans hst_8
     refine stp_reg TT_ok (by rfl) fun K hK => ?_
     simp [h45_10, h46_10, g0_10, g1_10, g2_10, hf, hv, beq_iff_eq.2 hv, hn, beq_eq_false_iff_ne.2 hn, encG]
     try refine And.intro (by first | omega | rfl) ?_
     refine hK _ _ fun σ11 hσ H11 hH => ?_
     clear hK K
     obtain ⟨h2_11, h5_11, h6_11, h7_11, h45_11, h46_11, h47_11⟩ := fs7 hσ 2 5 6 7 45 46 47
     simp [h2_10, h5_10, h6_10, h7_10, h45_10, h46_10] at h2_11 h5_11 h6_11 h7_11 h45_11 h46_11 h47_11
     clear hσ
     replace hH : H10 = H11 := Eq.symm hH
     subst hH
     refine awp_seq ?_
     refine awp_cond _ (by simp only [aeval_tmp]; exact h47_11) (fun hc47 => ?_) (fun hc47 => ?_)
     ·try simp at hc47
      have hlt : i < g.nodes.length := by simpa using hc47
      have hir : inR g.nodes.length (i : Int) := ⟨by omega, by omega⟩
      have hpos2 := path_pos hv har hir
      have hpl := path_len (g := g) (a := a) (b := (i : Int))
      have hrl := reach_len g [a]
      have hset : ((lenL g a i).map (AV.int IntKind.i64)).set i ((AV.int IntKind.i64) ((g.path a i).length : Int)) = (lenL g a (i + 1)).map (AV.int IntKind.i64) := by rw [← List.map_set, lenL_set (a := a) hlt]
      have hll := lenL_len g a i
      have hway := path_way hv har hir
      obtain ⟨pp, hpp⟩ : ∃ pp, g.path a i = pp := ⟨_, rfl⟩
      rw [hpp] at hpos2 hpl hset hway
      refine awp_skip ?_
      refine q_seq ?_
      refine awp_seq ?_
      refine awp_block ?_
      refine stp_reg TT_ok (by rfl) fun K hK => ?_
      simp [h46_11, g0_10, g1_10, g2_10, hf, hv, beq_iff_eq.2 hv, hn, beq_eq_false_iff_ne.2 hn, encG]
      try refine And.intro (by first | omega | rfl) ?_
      refine hK _ _ fun σ12 hσ H12 hH => ?_
      clear hK K
      obtain ⟨h2_12, h5_12, h6_12, h7_12, h8_12, h45_12, h46_12⟩ := fs7 hσ 2 5 6 7 8 45 46
      simp [h2_11, h5_11, h6_11, h7_11, h45_11, h46_11] at h2_12 h5_12 h6_12 h7_12 h8_12 h45_12 h46_12
      clear hσ
      replace hH : H10 = H12 := Eq.symm hH
      subst hH
      have hFF0 := an11 h2_12 h5_12 h8_12 g0_10 g1_10 g2_10 hf hv (beq_iff_eq.2 hv) hn (beq_eq_false_iff_ne.2 hn)
      refine stp_reg TT_ok (by rfl) fun K hK => ?_
      simp [hFF0, encG, hpp]
      try refine And.intro (by first | omega | rfl) ?_
      refine stp_call (path_ok g a i) ?_
      simp [hFF0, encG, hpp]
      try refine And.intro (by first | omega | rfl) ?_
      refine hK _ _ fun σ13 hσ H13 hH => ?_
      clear hK K hFF0
      obtain ⟨h2_13, h5_13, h6_13, h7_13, h8_13, h9_13, h45_13, h46_13⟩ := fs8 hσ 2 5 6 7 8 9 45 46
      simp [h2_12, h5_12, h6_12, h7_12, h8_12, h45_12, h46_12] at h2_13 h5_13 h6_13 h7_13 h8_13 h9_13 h45_13 h46_13
      clear hσ
      replace hH : H10 = H13 := Eq.symm hH
      subst hH
      refine awp_seq ?_
      by_cases hz : pp = []
      ·skip
       have hFF0 := an13 h6_13 h8_13 h9_13 g0_10 g1_10 g2_10 hf hv (beq_iff_eq.2 hv) hn (beq_eq_false_iff_ne.2 hn) hz (beq_iff_eq.2 hz)
       refine stp_reg TT_ok (by rfl) fun K hK => ?_
       simp [hFF0, encG, hpos2]
       try refine And.intro (by first | omega | rfl) ?_
       refine FunW.at (containsI_w (g.reach [a]) i (by omega)) ?hf ?_
       case hf => exact FrzL.cons (.pure (pu_ints _)) (FrzL.cons (.pure (pu_int _ _)) (FrzL.nil _))
       simp [hFF0, encG, hpos2]
       try refine And.intro (by first | omega | rfl) ?_
       refine hK _ _ fun σ14 hσ H14 hH => ?_
       clear hK K hFF0
       obtain ⟨h2_14, h5_14, h6_14, h7_14, h8_14, h9_14, h45_14, h46_14, h59_14⟩ := fs9 hσ 2 5 6 7 8 9 45 46 59
       simp [h2_13, h5_13, h6_13, h7_13, h8_13, h9_13, h45_13, h46_13] at h2_14 h5_14 h6_14 h7_14 h8_14 h9_14 h45_14 h46_14 h59_14
       clear hσ
       replace hH : H10 = H14 := Eq.symm hH
       subst hH
       refine stp_false (by simp [aeval_tmp, h59_14, hf, hv, beq_iff_eq.2 hv, hn, beq_eq_false_iff_ne.2 hn, hz, beq_iff_eq.2 hz, encG]) ?_
       refine awp_skip ?_
       refine q_seq ?_
       refine awp_seq ?_
       refine stp_reg TT_ok (by rfl) fun K hK => ?_
       simp [h7_14, h8_14, h9_14, g0_10, g1_10, g2_10, hf, hv, beq_iff_eq.2 hv, hn, beq_eq_false_iff_ne.2 hn, hz, beq_iff_eq.2 hz, encG, hlt, hll]
       try refine And.intro (by first | omega | rfl) ?_
       refine hK _ _ fun σ15 hσ H15 hH => ?_
       clear hK K
       obtain ⟨h2_15, h5_15, h6_15, h7_15, h8_15, h9_15, h45_15, h46_15⟩ := fs8 hσ 2 5 6 7 8 9 45 46
       simp [h2_14, h5_14, h6_14, h7_14, h8_14, h9_14, h45_14, h46_14] at h2_15 h5_15 h6_15 h7_15 h8_15 h9_15 h45_15 h46_15
       clear hσ
       have g0_15 := gt_of hH 0
       have g1_15 := gt_of hH 1
       have g2_15 := gt_of hH 2
       simp [g0_10, g1_10, g2_10, hst_10, hf, hv, beq_iff_eq.2 hv, hn, beq_eq_false_iff_ne.2 hn, hz, beq_iff_eq.2 hz] at g0_15 g1_15 g2_15
       have hst_15 := congrArg AHeap.st hH
       simp [hst_10] at hst_15
       clear hH
       refine stp_reg TT_ok (by rfl) fun K hK => ?_
       simp [h9_15, g0_15, g1_15, g2_15, hf, hv, beq_iff_eq.2 hv, hn, beq_eq_false_iff_ne.2 hn, hz, beq_iff_eq.2 hz, encG]
       try refine And.intro (by first | omega | rfl) ?_
       refine hK _ _ fun σ16 hσ H16 hH => ?_
       clear hK K
       obtain ⟨h2_16, h5_16, h6_16, h7_16, h8_16, h9_16, h45_16, h46_16, h67_16⟩ := fs9 hσ 2 5 6 7 8 9 45 46 67
       simp [h2_15, h5_15, h6_15, h7_15, h8_15, h9_15, h45_15, h46_15] at h2_16 h5_16 h6_16 h7_16 h8_16 h9_16 h45_16 h46_16 h67_16
       clear hσ
       replace hH : H15 = H16 := Eq.symm hH
       subst hH
       refine stp_true (by simp [aeval_tmp, h67_16, hf, hv, beq_iff_eq.2 hv, hn, beq_eq_false_iff_ne.2 hn, hz, beq_iff_eq.2 hz, encG]) ?_
       refine awp_exit ?_
       refine q_seq_exit ?_
       refine q_block_hit ?_
       refine q_seq ?_
       refine stp_regl TT_ok (by rfl) fun K hK => ?_
       simp [h46_16, g0_15, g1_15, g2_15, hf, hv, beq_iff_eq.2 hv, hn, beq_eq_false_iff_ne.2 hn, hz, beq_iff_eq.2 hz, encG, wrap_ok (n := (i : Int) + 1) (by omega) (by omega)]
       try refine And.intro (by first | omega | rfl) ?_
       refine hK _ _ fun σ17 hσ H17 hH => ?_
       clear hK K
       obtain ⟨h2_17, h5_17, h6_17, h7_17, h45_17, h46_17⟩ := fs6 hσ 2 5 6 7 45 46
       simp [h2_16, h5_16, h6_16, h7_16, h45_16] at h2_17 h5_17 h6_17 h7_17 h45_17 h46_17
       clear hσ
       replace hH : H15 = H17 := Eq.symm hH
       subst hH
       rw [hz] at hset
       simp only [List.length_nil, Int.ofNat_zero, Int.cast_ofNat_Int] at hset
       refine ⟨_, ?_, i + 1, rfl, (h2_17.trans h2_9.symm), (h5_17.trans h5_9.symm), (h6_17.trans h6_9.symm), (h7_17.trans h7_9.symm), (h45_17.trans h45_9.symm), (by simp [h46_17, hset]), (g0_15.trans g0_8.symm), (g1_15.trans g1_8.symm), (by simp [g2_15, hset]), (hst_15.trans hst_8.symm), ?_⟩
       ·subst hn1; omega
       ·first | omega | assumption | (simp; done)
      ·skip
       have hFF0 := an13 h6_13 h8_13 h9_13 g0_10 g1_10 g2_10 hf hv (beq_iff_eq.2 hv) hn (beq_eq_false_iff_ne.2 hn) hz (beq_eq_false_iff_ne.2 hz)
       refine stp_reg TT_ok (by rfl) fun K hK => ?_
       simp [hFF0, encG, hpos2]
       try refine And.intro (by first | omega | rfl) ?_
       refine FunW.at (containsI_w (g.reach [a]) i (by omega)) ?hf ?_
       case hf => exact FrzL.cons (.pure (pu_ints _)) (FrzL.cons (.pure (pu_int _ _)) (FrzL.nil _))
       simp [hFF0, encG, hpos2]
       try refine And.intro (by first | omega | rfl) ?_
       refine hK _ _ fun σ18 hσ H18 hH => ?_
       clear hK K hFF0
       obtain ⟨h2_18, h5_18, h6_18, h7_18, h8_18, h9_18, h45_18, h46_18, h59_18⟩ := fs9 hσ 2 5 6 7 8 9 45 46 59
       simp [h2_13, h5_13, h6_13, h7_13, h8_13, h9_13, h45_13, h46_13] at h2_18 h5_18 h6_18 h7_18 h8_18 h9_18 h45_18 h46_18 h59_18
       clear hσ
       replace hH : H10 = H18 := Eq.symm hH
       subst hH
       refine stp_false (by simp [aeval_tmp, h59_18, hf, hv, beq_iff_eq.2 hv, hn, beq_eq_false_iff_ne.2 hn, hz, beq_eq_false_iff_ne.2 hz, encG, List.length_pos_iff.2 hz]) ?_
       refine awp_skip ?_
       refine q_seq ?_
       refine awp_seq ?_
       refine stp_reg TT_ok (by rfl) fun K hK => ?_
       simp [h7_18, h8_18, h9_18, g0_10, g1_10, g2_10, hf, hv, beq_iff_eq.2 hv, hn, beq_eq_false_iff_ne.2 hn, hz, beq_eq_false_iff_ne.2 hz, encG, hlt, hll]
       try refine And.intro (by first | omega | rfl) ?_
       refine hK _ _ fun σ19 hσ H19 hH => ?_
       clear hK K
       obtain ⟨h2_19, h5_19, h6_19, h7_19, h8_19, h9_19, h45_19, h46_19⟩ := fs8 hσ 2 5 6 7 8 9 45 46
       simp [h2_18, h5_18, h6_18, h7_18, h8_18, h9_18, h45_18, h46_18] at h2_19 h5_19 h6_19 h7_19 h8_19 h9_19 h45_19 h46_19
       clear hσ
       have g0_19 := gt_of hH 0
       have g1_19 := gt_of hH 1
       have g2_19 := gt_of hH 2
       simp [g0_10, g1_10, g2_10, hst_10, hf, hv, beq_iff_eq.2 hv, hn, beq_eq_false_iff_ne.2 hn, hz, beq_eq_false_iff_ne.2 hz] at g0_19 g1_19 g2_19
       have hst_19 := congrArg AHeap.st hH
       simp [hst_10] at hst_19
       clear hH
       refine stp_reg TT_ok (by rfl) fun K hK => ?_
       simp [h9_19, g0_19, g1_19, g2_19, hf, hv, beq_iff_eq.2 hv, hn, beq_eq_false_iff_ne.2 hn, hz, beq_eq_false_iff_ne.2 hz, encG]
       try refine And.intro (by first | omega | rfl) ?_
       refine hK _ _ fun σ20 hσ H20 hH => ?_
       clear hK K
       obtain ⟨h2_20, h5_20, h6_20, h7_20, h8_20, h9_20, h45_20, h46_20, h67_20⟩ := fs9 hσ 2 5 6 7 8 9 45 46 67
       simp [h2_19, h5_19, h6_19, h7_19, h8_19, h9_19, h45_19, h46_19] at h2_20 h5_20 h6_20 h7_20 h8_20 h9_20 h45_20 h46_20 h67_20
       clear hσ
       replace hH : H19 = H20 := Eq.symm hH
       subst hH
       refine stp_false (by simp [aeval_tmp, h67_20, hf, hv, beq_iff_eq.2 hv, hn, beq_eq_false_iff_ne.2 hn, hz, beq_eq_false_iff_ne.2 hz, encG]) ?_
       refine awp_skip ?_
       refine q_seq ?_
       refine awp_seq ?_
       obtain ⟨⟨r, hr⟩, hlast, hedge⟩ := hway hz
       have hp1 : 0 < pp.length := List.length_pos_iff.2 hz
       have h0 : pp[0] = a := by simp [hr]
       have hlt1 : (pp.length : Int) - 1 < pp.length := by omega
       have hcast : ((pp.length : Int) - 1).toNat = pp.length - 1 := by omega
       refine stp_reg TT_ok (by rfl) fun K hK => ?_
       simp [h5_20, h8_20, h9_20, g0_19, g1_19, g2_19, hf, hv, beq_iff_eq.2 hv, hn, beq_eq_false_iff_ne.2 hn, hz, beq_eq_false_iff_ne.2 hz, encG, h0, hlast, hp1, hlt1, hcast, wrap_ok (n := (pp.length : Int) - 1) (by omega) (by omega), show (1 : Int) ≤ pp.length by omega]
       try refine And.intro (by first | omega | rfl) ?_
       refine hK _ _ fun σ21 hσ H21 hH => ?_
       clear hK K
       obtain ⟨h2_21, h5_21, h6_21, h7_21, h9_21, h45_21, h46_21, h82_21⟩ := fs8 hσ 2 5 6 7 9 45 46 82
       simp [h2_20, h5_20, h6_20, h7_20, h9_20, h45_20, h46_20] at h2_21 h5_21 h6_21 h7_21 h9_21 h45_21 h46_21 h82_21
       clear hσ
       replace hH : H19 = H21 := Eq.symm hH
       subst hH
       refine stp_false (by simp [aeval_tmp, h82_21, hf, hv, beq_iff_eq.2 hv, hn, beq_eq_false_iff_ne.2 hn, hz, beq_eq_false_iff_ne.2 hz, encG]) ?_
       refine awp_skip ?_
       refine q_seq ?_
       refine stp_reg TT_ok (by rfl) fun K hK => ?_
       simp [g0_19, g1_19, g2_19, hf, hv, beq_iff_eq.2 hv, hn, beq_eq_false_iff_ne.2 hn, hz, beq_eq_false_iff_ne.2 hz, encG]
       try refine And.intro (by first | omega | rfl) ?_
       refine hK _ _ fun σ22 hσ H22 hH => ?_
       clear hK K
       obtain ⟨h2_22, h5_22, h6_22, h7_22, h9_22, h10_22, h45_22, h46_22⟩ := fs8 hσ 2 5 6 7 9 10 45 46
       simp [h2_21, h5_21, h6_21, h7_21, h9_21, h45_21, h46_21] at h2_22 h5_22 h6_22 h7_22 h9_22 h10_22 h45_22 h46_22
       clear hσ
       replace hH : H19 = H22 := Eq.symm hH
       subst hH
       refine awp_block ?_
       refine awp_loopV (fun n σ' H' => ∃ (j : Nat), n = pp.length - j ∧ σ' 2 = σ22 2 ∧ σ' 5 = σ22 5 ∧ σ' 6 = σ22 6 ∧ σ' 7 = σ22 7 ∧ σ' 9 = σ22 9 ∧ σ' 10 = (AV.int IntKind.i64) j ∧ σ' 45 = σ22 45 ∧ σ' 46 = σ22 46 ∧ H'.get 0 = H19.get 0 ∧ H'.get 1 = H19.get 1 ∧ H'.get 2 = H19.get 2 ∧ H'.st = H19.st ∧ (1 ≤ j ∧ j ≤ pp.length)) ?_ ?_
       ·refine ⟨_, 1, rfl, rfl, rfl, rfl, rfl, rfl, (by simp [h10_22]), rfl, rfl, rfl, rfl, rfl, rfl, ?_⟩
        ·first | omega | (simp; done) | assumption
       ·rintro n2 σ23 H23 ⟨j, hn2, q2_23, q5_23, q6_23, q7_23, q9_23, h10_23, q45_23, q46_23, qg0_23, qg1_23, qg2_23, qst_23, q1⟩
        have h2_23 := q2_23.trans h2_22
        have h5_23 := q5_23.trans h5_22
        have h6_23 := q6_23.trans h6_22
        have h7_23 := q7_23.trans h7_22
        have h9_23 := q9_23.trans h9_22
        have h45_23 := q45_23.trans h45_22
        have h46_23 := q46_23.trans h46_22
        have g0_23 := qg0_23.trans g0_19
        have g1_23 := qg1_23.trans g1_19
        have g2_23 := qg2_23.trans g2_19
        have hst_23 := qst_23.trans hst_19
        refine awp_seq ?_
        refine stp_reg TT_ok (by rfl) fun K hK => ?_
        simp [h9_23, h10_23, g0_23, g1_23, g2_23, hf, hv, beq_iff_eq.2 hv, hn, beq_eq_false_iff_ne.2 hn, hz, beq_eq_false_iff_ne.2 hz, encG]
        try refine And.intro (by first | omega | rfl) ?_
        refine hK _ _ fun σ24 hσ H24 hH => ?_
        clear hK K
        obtain ⟨h2_24, h5_24, h6_24, h7_24, h9_24, h10_24, h45_24, h46_24, h86_24⟩ := fs9 hσ 2 5 6 7 9 10 45 46 86
        simp [h2_23, h5_23, h6_23, h7_23, h9_23, h10_23, h45_23, h46_23] at h2_24 h5_24 h6_24 h7_24 h9_24 h10_24 h45_24 h46_24 h86_24
        clear hσ
        replace hH : H23 = H24 := Eq.symm hH
        subst hH
        refine awp_cond _ (by simp only [aeval_tmp]; exact h86_24) (fun hc86 => ?_) (fun hc86 => ?_)
        ·try simp at hc86
         have hjt : j < pp.length := by simpa using hc86
         have hj1 : j - 1 < pp.length := by omega
         have hcj : ((j : Int) - 1).toNat = j - 1 := by omega
         have hg1 : pp[j - 1]? = some pp[j - 1] := by rw [List.getElem?_eq_getElem]
         have hg2 : pp[j]? = some pp[j] := by rw [List.getElem?_eq_getElem]
         have hmem := hedge (j - 1) _ _ hg1 (by rw [show j - 1 + 1 = j by omega]; exact hg2)
         refine awp_skip ?_
         refine q_seq ?_
         refine awp_seq ?_
         refine awp_block ?_
         have hFF0 := an13 h2_24 h9_24 h10_24 g0_23 g1_23 g2_23 hf hv (beq_iff_eq.2 hv) hn (beq_eq_false_iff_ne.2 hn) hz (beq_eq_false_iff_ne.2 hz)
         refine stp_lex false TT_ok mixed (by rfl) (by rfl) (by kernel_rfl) (by rfl) fun U hU K hK => ?_
         simp [hFF0, encG, hjt, hj1, hcj, hg1, hg2, hmem, wrap_ok (n := (j : Int) - 1) (by omega) (by omega), show (1 : Int) ≤ j by omega, show (j : Int) - 1 < pp.length by omega]
         try refine And.intro (by first | omega | rfl) ?_
         refine lex_callW (containsE_w g.edges (pp[j - 1], pp[j]) (by omega)) [] ?hf ?_
         case hf => exact fun H' _ => FrzL.cons (.pure (pu_edges _)) (FrzL.cons (.pure (pu_edge (pp[j - 1], pp[j]))) (FrzL.nil _))
         simp [hFF0, encG, hjt, hj1, hcj, hg1, hg2, hmem, wrap_ok (n := (j : Int) - 1) (by omega) (by omega), show (1 : Int) ≤ j by omega, show (j : Int) - 1 < pp.length by omega]
         try refine And.intro (by first | omega | rfl) ?_
         refine hK _ _ _ (by subst hU; kernel_rfl) fun σ25 hσ H25 hH => ?_
         clear hK K hU U hFF0
         obtain ⟨h2_25, h5_25, h6_25, h7_25, h9_25, h10_25, h45_25, h46_25, h102_25⟩ := fs9 hσ 2 5 6 7 9 10 45 46 102
         simp [h2_24, h5_24, h6_24, h7_24, h9_24, h10_24, h45_24, h46_24] at h2_25 h5_25 h6_25 h7_25 h9_25 h10_25 h45_25 h46_25 h102_25
         clear hσ
         replace hH : H23 = H25 := Eq.symm hH
         subst hH
         refine stp_false (by simp [aeval_tmp, h102_25, hf, hv, beq_iff_eq.2 hv, hn, beq_eq_false_iff_ne.2 hn, hz, beq_eq_false_iff_ne.2 hz, encG]) ?_
         refine awp_skip ?_
         refine q_block ?_
         refine q_seq ?_
         refine stp_regl TT_ok (by rfl) fun K hK => ?_
         simp [h10_25, g0_23, g1_23, g2_23, hf, hv, beq_iff_eq.2 hv, hn, beq_eq_false_iff_ne.2 hn, hz, beq_eq_false_iff_ne.2 hz, encG, wrap_ok (n := (j : Int) + 1) (by omega) (by omega)]
         try refine And.intro (by first | omega | rfl) ?_
         refine hK _ _ fun σ26 hσ H26 hH => ?_
         clear hK K
         obtain ⟨h2_26, h5_26, h6_26, h7_26, h9_26, h10_26, h45_26, h46_26⟩ := fs8 hσ 2 5 6 7 9 10 45 46
         simp [h2_25, h5_25, h6_25, h7_25, h9_25, h45_25, h46_25] at h2_26 h5_26 h6_26 h7_26 h9_26 h10_26 h45_26 h46_26
         clear hσ
         replace hH : H23 = H26 := Eq.symm hH
         subst hH
         refine ⟨_, ?_, j + 1, rfl, (h2_26.trans h2_22.symm), (h5_26.trans h5_22.symm), (h6_26.trans h6_22.symm), (h7_26.trans h7_22.symm), (h9_26.trans h9_22.symm), (by simp [h10_26]), (h45_26.trans h45_22.symm), (h46_26.trans h46_22.symm), (g0_23.trans g0_19.symm), (g1_23.trans g1_19.symm), (g2_23.trans g2_19.symm), (hst_23.trans hst_19.symm), ?_⟩
         ·subst hn2; omega
         ·first | omega | assumption | (simp; done)
        ·try simp at hc86
         refine awp_exit ?_
         refine q_seq_exit ?_
         refine q_loop_exit ?_
         refine q_block_hit ?_
         refine q_block ?_
         refine q_seq ?_
         refine stp_regl TT_ok (by rfl) fun K hK => ?_
         simp [h46_24, g0_23, g1_23, g2_23, hf, hv, beq_iff_eq.2 hv, hn, beq_eq_false_iff_ne.2 hn, hz, beq_eq_false_iff_ne.2 hz, encG, wrap_ok (n := (i : Int) + 1) (by omega) (by omega)]
         try refine And.intro (by first | omega | rfl) ?_
         refine hK _ _ fun σ27 hσ H27 hH => ?_
         clear hK K
         obtain ⟨h2_27, h5_27, h6_27, h7_27, h45_27, h46_27⟩ := fs6 hσ 2 5 6 7 45 46
         simp [h2_24, h5_24, h6_24, h7_24, h45_24] at h2_27 h5_27 h6_27 h7_27 h45_27 h46_27
         clear hσ
         replace hH : H23 = H27 := Eq.symm hH
         subst hH
         refine ⟨_, ?_, i + 1, rfl, (h2_27.trans h2_9.symm), (h5_27.trans h5_9.symm), (h6_27.trans h6_9.symm), (h7_27.trans h7_9.symm), (h45_27.trans h45_9.symm), (by simp [h46_27, hset]), (g0_23.trans g0_8.symm), (g1_23.trans g1_8.symm), (by simp [g2_23, hset]), (hst_23.trans hst_8.symm), ?_⟩
         ·subst hn1; omega
         ·first | omega | assumption | (simp; done)
     ·try simp at hc47
      have hie : i = g.nodes.length := by have := hc47; omega
      subst hie
      refine awp_exit ?_
      refine q_seq_exit ?_
      refine q_loop_exit ?_
      refine q_block_hit ?_
      refine q_seq ?_
      refine awp_seq ?_
      refine stp_reg TT_ok (by rfl) fun K hK => ?_
      simp [h2_11, g0_10, g1_10, g2_10, hf, hv, beq_iff_eq.2 hv, hn, beq_eq_false_iff_ne.2 hn, encG]
      try refine And.intro (by first | omega | rfl) ?_
      refine hK _ _ fun σ28 hσ H28 hH => ?_
      clear hK K
      obtain ⟨h5_28, h7_28, h105_28, h106_28, h107_28⟩ := fs5 hσ 5 7 105 106 107
      simp [h5_11, h7_11] at h5_28 h7_28 h105_28 h106_28 h107_28
      clear hσ
      replace hH : H10 = H28 := Eq.symm hH
      subst hH
      refine awp_block ?_
      refine awp_loopV (fun n σ' H' => ∃ (k : Nat), n = g.edges.length - k ∧ σ' 5 = σ28 5 ∧ σ' 7 = σ28 7 ∧ σ' 105 = σ28 105 ∧ σ' 106 = σ28 106 ∧ σ' 107 = (AV.int IntKind.i64) k ∧ H'.get 0 = H10.get 0 ∧ H'.get 1 = H10.get 1 ∧ H'.get 2 = H10.get 2 ∧ H'.st = H10.st ∧ (k ≤ g.edges.length)) ?_ ?_
      ·refine ⟨_, 0, rfl, rfl, rfl, rfl, rfl, (by simp [h107_28]), rfl, rfl, rfl, rfl, ?_⟩
       ·first | omega | (simp; done) | assumption
      ·rintro n3 σ29 H29 ⟨k, hn3, q5_29, q7_29, q105_29, q106_29, h107_29, qg0_29, qg1_29, qg2_29, qst_29, q1⟩
       have h5_29 := q5_29.trans h5_28
       have h7_29 := q7_29.trans h7_28
       have h105_29 := q105_29.trans h105_28
       have h106_29 := q106_29.trans h106_28
       have g0_29 := qg0_29.trans g0_10
       have g1_29 := qg1_29.trans g1_10
       have g2_29 := qg2_29.trans g2_10
       have hst_29 := qst_29.trans hst_10
       refine stp_reg TT_ok (by rfl) fun K hK => ?_
       simp [h106_29, h107_29, g0_29, g1_29, g2_29, hf, hv, beq_iff_eq.2 hv, hn, beq_eq_false_iff_ne.2 hn, encG]
       try refine And.intro (by first | omega | rfl) ?_
       refine hK _ _ fun σ30 hσ H30 hH => ?_
       clear hK K
       obtain ⟨h5_30, h7_30, h105_30, h106_30, h107_30, h108_30⟩ := fs6 hσ 5 7 105 106 107 108
       simp [h5_29, h7_29, h105_29, h106_29, h107_29] at h5_30 h7_30 h105_30 h106_30 h107_30 h108_30
       clear hσ
       replace hH : H29 = H30 := Eq.symm hH
       subst hH
       refine awp_seq ?_
       refine awp_cond _ (by simp only [aeval_tmp]; exact h108_30) (fun hc108 => ?_) (fun hc108 => ?_)
       ·try simp at hc108
        have hkt : k < g.edges.length := by simpa using hc108
        have hge : (g.edges.map encE)[k]? = some (encE g.edges[k]) := by simp [hkt]
        have hmem : (g.edges[k].1, g.edges[k].2) ∈ g.edges := List.getElem_mem hkt
        obtain ⟨⟨e1, e2⟩, e3, e4⟩ := valid_edge hv hmem
        have hst := path_step hv har hmem
        simp only at e1 e2 e3 e4
        have hx1 := lenL_get (g := g) (a := a) (x := g.edges[k].1) ⟨e1, e2⟩
        have hx2 := lenL_get (g := g) (a := a) (x := g.edges[k].2) ⟨e3, e4⟩
        have hll := lenL_len g a g.nodes.length
        have hpf := path_len (g := g) (a := a) (b := g.edges[k].1)
        refine awp_skip ?_
        refine q_seq ?_
        refine awp_seq ?_
        refine awp_block ?_
        refine awp_ok fun hok => ?_
        obtain ⟨m31, hn_m31⟩ : ∃ m, H29.n = m := ⟨_, rfl⟩
        have hf_m31_0 := hok.free 0
        simp [hn_m31, hst_29] at hf_m31_0
        have nx1 := ne_get hf_m31_0 g0_29
        have nx2 := ne_get hf_m31_0 g1_29
        have nx3 := ne_get hf_m31_0 g2_29
        refine stp_reg TT_ok (by rfl) fun K hK => ?_
        simp [h105_30, h107_30, g0_29, g1_29, g2_29, hn_m31, hst_29, hf, hv, beq_iff_eq.2 hv, hn, beq_eq_false_iff_ne.2 hn, nx1, nx2, nx3, encG, hge, hkt, encE]
        try refine And.intro (by first | omega | rfl) ?_
        refine hK _ _ fun σ32 hσ H32 hH => ?_
        clear hK K
        obtain ⟨h5_32, h7_32, h12_32, h105_32, h106_32, h107_32⟩ := fs6 hσ 5 7 12 105 106 107
        simp [h5_30, h7_30, h105_30, h106_30, h107_30] at h5_32 h7_32 h12_32 h105_32 h106_32 h107_32
        clear hσ
        have g0_32 := gt_of hH 0
        have g1_32 := gt_of hH 1
        have g2_32 := gt_of hH 2
        have gm31_32 := gt_of hH m31
        simp [g0_29, g1_29, g2_29, hn_m31, hst_29, hf, hv, beq_iff_eq.2 hv, hn, beq_eq_false_iff_ne.2 hn, nx1, nx2, nx3] at g0_32 g1_32 g2_32 gm31_32
        have hst_32 := congrArg AHeap.st hH
        simp [hst_29] at hst_32
        clear hH
        by_cases hz : g.path a g.edges[k].1 = []
        ·skip
         refine stp_lex false TT_ok mixed (by rfl) (by rfl) (by kernel_rfl) (by rfl) fun U hU K hK => ?_
         simp [h7_32, h12_32, g0_32, g1_32, g2_32, gm31_32, hf, hv, beq_iff_eq.2 hv, hn, beq_eq_false_iff_ne.2 hn, nx1, nx2, nx3, hz, beq_iff_eq.2 hz, encG, hz, lenL_gete ⟨e1, e2⟩, lenL_gete ⟨e3, e4⟩, e1, e2, e3, e4, hll]
         try refine And.intro (by first | omega | rfl) ?_
         refine hK _ _ _ (by subst hU; kernel_rfl) fun σ33 hσ H33 hH => ?_
         clear hK K hU U
         obtain ⟨h5_33, h7_33, h105_33, h106_33, h107_33, h130_33⟩ := fs6 hσ 5 7 105 106 107 130
         simp [h5_32, h7_32, h105_32, h106_32, h107_32] at h5_33 h7_33 h105_33 h106_33 h107_33 h130_33
         clear hσ
         replace hH : H32 = H33 := Eq.symm hH
         subst hH
         refine stp_false (by simp [aeval_tmp, h130_33, hf, hv, beq_iff_eq.2 hv, hn, beq_eq_false_iff_ne.2 hn, nx1, nx2, nx3, hz, beq_iff_eq.2 hz, encG]) ?_
         refine awp_skip ?_
         refine q_block ?_
         refine q_seq ?_
         refine stp_regl TT_ok (by rfl) fun K hK => ?_
         simp [h107_33, g0_32, g1_32, g2_32, gm31_32, hf, hv, beq_iff_eq.2 hv, hn, beq_eq_false_iff_ne.2 hn, nx1, nx2, nx3, hz, beq_iff_eq.2 hz, encG, wrap_ok (n := (k : Int) + 1) (by omega) (by omega)]
         try refine And.intro (by first | omega | rfl) ?_
         refine hK _ _ fun σ34 hσ H34 hH => ?_
         clear hK K
         obtain ⟨h5_34, h7_34, h105_34, h106_34, h107_34⟩ := fs5 hσ 5 7 105 106 107
         simp [h5_33, h7_33, h105_33, h106_33] at h5_34 h7_34 h105_34 h106_34 h107_34
         clear hσ
         replace hH : H32 = H34 := Eq.symm hH
         subst hH
         refine ⟨_, ?_, k + 1, rfl, (h5_34.trans h5_28.symm), (h7_34.trans h7_28.symm), (h105_34.trans h105_28.symm), (h106_34.trans h106_28.symm), (by simp [h107_34]), (g0_32.trans g0_10.symm), (g1_32.trans g1_10.symm), (g2_32.trans g2_10.symm), (hst_32.trans hst_10.symm), ?_⟩
         ·subst hn3; omega
         ·first | omega | assumption | (simp; done)
        ·skip
         have hst2 := hst hz
         have hno : ¬ ((g.path a g.edges[k].1).length : Int) + 1 < ((g.path a g.edges[k].2).length : Int) := by omega
         refine stp_lex false TT_ok mixed (by rfl) (by rfl) (by kernel_rfl) (by rfl) fun U hU K hK => ?_
         simp [h7_32, h12_32, g0_32, g1_32, g2_32, gm31_32, hf, hv, beq_iff_eq.2 hv, hn, beq_eq_false_iff_ne.2 hn, nx1, nx2, nx3, hz, beq_eq_false_iff_ne.2 hz, encG, lenL_gete ⟨e1, e2⟩, lenL_gete ⟨e3, e4⟩, List.length_pos_iff.2 hz, e1, e2, e3, e4, hll, wrap_ok (n := ((g.path a g.edges[k].1).length : Int) + 1) (by omega) (by omega), hno]
         try refine And.intro (by first | omega | rfl) ?_
         refine hK _ _ _ (by subst hU; kernel_rfl) fun σ35 hσ H35 hH => ?_
         clear hK K hU U
         obtain ⟨h5_35, h7_35, h105_35, h106_35, h107_35, h130_35⟩ := fs6 hσ 5 7 105 106 107 130
         simp [h5_32, h7_32, h105_32, h106_32, h107_32] at h5_35 h7_35 h105_35 h106_35 h107_35 h130_35
         clear hσ
         replace hH : H32 = H35 := Eq.symm hH
         subst hH
         refine stp_false (by simp [aeval_tmp, h130_35, hf, hv, beq_iff_eq.2 hv, hn, beq_eq_false_iff_ne.2 hn, nx1, nx2, nx3, hz, beq_eq_false_iff_ne.2 hz, encG]) ?_
         refine awp_skip ?_
         refine q_block ?_
         refine q_seq ?_
         refine stp_regl TT_ok (by rfl) fun K hK => ?_
         simp [h107_35, g0_32, g1_32, g2_32, gm31_32, hf, hv, beq_iff_eq.2 hv, hn, beq_eq_false_iff_ne.2 hn, nx1, nx2, nx3, hz, beq_eq_false_iff_ne.2 hz, encG, wrap_ok (n := (k : Int) + 1) (by omega) (by omega)]
         try refine And.intro (by first | omega | rfl) ?_
         refine hK _ _ fun σ36 hσ H36 hH => ?_
         clear hK K
         obtain ⟨h5_36, h7_36, h105_36, h106_36, h107_36⟩ := fs5 hσ 5 7 105 106 107
         simp [h5_35, h7_35, h105_35, h106_35] at h5_36 h7_36 h105_36 h106_36 h107_36
         clear hσ
         replace hH : H32 = H36 := Eq.symm hH
         subst hH
         refine ⟨_, ?_, k + 1, rfl, (h5_36.trans h5_28.symm), (h7_36.trans h7_28.symm), (h105_36.trans h105_28.symm), (h106_36.trans h106_28.symm), (by simp [h107_36]), (g0_32.trans g0_10.symm), (g1_32.trans g1_10.symm), (g2_32.trans g2_10.symm), (hst_32.trans hst_10.symm), ?_⟩
         ·subst hn3; omega
         ·first | omega | assumption | (simp; done)
       ·try simp at hc108
        refine awp_exit ?_
        refine q_seq_exit ?_
        refine q_loop_exit ?_
        refine q_block_hit ?_
        refine q_seq ?_
        have hll := lenL_len g a g.nodes.length
        refine stp_reg TT_ok (by rfl) fun K hK => ?_
        simp [h5_30, h7_30, g0_29, g1_29, g2_29, hf, hv, beq_iff_eq.2 hv, hn, beq_eq_false_iff_ne.2 hn, encG, lenL_gete har, path_self2 hv har, hll, har.1, har.2]
        try refine And.intro (by first | omega | rfl) ?_
        refine hK _ _ fun σ37 hσ H37 hH => ?_
        clear hK K
        have h4_37 := congrFun hσ 4
        simp [] at h4_37
        clear hσ
        replace hH : H29 = H37 := Eq.symm hH
        subst hH
        refine awp_ret ?_
        refine q_fin1 h4_37 ?_
        first | rfl | (simp; done)
  ·skip
   have hFF0 := an5 h2_2 g0_1 hf hv (beq_eq_false_iff_ne.2 hv)
   refine stp_reg TT_ok (by rfl) fun K hK => ?_
   simp [hFF0, encG]
   try refine And.intro (by first | omega | rfl) ?_
   refine stp_call (few_ok g) ?_
   simp [hFF0, encG]
   try refine And.intro (by first | omega | rfl) ?_
   refine stp_call (refValid_ok g) ?_
   simp [hFF0, encG]
   try refine And.intro (by first | omega | rfl) ?_
   refine hK _ _ fun σ38 hσ H38 hH => ?_
   clear hK K hFF0
   obtain ⟨h1_38, h2_38, h28_38⟩ := fs3 hσ 1 2 28
   simp [h1_2, h2_2] at h1_38 h2_38 h28_38
   clear hσ
   replace hH : H1 = H38 := Eq.symm hH
   subst hH
   refine stp_true (by simp [aeval_tmp, h28_38, hf, hv, beq_eq_false_iff_ne.2 hv, encG]) ?_
   refine stp_reg TT_ok (by rfl) fun K hK => ?_
   simp [g0_1, hf, hv, beq_eq_false_iff_ne.2 hv, encG]
   try refine And.intro (by first | omega | rfl) ?_
   refine hK _ _ fun σ39 hσ H39 hH => ?_
   clear hK K
   have h4_39 := congrFun hσ 4
   simp [] at h4_39
   clear hσ
   replace hH : H1 = H39 := Eq.symm hH
   subst hH
   refine awp_ret ?_
   refine q_seq_ret ?_
   refine q_fin1 h4_39 ?_
   first | rfl | (simp; done)
 ·skip
  have hFF0 := an3 h2_2 g0_1 hf
  refine stp_reg TT_ok (by rfl) fun K hK => ?_
  simp [hFF0, encG]
  try refine And.intro (by first | omega | rfl) ?_
  refine stp_call (few_ok g) ?_
  simp [hFF0, encG]
  try refine And.intro (by first | omega | rfl) ?_
  refine hK _ _ fun σ40 hσ H40 hH => ?_
  clear hK K hFF0
  obtain ⟨h1_40, h2_40, h28_40⟩ := fs3 hσ 1 2 28
  simp [h1_2, h2_2] at h1_40 h2_40 h28_40
  clear hσ
  replace hH : H1 = H40 := Eq.symm hH
  subst hH
  refine stp_true (by simp [aeval_tmp, h28_40, hf, encG]) ?_
  refine stp_reg TT_ok (by rfl) fun K hK => ?_
  simp [g0_1, hf, encG]
  try refine And.intro (by first | omega | rfl) ?_
  refine hK _ _ fun σ41 hσ H41 hH => ?_
  clear hK K
  have h4_41 := congrFun hσ 4
  simp [] at h4_41
  clear hσ
  replace hH : H1 = H41 := Eq.symm hH
  subst hH
  refine awp_ret ?_
  refine q_seq_ret ?_
  refine q_fin1 h4_41 ?_
  first | rfl | (simp; done)
set_option maxRecDepth 100000 in
theorem graphShortest_lifted (os : Os) (started : os.Started) (H : Type) (enc : TypeId × Value → H) :
  ReturnsInHanded {} Try.checked os 6 .any (Rows.graphShortestSpec.pre6 enc Try.prog Try.f6 Rows.graphShortestRow.domain false) (Rows.graphShortestSpec.post enc Try.prog Try.f6 false true false false) := by
 refine returnsInHanded_of_change (C := Try.checked) own started (by kernel_rfl) Try.func6
  (ChangeSpec.witness6 (enc := enc) (C := Try.checked) false ⟨#[], #[.agg #[.slice none 0 0, .slice none 0 0], .int .u8 0], []⟩ 9 (by kernel_rfl) (by kernel_rfl) (by kernel_rfl) (by kernel_rfl)) ?_
 intro W base args ds gs before hval hW hcnd _
 refine law_calls2 TT_ok laid (fn := Try.f6) (s := Rows.graphShortestSpec) (tb := 4) 9 rfl rfl Try.underlying4 (by kernel_rfl) (fun ds h => ?_) (fun avs ha => ?_) hval hW
 ·match ds, h with
  | [d0, d1], _ => rfl
 ·have ha0 := ha
  obtain ⟨v0, r0, rfl, hv0, ha⟩ := Args.cons ha
  obtain ⟨v1, r1, rfl, hv1, ha⟩ := Args.cons ha
  obtain rfl := Args.nil ha
  obtain ⟨g, rfl⟩ := ty_graph hv0
  obtain ⟨u, rfl, hu⟩ := ty_u8 hv1
  exact shortest0 g u hu
theorem graphShortest_over : Rows.graphShortestRow.holds Try.pinned (OpenSpec.ofChange Rows.graphShortestSpec) :=
 OpenClaim.holds_of_wide 6 Try.f6 rfl rfl rfl rfl rfl rfl rfl ⟨rfl, rfl, rfl, rfl, rfl⟩ rfl rfl rfl rfl rfl (by kernel_rfl) Try.func6 (by kernel_rfl)
  (of_decide_eq_true (by kernel_rfl)) (by unfold Func.isWrapper; first | (rw [if_pos (by decide +kernel)]; kernel_rfl) | (rw [if_neg (by decide +kernel)]; exact ⟨rfl, rfl⟩))
  (fun os started H enc _ => graphShortest_lifted os started H enc)
theorem graphShortest_holds : Rows.GraphShortestSaid := graphShortest_over
end Go.Proofs.Yteifhcohmipdcaa
