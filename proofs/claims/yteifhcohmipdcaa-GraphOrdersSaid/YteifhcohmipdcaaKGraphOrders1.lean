/-
  The law GraphOrders answers true, whatever the input: part 1. Conditions: none.
-/
import Derived.Test.YteifhcohmipdcaaQGraphOrders5
namespace Go.Proofs.Yteifhcohmipdcaa
open Go.Abs
set_option linter.unusedSimpArgs false
set_option linter.unusedVariables false
theorem awake_ok : Fun1 Try.prog 10 [] (.bool true) := fun1_pure awake0 pu_nil (.bool _)
def Gr.lst (g : Gr) (i kk : Nat) : Nat := ((List.range' kk (g.nodes.length - kk)).find? fun k => g.both i k).getD i
theorem lst_step {g : Gr} {i kk : Nat} (h : kk < g.nodes.length) : g.lst i kk = if g.both i kk = true then kk else g.lst i (kk + 1) := by
 rw [Gr.lst, Gr.lst, show g.nodes.length - kk = g.nodes.length - (kk + 1) + 1 by omega, List.range'_succ, List.find?_cons];cases hb : g.both i kk <;> simp [hb]
theorem lst_end (g : Gr) (i : Nat) : g.lst i g.nodes.length = i := by rw [Gr.lst, Nat.sub_self]; rfl
theorem lst_zero (g : Gr) (i : Nat) : g.lst i 0 = g.grp i := by rw [Gr.lst, Gr.grp, Nat.sub_zero, List.range_eq_range']
def Gr.grpL (g : Gr) (i : Nat) : List Int := (List.range i).map fun v : Nat => (g.grp v : Int)
theorem grpL_succ (g : Gr) (i : Nat) : g.grpL (i + 1) = g.grpL i ++ [(g.grp i : Int)] := by simp [Gr.grpL, List.range_succ]
theorem grpL_len (g : Gr) (i : Nat) : (g.grpL i).length = i := by simp [Gr.grpL]
theorem grpL_get (g : Gr) {i v : Nat} (h : v < i) : gt (g.grpL i) v = g.grp v := by simp [gt, Gr.grpL, List.getElem?_range, h]
set_option maxHeartbeats 1000000 in
theorem groups0 (g : Gr) (hv : g.valid = true) : ACalls Try.prog 56 [encG g] AHeap.nil (fun r H => RowOut 3 1 ((g.grpL g.nodes.length).map (AV.int IntKind.i64)) r H) := by
 refine acalls_body TT_ok Try.func56 rfl rfl (by simp [Try.ntmps56]) ?_;rw [Try.ntmps56];obtain ⟨σ, hσ⟩ : ∃ σ, σ = st0 [encG g] := ⟨_, rfl⟩;rw [← hσ];have h0_0 := congrFun hσ 0;simp [st0] at h0_0;clear hσ;obtain ⟨H, hH⟩ : ∃ H, H = AHeap.nil := ⟨_, rfl⟩;rw [← hH];have hn_0 : H.n = 0 := by rw [hH]; rfl
 have hst_0 : H.st = 1 := by rw [hH]; rfl
 clear hH;obtain ⟨hn1, hn2⟩ := valid_nodes hv;have hrn := rev_nodes hv;refine stp_reg TT_ok (by rfl) fun K hK => ?_;simp [h0_0, hn_0, hst_0, encG];(try refine And.intro (by first|omega|rfl) ?_);refine hK _ _ fun σ1 hσ H1 hH => ?_;clear hK K;have h1_1 := congrFun hσ 1;simp [] at h1_1;clear hσ;have g0_1 := gt_of hH 0;simp [hn_0, hst_0] at g0_1;have hn_1 := congrArg AHeap.n hH;simp [hn_0, hst_0] at hn_1;have hst_1 := congrArg AHeap.st hH;simp [hn_0, hst_0] at hst_1;clear hH;refine stp_reg TT_ok (by rfl) fun K hK => ?_;simp [g0_1, hn_1, hst_1, encG];(try refine And.intro (by first|omega|rfl) ?_);refine hK _ _ fun σ2 hσ H2 hH => ?_;clear hK K;obtain ⟨h1_2, h3_2⟩ := fs2 hσ 1 3;simp [h1_1] at h1_2 h3_2;clear hσ;have g0_2 := gt_of hH 0;have g1_2 := gt_of hH 1;simp [g0_1, hn_1, hst_1] at g0_2 g1_2;have hn_2 := congrArg AHeap.n hH;simp [hn_1, hst_1] at hn_2;have hst_2 := congrArg AHeap.st hH;simp [hn_1, hst_1] at hst_2;clear hH;refine awp_seq ?_;refine stp_reg TT_ok (by rfl) fun K hK => ?_;simp [g0_2, g1_2, encG];(try refine And.intro (by first|omega|rfl) ?_);refine hK _ _ fun σ3 hσ H3 hH => ?_;clear hK K;obtain ⟨h1_3, h3_3, h4_3⟩ := fs3 hσ 1 3 4;simp [h1_2, h3_2] at h1_3 h3_3 h4_3;clear hσ;replace hH : H2 = H3 := Eq.symm hH;subst hH;refine awp_block ?_;have hg0 : g.grpL 0 = [] := rfl;have hg00 := g1_2;rw [show ([] : List AV) = (g.grpL 0).map (AV.int IntKind.i64) from rfl] at g1_2
 refine awp_loopV (fun n σ' H' => ∃ (i : Nat) (gn : Nat), n = g.nodes.length - i ∧ σ' 1 = σ3 1 ∧ σ' 3 = .sl 1 gn 0 i ∧ σ' 4 = (AV.int IntKind.i64) i ∧ H'.get 0 = H2.get 0 ∧ H'.get 1 = some (.row 3 1 gn ((g.grpL i).map (AV.int IntKind.i64))) ∧ H'.st = H2.st ∧ (i ≤ g.nodes.length)) ?_ ?_
 ·refine ⟨_, 0, 0, rfl, rfl, (by simp [h3_3]), (by simp [h4_3]), rfl, (by simp [g1_2]), rfl, ?_⟩
  ·first | omega | (simp; done) | assumption
 ·rintro n1 σ4 H4 ⟨i, gn, hn1, q1_4, h3_4, h4_4, qg0_4, g1_4, qst_4, p1⟩
  have h1_4 := q1_4.trans h1_3;have g0_4 := qg0_4.trans g0_2;have hst_4 := qst_4.trans hst_2;refine awp_seq ?_;refine stp_reg TT_ok (by rfl) fun K hK => ?_;simp [h1_4, h4_4, g0_4, g1_4, encG];(try refine And.intro (by first|omega|rfl) ?_);refine hK _ _ fun σ5 hσ H5 hH => ?_;clear hK K;obtain ⟨h1_5, h3_5, h4_5, h14_5⟩ := fs4 hσ 1 3 4 14;simp [h1_4, h3_4, h4_4] at h1_5 h3_5 h4_5 h14_5;clear hσ;replace hH : H4 = H5 := Eq.symm hH;subst hH;refine awp_cond _ (by simp only [aeval_tmp]; exact h14_5) (fun hc14 => ?_) (fun hc14 => ?_)
  ·(try simp at hc14);have hlt : i < g.nodes.length := by simpa using hc14
   have hir : ∀ x ∈ [(i : Int)], inR g.nodes.length x := fun x hx => by simp at hx; subst hx; exact ⟨by omega, by omega⟩
   obtain ⟨fw, hfw⟩ : ∃ fw, g.marks [(i : Int)] = fw := ⟨_, rfl⟩;obtain ⟨bk, hbk⟩ : ∃ bk, g.rev.marks [(i : Int)] = bk := ⟨_, rfl⟩;have hfl : fw.length = g.nodes.length := by rw [← hfw]; exact (marks_is hv hir).len
   have hbl : bk.length = g.nodes.length := by rw [← hbk, (marks_is (rev_valid hv) (by rw [hrn]; exact hir)).len, hrn]
   have hgl := grpL_len g i;refine awp_skip ?_;refine q_seq ?_;refine awp_seq ?_;refine awp_block ?_;refine awp_ok fun hok => ?_;obtain ⟨m6, hn_m6⟩ : ∃ m, H4.n = m := ⟨_, rfl⟩;have hf_m6_2 := hok.free 2;simp [hn_m6, hst_4] at hf_m6_2;have nx1 := ne_get hf_m6_2 g0_4;have nx2 := ne_get hf_m6_2 g1_4;have hf_m6_7 := hok.free 7;simp [hn_m6, hst_4] at hf_m6_7;have nx3 := ne_get hf_m6_7 g0_4;have nx4 := ne_get hf_m6_7 g1_4;have hFF0 := an10 h1_5 h4_5 g0_4 g1_4 hn_m6 hst_4 nx1 nx2 nx3 nx4;refine stp_lex true TT_ok mixed (by rfl) (by rfl) (by kernel_rfl) (by rfl) fun U hU K hK => ?_;simp [hFF0, encG, hfw, hbk];(try refine And.intro (by first|omega|rfl) ?_);refine lex_callW (marks_w g hv [(i : Int)] hir (by simp)) [m6 + 2] (fun H' hH' => FrzL.cons (.pure (pu_graph _)) (FrzL.cons (frz_ints (xs := [(i : Int)]) (by rw [hH' (m6 + 2) (by simp)]; simp [hFF0, encG, hfw, hbk]; rfl) rfl) (FrzL.nil _))) ?_;simp [hFF0, encG, hfw, hbk];(try refine And.intro (by first|omega|rfl) ?_);refine lex_call (refRev_ok g) ?_;simp [hFF0, encG, hfw, hbk];(try refine And.intro (by first|omega|rfl) ?_);refine lex_callW (marks_w g.rev (rev_valid hv) [(i : Int)] (by rw [hrn]; exact hir) (by simp)) [m6 + 7] (fun H' hH' => FrzL.cons (.pure (pu_graph _)) (FrzL.cons (frz_ints (xs := [(i : Int)]) (by rw [hH' (m6 + 7) (by simp)]; simp [hFF0, encG, hfw, hbk]; rfl) rfl) (FrzL.nil _))) ?_;simp [hFF0, encG, hfw, hbk];(try refine And.intro (by first|omega|rfl) ?_)
   refine hK _ _ _ (by rw [hU.trans (by kernel_rfl : _ = [(0, 1), (0, 2), (0, 4), (1, 4), (2, 4), (3, 4), (0, 6), (1, 6), (2, 6), (3, 6), (4, 6), (5, 6), (0, 7), (1, 7), (2, 7), (3, 7), (4, 7), (5, 7)])]; simp [logOk, ftFree, hFF0, encG, hfw, hbk]) fun σ7 hσ H7 hH => ?_;clear hK K hU U hFF0;obtain ⟨h1_7, h3_7, h4_7, h5_7, h6_7⟩ := fs5 hσ 1 3 4 5 6;simp [h1_5, h3_5, h4_5] at h1_7 h3_7 h4_7 h5_7 h6_7;clear hσ;have g0_7 := gt_of hH 0;have g1_7 := gt_of hH 1;have g_m6_2__7 := gt_of hH (m6 + 2);have g_m6_7__7 := gt_of hH (m6 + 7);simp [g0_4, g1_4, hn_m6, hst_4, nx1, nx2, nx3, nx4] at g0_7 g1_7 g_m6_2__7 g_m6_7__7;have hst_7 := congrArg AHeap.st hH;simp [hst_4] at hst_7;clear hH;refine stp_reg TT_ok (by rfl) fun K hK => ?_;simp [h4_7, g0_7, g1_7, g_m6_2__7, g_m6_7__7, nx1, nx2, nx3, nx4, encG];(try refine And.intro (by first|omega|rfl) ?_);refine hK _ _ fun σ8 hσ H8 hH => ?_;clear hK K;obtain ⟨h1_8, h3_8, h4_8, h5_8, h6_8, h7_8⟩ := fs6 hσ 1 3 4 5 6 7;simp [h1_7, h3_7, h4_7, h5_7, h6_7] at h1_8 h3_8 h4_8 h5_8 h6_8 h7_8;clear hσ;replace hH : H7 = H8 := Eq.symm hH;subst hH;refine awp_seq ?_;refine stp_reg TT_ok (by rfl) fun K hK => ?_;simp [h1_8, g0_7, g1_7, g_m6_2__7, g_m6_7__7, nx1, nx2, nx3, nx4, encG, wrap_ok (n := (g.nodes.length : Int) - 1) (by omega) (by omega)];(try refine And.intro (by first|omega|rfl) ?_);refine hK _ _ fun σ9 hσ H9 hH => ?_;clear hK K;obtain ⟨h1_9, h3_9, h4_9, h5_9, h6_9, h7_9, h8_9⟩ := fs7 hσ 1 3 4 5 6 7 8
   simp [h1_8, h3_8, h4_8, h5_8, h6_8, h7_8] at h1_9 h3_9 h4_9 h5_9 h6_9 h7_9 h8_9;clear hσ;replace hH : H7 = H9 := Eq.symm hH;subst hH;refine awp_block ?_;refine awp_loopV (fun n σ' H' => ∃ (kk : Nat), n = kk ∧ σ' 1 = σ9 1 ∧ σ' 3 = σ9 3 ∧ σ' 4 = σ9 4 ∧ σ' 5 = σ9 5 ∧ σ' 6 = σ9 6 ∧ σ' 7 = (AV.int IntKind.i64) (g.lst i kk : Int) ∧ σ' 8 = (AV.int IntKind.i64) ((kk : Int) - 1) ∧ H' = H7 ∧ (kk ≤ g.nodes.length)) ?_ ?_
   ·refine ⟨_, g.nodes.length, rfl, rfl, rfl, rfl, rfl, rfl, (by simp [h7_9, lst_end]), (by simp [h8_9, lst_end]), rfl, ?_⟩
    ·first | omega | (simp; done) | assumption
   ·rintro n2 σ10 H10 ⟨kk, hn2, q1_10, q3_10, q4_10, q5_10, q6_10, h7_10, h8_10, hHq, q1⟩
    have h1_10 := q1_10.trans h1_9;have h3_10 := q3_10.trans h3_9;have h4_10 := q4_10.trans h4_9;have h5_10 := q5_10.trans h5_9;have h6_10 := q6_10.trans h6_9;replace hHq := hHq.symm;subst hHq;refine awp_seq ?_;refine stp_reg TT_ok (by rfl) fun K hK => ?_;simp [h8_10, g0_7, g1_7, g_m6_2__7, g_m6_7__7, nx1, nx2, nx3, nx4, encG];(try refine And.intro (by first|omega|rfl) ?_);refine hK _ _ fun σ11 hσ H11 hH => ?_;clear hK K;obtain ⟨h1_11, h3_11, h4_11, h5_11, h6_11, h7_11, h8_11, h32_11⟩ := fs8 hσ 1 3 4 5 6 7 8 32;simp [h1_10, h3_10, h4_10, h5_10, h6_10, h7_10, h8_10] at h1_11 h3_11 h4_11 h5_11 h6_11 h7_11 h8_11 h32_11;clear hσ;replace hH : H7 = H11 := Eq.symm hH;subst hH;refine awp_cond _ (by simp only [aeval_tmp]; exact h32_11) (fun hc32 => ?_) (fun hc32 => ?_)
    ·(try simp at hc32);obtain ⟨k2, rfl⟩ : ∃ k2, kk = k2 + 1 := ⟨kk - 1, by have := hc32; omega⟩;have e8 : (((k2 + 1 : Nat) : Int) - 1) = k2 := by omega
     rw [e8] at h8_11;have f1 : k2 < fw.length := by omega
     have f2 : k2 < bk.length := by omega
     have hls := lst_step (g := g) (i := i) (kk := k2) (by omega);have hbo : g.both i k2 = (fw[k2] && bk[k2]) := by rw [Gr.both, hfw, hbk, List.getD_eq_getElem?_getD, List.getD_eq_getElem?_getD, List.getElem?_eq_getElem f1, List.getElem?_eq_getElem f2]; rfl
     refine awp_skip ?_;refine q_seq ?_;refine awp_seq ?_;refine awp_block ?_
     by_cases b1 : fw[k2] = true
     ·skip
      by_cases b2 : bk[k2] = true
      ·skip;refine stp_reg TT_ok (by rfl) fun K hK => ?_;simp [h5_11, h6_11, h8_11, g0_7, g1_7, g_m6_2__7, g_m6_7__7, nx1, nx2, nx3, nx4, b1, beq_iff_eq.2 b1, b2, beq_iff_eq.2 b2, encG, f1, f2];(try refine And.intro (by first|omega|rfl) ?_);refine hK _ _ fun σ12 hσ H12 hH => ?_;clear hK K;obtain ⟨h1_12, h3_12, h4_12, h5_12, h6_12, h7_12, h8_12, h44_12⟩ := fs8 hσ 1 3 4 5 6 7 8 44;simp [h1_11, h3_11, h4_11, h5_11, h6_11, h7_11, h8_11] at h1_12 h3_12 h4_12 h5_12 h6_12 h7_12 h8_12 h44_12;clear hσ;replace hH : H7 = H12 := Eq.symm hH;subst hH;refine stp_true (by simp [aeval_tmp, h44_12, nx1, nx2, nx3, nx4, b1, beq_iff_eq.2 b1, b2, beq_iff_eq.2 b2, encG]) ?_;refine stp_regl TT_ok (by rfl) fun K hK => ?_;simp [h8_12, g0_7, g1_7, g_m6_2__7, g_m6_7__7, nx1, nx2, nx3, nx4, b1, beq_iff_eq.2 b1, b2, beq_iff_eq.2 b2, encG];(try refine And.intro (by first|omega|rfl) ?_);refine hK _ _ fun σ13 hσ H13 hH => ?_;clear hK K;obtain ⟨h1_13, h3_13, h4_13, h5_13, h6_13, h7_13, h8_13⟩ := fs7 hσ 1 3 4 5 6 7 8;simp [h1_12, h3_12, h4_12, h5_12, h6_12, h8_12] at h1_13 h3_13 h4_13 h5_13 h6_13 h7_13 h8_13;clear hσ;replace hH : H7 = H13 := Eq.symm hH;subst hH;refine q_block ?_;refine q_seq ?_;refine stp_regl TT_ok (by rfl) fun K hK => ?_;simp [h8_13, g0_7, g1_7, g_m6_2__7, g_m6_7__7, nx1, nx2, nx3, nx4, b1, beq_iff_eq.2 b1, b2, beq_iff_eq.2 b2, encG, wrap_ok (n := (k2 : Int) - 1) (by omega) (by omega)];(try refine And.intro (by first|omega|rfl) ?_);refine hK _ _ fun σ14 hσ H14 hH => ?_;clear hK K
       obtain ⟨h1_14, h3_14, h4_14, h5_14, h6_14, h7_14, h8_14⟩ := fs7 hσ 1 3 4 5 6 7 8;simp [h1_13, h3_13, h4_13, h5_13, h6_13, h7_13] at h1_14 h3_14 h4_14 h5_14 h6_14 h7_14 h8_14;clear hσ;replace hH : H7 = H14 := Eq.symm hH;subst hH;refine ⟨_, ?_, k2, rfl, (h1_14.trans h1_9.symm), (h3_14.trans h3_9.symm), (h4_14.trans h4_9.symm), (h5_14.trans h5_9.symm), (h6_14.trans h6_9.symm), (by simp [h7_14, hls, hbo, b1, b2]), (by simp [h8_14, hls, hbo, b1, b2]), rfl, ?_⟩
       ·subst hn2; omega
       ·first | omega | assumption | (simp; done)
      ·skip;refine stp_reg TT_ok (by rfl) fun K hK => ?_;simp [h5_11, h6_11, h8_11, g0_7, g1_7, g_m6_2__7, g_m6_7__7, nx1, nx2, nx3, nx4, b1, beq_iff_eq.2 b1, b2, beq_eq_false_iff_ne.2 b2, encG, f1, f2];(try refine And.intro (by first|omega|rfl) ?_);refine hK _ _ fun σ15 hσ H15 hH => ?_;clear hK K;obtain ⟨h1_15, h3_15, h4_15, h5_15, h6_15, h7_15, h8_15, h44_15⟩ := fs8 hσ 1 3 4 5 6 7 8 44;simp [h1_11, h3_11, h4_11, h5_11, h6_11, h7_11, h8_11] at h1_15 h3_15 h4_15 h5_15 h6_15 h7_15 h8_15 h44_15;clear hσ;replace hH : H7 = H15 := Eq.symm hH;subst hH;refine stp_false (by simp [aeval_tmp, h44_15, nx1, nx2, nx3, nx4, b1, beq_iff_eq.2 b1, b2, beq_eq_false_iff_ne.2 b2, encG]) ?_;refine awp_skip ?_;refine q_block ?_;refine q_seq ?_;refine stp_regl TT_ok (by rfl) fun K hK => ?_;simp [h8_15, g0_7, g1_7, g_m6_2__7, g_m6_7__7, nx1, nx2, nx3, nx4, b1, beq_iff_eq.2 b1, b2, beq_eq_false_iff_ne.2 b2, encG, wrap_ok (n := (k2 : Int) - 1) (by omega) (by omega)];(try refine And.intro (by first|omega|rfl) ?_);refine hK _ _ fun σ16 hσ H16 hH => ?_;clear hK K;obtain ⟨h1_16, h3_16, h4_16, h5_16, h6_16, h7_16, h8_16⟩ := fs7 hσ 1 3 4 5 6 7 8;simp [h1_15, h3_15, h4_15, h5_15, h6_15, h7_15] at h1_16 h3_16 h4_16 h5_16 h6_16 h7_16 h8_16;clear hσ;replace hH : H7 = H16 := Eq.symm hH;subst hH
       refine ⟨_, ?_, k2, rfl, (h1_16.trans h1_9.symm), (h3_16.trans h3_9.symm), (h4_16.trans h4_9.symm), (h5_16.trans h5_9.symm), (h6_16.trans h6_9.symm), (by simp [h7_16, hls, hbo, b1, b2]), (by simp [h8_16, hls, hbo, b1, b2]), rfl, ?_⟩
       ·subst hn2; omega
       ·first | omega | assumption | (simp; done)
     ·skip;refine stp_reg TT_ok (by rfl) fun K hK => ?_;simp [h5_11, h6_11, h8_11, g0_7, g1_7, g_m6_2__7, g_m6_7__7, nx1, nx2, nx3, nx4, b1, beq_eq_false_iff_ne.2 b1, encG, f1, f2];(try refine And.intro (by first|omega|rfl) ?_);refine hK _ _ fun σ17 hσ H17 hH => ?_;clear hK K;obtain ⟨h1_17, h3_17, h4_17, h5_17, h6_17, h7_17, h8_17, h44_17⟩ := fs8 hσ 1 3 4 5 6 7 8 44;simp [h1_11, h3_11, h4_11, h5_11, h6_11, h7_11, h8_11] at h1_17 h3_17 h4_17 h5_17 h6_17 h7_17 h8_17 h44_17;clear hσ;replace hH : H7 = H17 := Eq.symm hH;subst hH;refine stp_false (by simp [aeval_tmp, h44_17, nx1, nx2, nx3, nx4, b1, beq_eq_false_iff_ne.2 b1, encG]) ?_;refine awp_skip ?_;refine q_block ?_;refine q_seq ?_;refine stp_regl TT_ok (by rfl) fun K hK => ?_;simp [h8_17, g0_7, g1_7, g_m6_2__7, g_m6_7__7, nx1, nx2, nx3, nx4, b1, beq_eq_false_iff_ne.2 b1, encG, wrap_ok (n := (k2 : Int) - 1) (by omega) (by omega)];(try refine And.intro (by first|omega|rfl) ?_);refine hK _ _ fun σ18 hσ H18 hH => ?_;clear hK K;obtain ⟨h1_18, h3_18, h4_18, h5_18, h6_18, h7_18, h8_18⟩ := fs7 hσ 1 3 4 5 6 7 8;simp [h1_17, h3_17, h4_17, h5_17, h6_17, h7_17] at h1_18 h3_18 h4_18 h5_18 h6_18 h7_18 h8_18;clear hσ;replace hH : H7 = H18 := Eq.symm hH;subst hH;refine ⟨_, ?_, k2, rfl, (h1_18.trans h1_9.symm), (h3_18.trans h3_9.symm), (h4_18.trans h4_9.symm), (h5_18.trans h5_9.symm), (h6_18.trans h6_9.symm), (by simp [h7_18, hls, hbo, b1]), (by simp [h8_18, hls, hbo, b1]), rfl, ?_⟩
      ·subst hn2; omega
      ·first | omega | assumption | (simp; done)
    ·(try simp at hc32);obtain rfl : kk = 0 := by have := hc32; omega
     rw [lst_zero] at h7_11;refine awp_exit ?_;refine q_seq_exit ?_;refine q_loop_exit ?_;refine q_block_hit ?_;refine q_seq ?_;refine awp_ok fun hok => ?_;obtain ⟨m19, hn_m19⟩ : ∃ m, H7.n = m := ⟨_, rfl⟩;have hf_m19_0 := hok.free 0;simp [hn_m19, hst_7] at hf_m19_0;have nx5 := ne_get hf_m19_0 g0_7;have nx6 := ne_get hf_m19_0 g1_7;have nx7 := ne_get hf_m19_0 g_m6_2__7;have nx8 := ne_get hf_m19_0 g_m6_7__7;refine stp_regl TT_ok (by rfl) fun K hK => ?_;simp [h3_11, h7_11, g0_7, g1_7, g_m6_2__7, g_m6_7__7, hn_m19, hst_7, nx1, nx2, nx3, nx4, nx5, nx6, nx7, nx8, encG, hgl, show (i + 1) * 8 ≤ 140737488355328 by omega, show i ≤ 9223372036854775806 by omega];(try refine And.intro (by first|omega|rfl) ?_);refine hK _ _ fun σ20 hσ H20 hH => ?_;clear hK K;obtain ⟨h1_20, h3_20, h4_20⟩ := fs3 hσ 1 3 4;simp [h1_11, h4_11] at h1_20 h3_20 h4_20;clear hσ;have g0_20 := gt_of hH 0;have g1_20 := gt_of hH 1;have g_m6_2__20 := gt_of hH (m6 + 2);have g_m6_7__20 := gt_of hH (m6 + 7);have gm19_20 := gt_of hH m19;simp [g0_7, g1_7, g_m6_2__7, g_m6_7__7, hn_m19, hst_7, nx1, nx2, nx3, nx4, nx5, nx6, nx7, nx8] at g0_20 g1_20 g_m6_2__20 g_m6_7__20 gm19_20;have hst_20 := congrArg AHeap.st hH;simp [hst_7] at hst_20;clear hH;refine q_block ?_;refine q_seq ?_;refine stp_regl TT_ok (by rfl) fun K hK => ?_;simp [h4_20, g0_20, g1_20, g_m6_2__20, g_m6_7__20, gm19_20, nx1, nx2, nx3, nx4, nx5, nx6, nx7, nx8, encG, wrap_ok (n := (i : Int) + 1) (by omega) (by omega)];(try refine And.intro (by first|omega|rfl) ?_)
     refine hK _ _ fun σ21 hσ H21 hH => ?_;clear hK K;obtain ⟨h1_21, h3_21, h4_21⟩ := fs3 hσ 1 3 4;simp [h1_20, h3_20] at h1_21 h3_21 h4_21;clear hσ;replace hH : H20 = H21 := Eq.symm hH;subst hH;refine ⟨_, ?_, i + 1, gn + 1, rfl, (h1_21.trans h1_3.symm), (by simp [h3_21, grpL_succ, hgl, List.take_of_length_le]), (by simp [h4_21, grpL_succ, hgl, List.take_of_length_le]), (g0_20.trans g0_2.symm), (by simp [g1_20, grpL_succ, hgl, List.take_of_length_le]), (hst_20.trans hst_2.symm), ?_⟩
     ·subst hn1; omega
     ·first | omega | assumption | (simp; done)
  ·(try simp at hc14);refine awp_exit ?_;refine q_seq_exit ?_;refine q_loop_exit ?_;refine q_block_hit ?_;refine q_seq ?_;refine stp_reg TT_ok (by rfl) fun K hK => ?_;simp [h3_5, g0_4, g1_4, encG];(try refine And.intro (by first|omega|rfl) ?_);refine hK _ _ fun σ22 hσ H22 hH => ?_;clear hK K;have h2_22 := congrFun hσ 2;simp [] at h2_22;clear hσ;replace hH : H4 = H22 := Eq.symm hH;subst hH;refine awp_ret ?_;have hie : i = g.nodes.length := by have := hc14; omega
   subst hie;refine q_fin1 h2_22 ?_;exact ⟨1, gn, by simp [grpL_len], g1_4⟩
theorem groups_ok (g : Gr) (hv : g.valid = true) : Fun1 Try.prog 56 [encG g] (.ro ((g.grpL g.nodes.length).map (AV.int IntKind.i64))) :=
 fun1_row (groups0 g hv) (pu_cons (pu_graph _) pu_nil) (fun _ => pu_of_ints) (fun _ => one_ints)
theorem filter_lt {α : Type} {p q : α → Bool} : ∀ {l : List α}, (∀ x ∈ l, p x = true → q x = true) → ∀ {y : α}, y ∈ l → q y = true → p y = false → (l.filter p).length < (l.filter q).length
 | [], _, y, hy, _, _ => by cases hy
 | a :: l, h, y, hy, hq, hp => by
  have hle : ∀ {l : List α}, (∀ x ∈ l, p x = true → q x = true) → (l.filter p).length ≤ (l.filter q).length := by
   intro l
   induction l with
   | nil => intro _; exact Nat.le_refl _
   | cons b l ih =>
    intro h
    have h1 := ih fun x hx => h x (List.mem_cons_of_mem _ hx)
    have h2 := h b (List.mem_cons_self ..)
    simp only [List.filter_cons]
    cases hb : p b with
    | false => cases hb2 : q b <;> simp <;> omega
    | true => rw [h2 hb]; simp; omega
  simp only [List.filter_cons]
  rcases List.mem_cons.1 hy with rfl | hy2
  ·rw [hq, hp]
   have := hle fun x hx => h x (List.mem_cons_of_mem _ hx)
   simp; omega
  ·have := filter_lt (fun x hx => h x (List.mem_cons_of_mem _ hx)) hy2 hq hp
   have h2 := h a (List.mem_cons_self ..)
   cases hb : p a with
   | false => cases hb2 : q a <;> simp <;> omega
   | true => rw [h2 hb]; simp; omega
def Progress (ss : List (List Int)) : Prop := ∀ l : List Int, (∃ k : Nat, k < ss.length ∧ (k : Int) ∉ l) → ∃ k : Nat, k < ss.length ∧ readyAt ss l k = true
theorem readyAt_not {ss : List (List Int)} {l : List Int} {k : Nat} (h : readyAt ss l k = true) : (k : Int) ∉ l := by
 simp only [readyAt, Bool.and_eq_true, Bool.not_eq_true', decide_eq_false_iff_not] at h; exact h.1
theorem pickN_spec {ss : List (List Int)} {l : List Int} (h : ∃ k : Nat, k < ss.length ∧ readyAt ss l k = true) : pickN ss l < ss.length ∧ readyAt ss l (pickN ss l) = true ∧ ∀ k, k < pickN ss l → readyAt ss l k = false := by
 obtain ⟨k, hk, hr⟩ := h
 cases hf : (List.range ss.length).find? (readyAt ss l) with
 | none => have := List.find?_eq_none.1 hf k (List.mem_range.2 hk); rw [hr] at this; simp at this
 | some i =>
  have he : pickN ss l = i := by rw [pickN, hf]; rfl
  have h2 := List.find?_range_eq_some.1 hf
  rw [he]
  exact ⟨List.mem_range.1 h2.2.1, h2.1, fun k hk => by have := h2.2.2 k hk; simpa using this⟩
theorem lacks {n : Nat} {l : List Int} (h : l.length < n) : ∃ k : Nat, k < n ∧ (k : Int) ∉ l := by
 rcases Classical.em (∃ k : Nat, k < n ∧ (k : Int) ∉ l) with h1 | h1
 ·exact h1
 ·exfalso
  have hall : ∀ k : Nat, k < n → (k : Int) ∈ l := fun k hk => Classical.byContradiction fun h2 => h1 ⟨k, hk, h2⟩
  have hsub : (List.range n).map (fun k : Nat => (k : Int)) ⊆ l := by
   intro x hx
   obtain ⟨k, hk, rfl⟩ := List.mem_map.1 hx
   exact hall k (List.mem_range.1 hk)
  have hnd : ((List.range n).map (fun k : Nat => (k : Int))).Nodup := by
   rw [List.nodup_iff_pairwise_ne, List.pairwise_map]
   exact (List.nodup_iff_pairwise_ne.1 List.nodup_range).imp fun h e => h (by omega)
  have := hnd.length_le_of_subset hsub
  simp at this; omega
structure ListedOk (ss : List (List Int)) (j : Nat) : Prop where
 nodup : (listedL ss j).Nodup
 inn : ∀ x ∈ listedL ss j, inR ss.length x
 ready : ∀ i, i < j → readyAt ss (listedL ss i) (pickN ss (listedL ss i)) = true
theorem listed_pick {ss : List (List Int)} (hp : Progress ss) {j : Nat} (h : j < ss.length) : pickN ss (listedL ss j) < ss.length ∧ readyAt ss (listedL ss j) (pickN ss (listedL ss j)) = true ∧ ∀ k, k < pickN ss (listedL ss j) → readyAt ss (listedL ss j) k = false :=
 pickN_spec (hp _ (lacks (by rw [listed_len]; exact h)))
theorem listed_ok2 {ss : List (List Int)} (hp : Progress ss) : ∀ {j : Nat}, j ≤ ss.length → ListedOk ss j
 | 0, _ => ⟨by simp [listedL], fun x hx => by simp [listedL] at hx, fun i hi => by omega⟩
 | j + 1, h => by
  have ih := listed_ok2 hp (j := j) (by omega)
  obtain ⟨h1, h2, h3⟩ := listed_pick hp (j := j) (by omega)
  have hn := readyAt_not h2
  refine ⟨?_, listed_in h, fun i hi => ?_⟩
  ·rw [listedL, List.nodup_append]
   exact ⟨ih.nodup, by simp, fun a ha b hb => by simp at hb; subst hb; intro e; subst e; exact hn ha⟩
  ·by_cases e : i = j
   ·subst e; exact h2
   ·exact ih.ready i (by omega)
theorem listed_all {ss : List (List Int)} (hp : Progress ss) : ∀ k : Nat, k < ss.length → (k : Int) ∈ listedL ss ss.length := by
 intro k hk
 have h := listed_ok2 hp (Nat.le_refl ss.length)
 rcases Classical.em ((k : Int) ∈ listedL ss ss.length) with h1 | h1
 ·exact h1
 ·exfalso
  have hnd : ((k : Int) :: listedL ss ss.length).Nodup := List.nodup_cons.2 ⟨h1, h.nodup⟩
  have hsub : ((k : Int) :: listedL ss ss.length) ⊆ (List.range ss.length).map (fun k : Nat => (k : Int)) := by
   intro x hx
   have hx2 : inR ss.length x := by
    rcases List.mem_cons.1 hx with rfl | hx
    ·exact ⟨by omega, by omega⟩
    ·exact h.inn x hx
   exact List.mem_map.2 ⟨x.toNat, List.mem_range.2 (in_toNat hx2), toNat_cast hx2⟩
  have := hnd.length_le_of_subset hsub
  rw [List.length_cons, listed_len, List.length_map, List.length_range] at this
  omega
def Gr.reachN (g : Gr) (r : Nat) : Nat := ((List.range g.nodes.length).filter fun v => (g.marks [(r : Int)]).getD v false).length
theorem rank_mono {g : Gr} {r s : Nat} (hr : g.grp r = r) (h : r < s) : g.rank r < g.rank s := by
 have := rank_lt (g := g) h hr
 exact this
theorem ready_iff {g : Gr} (hv : g.valid = true) {l : List Int} {r : Nat} (hr : r < g.nodes.length) (hg : g.grp r = r) :
  readyAt g.cedges l (g.rank r) = true ↔ (g.rank r : Int) ∉ l ∧ ∀ a b : Int, (a, b) ∈ g.edges → g.grp a.toNat = r → ¬ g.grp b.toNat = r → (g.rank (g.grp b.toNat) : Int) ∈ l := by
 have hce : g.cedges.getD (g.rank r) [] = g.ceR g.nodes.length r := by
  have := ceU_get (g := g) (i := g.nodes.length) hv hr
  rw [hg] at this
  rw [List.getD_eq_getElem?_getD, Gr.cedges, this]; rfl
 simp only [readyAt, Bool.and_eq_true, Bool.not_eq_true', decide_eq_false_iff_not, hce, List.all_eq_true, decide_eq_true_eq]
 refine and_congr_right fun _ => ⟨fun h a b he ha hb => ?_, fun h x hx => ?_⟩
 ·have hea := (valid_edge hv he).1
  exact h _ (ceR_mem.2 ⟨a.toNat, in_toNat hea, ha, b, (succ_mem hv).2 (by rw [toNat_cast hea]; exact he), by rw [ha]; exact hb, rfl⟩)
 ·obtain ⟨u, h1, h2, k, h3, h4, rfl⟩ := ceR_mem.1 hx
  exact h u k ((succ_mem hv).1 h3) (by simpa using h2) (by rw [h2] at h4; exact h4)
theorem comps_progress {g : Gr} (hv : g.valid = true) : Progress g.cedges := by
 intro l hl
 have key : ∀ (n r : Nat), g.reachN r ≤ n → r < g.nodes.length → g.grp r = r → (g.rank r : Int) ∉ l → ∃ k : Nat, k < g.cedges.length ∧ readyAt g.cedges l k = true := by
  intro n
  induction n with
  | zero =>
   intro r h hr _ _
   have hself := (marks_R hv hr hr).2 (.refl g _)
   have : r ∈ (List.range g.nodes.length).filter fun v => (g.marks [(r : Int)]).getD v false := List.mem_filter.2 ⟨List.mem_range.2 hr, hself⟩
   have := List.length_pos_of_mem this
   simp only [Gr.reachN] at h; omega
  | succ n ih =>
   intro r h hr hg hn
   rcases Classical.em (readyAt g.cedges l (g.rank r) = true) with h1 | h1
   ·exact ⟨g.rank r, by rw [cedges_len]; exact rank_lt hr hg, h1⟩
   ·have h2 : ∃ a b : Int, (a, b) ∈ g.edges ∧ g.grp a.toNat = r ∧ ¬ g.grp b.toNat = r ∧ (g.rank (g.grp b.toNat) : Int) ∉ l := by
     rcases Classical.em (∃ a b : Int, (a, b) ∈ g.edges ∧ g.grp a.toNat = r ∧ ¬ g.grp b.toNat = r ∧ (g.rank (g.grp b.toNat) : Int) ∉ l) with h3 | h3
     ·exact h3
     ·exfalso
      exact h1 ((ready_iff hv hr hg).2 ⟨hn, fun a b he ha hb => Classical.byContradiction fun h4 => h3 ⟨a, b, he, ha, hb, h4⟩⟩)
    obtain ⟨a, b, he, ha, hb, hnb⟩ := h2
    obtain ⟨har, hbr⟩ := valid_edge hv he
    have hga := grp_spec hv (in_toNat har)
    have hgb := grp_spec hv (in_toNat hbr)
    have hRab : g.R r (g.grp b.toNat) := by
     have h5 : g.R r a := by have := hga.2.2.2.1; rw [ha, toNat_cast har] at this; exact this
     have h6 : g.R b (g.grp b.toNat) := by have := hgb.2.2.1; rw [toNat_cast hbr] at this; exact this
     exact (h5.trans (.edge he)).trans h6
    have hnot : ¬ g.R (g.grp b.toNat) r := fun h7 => by
     have h8 := (grp_eq hv hr hgb.2.1).2 ⟨hRab, h7⟩
     rw [hg, grp_grp hv (in_toNat hbr)] at h8
     exact hb h8.symm
    refine ih (g.grp b.toNat) ?_ hgb.2.1 (grp_grp hv (in_toNat hbr)) hnb
    have : g.reachN (g.grp b.toNat) < g.reachN r := by
     refine filter_lt (fun v hv2 h9 => ?_) (List.mem_range.2 hr) ((marks_R hv hr hr).2 (.refl g _)) ?_
     ·have hvn := List.mem_range.1 hv2
      exact (marks_R hv hr hvn).2 (hRab.trans ((marks_R hv hgb.2.1 hvn).1 h9))
     ·rw [Bool.eq_false_iff]
      exact fun h9 => hnot ((marks_R hv hgb.2.1 hr).1 h9)
    omega
 obtain ⟨k, hk, hkn⟩ := hl
 rw [cedges_len] at hk
 have hkr : (g.reps g.nodes.length)[k]? = some (g.reps g.nodes.length)[k] := List.getElem?_eq_getElem hk
 obtain ⟨hr1, hr2⟩ := reps_mem.1 (List.getElem_mem hk)
 have hrk : g.rank (g.reps g.nodes.length)[k] = k := by
  have h2 := reps_rank hr1 hr2
  have hnd : (g.reps g.nodes.length).Nodup := (List.nodup_range).filter _
  exact (List.getElem?_inj (rank_lt hr1 hr2) hnd).1 (h2.trans hkr.symm)
 exact key _ _ (Nat.le_refl _) hr1 hr2 (by rw [hrk]; exact hkn)
def lsL (g : Gr) (l : List Int) : List Bool := (List.range g.nodes.length).map fun i : Nat => decide (g.grp i = i ∧ (g.rank i : Int) ∈ l)
theorem lsL_len (g : Gr) (l : List Int) : (lsL g l).length = g.nodes.length := by simp [lsL]
theorem lsL_get {g : Gr} {l : List Int} {i : Nat} (h : i < g.nodes.length) : (lsL g l)[i]? = some (decide (g.grp i = i ∧ (g.rank i : Int) ∈ l)) := by simp [lsL, h]
theorem lsL_zero (g : Gr) : lsL g [] = List.replicate g.nodes.length false := by
 refine List.ext_getElem? fun i => ?_
 rw [List.getElem?_replicate]
 by_cases hi : i < g.nodes.length
 ·rw [lsL_get hi, if_pos hi]; simp
 ·rw [List.getElem?_eq_none (by rw [lsL_len]; omega), if_neg hi]
theorem lsL_set {g : Gr} {l : List Int} {r : Nat} (hg : g.grp r = r) : (lsL g l).set r true = lsL g (l ++ [(g.rank r : Int)]) := by
 refine List.ext_getElem? fun i => ?_
 rw [List.getElem?_set]
 by_cases hi : i < g.nodes.length
 ·by_cases hk : r = i
  ·subst hk; rw [if_pos rfl, if_pos (by rw [lsL_len]; exact hi), lsL_get hi]
   simp only [List.mem_append, List.mem_singleton, or_true, and_true, hg, decide_true]
  ·rw [if_neg hk, lsL_get hi, lsL_get hi]
   have : ∀ (_ : g.grp i = i), ¬ (g.rank i : Int) = (g.rank r : Int) := fun h e => hk (rank_inj hg h (by omega))
   congr 1
   simp only [List.mem_append, List.mem_singleton, decide_eq_decide]
   exact and_congr_right fun h => by simp [this h]
 ·rw [List.getElem?_eq_none (l := lsL g (l ++ [(g.rank r : Int)])) (by rw [lsL_len]; omega)]
  split
  ·rw [if_neg (by rw [lsL_len]; omega)]
  ·rw [List.getElem?_eq_none (by rw [lsL_len]; omega)]
def edgeOk (g : Gr) (bs : List Bool) (i : Nat) (e : Int × Int) : Bool := !decide (g.grp e.1.toNat = i) || decide (g.grp e.2.toNat = i) || bs.getD (g.grp e.2.toNat) false
def rdyB (g : Gr) (bs : List Bool) (i : Nat) : Bool := (decide (g.grp i = i) && !bs.getD i false) && g.edges.all (edgeOk g bs i)
theorem rdyB_iff {g : Gr} (hv : g.valid = true) {l : List Int} {i : Nat} (h : i < g.nodes.length) : rdyB g (lsL g l) i = true ↔ g.grp i = i ∧ readyAt g.cedges l (g.rank i) = true := by
 simp only [rdyB, Bool.and_eq_true, decide_eq_true_eq, Bool.not_eq_true', List.all_eq_true]
 constructor
 ·rintro ⟨⟨h1, h2⟩, h3⟩
  refine ⟨h1, (ready_iff hv h h1).2 ⟨fun h4 => ?_, fun a b he ha hb => ?_⟩⟩
  ·rw [List.getD_eq_getElem?_getD, lsL_get h] at h2; simp [h1, h4] at h2
  ·have h5 := h3 (a, b) he
   have hbr := grp_spec hv (in_toNat (valid_edge hv he).2)
   simp only [edgeOk, ha, hb, List.getD_eq_getElem?_getD, lsL_get hbr.2.1] at h5
   have h6 : g.grp (g.grp b.toNat) = g.grp b.toNat ∧ (g.rank (g.grp b.toNat) : Int) ∈ l := by simpa using h5
   exact h6.2
 ·rintro ⟨h1, h2⟩
  obtain ⟨h3, h4⟩ := (ready_iff hv h h1).1 h2
  refine ⟨⟨h1, ?_⟩, fun e he => ?_⟩
  ·rw [List.getD_eq_getElem?_getD, lsL_get h]; simp [h3]
  ·have hbr := grp_spec hv (in_toNat (valid_edge hv he).2)
   simp only [edgeOk, List.getD_eq_getElem?_getD, lsL_get hbr.2.1]
   by_cases ha : g.grp e.1.toNat = i
   ·by_cases hb : g.grp e.2.toNat = i
    ·simp [hb]
    ·have := h4 e.1 e.2 he ha hb
     simp [this, grp_grp hv (in_toNat (valid_edge hv he).2)]
   ·simp [ha]
def nxR (g : Gr) (bs : List Bool) (kk : Nat) : Int := match (List.range' kk (g.nodes.length - kk)).find? (rdyB g bs) with | some i => (i : Int) | none => -1
theorem nxR_step {g : Gr} {bs : List Bool} {kk : Nat} (h : kk < g.nodes.length) : nxR g bs kk = if rdyB g bs kk = true then (kk : Int) else nxR g bs (kk + 1) := by
 rw [nxR, nxR, show g.nodes.length - kk = g.nodes.length - (kk + 1) + 1 by omega, List.range'_succ, List.find?_cons]
 cases hb : rdyB g bs kk <;> simp [hb]
theorem nxR_end (g : Gr) (bs : List Bool) : nxR g bs g.nodes.length = -1 := by rw [nxR, Nat.sub_self]; rfl
theorem nxR_none {g : Gr} (hv : g.valid = true) {l : List Int} (h : ∀ k : Nat, k < g.cedges.length → (k : Int) ∈ l) : nxR g (lsL g l) 0 = -1 := by
 have : (List.range' 0 (g.nodes.length - 0)).find? (rdyB g (lsL g l)) = none := by
  rw [Nat.sub_zero, ← List.range_eq_range', List.find?_eq_none]
  intro i hi hr
  obtain ⟨h1, h2⟩ := (rdyB_iff hv (List.mem_range.1 hi)).1 hr
  exact readyAt_not h2 (h _ (by rw [cedges_len]; exact rank_lt (List.mem_range.1 hi) h1))
 rw [nxR, this]
theorem nxR_some {g : Gr} (hv : g.valid = true) {l : List Int} (h1 : pickN g.cedges l < g.cedges.length) (h2 : readyAt g.cedges l (pickN g.cedges l) = true) (h3 : ∀ k, k < pickN g.cedges l → readyAt g.cedges l k = false) :
  ∃ r : Nat, r < g.nodes.length ∧ g.grp r = r ∧ g.rank r = pickN g.cedges l ∧ nxR g (lsL g l) 0 = r := by
 rw [cedges_len] at h1
 obtain ⟨hr1, hr2⟩ := reps_mem.1 (List.getElem_mem h1)
 have hkr : (g.reps g.nodes.length)[pickN g.cedges l]? = some (g.reps g.nodes.length)[pickN g.cedges l] := List.getElem?_eq_getElem h1
 generalize hrd : (g.reps g.nodes.length)[pickN g.cedges l] = r at hr1 hr2 hkr
 have hrk : g.rank r = pickN g.cedges l := by
  have h5 := reps_rank hr1 hr2
  have hnd : (g.reps g.nodes.length).Nodup := (List.nodup_range).filter _
  exact (List.getElem?_inj (rank_lt hr1 hr2) hnd).1 (h5.trans hkr.symm)
 refine ⟨r, hr1, hr2, hrk, ?_⟩
 have : (List.range' 0 (g.nodes.length - 0)).find? (rdyB g (lsL g l)) = some r := by
  rw [Nat.sub_zero, ← List.range_eq_range', List.find?_range_eq_some]
  refine ⟨(rdyB_iff hv hr1).2 ⟨hr2, by rw [hrk]; exact h2⟩, List.mem_range.2 hr1, fun i hi => ?_⟩
  cases hb : rdyB g (lsL g l) i with
  | false => rfl
  | true =>
   obtain ⟨h6, h7⟩ := (rdyB_iff hv (by omega)).1 hb
   have h8 := rank_mono h6 hi
   rw [hrk] at h8
   rw [h3 _ h8] at h7; cases h7
 rw [nxR, this]
theorem comps_at {g : Gr} {r : Nat} (h : r < g.nodes.length) (hg : g.grp r = r) : g.comps.getD (g.rank r) [] = g.mem g.nodes.length r := by
 rw [List.getD_eq_getElem?_getD, Gr.comps, Gr.ndL, List.getElem?_map, reps_rank h hg]; rfl
theorem grpL_at (g : Gr) {x : Int} (h : inR g.nodes.length x) : gt (g.grpL g.nodes.length) x = g.grp x.toNat := by
 have := grpL_get g (in_toNat h)
 rwa [toNat_cast h] at this
def cmpsL (g : Gr) (j : Nat) : List (List Int) := (listedL g.cedges j).map fun k => g.comps.getD k.toNat []
theorem cmpsL_succ {g : Gr} {j r : Nat} (h : r < g.nodes.length) (hg : g.grp r = r) (hp : g.rank r = pickN g.cedges (listedL g.cedges j)) : cmpsL g (j + 1) = cmpsL g j ++ [g.mem g.nodes.length r] := by
 rw [cmpsL, listedL, List.map_append, ← hp]
 simp only [List.map_cons, List.map_nil, Int.toNat_natCast, comps_at h hg]; rfl
theorem RowsV.pushR {lo id g : Nat} {v x : AV} {vs : List AV} {ls : List (List Int)} {l : List Int} {H H' : AHeap} (h : Rows lo vs ls H) (hx : OwnR 3 1 lo (l.map (AV.int IntKind.i64)) x H') (hk : ∀ i y g n : Nat, vs[i]? = some (AV.sl y g 0 n) → H'.get y = H.get y ∧ ∀ g' n' : Nat, x ≠ AV.sl y g' 0 n') : Rows lo (vs ++ [x]) (ls ++ [l]) H' := by
 have h1 : Rows lo (vs ++ [.nils]) (ls ++ [[]]) H' := (h.keepR fun i y g n hy => (hk i y g n hy).1).push
 have h2 := h1.set (k := vs.length) (v := x) (l := l) (H' := H') hx fun j id g n hj hvj => ⟨rfl, (hk j id g n (push_get hvj)).2⟩
 have e1 : (vs ++ [AV.nils]).set vs.length x = vs ++ [x] := by rw [List.set_append_right _ _ (Nat.le_refl _)]; simp
 have e2 : (ls ++ [[]]).set vs.length l = ls ++ [l] := by rw [h.len, List.set_append_right _ _ (Nat.le_refl _)]; simp
 rwa [e1, e2] at h2
theorem all_take_false {α : Type} {es : List α} {f : α → Bool} {k : Nat} (h : (es.take k).all f = false) : es.all f = false := by
 rw [Bool.eq_false_iff] at h ⊢;intro h2; apply h;rw [List.all_eq_true] at h2 ⊢;exact fun x hx => h2 x (List.mem_of_mem_take hx)
theorem all_take_succ2 {α : Type} {es : List α} {f : α → Bool} {k : Nat} (h : k < es.length) : (es.take (k + 1)).all f = ((es.take k).all f && f es[k]) := by
 rw [List.take_succ_eq_append_getElem h, List.all_append]; simp
set_option maxHeartbeats 1000000 in
theorem refComps0 (g : Gr) : ACalls Try.prog 29 [encG g] AHeap.nil (fun r H => Frz H r (encS g.gcomps)) := by
 refine acalls_body TT_ok Try.func29 rfl rfl (by simp [Try.ntmps29]) ?_;rw [Try.ntmps29];obtain ⟨σ, hσ⟩ : ∃ σ, σ = st0 [encG g] := ⟨_, rfl⟩;rw [← hσ];have h0_0 := congrFun hσ 0;simp [st0] at h0_0;clear hσ;obtain ⟨H, hH⟩ : ∃ H, H = AHeap.nil := ⟨_, rfl⟩;rw [← hH];have hn_0 : H.n = 0 := by rw [hH]; rfl
 have hst_0 : H.st = 1 := by rw [hH]; rfl
 clear hH;refine stp_reg TT_ok (by rfl) fun K hK => ?_;simp [h0_0, hn_0, hst_0, encG];(try refine And.intro (by first|omega|rfl) ?_);refine hK _ _ fun σ1 hσ H1 hH => ?_;clear hK K;have h1_1 := congrFun hσ 1;simp [] at h1_1;clear hσ;have g0_1 := gt_of hH 0;simp [hn_0, hst_0] at g0_1;have hn_1 := congrArg AHeap.n hH;simp [hn_0, hst_0] at hn_1;have hst_1 := congrArg AHeap.st hH;simp [hn_0, hst_0] at hst_1;clear hH;refine awp_seq ?_;refine stp_reg TT_ok (by rfl) fun K hK => ?_;simp [h1_1, g0_1, encG];(try refine And.intro (by first|omega|rfl) ?_);refine stp_call (refValid_ok g) ?_;simp [h1_1, g0_1, encG];(try refine And.intro (by first|omega|rfl) ?_);refine hK _ _ fun σ2 hσ H2 hH => ?_;clear hK K;obtain ⟨h1_2, h15_2⟩ := fs2 hσ 1 15;simp [h1_1] at h1_2 h15_2;clear hσ;replace hH : H1 = H2 := Eq.symm hH;subst hH;refine awp_cond _ (by simp only [aeval_tmp]; exact h15_2) (fun hc15 => ?_) (fun hc15 => ?_)
 ·(try simp at hc15);refine stp_reg TT_ok (by rfl) fun K hK => ?_;simp [g0_1, encG];(try refine And.intro (by first|omega|rfl) ?_);refine hK _ _ fun σ3 hσ H3 hH => ?_;clear hK K;have h2_3 := congrFun hσ 2;simp [] at h2_3;clear hσ;replace hH : H1 = H3 := Eq.symm hH;subst hH;refine awp_ret ?_;refine q_seq_ret ?_;refine q_fin1 h2_3 ?_;rw [show g.gcomps = [] by simp [Gr.gcomps, hc15]]; exact .nils
 ·(try simp at hc15);have hv : g.valid = true := by simpa using hc15
  obtain ⟨hb1, hb2⟩ := valid_nodes hv;have hcf := comps_few hv;have hcc : g.cedges.length = g.comps.length := by rw [cedges_len, comps_len]
  have hgl := grpL_len g g.nodes.length;have hpr := comps_progress hv;refine awp_skip ?_;refine q_seq ?_;refine stp_reg TT_ok (by rfl) fun K hK => ?_;simp [h1_2, g0_1, encG];(try refine And.intro (by first|omega|rfl) ?_);refine stp_call (groups_ok g hv) ?_;simp [h1_2, g0_1, encG];(try refine And.intro (by first|omega|rfl) ?_);refine hK _ _ fun σ4 hσ H4 hH => ?_;clear hK K;obtain ⟨h1_4, h3_4⟩ := fs2 hσ 1 3;simp [h1_2] at h1_4 h3_4;clear hσ;replace hH : H1 = H4 := Eq.symm hH;subst hH;refine stp_reg TT_ok (by rfl) fun K hK => ?_;simp [h1_4, g0_1, hn_1, hst_1, encG, show (g.nodes.length : Int) ≤ 281474976710656 by omega];(try refine And.intro (by first|omega|rfl) ?_);refine hK _ _ fun σ5 hσ H5 hH => ?_;clear hK K;obtain ⟨h1_5, h3_5, h4_5⟩ := fs3 hσ 1 3 4;simp [h1_4, h3_4] at h1_5 h3_5 h4_5;clear hσ;have g0_5 := gt_of hH 0;have g1_5 := gt_of hH 1;simp [g0_1, hn_1, hst_1] at g0_5 g1_5;have hn_5 := congrArg AHeap.n hH;simp [hn_1, hst_1] at hn_5;have hst_5 := congrArg AHeap.st hH;simp [hn_1, hst_1] at hst_5;clear hH;refine stp_reg TT_ok (by rfl) fun K hK => ?_;simp [g0_5, g1_5, hn_5, hst_5, encG];(try refine And.intro (by first|omega|rfl) ?_);refine hK _ _ fun σ6 hσ H6 hH => ?_;clear hK K;obtain ⟨h1_6, h3_6, h4_6, h5_6⟩ := fs4 hσ 1 3 4 5;simp [h1_5, h3_5, h4_5] at h1_6 h3_6 h4_6 h5_6;clear hσ;have g0_6 := gt_of hH 0;have g1_6 := gt_of hH 1;have g2_6 := gt_of hH 2;simp [g0_5, g1_5, hn_5, hst_5] at g0_6 g1_6 g2_6;have hn_6 := congrArg AHeap.n hH;simp [hn_5, hst_5] at hn_6
  have hst_6 := congrArg AHeap.st hH;simp [hn_5, hst_5] at hst_6;clear hH;refine awp_block ?_;refine awp_loopV (fun n σ' H' => ∃ (j : Nat) (gn : Nat) (vs : List AV) (bs : List Bool), n = g.cedges.length - j ∧ σ' 1 = σ6 1 ∧ σ' 3 = σ6 3 ∧ σ' 4 = σ6 4 ∧ σ' 5 = .sl 2 gn 0 j ∧ H'.get 0 = H6.get 0 ∧ H'.get 1 = some (.row 4 1 0 (bs.map .bool)) ∧ H'.get 2 = some (.row 26 1 gn vs) ∧ H'.st = H6.st ∧ (j ≤ g.cedges.length) ∧ (Rows 3 vs (cmpsL g j) H') ∧ (bs = lsL g (listedL g.cedges j))) ?_ ?_
  ·refine ⟨_, 0, 0, [], List.replicate g.nodes.length false, rfl, rfl, rfl, rfl, (by simp [h5_6]), rfl, (by simp [g1_6]), (by simp [g2_6]), rfl, ?_, ?_, ?_⟩
   ·first | omega | (simp; done) | assumption
   ·exact ⟨by rfl, fun i v l h => by simp at h, fun i j id g n g' n' h => by simp at h⟩
   ·exact (lsL_zero g).symm
  ·rintro n1 σ7 H7 ⟨j, gn, vs, bs, hn1, q1_7, q3_7, q4_7, h5_7, qg0_7, g1_7, g2_7, qst_7, p1, p2, p3⟩
   have h1_7 := q1_7.trans h1_6;have h3_7 := q3_7.trans h3_6;have h4_7 := q4_7.trans h4_6;have g0_7 := qg0_7.trans g0_6;have hst_7 := qst_7.trans hst_6;have hbl : bs.length = g.nodes.length := by rw [p3, lsL_len]
   have hvl : vs.length = j := by rw [p2.len, cmpsL, List.length_map, listed_len]
   obtain ⟨Hc, hHc⟩ : ∃ Hc, Hc = H7 := ⟨_, rfl⟩;refine awp_block ?_;refine stp_reg TT_ok (by rfl) fun K hK => ?_;simp [g0_7, g1_7, g2_7, encG];(try refine And.intro (by first|omega|rfl) ?_);refine hK _ _ fun σ8 hσ H8 hH => ?_;clear hK K;obtain ⟨h1_8, h3_8, h4_8, h5_8, h6_8⟩ := fs5 hσ 1 3 4 5 6;simp [h1_7, h3_7, h4_7, h5_7] at h1_8 h3_8 h4_8 h5_8 h6_8;clear hσ;replace hH : H7 = H8 := Eq.symm hH;subst hH;refine awp_seq ?_;refine stp_reg TT_ok (by rfl) fun K hK => ?_;simp [h1_8, g0_7, g1_7, g2_7, encG, wrap_ok (n := (g.nodes.length : Int) - 1) (by omega) (by omega)];(try refine And.intro (by first|omega|rfl) ?_);refine hK _ _ fun σ9 hσ H9 hH => ?_;clear hK K;obtain ⟨h1_9, h3_9, h4_9, h5_9, h6_9, h7_9⟩ := fs6 hσ 1 3 4 5 6 7;simp [h1_8, h3_8, h4_8, h5_8, h6_8] at h1_9 h3_9 h4_9 h5_9 h6_9 h7_9;clear hσ;replace hH : H7 = H9 := Eq.symm hH;subst hH;refine awp_block ?_;refine awp_loopV (fun n σ' H' => ∃ (kk : Nat), n = kk ∧ σ' 1 = σ9 1 ∧ σ' 3 = σ9 3 ∧ σ' 4 = σ9 4 ∧ σ' 5 = σ9 5 ∧ σ' 6 = (AV.int IntKind.i64) (nxR g bs kk) ∧ σ' 7 = (AV.int IntKind.i64) ((kk : Int) - 1) ∧ H'.get 0 = H7.get 0 ∧ H'.get 1 = H7.get 1 ∧ H'.get 2 = H7.get 2 ∧ H'.st = H7.st ∧ (kk ≤ g.nodes.length) ∧ (∀ j, Hc.get j ≠ none → H'.get j = Hc.get j)) ?_ ?_
   ·refine ⟨_, g.nodes.length, rfl, rfl, rfl, rfl, rfl, (by simp [h6_9, nxR_end]), (by simp [h7_9, nxR_end]), rfl, rfl, rfl, rfl, ?_, ?_⟩
    ·first | omega | (simp; done) | assumption
    ·exact fun j _ => by rw [hHc]
   ·rintro n2 σ10 H10 ⟨kk, hn2, q1_10, q3_10, q4_10, q5_10, h6_10, h7_10, qg0_10, qg1_10, qg2_10, qst_10, q1, q2⟩
    have h1_10 := q1_10.trans h1_9;have h3_10 := q3_10.trans h3_9;have h4_10 := q4_10.trans h4_9;have h5_10 := q5_10.trans h5_9;have g0_10 := qg0_10.trans g0_7;have g1_10 := qg1_10.trans g1_7;have g2_10 := qg2_10.trans g2_7;have hst_10 := qst_10.trans hst_7;refine awp_seq ?_;refine stp_reg TT_ok (by rfl) fun K hK => ?_;simp [h7_10, g0_10, g1_10, g2_10, encG];(try refine And.intro (by first|omega|rfl) ?_);refine hK _ _ fun σ11 hσ H11 hH => ?_;clear hK K;obtain ⟨h1_11, h3_11, h4_11, h5_11, h6_11, h7_11, h28_11⟩ := fs7 hσ 1 3 4 5 6 7 28;simp [h1_10, h3_10, h4_10, h5_10, h6_10, h7_10] at h1_11 h3_11 h4_11 h5_11 h6_11 h7_11 h28_11;clear hσ;replace hH : H10 = H11 := Eq.symm hH;subst hH;refine awp_cond _ (by simp only [aeval_tmp]; exact h28_11) (fun hc28 => ?_) (fun hc28 => ?_)
    ·(try simp at hc28);obtain ⟨i, rfl⟩ : ∃ i, kk = i + 1 := ⟨kk - 1, by have := hc28; omega⟩;have e8 : (((i + 1 : Nat) : Int) - 1) = i := by omega
     rw [e8] at h7_11;have hin : i < g.nodes.length := by omega
     have hib : i < bs.length := by omega
     have hgi : i < (g.grpL g.nodes.length).length := by omega
     have hge : (g.grpL g.nodes.length)[i] = (g.grp i : Int) := by have := grpL_get g hin; simpa [gt, hgi] using this
     have hbe : bs.getD i false = bs[i] := by rw [List.getD_eq_getElem?_getD, List.getElem?_eq_getElem hib]; rfl
     have hbe2 : bs[i]?.getD false = bs[i] := by simp [hib]
     have hnx := nxR_step (bs := bs) hin;refine awp_skip ?_;refine q_seq ?_;refine awp_seq ?_;refine awp_block ?_;refine stp_cut (fun σ' H' => σ' 1 = σ11 1 ∧ σ' 3 = σ11 3 ∧ σ' 4 = σ11 4 ∧ σ' 5 = σ11 5 ∧ σ' 6 = σ11 6 ∧ σ' 7 = σ11 7 ∧ σ' 8 = .bool (decide (g.grp i = i) && !bs.getD i false) ∧ H' = H10) ?_ ?_
     ·skip
      by_cases s1 : (g.grp i : Int) = i
      ·skip;refine stp_regl TT_ok (by rfl) fun K hK => ?_;simp [h3_11, h4_11, h7_11, g0_10, g1_10, g2_10, s1, beq_iff_eq.2 s1, encG, hin, hib, hgi, hge];(try refine And.intro (by first|omega|rfl) ?_);refine hK _ _ fun σ13 hσ H13 hH => ?_;clear hK K;obtain ⟨h1_13, h3_13, h4_13, h5_13, h6_13, h7_13, h8_13⟩ := fs7 hσ 1 3 4 5 6 7 8;simp [h1_11, h3_11, h4_11, h5_11, h6_11, h7_11] at h1_13 h3_13 h4_13 h5_13 h6_13 h7_13 h8_13;clear hσ;replace hH : H10 = H13 := Eq.symm hH;subst hH;have s1n : g.grp i = i := by omega
       refine ⟨rfl, (h1_13.trans h1_11.symm), (h3_13.trans h3_11.symm), (h4_13.trans h4_11.symm), (h5_13.trans h5_11.symm), (h6_13.trans h6_11.symm), (h7_13.trans h7_11.symm), (by simp [h8_13, s1n, hbe2]), rfl⟩
      ·skip;refine stp_regl TT_ok (by rfl) fun K hK => ?_;simp [h3_11, h4_11, h7_11, g0_10, g1_10, g2_10, s1, beq_eq_false_iff_ne.2 s1, encG, hin, hib, hgi, hge];(try refine And.intro (by first|omega|rfl) ?_);refine hK _ _ fun σ14 hσ H14 hH => ?_;clear hK K;obtain ⟨h1_14, h3_14, h4_14, h5_14, h6_14, h7_14, h8_14⟩ := fs7 hσ 1 3 4 5 6 7 8;simp [h1_11, h3_11, h4_11, h5_11, h6_11, h7_11] at h1_14 h3_14 h4_14 h5_14 h6_14 h7_14 h8_14;clear hσ;replace hH : H10 = H14 := Eq.symm hH;subst hH;have s1n : ¬ g.grp i = i := by omega
       refine ⟨rfl, (h1_14.trans h1_11.symm), (h3_14.trans h3_11.symm), (h4_14.trans h4_11.symm), (h5_14.trans h5_11.symm), (h6_14.trans h6_11.symm), (h7_14.trans h7_11.symm), (by simp [h8_14, s1n]), rfl⟩
     ·rintro σ12 H12 ⟨q1_12, q3_12, q4_12, q5_12, q6_12, q7_12, h8_12, hHq⟩
      replace hHq := hHq.symm;subst hHq;have h1_12 := q1_12.trans h1_11;have h3_12 := q3_12.trans h3_11;have h4_12 := q4_12.trans h4_11;have h5_12 := q5_12.trans h5_11;have h6_12 := q6_12.trans h6_11;have h7_12 := q7_12.trans h7_11;refine awp_seq ?_;refine stp_reg TT_ok (by rfl) fun K hK => ?_;simp [g0_10, g1_10, g2_10, encG];(try refine And.intro (by first|omega|rfl) ?_);refine hK _ _ fun σ15 hσ H15 hH => ?_;clear hK K;obtain ⟨h1_15, h3_15, h4_15, h5_15, h6_15, h7_15, h8_15, h9_15⟩ := fs8 hσ 1 3 4 5 6 7 8 9;simp [h1_12, h3_12, h4_12, h5_12, h6_12, h7_12, h8_12] at h1_15 h3_15 h4_15 h5_15 h6_15 h7_15 h8_15 h9_15;clear hσ;replace hH : H10 = H15 := Eq.symm hH;subst hH;refine awp_block ?_;refine awp_loopV (fun n σ' H' => ∃ (k : Nat) (b : Bool), n = g.edges.length - k ∧ σ' 1 = σ15 1 ∧ σ' 3 = σ15 3 ∧ σ' 4 = σ15 4 ∧ σ' 5 = σ15 5 ∧ σ' 6 = σ15 6 ∧ σ' 7 = σ15 7 ∧ σ' 8 = .bool b ∧ σ' 9 = (AV.int IntKind.i64) k ∧ H'.get 0 = H10.get 0 ∧ H'.get 1 = H10.get 1 ∧ H'.get 2 = H10.get 2 ∧ H'.st = H10.st ∧ (k ≤ g.edges.length) ∧ (b = ((decide (g.grp i = i) && !bs.getD i false) && (g.edges.take k).all (edgeOk g bs i))) ∧ (∀ j, Hc.get j ≠ none → H'.get j = Hc.get j)) ?_ ?_
      ·refine ⟨_, 0, (decide (g.grp i = i) && !bs.getD i false), rfl, rfl, rfl, rfl, rfl, rfl, rfl, (by simp [h8_15]), (by simp [h9_15]), rfl, rfl, rfl, rfl, ?_, ?_, ?_⟩
       ·first | omega | (simp; done) | assumption
       ·simp
       ·exact q2
      ·rintro n3 σ16 H16 ⟨k, b, hn3, q1_16, q3_16, q4_16, q5_16, q6_16, q7_16, h8_16, h9_16, qg0_16, qg1_16, qg2_16, qst_16, t1, t2, t3⟩
       have h1_16 := q1_16.trans h1_15;have h3_16 := q3_16.trans h3_15;have h4_16 := q4_16.trans h4_15;have h5_16 := q5_16.trans h5_15;have h6_16 := q6_16.trans h6_15;have h7_16 := q7_16.trans h7_15;have g0_16 := qg0_16.trans g0_10;have g1_16 := qg1_16.trans g1_10;have g2_16 := qg2_16.trans g2_10;have hst_16 := qst_16.trans hst_10;refine awp_seq ?_
       by_cases hk : (k : Int) < g.edges.length
       ·skip;refine stp_reg TT_ok (by rfl) fun K hK => ?_;simp [h1_16, h8_16, h9_16, g0_16, g1_16, g2_16, hk, encG];(try refine And.intro (by first|omega|rfl) ?_);refine hK _ _ fun σ17 hσ H17 hH => ?_;clear hK K;obtain ⟨h1_17, h3_17, h4_17, h5_17, h6_17, h7_17, h8_17, h9_17, h51_17⟩ := fs9 hσ 1 3 4 5 6 7 8 9 51;simp [h1_16, h3_16, h4_16, h5_16, h6_16, h7_16, h8_16, h9_16] at h1_17 h3_17 h4_17 h5_17 h6_17 h7_17 h8_17 h9_17 h51_17;clear hσ;replace hH : H16 = H17 := Eq.symm hH;subst hH;refine awp_cond _ (by simp only [aeval_tmp]; exact h51_17) (fun hc51 => ?_) (fun hc51 => ?_)
        ·(try simp at hc51);have hkt : k < g.edges.length := by omega
         have hge2 : (g.edges.map encE)[k]? = some (encE g.edges[k]) := by simp [hkt]
         obtain ⟨⟨e1, e2⟩, e3, e4⟩ := valid_edge hv (List.getElem_mem hkt);have hga := grpL_at g ⟨e1, e2⟩;have hgb := grpL_at g ⟨e3, e4⟩;have a1 : g.edges[k].1.toNat < (g.grpL g.nodes.length).length := by omega
         have a2 : g.edges[k].2.toNat < (g.grpL g.nodes.length).length := by omega
         have a3 : g.edges[k].1.toNat < g.nodes.length := by omega
         have a4 : g.edges[k].2.toNat < g.nodes.length := by omega
         have a5 := (grp_spec hv a4).2.1;have a6 : g.grp g.edges[k].2.toNat < bs.length := by omega
         have hga2 : (g.grpL g.nodes.length)[g.edges[k].1.toNat] = (g.grp g.edges[k].1.toNat : Int) := by rw [gt_elem a1, hga]
         have hgb2 : (g.grpL g.nodes.length)[g.edges[k].2.toNat] = (g.grp g.edges[k].2.toNat : Int) := by rw [gt_elem a2, hgb]
         have hat := all_take_succ2 (f := edgeOk g bs i) hkt;have a7 : bs[g.grp g.edges[k].2.toNat]?.getD false = bs[g.grp g.edges[k].2.toNat] := by simp [a6]
         refine awp_skip ?_;refine q_seq ?_;refine awp_seq ?_;refine awp_block ?_;refine awp_ok fun hok => ?_;obtain ⟨m18, hn_m18⟩ : ∃ m, H16.n = m := ⟨_, rfl⟩;have hf_m18_0 := hok.free 0;simp [hn_m18, hst_16] at hf_m18_0;have nx1 := ne_get hf_m18_0 g0_16;have nx2 := ne_get hf_m18_0 g1_16;have nx3 := ne_get hf_m18_0 g2_16;refine stp_reg TT_ok (by rfl) fun K hK => ?_;simp [h1_17, h9_17, g0_16, g1_16, g2_16, hn_m18, hst_16, hk, nx1, nx2, nx3, encG, hge2, hkt, encE];(try refine And.intro (by first|omega|rfl) ?_);refine hK _ _ fun σ19 hσ H19 hH => ?_;clear hK K;obtain ⟨h1_19, h3_19, h4_19, h5_19, h6_19, h7_19, h9_19, h10_19⟩ := fs8 hσ 1 3 4 5 6 7 9 10;simp [h1_17, h3_17, h4_17, h5_17, h6_17, h7_17, h9_17] at h1_19 h3_19 h4_19 h5_19 h6_19 h7_19 h9_19 h10_19;clear hσ;have g0_19 := gt_of hH 0;have g1_19 := gt_of hH 1;have g2_19 := gt_of hH 2;have gm18_19 := gt_of hH m18;simp [g0_16, g1_16, g2_16, hn_m18, hst_16, hk, nx1, nx2, nx3] at g0_19 g1_19 g2_19 gm18_19;have hst_19 := congrArg AHeap.st hH;simp [hst_16] at hst_19
         have ka : ∀ j, Hc.get j ≠ none → H19.get j = Hc.get j := fun j hj => by
          have hq := t3 j hj;have hjm : ¬ j = m18 := by { intro e; rw [← hq, e, hf_m18_0] at hj; exact hj rfl }
          rw [hH]; simp [hn_m18, hjm]; exact hq
         clear hH
         by_cases d1 : (g.grp g.edges[k].1.toNat : Int) = i
         ·skip
          by_cases d2 : (g.grp g.edges[k].2.toNat : Int) = i
          ·skip;refine stp_regl TT_ok (by rfl) fun K hK => ?_;simp [h3_19, h4_19, h7_19, h10_19, g0_19, g1_19, g2_19, gm18_19, hk, nx1, nx2, nx3, d1, beq_iff_eq.2 d1, d2, beq_iff_eq.2 d2, encG, e1, e2, e3, e4, a1, a2, a3, a4, a5, a6, hga2, hgb2, hgl, hbl];(try refine And.intro (by first|omega|rfl) ?_);refine hK _ _ fun σ20 hσ H20 hH => ?_;clear hK K;obtain ⟨h1_20, h3_20, h4_20, h5_20, h6_20, h7_20, h8_20, h9_20⟩ := fs8 hσ 1 3 4 5 6 7 8 9;simp [h1_19, h3_19, h4_19, h5_19, h6_19, h7_19, h9_19] at h1_20 h3_20 h4_20 h5_20 h6_20 h7_20 h8_20 h9_20;clear hσ;replace hH : H19 = H20 := Eq.symm hH;subst hH;refine q_block ?_;refine q_seq ?_;refine stp_regl TT_ok (by rfl) fun K hK => ?_;simp [h9_20, g0_19, g1_19, g2_19, gm18_19, hk, nx1, nx2, nx3, d1, beq_iff_eq.2 d1, d2, beq_iff_eq.2 d2, encG, wrap_ok (n := (k : Int) + 1) (by omega) (by omega)];(try refine And.intro (by first|omega|rfl) ?_);refine hK _ _ fun σ21 hσ H21 hH => ?_;clear hK K;obtain ⟨h1_21, h3_21, h4_21, h5_21, h6_21, h7_21, h8_21, h9_21⟩ := fs8 hσ 1 3 4 5 6 7 8 9;simp [h1_20, h3_20, h4_20, h5_20, h6_20, h7_20, h8_20] at h1_21 h3_21 h4_21 h5_21 h6_21 h7_21 h8_21 h9_21;clear hσ;replace hH : H19 = H21 := Eq.symm hH;subst hH
           refine ⟨_, ?_, k + 1, true, rfl, (h1_21.trans h1_15.symm), (h3_21.trans h3_15.symm), (h4_21.trans h4_15.symm), (h5_21.trans h5_15.symm), (h6_21.trans h6_15.symm), (h7_21.trans h7_15.symm), (by simp [h8_21]), (by simp [h9_21]), (g0_19.trans g0_10.symm), (g1_19.trans g1_10.symm), (g2_19.trans g2_10.symm), (hst_19.trans hst_10.symm), ?_, ?_, ?_⟩
           ·subst hn3; omega
           ·first | omega | assumption | (simp; done)
           ·rw [hat, ← Bool.and_assoc, ← t2, hc51];have : g.grp g.edges[k].2.toNat = i := by omega
            simp [edgeOk, this]
           ·exact ka
          ·skip;refine stp_regl TT_ok (by rfl) fun K hK => ?_;simp [h3_19, h4_19, h7_19, h10_19, g0_19, g1_19, g2_19, gm18_19, hk, nx1, nx2, nx3, d1, beq_iff_eq.2 d1, d2, beq_eq_false_iff_ne.2 d2, encG, e1, e2, e3, e4, a1, a2, a3, a4, a5, a6, hga2, hgb2, hgl, hbl];(try refine And.intro (by first|omega|rfl) ?_);refine hK _ _ fun σ22 hσ H22 hH => ?_;clear hK K;obtain ⟨h1_22, h3_22, h4_22, h5_22, h6_22, h7_22, h8_22, h9_22⟩ := fs8 hσ 1 3 4 5 6 7 8 9;simp [h1_19, h3_19, h4_19, h5_19, h6_19, h7_19, h9_19] at h1_22 h3_22 h4_22 h5_22 h6_22 h7_22 h8_22 h9_22;clear hσ;replace hH : H19 = H22 := Eq.symm hH;subst hH;refine q_block ?_;refine q_seq ?_;refine stp_regl TT_ok (by rfl) fun K hK => ?_;simp [h9_22, g0_19, g1_19, g2_19, gm18_19, hk, nx1, nx2, nx3, d1, beq_iff_eq.2 d1, d2, beq_eq_false_iff_ne.2 d2, encG, wrap_ok (n := (k : Int) + 1) (by omega) (by omega)];(try refine And.intro (by first|omega|rfl) ?_);refine hK _ _ fun σ23 hσ H23 hH => ?_;clear hK K;obtain ⟨h1_23, h3_23, h4_23, h5_23, h6_23, h7_23, h8_23, h9_23⟩ := fs8 hσ 1 3 4 5 6 7 8 9;simp [h1_22, h3_22, h4_22, h5_22, h6_22, h7_22, h8_22] at h1_23 h3_23 h4_23 h5_23 h6_23 h7_23 h8_23 h9_23;clear hσ;replace hH : H19 = H23 := Eq.symm hH;subst hH
           refine ⟨_, ?_, k + 1, bs[g.grp g.edges[k].2.toNat], rfl, (h1_23.trans h1_15.symm), (h3_23.trans h3_15.symm), (h4_23.trans h4_15.symm), (h5_23.trans h5_15.symm), (h6_23.trans h6_15.symm), (h7_23.trans h7_15.symm), (by simp [h8_23]), (by simp [h9_23]), (g0_19.trans g0_10.symm), (g1_19.trans g1_10.symm), (g2_19.trans g2_10.symm), (hst_19.trans hst_10.symm), ?_, ?_, ?_⟩
           ·subst hn3; omega
           ·first | omega | assumption | (simp; done)
           ·rw [hat, ← Bool.and_assoc, ← t2, hc51];have h5 : ¬ g.grp g.edges[k].2.toNat = i := by omega
            have h6 : g.grp g.edges[k].1.toNat = i := by omega
            simp [edgeOk, h5, h6, a7]
           ·exact ka
         ·skip;refine stp_regl TT_ok (by rfl) fun K hK => ?_;simp [h3_19, h4_19, h7_19, h10_19, g0_19, g1_19, g2_19, gm18_19, hk, nx1, nx2, nx3, d1, beq_eq_false_iff_ne.2 d1, encG, e1, e2, e3, e4, a1, a2, a3, a4, a5, a6, hga2, hgb2, hgl, hbl];(try refine And.intro (by first|omega|rfl) ?_);refine hK _ _ fun σ24 hσ H24 hH => ?_;clear hK K;obtain ⟨h1_24, h3_24, h4_24, h5_24, h6_24, h7_24, h8_24, h9_24⟩ := fs8 hσ 1 3 4 5 6 7 8 9;simp [h1_19, h3_19, h4_19, h5_19, h6_19, h7_19, h9_19] at h1_24 h3_24 h4_24 h5_24 h6_24 h7_24 h8_24 h9_24;clear hσ;replace hH : H19 = H24 := Eq.symm hH;subst hH;refine q_block ?_;refine q_seq ?_;refine stp_regl TT_ok (by rfl) fun K hK => ?_;simp [h9_24, g0_19, g1_19, g2_19, gm18_19, hk, nx1, nx2, nx3, d1, beq_eq_false_iff_ne.2 d1, encG, wrap_ok (n := (k : Int) + 1) (by omega) (by omega)];(try refine And.intro (by first|omega|rfl) ?_);refine hK _ _ fun σ25 hσ H25 hH => ?_;clear hK K;obtain ⟨h1_25, h3_25, h4_25, h5_25, h6_25, h7_25, h8_25, h9_25⟩ := fs8 hσ 1 3 4 5 6 7 8 9;simp [h1_24, h3_24, h4_24, h5_24, h6_24, h7_24, h8_24] at h1_25 h3_25 h4_25 h5_25 h6_25 h7_25 h8_25 h9_25;clear hσ;replace hH : H19 = H25 := Eq.symm hH;subst hH
          refine ⟨_, ?_, k + 1, true, rfl, (h1_25.trans h1_15.symm), (h3_25.trans h3_15.symm), (h4_25.trans h4_15.symm), (h5_25.trans h5_15.symm), (h6_25.trans h6_15.symm), (h7_25.trans h7_15.symm), (by simp [h8_25]), (by simp [h9_25]), (g0_19.trans g0_10.symm), (g1_19.trans g1_10.symm), (g2_19.trans g2_10.symm), (hst_19.trans hst_10.symm), ?_, ?_, ?_⟩
          ·subst hn3; omega
          ·first | omega | assumption | (simp; done)
          ·rw [hat, ← Bool.and_assoc, ← t2, hc51];have : ¬ g.grp g.edges[k].1.toNat = i := by omega
           simp [edgeOk, this]
          ·exact ka
        ·(try simp at hc51);refine awp_exit ?_;refine q_seq_exit ?_;refine q_loop_exit ?_;refine q_block_hit ?_;refine q_seq ?_
         have hbr : b = rdyB g bs i := by
          rw [hc51]; rw [hc51] at t2
          symm; rw [rdyB]
          cases hh : (decide (g.grp i = i) && !bs.getD i false) with
          | false => rfl
          | true => rw [hh, Bool.true_and] at t2; rw [Bool.true_and]; exact all_take_false t2.symm
         refine stp_reg TT_ok (by rfl) fun K hK => ?_;simp [h8_17, g0_16, g1_16, g2_16, hk, encG];(try refine And.intro (by first|omega|rfl) ?_);refine hK _ _ fun σ26 hσ H26 hH => ?_;clear hK K;obtain ⟨h1_26, h3_26, h4_26, h5_26, h6_26, h7_26, h85_26⟩ := fs7 hσ 1 3 4 5 6 7 85;simp [h1_17, h3_17, h4_17, h5_17, h6_17, h7_17] at h1_26 h3_26 h4_26 h5_26 h6_26 h7_26 h85_26;clear hσ;replace hH : H16 = H26 := Eq.symm hH;subst hH;refine stp_false (by simp [aeval_tmp, h85_26, hk, encG, hc51]) ?_;refine awp_skip ?_;refine q_block ?_;refine q_seq ?_;refine stp_regl TT_ok (by rfl) fun K hK => ?_;simp [h7_26, g0_16, g1_16, g2_16, hk, encG, wrap_ok (n := (i : Int) - 1) (by omega) (by omega)];(try refine And.intro (by first|omega|rfl) ?_);refine hK _ _ fun σ27 hσ H27 hH => ?_;clear hK K;obtain ⟨h1_27, h3_27, h4_27, h5_27, h6_27, h7_27⟩ := fs6 hσ 1 3 4 5 6 7;simp [h1_26, h3_26, h4_26, h5_26, h6_26] at h1_27 h3_27 h4_27 h5_27 h6_27 h7_27;clear hσ;replace hH : H16 = H27 := Eq.symm hH;subst hH;have hrt : rdyB g bs i = false := by rw [← hbr]; first | exact hc85 | exact hc51
         refine ⟨_, ?_, i, rfl, (h1_27.trans h1_9.symm), (h3_27.trans h3_9.symm), (h4_27.trans h4_9.symm), (h5_27.trans h5_9.symm), (by simp [h6_27, hnx, hrt]), (by simp [h7_27, hnx, hrt]), (g0_16.trans g0_7.symm), (g1_16.trans g1_7.symm), (g2_16.trans g2_7.symm), (hst_16.trans hst_7.symm), ?_, ?_⟩
         ·subst hn2; omega
         ·first | omega | assumption | (simp; done)
         ·exact t3
       ·skip;refine stp_reg TT_ok (by rfl) fun K hK => ?_;simp [h1_16, h8_16, h9_16, g0_16, g1_16, g2_16, hk, encG];(try refine And.intro (by first|omega|rfl) ?_);refine hK _ _ fun σ28 hσ H28 hH => ?_;clear hK K;obtain ⟨h1_28, h3_28, h4_28, h5_28, h6_28, h7_28, h8_28, h9_28, h51_28⟩ := fs9 hσ 1 3 4 5 6 7 8 9 51;simp [h1_16, h3_16, h4_16, h5_16, h6_16, h7_16, h8_16, h9_16] at h1_28 h3_28 h4_28 h5_28 h6_28 h7_28 h8_28 h9_28 h51_28;clear hσ;replace hH : H16 = H28 := Eq.symm hH;subst hH;refine stp_false (by simp [aeval_tmp, h51_28, hk, encG]) ?_;refine awp_exit ?_;refine q_seq_exit ?_;refine q_loop_exit ?_;refine q_block_hit ?_;refine q_seq ?_
        have hbr : b = rdyB g bs i := by
         have hke : k = g.edges.length := by omega
         rw [t2, hke, List.take_length]; rfl
        refine stp_reg TT_ok (by rfl) fun K hK => ?_;simp [h8_28, g0_16, g1_16, g2_16, hk, encG];(try refine And.intro (by first|omega|rfl) ?_);refine hK _ _ fun σ29 hσ H29 hH => ?_;clear hK K;obtain ⟨h1_29, h3_29, h4_29, h5_29, h6_29, h7_29, h85_29⟩ := fs7 hσ 1 3 4 5 6 7 85;simp [h1_28, h3_28, h4_28, h5_28, h6_28, h7_28] at h1_29 h3_29 h4_29 h5_29 h6_29 h7_29 h85_29;clear hσ;replace hH : H16 = H29 := Eq.symm hH;subst hH;refine awp_cond _ (by simp only [aeval_tmp]; exact h85_29) (fun hc85 => ?_) (fun hc85 => ?_)
        ·(try simp at hc85);refine stp_regl TT_ok (by rfl) fun K hK => ?_;simp [h7_29, g0_16, g1_16, g2_16, hk, encG];(try refine And.intro (by first|omega|rfl) ?_);refine hK _ _ fun σ30 hσ H30 hH => ?_;clear hK K;obtain ⟨h1_30, h3_30, h4_30, h5_30, h6_30, h7_30⟩ := fs6 hσ 1 3 4 5 6 7;simp [h1_29, h3_29, h4_29, h5_29, h7_29] at h1_30 h3_30 h4_30 h5_30 h6_30 h7_30;clear hσ;replace hH : H16 = H30 := Eq.symm hH;subst hH;refine q_block ?_;refine q_seq ?_;refine stp_regl TT_ok (by rfl) fun K hK => ?_;simp [h7_30, g0_16, g1_16, g2_16, hk, encG, wrap_ok (n := (i : Int) - 1) (by omega) (by omega)];(try refine And.intro (by first|omega|rfl) ?_);refine hK _ _ fun σ31 hσ H31 hH => ?_;clear hK K;obtain ⟨h1_31, h3_31, h4_31, h5_31, h6_31, h7_31⟩ := fs6 hσ 1 3 4 5 6 7;simp [h1_30, h3_30, h4_30, h5_30, h6_30] at h1_31 h3_31 h4_31 h5_31 h6_31 h7_31;clear hσ;replace hH : H16 = H31 := Eq.symm hH;subst hH;have hrt : rdyB g bs i = true := by rw [← hbr]; exact hc85
         refine ⟨_, ?_, i, rfl, (h1_31.trans h1_9.symm), (h3_31.trans h3_9.symm), (h4_31.trans h4_9.symm), (h5_31.trans h5_9.symm), (by simp [h6_31, hnx, hrt]), (by simp [h7_31, hnx, hrt]), (g0_16.trans g0_7.symm), (g1_16.trans g1_7.symm), (g2_16.trans g2_7.symm), (hst_16.trans hst_7.symm), ?_, ?_⟩
         ·subst hn2; omega
         ·first | omega | assumption | (simp; done)
         ·exact t3
        ·(try simp at hc85);refine awp_skip ?_;refine q_block ?_;refine q_seq ?_;refine stp_regl TT_ok (by rfl) fun K hK => ?_;simp [h7_29, g0_16, g1_16, g2_16, hk, encG, wrap_ok (n := (i : Int) - 1) (by omega) (by omega)];(try refine And.intro (by first|omega|rfl) ?_);refine hK _ _ fun σ32 hσ H32 hH => ?_;clear hK K;obtain ⟨h1_32, h3_32, h4_32, h5_32, h6_32, h7_32⟩ := fs6 hσ 1 3 4 5 6 7;simp [h1_29, h3_29, h4_29, h5_29, h6_29] at h1_32 h3_32 h4_32 h5_32 h6_32 h7_32;clear hσ;replace hH : H16 = H32 := Eq.symm hH;subst hH;have hrt : rdyB g bs i = false := by rw [← hbr]; first | exact hc85 | exact hc51
         refine ⟨_, ?_, i, rfl, (h1_32.trans h1_9.symm), (h3_32.trans h3_9.symm), (h4_32.trans h4_9.symm), (h5_32.trans h5_9.symm), (by simp [h6_32, hnx, hrt]), (by simp [h7_32, hnx, hrt]), (g0_16.trans g0_7.symm), (g1_16.trans g1_7.symm), (g2_16.trans g2_7.symm), (hst_16.trans hst_7.symm), ?_, ?_⟩
         ·subst hn2; omega
         ·first | omega | assumption | (simp; done)
         ·exact t3
    ·(try simp at hc28);obtain rfl : kk = 0 := by have := hc28; omega
     rw [p3] at h6_11;have p2b := p2.keep (H' := H10) fun id _ hid => by rw [q2 id (by rw [hHc]; exact hid), hHc]
     refine awp_exit ?_;refine q_seq_exit ?_;refine q_loop_exit ?_;refine q_block_hit ?_;refine q_seq ?_;refine awp_seq ?_;rcases Nat.lt_or_ge j g.cedges.length with hjl | hjl
     ·skip;obtain ⟨z1, z2, z3⟩ := listed_pick hpr hjl;obtain ⟨r, r1, r2, r3, r4⟩ := nxR_some hv z1 z2 z3;rw [r4] at h6_11;have r5 : r < bs.length := by omega
      have hcs := cmpsL_succ r1 r2 r3;refine stp_reg TT_ok (by rfl) fun K hK => ?_;simp [h6_11, g0_10, g1_10, g2_10, encG];(try refine And.intro (by first|omega|rfl) ?_);refine hK _ _ fun σ33 hσ H33 hH => ?_;clear hK K;obtain ⟨h1_33, h3_33, h4_33, h5_33, h6_33, h88_33⟩ := fs6 hσ 1 3 4 5 6 88;simp [h1_11, h3_11, h4_11, h5_11, h6_11] at h1_33 h3_33 h4_33 h5_33 h6_33 h88_33;clear hσ;replace hH : H10 = H33 := Eq.symm hH;subst hH;refine stp_false (by simp [aeval_tmp, h88_33, encG]) ?_;refine awp_skip ?_;refine q_seq ?_;refine stp_reg TT_ok (by rfl) fun K hK => ?_;simp [h4_33, h6_33, g0_10, g1_10, g2_10, encG, r1, r5, hbl];(try refine And.intro (by first|omega|rfl) ?_);refine hK _ _ fun σ34 hσ H34 hH => ?_;clear hK K;obtain ⟨h1_34, h3_34, h4_34, h5_34, h6_34⟩ := fs5 hσ 1 3 4 5 6;simp [h1_33, h3_33, h4_33, h5_33, h6_33] at h1_34 h3_34 h4_34 h5_34 h6_34;clear hσ;have g0_34 := gt_of hH 0;have g1_34 := gt_of hH 1;have g2_34 := gt_of hH 2;simp [g0_10, g1_10, g2_10, hst_10] at g0_34 g1_34 g2_34;have hst_34 := congrArg AHeap.st hH;simp [hst_10] at hst_34;have kc : ∀ y, y ≠ 1 → H34.get y = H10.get y := fun y h1 => by rw [hH]; simp [h1]
      clear hH;refine awp_ok fun hok => ?_;obtain ⟨m35, hn_m35⟩ : ∃ m, H34.n = m := ⟨_, rfl⟩;have hf_m35_0 := hok.free 0;simp [hn_m35, hst_34] at hf_m35_0;have nx4 := ne_get hf_m35_0 g0_34;have nx5 := ne_get hf_m35_0 g1_34;have nx6 := ne_get hf_m35_0 g2_34;refine stp_reg TT_ok (by rfl) fun K hK => ?_;simp [g0_34, g1_34, g2_34, hn_m35, hst_34, nx4, nx5, nx6, encG];(try refine And.intro (by first|omega|rfl) ?_);refine hK _ _ fun σ36 hσ H36 hH => ?_;clear hK K;obtain ⟨h1_36, h3_36, h4_36, h5_36, h6_36, h11_36⟩ := fs6 hσ 1 3 4 5 6 11;simp [h1_34, h3_34, h4_34, h5_34, h6_34] at h1_36 h3_36 h4_36 h5_36 h6_36 h11_36;clear hσ;have g0_36 := gt_of hH 0;have g1_36 := gt_of hH 1;have g2_36 := gt_of hH 2;have gm35_36 := gt_of hH m35;simp [g0_34, g1_34, g2_34, hn_m35, hst_34, nx4, nx5, nx6] at g0_36 g1_36 g2_36 gm35_36;have hst_36 := congrArg AHeap.st hH;simp [hst_34] at hst_36
      have kd : ∀ y, H34.get y ≠ none → H36.get y = H34.get y := fun y hy => by
       rw [hH]; have hjm : ¬ y = m35 := by { intro e; rw [e, hf_m35_0] at hy; exact hy rfl }
       simp [hn_m35, hst_34, hjm]
      clear hH;have p2c := p2b.keep (H' := H36) fun id h3 hid => by rw [kd id (by rw [kc id (by omega)]; exact hid), kc id (by omega)]
      have hfm : ∀ i y g n : Nat, vs[i]? = some (AV.sl y g 0 n) → y ≠ m35 := fun i y g n h e => by
       obtain ⟨u1, u2⟩ := p2b.used h;rw [← kc y (by omega), e, hf_m35_0] at u1; exact u1 rfl
      have hm0 : g.mem 0 r = [] := rfl;refine awp_seq ?_;refine stp_reg TT_ok (by rfl) fun K hK => ?_;simp [g0_36, g1_36, g2_36, gm35_36, nx4, nx5, nx6, encG];(try refine And.intro (by first|omega|rfl) ?_);refine hK _ _ fun σ37 hσ H37 hH => ?_;clear hK K;obtain ⟨h1_37, h3_37, h4_37, h5_37, h6_37, h11_37, h12_37⟩ := fs7 hσ 1 3 4 5 6 11 12;simp [h1_36, h3_36, h4_36, h5_36, h6_36, h11_36] at h1_37 h3_37 h4_37 h5_37 h6_37 h11_37 h12_37;clear hσ;replace hH : H36 = H37 := Eq.symm hH;subst hH;refine awp_block ?_;rw [show ([] : List AV) = (g.mem 0 r).map (AV.int IntKind.i64) from rfl] at gm35_36;refine awp_loopV (fun n σ' H' => ∃ (i : Nat) (cg : Nat), n = g.nodes.length - i ∧ σ' 1 = σ37 1 ∧ σ' 3 = σ37 3 ∧ σ' 4 = σ37 4 ∧ σ' 5 = σ37 5 ∧ σ' 6 = σ37 6 ∧ σ' 11 = .sl m35 cg 0 (g.mem i r).length ∧ σ' 12 = (AV.int IntKind.i64) i ∧ H'.get 0 = H36.get 0 ∧ H'.get 1 = H36.get 1 ∧ H'.get 2 = H36.get 2 ∧ H'.get m35 = some (.row 3 1 cg ((g.mem i r).map (AV.int IntKind.i64))) ∧ H'.st = H36.st ∧ (i ≤ g.nodes.length) ∧ (Rows 3 vs (cmpsL g j) H')) ?_ ?_
      ·refine ⟨_, 0, 0, rfl, rfl, rfl, rfl, rfl, rfl, (by simp [h11_37, hm0]), (by simp [h12_37, hm0]), rfl, rfl, rfl, (by simp [gm35_36, hm0]), rfl, ?_, ?_⟩
       ·first | omega | (simp; done) | assumption
       ·exact p2c
      ·rintro n4 σ38 H38 ⟨i, cg, hn4, q1_38, q3_38, q4_38, q5_38, q6_38, h11_38, h12_38, qg0_38, qg1_38, qg2_38, gm35_38, qst_38, t1, t2⟩
       have h1_38 := q1_38.trans h1_37;have h3_38 := q3_38.trans h3_37;have h4_38 := q4_38.trans h4_37;have h5_38 := q5_38.trans h5_37;have h6_38 := q6_38.trans h6_37;have g0_38 := qg0_38.trans g0_36;have g1_38 := qg1_38.trans g1_36;have g2_38 := qg2_38.trans g2_36;have hst_38 := qst_38.trans hst_36;refine awp_seq ?_;refine stp_reg TT_ok (by rfl) fun K hK => ?_;simp [h1_38, h12_38, g0_38, g1_38, g2_38, gm35_38, nx4, nx5, nx6, encG];(try refine And.intro (by first|omega|rfl) ?_);refine hK _ _ fun σ39 hσ H39 hH => ?_;clear hK K;obtain ⟨h1_39, h3_39, h4_39, h5_39, h6_39, h11_39, h12_39, h98_39⟩ := fs8 hσ 1 3 4 5 6 11 12 98;simp [h1_38, h3_38, h4_38, h5_38, h6_38, h11_38, h12_38] at h1_39 h3_39 h4_39 h5_39 h6_39 h11_39 h12_39 h98_39;clear hσ;replace hH : H38 = H39 := Eq.symm hH;subst hH;refine awp_cond _ (by simp only [aeval_tmp]; exact h98_39) (fun hc98 => ?_) (fun hc98 => ?_)
       ·(try simp at hc98);have hin : i < g.nodes.length := by simpa using hc98
        have hgi : i < (g.grpL g.nodes.length).length := by omega
        have hge : (g.grpL g.nodes.length)[i] = (g.grp i : Int) := by have := grpL_get g hin; simpa [gt, hgi] using this
        have hms := mem_succ (g := g) i r;have hml := mem_len g i r;refine awp_skip ?_;refine q_seq ?_;refine awp_seq ?_;refine awp_block ?_
        by_cases s2 : (g.grp i : Int) = r
        ·skip;refine stp_reg TT_ok (by rfl) fun K hK => ?_;simp [h3_39, h6_39, h12_39, g0_38, g1_38, g2_38, gm35_38, nx4, nx5, nx6, s2, beq_iff_eq.2 s2, encG, hin, hgi, hge, hgl];(try refine And.intro (by first|omega|rfl) ?_);refine hK _ _ fun σ40 hσ H40 hH => ?_;clear hK K;obtain ⟨h1_40, h3_40, h4_40, h5_40, h6_40, h11_40, h12_40, h106_40⟩ := fs8 hσ 1 3 4 5 6 11 12 106;simp [h1_39, h3_39, h4_39, h5_39, h6_39, h11_39, h12_39] at h1_40 h3_40 h4_40 h5_40 h6_40 h11_40 h12_40 h106_40;clear hσ;replace hH : H38 = H40 := Eq.symm hH;subst hH;refine stp_true (by simp [aeval_tmp, h106_40, nx4, nx5, nx6, s2, beq_iff_eq.2 s2, encG]) ?_;refine awp_ok fun hok => ?_;obtain ⟨m41, hn_m41⟩ : ∃ m, H38.n = m := ⟨_, rfl⟩;have hf_m41_0 := hok.free 0;simp [hn_m41, hst_38] at hf_m41_0;have nx7 := ne_get hf_m41_0 g0_38;have nx8 := ne_get hf_m41_0 g1_38;have nx9 := ne_get hf_m41_0 g2_38;have nx10 := ne_get hf_m41_0 gm35_38;refine stp_regl TT_ok (by rfl) fun K hK => ?_;simp [h11_40, h12_40, g0_38, g1_38, g2_38, gm35_38, hn_m41, hst_38, nx4, nx5, nx6, s2, beq_iff_eq.2 s2, nx7, nx8, nx9, nx10, encG, show ((g.mem i r).length + 1) * 8 ≤ 140737488355328 by omega, show (g.mem i r).length ≤ 9223372036854775806 by omega, take_map_len];(try refine And.intro (by first|omega|rfl) ?_);refine hK _ _ fun σ42 hσ H42 hH => ?_;clear hK K;obtain ⟨h1_42, h3_42, h4_42, h5_42, h6_42, h11_42, h12_42⟩ := fs7 hσ 1 3 4 5 6 11 12;simp [h1_40, h3_40, h4_40, h5_40, h6_40, h12_40] at h1_42 h3_42 h4_42 h5_42 h6_42 h11_42 h12_42
         clear hσ;have g0_42 := gt_of hH 0;have g1_42 := gt_of hH 1;have g2_42 := gt_of hH 2;have gm35_42 := gt_of hH m35;have gm41_42 := gt_of hH m41;simp [g0_38, g1_38, g2_38, gm35_38, hn_m41, hst_38, nx4, nx5, nx6, s2, beq_iff_eq.2 s2, nx7, nx8, nx9, nx10] at g0_42 g1_42 g2_42 gm35_42 gm41_42;have hst_42 := congrArg AHeap.st hH;simp [hst_38] at hst_42
         have ke : ∀ i y g n : Nat, vs[i]? = some (AV.sl y g 0 n) → H42.get y = H38.get y := fun i y g n h => by
          have h1 := hfm _ _ _ _ h;have hy := (t2.used h).1;rw [hH]; have hjm : ¬ y = m41 := by { intro e; rw [e, hf_m41_0] at hy; exact hy rfl }
          simp [hn_m41, hjm, h1]
         clear hH;refine q_block ?_;refine q_seq ?_;refine stp_regl TT_ok (by rfl) fun K hK => ?_;simp [h12_42, g0_42, g1_42, g2_42, gm35_42, gm41_42, nx4, nx5, nx6, s2, beq_iff_eq.2 s2, nx7, nx8, nx9, nx10, encG, wrap_ok (n := (i : Int) + 1) (by omega) (by omega)];(try refine And.intro (by first|omega|rfl) ?_);refine hK _ _ fun σ43 hσ H43 hH => ?_;clear hK K;obtain ⟨h1_43, h3_43, h4_43, h5_43, h6_43, h11_43, h12_43⟩ := fs7 hσ 1 3 4 5 6 11 12;simp [h1_42, h3_42, h4_42, h5_42, h6_42, h11_42] at h1_43 h3_43 h4_43 h5_43 h6_43 h11_43 h12_43;clear hσ;replace hH : H42 = H43 := Eq.symm hH;subst hH;have hms2 : g.mem (i + 1) r = g.mem i r ++ [(i : Int)] := by rw [hms, if_pos (by omega)]
         refine ⟨_, ?_, i + 1, cg + 1, rfl, (h1_43.trans h1_37.symm), (h3_43.trans h3_37.symm), (h4_43.trans h4_37.symm), (h5_43.trans h5_37.symm), (h6_43.trans h6_37.symm), (by simp [h11_43, hms2]), (by simp [h12_43, hms2]), (g0_42.trans g0_36.symm), (g1_42.trans g1_36.symm), (g2_42.trans g2_36.symm), (by simp [gm35_42, hms2]), (hst_42.trans hst_36.symm), ?_, ?_⟩
         ·subst hn4; omega
         ·first | omega | assumption | (simp; done)
         ·exact t2.keepR ke
        ·skip;refine stp_reg TT_ok (by rfl) fun K hK => ?_;simp [h3_39, h6_39, h12_39, g0_38, g1_38, g2_38, gm35_38, nx4, nx5, nx6, s2, beq_eq_false_iff_ne.2 s2, encG, hin, hgi, hge, hgl];(try refine And.intro (by first|omega|rfl) ?_);refine hK _ _ fun σ44 hσ H44 hH => ?_;clear hK K;obtain ⟨h1_44, h3_44, h4_44, h5_44, h6_44, h11_44, h12_44, h106_44⟩ := fs8 hσ 1 3 4 5 6 11 12 106;simp [h1_39, h3_39, h4_39, h5_39, h6_39, h11_39, h12_39] at h1_44 h3_44 h4_44 h5_44 h6_44 h11_44 h12_44 h106_44;clear hσ;replace hH : H38 = H44 := Eq.symm hH;subst hH;refine stp_false (by simp [aeval_tmp, h106_44, nx4, nx5, nx6, s2, beq_eq_false_iff_ne.2 s2, encG]) ?_;refine awp_skip ?_;refine q_block ?_;refine q_seq ?_;refine stp_regl TT_ok (by rfl) fun K hK => ?_;simp [h12_44, g0_38, g1_38, g2_38, gm35_38, nx4, nx5, nx6, s2, beq_eq_false_iff_ne.2 s2, encG, wrap_ok (n := (i : Int) + 1) (by omega) (by omega)];(try refine And.intro (by first|omega|rfl) ?_);refine hK _ _ fun σ45 hσ H45 hH => ?_;clear hK K;obtain ⟨h1_45, h3_45, h4_45, h5_45, h6_45, h11_45, h12_45⟩ := fs7 hσ 1 3 4 5 6 11 12;simp [h1_44, h3_44, h4_44, h5_44, h6_44, h11_44] at h1_45 h3_45 h4_45 h5_45 h6_45 h11_45 h12_45;clear hσ;replace hH : H38 = H45 := Eq.symm hH;subst hH;have hms2 : g.mem (i + 1) r = g.mem i r := by rw [hms, if_neg (by omega), List.append_nil]
         refine ⟨_, ?_, i + 1, cg, rfl, (h1_45.trans h1_37.symm), (h3_45.trans h3_37.symm), (h4_45.trans h4_37.symm), (h5_45.trans h5_37.symm), (h6_45.trans h6_37.symm), (by simp [h11_45, hms2]), (by simp [h12_45, hms2]), (g0_38.trans g0_36.symm), (g1_38.trans g1_36.symm), (g2_38.trans g2_36.symm), (by simp [gm35_38, hms2]), (hst_38.trans hst_36.symm), ?_, ?_⟩
         ·subst hn4; omega
         ·first | omega | assumption | (simp; done)
         ·exact t2
       ·(try simp at hc98);have hie : i = g.nodes.length := by have := hc98; omega
        subst hie;refine awp_exit ?_;refine q_seq_exit ?_;refine q_loop_exit ?_;refine q_block_hit ?_;refine q_seq ?_;refine awp_ok fun hok => ?_;obtain ⟨m46, hn_m46⟩ : ∃ m, H38.n = m := ⟨_, rfl⟩;have hf_m46_0 := hok.free 0;simp [hn_m46, hst_38] at hf_m46_0;have nx11 := ne_get hf_m46_0 g0_38;have nx12 := ne_get hf_m46_0 g1_38;have nx13 := ne_get hf_m46_0 g2_38;have nx14 := ne_get hf_m46_0 gm35_38;refine stp_regl TT_ok (by rfl) fun K hK => ?_;simp [h5_39, h11_39, g0_38, g1_38, g2_38, gm35_38, hn_m46, hst_38, nx4, nx5, nx6, nx11, nx12, nx13, nx14, encG, hvl, show (j + 1) * 24 ≤ 140737488355328 by omega, show j ≤ 9223372036854775806 by omega];(try refine And.intro (by first|omega|rfl) ?_);refine hK _ _ fun σ47 hσ H47 hH => ?_;clear hK K;obtain ⟨h1_47, h3_47, h4_47, h5_47⟩ := fs4 hσ 1 3 4 5;simp [h1_39, h3_39, h4_39] at h1_47 h3_47 h4_47 h5_47;clear hσ;have g0_47 := gt_of hH 0;have g1_47 := gt_of hH 1;have g2_47 := gt_of hH 2;have gm35_47 := gt_of hH m35;have gm46_47 := gt_of hH m46;simp [g0_38, g1_38, g2_38, gm35_38, hn_m46, hst_38, nx4, nx5, nx6, nx11, nx12, nx13, nx14] at g0_47 g1_47 g2_47 gm35_47 gm46_47;have hst_47 := congrArg AHeap.st hH;simp [hst_38] at hst_47
        have kf : ∀ y, H38.get y ≠ none → y ≠ 2 → H47.get y = H38.get y := fun y hy h2 => by
         rw [hH]; have hjm : ¬ y = m46 := by { intro e; rw [e, hf_m46_0] at hy; exact hy rfl }
         simp [hn_m46, hjm, h2]
        clear hH;refine q_block ?_;refine ⟨_, ?_, j + 1, gn + 1, vs ++ [.sl m35 cg 0 (g.mem g.nodes.length r).length], bs.set r true, rfl, (h1_47.trans h1_6.symm), (h3_47.trans h3_6.symm), (h4_47.trans h4_6.symm), (by simp [h5_47, List.take_of_length_le, hvl]), (g0_47.trans g0_6.symm), (by simp [g1_47, List.take_of_length_le, hvl]), (by simp [g2_47, List.take_of_length_le, hvl]), (hst_47.trans hst_6.symm), ?_, ?_, ?_⟩
        ·subst hn1; omega
        ·first | omega | assumption | (simp; done)
        ·rw [hcs];refine RowsV.pushR (id := 0) (g := 0) (v := .nils) t2 (OwnR.mk (rest := []) gm35_47 (by simp) (by simp) (by omega)) fun i y g' n' h => ⟨kf y (t2.used h).1 (by have := (t2.used h).2; omega), fun g'' n'' e => by cases e; exact hfm _ _ _ _ h rfl⟩
        ·rw [listedL, ← r3, ← lsL_set r2, p3]
     ·skip;have hje : j = g.cedges.length := by omega
      rw [nxR_none hv (l := listedL g.cedges j) (by rw [hje]; exact listed_all hpr)] at h6_11;refine stp_reg TT_ok (by rfl) fun K hK => ?_;simp [h6_11, g0_10, g1_10, g2_10, encG];(try refine And.intro (by first|omega|rfl) ?_);refine hK _ _ fun σ48 hσ H48 hH => ?_;clear hK K;obtain ⟨h1_48, h3_48, h4_48, h5_48, h6_48, h88_48⟩ := fs6 hσ 1 3 4 5 6 88;simp [h1_11, h3_11, h4_11, h5_11, h6_11] at h1_48 h3_48 h4_48 h5_48 h6_48 h88_48;clear hσ;replace hH : H10 = H48 := Eq.symm hH;subst hH;refine stp_true (by simp [aeval_tmp, h88_48, encG]) ?_;refine stp_reg TT_ok (by rfl) fun K hK => ?_;simp [h5_48, g0_10, g1_10, g2_10, encG];(try refine And.intro (by first|omega|rfl) ?_);refine hK _ _ fun σ49 hσ H49 hH => ?_;clear hK K;have h2_49 := congrFun hσ 2;simp [] at h2_49;clear hσ;replace hH : H10 = H49 := Eq.symm hH;subst hH;refine awp_ret ?_;refine q_seq_ret ?_;refine q_block_ret ?_;refine q_loop_ret ?_;refine q_block_ret ?_;refine q_fin1 h2_49 ?_;have e : g.gcomps = cmpsL g j := by rw [hje]; simp [Gr.gcomps, hv, cmpsL, Gr.order]
      rw [e];exact p2b.frz g2_10 hvl.symm
theorem refComps_ok (g : Gr) : Fun1 Try.prog 29 [encG g] (encS g.gcomps) := fun1_frz (refComps0 g) (pu_cons (pu_graph g) pu_nil) (pu_encS _)
theorem far_ge {g : Gr} {i to : Int} (hi : i ≤ to) {k : Nat} {v : Int} (h : g.Far (fun x => i ≤ x) to k v) : i ≤ v := by
 have hw := h.1
 cases hw with
 | nil => exact hi
 | cons _ ha _ => exact ha
theorem nextFrom_congr {g h : Gr} {d : List Int} {a : Int} : ∀ {m j : Nat}, (∀ x, j ≤ x → x < j + m → g.onward d a x = h.onward d a x) → g.nextFrom d a m j = h.nextFrom d a m j
 | 0, j, _ => rfl
 | m + 1, j, hx => by
  simp only [Gr.nextFrom]
  rw [hx j (Nat.le_refl _) (by omega), nextFrom_congr (m := m) (j := j + 1) fun x h1 h2 => hx x (by omega) (by omega)]
theorem way_sub {g : Gr} (hv : g.valid = true) {i : Int} {to : Int} (hi : i ≤ to) {d : List Int} (hd : IsDist g (fun x => i ≤ x) to d) : ∀ {n : Nat} {a : Int}, inR g.nodes.length a → g.Far (fun x => i ≤ x) to n a → (g.sub i).way d n a = g.way d n a
 | 0, a, _, _ => rfl
 | n + 1, a, ha, hf => by
  have hnx : (g.sub i).next d a = g.next d a := by
   refine nextFrom_congr fun x _ hx => ?_
   have hx2 : x < g.nodes.length := by have : x < 0 + (g.sub i).nodes.length := hx; simpa [Gr.sub] using this
   have h2 := hd.all a.toNat (n + 1) (in_toNat ha) (by rw [toNat_cast ha]; exact hf)
   simp only [Gr.onward]
   cases hdd : decide (d.getD x 0 = d.getD a.toNat 0 - 1) with
   | false => rfl
   | true =>
    simp only [decide_eq_true_eq, List.getD_eq_getElem?_getD, h2, Option.getD_some] at hdd
    have hxl : x < d.length := by rw [hd.len]; exact hx2
    rw [List.getElem?_eq_getElem hxl] at hdd
    simp only [Option.getD_some] at hdd
    simp only [Bool.true_and]
    rw [Bool.eq_iff_iff, hasEdge_iff, hasEdge_iff, sub_edge]
    refine ⟨fun h => h.1, fun h => ⟨h, far_ge hi hf, ?_⟩⟩
    rcases hd.val x _ (List.getElem?_eq_getElem hxl) with q | ⟨j, q, hj⟩
    ·omega
    ·exact far_ge hi hj
  obtain ⟨x, h1, h2, h3, h4, h5⟩ := next_far' hv hd ha hf
  rw [Gr.way, Gr.way, hnx, h1, way_sub hv hi hd ⟨by omega, by omega⟩ h5]
def tgE (g : Gr) (i m : Nat) : List Int := ((List.range' i m).filter fun k => g.hasEdge i (k : Nat)).map fun k : Nat => (k : Int)
theorem tgE_succ (g : Gr) (i m : Nat) : tgE g i (m + 1) = tgE g i m ++ if g.hasEdge i ((i + m : Nat) : Int) = true then [((i + m : Nat) : Int)] else [] := by
 rw [tgE, tgE, List.range'_1_concat, List.filter_append, List.map_append]
 congr 1
 rw [List.filter_cons, List.filter_nil]
 cases h : g.hasEdge i ((i + m : Nat) : Int) <;> rfl
theorem tgE_lt {g : Gr} {i m : Nat} {x : Int} (h : x ∈ tgE g i m) : (i : Int) ≤ x ∧ x < i + m := by
 obtain ⟨k, hk, rfl⟩ := List.mem_map.1 h
 have := List.mem_range'_1.1 (List.mem_filter.1 hk).1
 omega
theorem geL_tgE {g : Gr} {i : Nat} (h : i ≤ g.nodes.length) : geL i (g.succ i) = tgE g i (g.nodes.length - i) := by
 simp only [geL, Gr.succ, tgE, List.filter_map, List.filter_filter]
 congr 1
 have e : List.range g.nodes.length = List.range' 0 i ++ List.range' i (g.nodes.length - i) := by
  rw [List.range_eq_range']
  have := List.range'_append_1 (s := 0) (m := i) (n := g.nodes.length - i)
  rw [Nat.zero_add, show i + (g.nodes.length - i) = g.nodes.length by omega] at this
  exact this.symm
 rw [e, List.filter_append]
 have h1 : (List.range' 0 i).filter (fun a => (((fun x => decide ((i : Int) ≤ x)) ∘ fun k : Nat => (k : Int)) a) && g.hasEdge i (a : Nat)) = [] := by
  rw [List.filter_eq_nil_iff]
  intro a ha
  have := (List.mem_range'_1.1 ha).2
  have h2 : ¬ (i : Int) ≤ (a : Int) := by omega
  simp [h2]
 have h2 : (List.range' i (g.nodes.length - i)).filter (fun a => (((fun x => decide ((i : Int) ≤ x)) ∘ fun k : Nat => (k : Int)) a) && g.hasEdge i (a : Nat)) = (List.range' i (g.nodes.length - i)).filter fun k => g.hasEdge i (k : Nat) := by
  refine List.filter_congr fun a ha => ?_
  have := (List.mem_range'_1.1 ha).1
  have h2 : (i : Int) ≤ (a : Int) := by omega
  simp [h2]
 rw [h1, h2, List.nil_append]
def rcand (g : Gr) (i k : Nat) : List Int := if (g.sub i).hasEdge i k = true then (if (g.sub i).path k i = [] then [] else (i : Int) :: ((g.sub i).path k i).dropLast) else []
def rc1 (g : Gr) (i : Nat) (best : List Int) (k : Nat) : List Int := if rcand g i k = [] then best else if best = [] ∨ lessL (rcand g i k) best = true then rcand g i k else best
def rcI (g : Gr) (i : Nat) (best : List Int) (m : Nat) : List Int := (List.range' i m).foldl (rc1 g i) best
theorem rcI_succ (g : Gr) (i : Nat) (best : List Int) (m : Nat) : rcI g i best (m + 1) = rc1 g i (rcI g i best m) (i + m) := by
 rw [rcI, List.range'_1_concat, List.foldl_append]; rfl
def Gr.rcyc (g : Gr) (i : Nat) : List Int := (List.range i).foldl (fun best i => rcI g i best (g.nodes.length - i)) []
theorem rcyc_succ (g : Gr) (i : Nat) : g.rcyc (i + 1) = rcI g i (g.rcyc i) (g.nodes.length - i) := by rw [Gr.rcyc, List.range_succ, List.foldl_append]; rfl
theorem gt_at {l : List Int} {k : Nat} (h : k < l.length) : gt l (k : Int) = l[k] := by simp [gt, h]
theorem rcand_eq {g : Gr} (hv : g.valid = true) {i k : Nat} (hi : i < g.nodes.length) (hk : k < g.nodes.length) (hik : i ≤ k) :
  rcand g i k = if g.hasEdge i k = true ∧ 0 ≤ gt ((g.sub i).dist i) k then (i : Int) :: (g.way ((g.sub i).dist i) (gt ((g.sub i).dist i) k).toNat k).dropLast else [] := by
 have hD := dist_sub hv (Int.le_refl (i : Int)) (show inR g.nodes.length (i : Int) from ⟨by omega, by omega⟩)
 have hsv := sub_valid hv (i : Int)
 obtain ⟨far, hfar⟩ : ∃ far, (g.sub i).dist i = far := ⟨_, rfl⟩
 rw [hfar] at hD ⊢
 have he : (g.sub i).hasEdge i k = g.hasEdge i k := by
  rw [Bool.eq_iff_iff, hasEdge_iff, hasEdge_iff, sub_edge]
  exact ⟨fun h => h.1, fun h => ⟨h, Int.le_refl _, by omega⟩⟩
 have hex : (g.sub i).exist [(k : Int), (i : Int)] = true := by
  rw [exist_iff]
  refine ⟨fun x hx => ?_, hsv⟩
  simp only [List.mem_cons, List.not_mem_nil, or_false] at hx
  rcases hx with rfl | rfl
  ·exact ⟨by omega, by simp [Gr.sub]; omega⟩
  ·exact ⟨by omega, by simp [Gr.sub]; omega⟩
 have hkl : k < far.length := by rw [hD.len]; exact hk
 have hg : far.getD k 0 = gt far k := rfl
 have hp : (g.sub i).path k i = if gt far k < 0 then [] else (g.sub i).way far (gt far k).toNat k := by
  simp only [Gr.path, hex, if_true, hfar, Int.toNat_natCast, hg]
 rw [rcand, he, hp]
 by_cases h1 : g.hasEdge i k = true
 ·by_cases h2 : 0 ≤ gt far k
  ·have h3 : ¬ gt far k < 0 := by omega
   obtain ⟨n, hn, hf⟩ : ∃ n : Nat, gt far k = n ∧ g.Far (fun x => (i : Int) ≤ x) i n k := by
    rcases hD.val k _ (List.getElem?_eq_getElem hkl) with q | ⟨n, q, hf⟩
    ·rw [gt_at hkl] at h2; omega
    ·exact ⟨n, by rw [gt_at hkl]; exact q, hf⟩
   have hws := way_sub hv (Int.le_refl (i : Int)) hD (n := n) (a := (k : Int)) ⟨by omega, by omega⟩ hf
   have h4 : g.way far n k ≠ [] := by rw [way_head]; simp
   rw [if_neg h3, hn, Int.toNat_natCast, hws, if_neg h4, if_pos h1, if_pos ⟨h1, by omega⟩]
  ·have h3 : gt far k < 0 := by omega
   have h4 : ¬ (g.hasEdge i k = true ∧ 0 ≤ gt far k) := fun h => h2 h.2
   rw [if_pos h3, if_pos rfl, if_pos h1, if_neg h4]
 ·rw [if_neg h1, if_neg (fun h => h1 h.1)]
theorem cand_len (g : Gr) (far : List Int) (i : Int) (n : Nat) (k : Int) : (i :: (g.way far n k).dropLast).length = n + 1 := by
 rw [List.length_cons, List.length_dropLast, way_len]; rfl
theorem cand_second {g : Gr} {far : List Int} {n : Nat} {k : Int} : ∃ l, (g.way far (n + 1) k).dropLast = k :: l := by
 rw [Gr.way, way_head]
 exact ⟨_, rfl⟩
theorem rcI_pick {g : Gr} (hv : g.valid = true) {i : Nat} (hi : i < g.nodes.length) {best : List Int} (hb : best = [] ∨ ∃ a l, best = a :: l ∧ a < (i : Int)) : ∀ m, m ≤ g.nodes.length - i →
  rcI g i best m = if (pickC ((g.sub i).dist i) (tgE g i m)).1 < 0 ∨ (best ≠ [] ∧ (pickC ((g.sub i).dist i) (tgE g i m)).2 + 1 ≥ best.length) then best
   else (i : Int) :: (g.way ((g.sub i).dist i) (pickC ((g.sub i).dist i) (tgE g i m)).2.toNat (pickC ((g.sub i).dist i) (tgE g i m)).1).dropLast
 | 0, _ => by
  rw [if_pos (.inl (by show (-1 : Int) < 0; omega))]; rfl
 | m + 1, hm => by
  have ih := rcI_pick hv hi hb m (by omega)
  have hD := dist_sub hv (Int.le_refl (i : Int)) (show inR g.nodes.length (i : Int) from ⟨by omega, by omega⟩)
  have hc := rcand_eq hv hi (k := i + m) (by omega) (by omega)
  have hpo := pickC_ok ((g.sub i).dist i) (tgE g i m)
  have hlt : ∀ x ∈ tgE g i m, (i : Int) ≤ x ∧ x < i + m := fun x hx => tgE_lt hx
  rw [rcI_succ, tgE_succ, ih]
  obtain ⟨far, hfar⟩ : ∃ far, (g.sub i).dist i = far := ⟨_, rfl⟩
  rw [hfar] at hD hc hpo ⊢
  obtain ⟨ks, hks⟩ : ∃ ks, tgE g i m = ks := ⟨_, rfl⟩
  rw [hks] at hpo hlt ⊢
  obtain ⟨nx, ln, hs⟩ : ∃ nx ln, pickC far ks = (nx, ln) := ⟨_, _, rfl⟩
  rw [hs] at hpo ⊢
  obtain ⟨x, hx⟩ : ∃ x : Int, ((i + m : Nat) : Int) = x := ⟨_, rfl⟩
  have hxl : (i + m) < far.length := by rw [hD.len]; omega
  have hx0 : 0 ≤ x := by omega
  by_cases h1 : g.hasEdge i x = true
  ·rw [hx, if_pos h1, pickC_snoc, hs]
   by_cases h2 : 0 ≤ gt far x
   ·obtain ⟨n, hn⟩ : ∃ n : Nat, gt far x = n := ⟨(gt far x).toNat, by omega⟩
    obtain ⟨C, hC⟩ : ∃ C, (i : Int) :: (g.way far n x).dropLast = C := ⟨_, rfl⟩
    have hcx : rcand g i (i + m) = C := by rw [hc, hx, if_pos ⟨h1, h2⟩, hn, Int.toNat_natCast, hC]
    have hCl : C.length = n + 1 := by rw [← hC]; exact cand_len ..
    have hC0 : C ≠ [] := by rw [← hC]; simp
    have hold : best ≠ [] → lessL C best = decide (n + 1 < best.length) := by
     intro hbn
     obtain ⟨a, l, hal, hai⟩ := hb.resolve_left hbn
     rw [lessL, hCl]
     split
     ·rename_i he
      rw [decide_eq_false (p := n + 1 < best.length) (by omega), ← hC, hal, lexL, if_neg (by omega), decide_eq_false (by omega)]
     ·rfl
    rw [rc1, hcx, if_neg hC0]
    simp only
    have hpT : nx < 0 ∨ (n : Int) < ln → pstep far (nx, ln) x = (x, (n : Int)) := fun hp => by rw [pstep, hn, if_pos ⟨by omega, hp⟩]
    have hpF : ¬ (nx < 0 ∨ (n : Int) < ln) → pstep far (nx, ln) x = (nx, ln) := fun hp => by rw [pstep, hn, if_neg (fun h => hp h.2)]
    by_cases hA : nx < 0 ∨ (best ≠ [] ∧ ln + 1 ≥ best.length)
    ·rw [if_pos hA]
     by_cases hp : nx < 0 ∨ (n : Int) < ln
     ·rw [hpT hp]
      simp only [Int.toNat_natCast]
      by_cases hbn : best = []
      ·rw [if_pos (.inl hbn), if_neg (by rintro (h | h); omega; exact h.1 hbn), hC]
      ·rw [hold hbn]
       by_cases hl : n + 1 < best.length
       ·rw [if_pos (.inr (by simpa using hl)), if_neg (by rintro (h | h); omega; omega), hC]
       ·rw [if_neg (by rintro (h | h); exact hbn h; simp at h; omega), if_pos (.inr ⟨hbn, by omega⟩)]
     ·rw [hpF hp]
      simp only
      rw [if_pos hA]
      obtain ⟨hbn, hln⟩ := hA.resolve_left (fun h => hp (.inl h))
      rw [hold hbn, if_neg (by rintro (h | h); exact hbn h; simp at h; omega)]
    ·rw [if_neg hA]
     have hnx : ¬ nx < 0 := fun h => hA (.inl h)
     have hpo2 : nx ∈ ks ∧ ln = gt far nx ∧ 0 ≤ ln := by
      rcases hpo with h | h
      ·exfalso; have := congrArg Prod.fst h; simp at this; omega
      ·exact h
     obtain ⟨q1, q2, q3⟩ := hpo2
     obtain ⟨z1, z2⟩ := hlt nx q1
     obtain ⟨k, hk⟩ : ∃ k : Nat, ln = k := ⟨ln.toNat, by omega⟩
     subst hk
     simp only [Int.toNat_natCast]
     obtain ⟨D, hDd⟩ : ∃ D, (i : Int) :: (g.way far k nx).dropLast = D := ⟨_, rfl⟩
     have hDl : D.length = k + 1 := by rw [← hDd]; exact cand_len ..
     have hD0 : D ≠ [] := by rw [← hDd]; simp
     rw [hDd]
     have hless : lessL C D = decide (n < k) := by
      rw [lessL, hCl, hDl]
      split
      ·rename_i he
       have hnk : n = k := by omega
       subst hnk
       rw [decide_eq_false (by omega), ← hC, ← hDd, lexL, if_pos rfl]
       cases n with
       | zero => rfl
       | succ n =>
        obtain ⟨l1, e1⟩ := cand_second (g := g) (far := far) (n := n) (k := x)
        obtain ⟨l2, e2⟩ := cand_second (g := g) (far := far) (n := n) (k := nx)
        rw [e1, e2, lexL, if_neg (by omega), decide_eq_false (by omega)]
      ·rw [Bool.eq_iff_iff]; simp
     rw [hless]
     by_cases hp : n < k
     ·rw [if_pos (.inr (by simpa using hp)), hpT (.inr (by omega))]
      simp only [Int.toNat_natCast]
      rw [if_neg (by rintro (h | ⟨h, h'⟩); omega; exact hA (.inr ⟨h, by omega⟩)), hC]
     ·rw [if_neg (by rintro (h | h); exact hD0 h; simp at h; omega), hpF (by rintro (h | h); exact hnx h; omega)]
      simp only [Int.toNat_natCast]
      rw [if_neg hA, hDd]
   ·have hcx : rcand g i (i + m) = [] := by rw [hc, hx, if_neg (fun h => h2 h.2)]
    have hps : pstep far (nx, ln) x = (nx, ln) := by rw [pstep, if_neg (fun h => h2 h.1)]
    rw [rc1, hcx, if_pos rfl, hps]
  ·have hcx : rcand g i (i + m) = [] := by rw [hc, hx, if_neg (fun h => h1 h.1)]
   rw [rc1, hcx, if_pos rfl, hx, if_neg h1, List.append_nil, hs]
theorem cstep_head {g : Gr} {best : List Int} {i : Nat} (hb : best = [] ∨ ∃ a l, best = a :: l ∧ a < (i : Int)) : g.cstep best i = [] ∨ ∃ a l, g.cstep best i = a :: l ∧ a < ((i + 1 : Nat) : Int) := by
 rw [Gr.cstep]
 split
 ·rcases hb with h | ⟨a, l, h1, h2⟩
  ·exact .inl h
  ·exact .inr ⟨a, l, h1, by omega⟩
 ·exact .inr ⟨_, _, rfl, by omega⟩
theorem pcyc_head (g : Gr) : ∀ i, g.pcyc i = [] ∨ ∃ a l, g.pcyc i = a :: l ∧ a < (i : Int)
 | 0 => .inl rfl
 | i + 1 => by rw [pcyc_succ]; exact cstep_head (pcyc_head g i)
theorem rcyc_eq {g : Gr} (hv : g.valid = true) : ∀ i, i ≤ g.nodes.length → g.rcyc i = g.pcyc i
 | 0, _ => rfl
 | i + 1, h => by
  rw [rcyc_succ, pcyc_succ, rcyc_eq hv i (by omega), rcI_pick hv (by omega) (pcyc_head g i) _ (Nat.le_refl _), Gr.cstep, geL_tgE (by omega)]
theorem edge_w (g : Gr) (a b : Int) (hg : g.edges.length ≤ 1000000) : FunW Try.prog 49 [encG g, (AV.int IntKind.i64) a, (AV.int IntKind.i64) b] (.bool (g.hasEdge a b)) :=
 funW_pure (edge0 g a b hg) (pu_cons (pu_graph _) (pu_cons (pu_int _ _) (pu_cons (pu_int _ _) pu_nil))) (.bool _) (.bool _)
theorem path_len25 {g : Gr} {a b : Int} : (g.path a b).length ≤ g.nodes.length := by
 rw [Gr.path]
 by_cases he : g.exist [a, b] = true
 ·obtain ⟨h1, hv⟩ := exist_iff.1 he;have ha := h1 a (by simp);have hD := dist_is hv (h1 b (by simp));have hal : a.toNat < (g.dist b).length := by rw [hD.len]; exact in_toNat ha
  rw [if_pos he]
  by_cases hn : (g.dist b).getD a.toNat 0 < 0
  ·rw [if_pos hn]; exact Nat.zero_le _
  ·rw [if_neg hn, way_len];have hg : (g.dist b).getD a.toNat 0 = (g.dist b)[a.toNat] := by rw [List.getD_eq_getElem?_getD, List.getElem?_eq_getElem hal]; rfl
   rcases hD.val a.toNat _ (List.getElem?_eq_getElem hal) with q | ⟨n, q, hf⟩
   ·rw [hg, q] at hn; omega
   ·rw [toNat_cast ha] at hf;have := hf.lt hv ha;rw [hg, q]; omega
 ·rw [if_neg he]; exact Nat.zero_le _
theorem path_self25 {g : Gr} {a : Int} (he : g.exist [a, a] = true) : g.path a a = [a] := by
 obtain ⟨h1, hv⟩ := exist_iff.1 he;have ha := h1 a (by simp);have hD := dist_is hv ha;have h0 := hD.all a.toNat 0 (in_toNat ha) (by rw [toNat_cast ha]; exact g.far_to _ _);have hg : (g.dist a).getD a.toNat 0 = 0 := by rw [List.getD_eq_getElem?_getD, h0]; rfl
 rw [Gr.path, if_pos he, hg]; rfl
theorem refPath_w (g : Gr) (a b : Int) (hg : g.edges.length ≤ 1000000) : FunW Try.prog 16 [encG g, (AV.int IntKind.i64) a, (AV.int IntKind.i64) b] (.ro ((g.path a b).map (AV.int IntKind.i64))) :=
 funW_rowN (path0 g a b hg) (pu_cons (pu_graph _) (pu_cons (pu_int _ _) (pu_cons (pu_int _ _) pu_nil))) (fun _ => pu_of_ints) (fun _ => scal_ints) (fun _ => one_ints)
theorem less_w (a b : List Int) (ha : a.length ≤ 1000000) (hb : b.length ≤ 1000000) : FunW Try.prog 53 [.ro (a.map (AV.int IntKind.i64)), .ro (b.map (AV.int IntKind.i64))] (.bool (lessL a b)) :=
 funW_pure (less0 a b ha hb) (pu_cons (pu_ints _) (pu_cons (pu_ints _) pu_nil)) (.bool _) (.bool _)
theorem rcand_len25 (g : Gr) (i k : Nat) : (rcand g i k).length ≤ g.nodes.length + 1 := by
 have h := path_len25 (g := g.sub i) (a := k) (b := i);have h2 : (g.sub (i : Int)).nodes.length = g.nodes.length := rfl;rw [rcand]
 split
 ·split
  ·simp
  ·simp only [List.length_cons, List.length_dropLast]; omega
 ·simp
theorem rcI_len25 (g : Gr) (i : Nat) {best : List Int} (hb : best.length ≤ g.nodes.length + 1) : ∀ m, (rcI g i best m).length ≤ g.nodes.length + 1
 | 0 => hb
 | m + 1 => by
  rw [rcI_succ, rc1];have h1 := rcI_len25 g i hb m;have h2 := rcand_len25 g i (i + m)
  split
  ·exact h1
  ·split
   ·exact h2
   ·exact h1
theorem rcyc_len25 (g : Gr) : ∀ i, (g.rcyc i).length ≤ g.nodes.length + 1
 | 0 => by simp [Gr.rcyc]
 | i + 1 => by rw [rcyc_succ]; exact rcI_len25 g i (rcyc_len25 g i) _
def SlV (b : List Int) (bv : AV) (H : AHeap) : Prop := ∃ id gn rest, bv = AV.sl id gn 0 b.length ∧ H.get id = some (.row 3 1 gn (b.map (AV.int IntKind.i64) ++ rest))
theorem SlV.keep {b : List Int} {bv : AV} {H H' : AHeap} (h : SlV b bv H) (hk : ∀ j, H.get j ≠ none → H'.get j = H.get j) : SlV b bv H' := by
 obtain ⟨id, gn, rest, h1, h2⟩ := h;exact ⟨id, gn, rest, h1, by rw [hk id (by rw [h2]; simp)]; exact h2⟩
theorem SlV.frz {b : List Int} {bv : AV} {H : AHeap} (h : SlV b bv H) : Frz H bv (.ro (b.map (AV.int IntKind.i64))) := by
 obtain ⟨id, gn, rest, h1, h2⟩ := h;exact OwnR.frz (e := 3) (sz := 1) (lo := 0) (.inr ⟨id, gn, rest, by rw [h1]; simp, h2, Nat.zero_le _⟩) (fun _ => pu_of_ints) (fun _ => one_ints)
def subP (i : Nat) (e : Int × Int) : Bool := decide ((i : Int) ≤ e.1) && decide ((i : Int) ≤ e.2)
theorem sub_take_succ {es : List (Int × Int)} {i k : Nat} (h : k < es.length) : (es.take (k + 1)).filter (subP i) = (es.take k).filter (subP i) ++ if subP i es[k] = true then [es[k]] else [] := by
 rw [List.take_succ_eq_append_getElem h, List.filter_append]
 congr 1
 cases hp : subP i es[k] <;> simp [hp]
set_option maxHeartbeats 1000000 in
theorem refCyc0 (g : Gr) : ACalls Try.prog 22 [encG g] AHeap.nil (fun r H => Frz H r (.ro (g.pcycle.map (AV.int IntKind.i64)))) := by
 refine acalls_body TT_ok Try.func22 rfl rfl (by simp [Try.ntmps22]) ?_;rw [Try.ntmps22];obtain ⟨σ, hσ⟩ : ∃ σ, σ = st0 [encG g] := ⟨_, rfl⟩;rw [← hσ];have h0_0 := congrFun hσ 0;simp [st0] at h0_0;clear hσ;obtain ⟨H, hH⟩ : ∃ H, H = AHeap.nil := ⟨_, rfl⟩;rw [← hH];have hn_0 : H.n = 0 := by rw [hH]; rfl
 have hst_0 : H.st = 1 := by rw [hH]; rfl
 clear hH;refine stp_reg TT_ok (by rfl) fun K hK => ?_;simp [h0_0, hn_0, hst_0, encG];(try refine And.intro (by first|omega|rfl) ?_);refine hK _ _ fun σ1 hσ H1 hH => ?_;clear hK K;have h1_1 := congrFun hσ 1;simp [] at h1_1;clear hσ;have g0_1 := gt_of hH 0;simp [hn_0, hst_0] at g0_1;have hn_1 := congrArg AHeap.n hH;simp [hn_0, hst_0] at hn_1;have hst_1 := congrArg AHeap.st hH;simp [hn_0, hst_0] at hst_1;clear hH;refine awp_seq ?_;refine stp_reg TT_ok (by rfl) fun K hK => ?_;simp [h1_1, g0_1, encG];(try refine And.intro (by first|omega|rfl) ?_);refine stp_call (refValid_ok g) ?_;simp [h1_1, g0_1, encG];(try refine And.intro (by first|omega|rfl) ?_);refine hK _ _ fun σ2 hσ H2 hH => ?_;clear hK K;obtain ⟨h1_2, h11_2⟩ := fs2 hσ 1 11;simp [h1_1] at h1_2 h11_2;clear hσ;replace hH : H1 = H2 := Eq.symm hH;subst hH;refine awp_cond _ (by simp only [aeval_tmp]; exact h11_2) (fun hc11 => ?_) (fun hc11 => ?_)
 ·(try simp at hc11);refine stp_reg TT_ok (by rfl) fun K hK => ?_;simp [g0_1, encG];(try refine And.intro (by first|omega|rfl) ?_);refine hK _ _ fun σ3 hσ H3 hH => ?_;clear hK K;have h2_3 := congrFun hσ 2;simp [] at h2_3;clear hσ;replace hH : H1 = H3 := Eq.symm hH;subst hH;refine awp_ret ?_;refine q_seq_ret ?_;refine q_fin1 h2_3 ?_;rw [show g.pcycle = [] by simp [Gr.pcycle, hc11]]; exact .nils
 ·(try simp at hc11);have hv : g.valid = true := by simpa using hc11
  obtain ⟨hb1, hb2⟩ := valid_nodes hv;refine awp_skip ?_;refine q_seq ?_;refine stp_reg TT_ok (by rfl) fun K hK => ?_;simp [g0_1, hn_1, hst_1, encG];(try refine And.intro (by first|omega|rfl) ?_);refine hK _ _ fun σ4 hσ H4 hH => ?_;clear hK K;obtain ⟨h1_4, h3_4⟩ := fs2 hσ 1 3;simp [h1_2] at h1_4 h3_4;clear hσ;have g0_4 := gt_of hH 0;have g1_4 := gt_of hH 1;simp [g0_1, hn_1, hst_1] at g0_4 g1_4;have hn_4 := congrArg AHeap.n hH;simp [hn_1, hst_1] at hn_4;have hst_4 := congrArg AHeap.st hH;simp [hn_1, hst_1] at hst_4;clear hH;refine awp_seq ?_;refine stp_reg TT_ok (by rfl) fun K hK => ?_;simp [g0_4, g1_4, encG];(try refine And.intro (by first|omega|rfl) ?_);refine hK _ _ fun σ5 hσ H5 hH => ?_;clear hK K;obtain ⟨h1_5, h3_5, h4_5⟩ := fs3 hσ 1 3 4;simp [h1_4, h3_4] at h1_5 h3_5 h4_5;clear hσ;replace hH : H4 = H5 := Eq.symm hH;subst hH;refine awp_block ?_;refine awp_loopV (fun n σ' H' => ∃ (i : Nat) (bv : AV), n = g.nodes.length - i ∧ σ' 1 = σ5 1 ∧ σ' 3 = bv ∧ σ' 4 = (AV.int IntKind.i64) i ∧ H'.get 0 = H4.get 0 ∧ H'.get 1 = H4.get 1 ∧ H'.st = H4.st ∧ (i ≤ g.nodes.length) ∧ (SlV (g.rcyc i) bv H')) ?_ ?_
  ·refine ⟨_, 0, .sl 1 0 0 0, rfl, rfl, (by simp [h3_5]), (by simp [h4_5]), rfl, rfl, rfl, ?_, ?_⟩
   ·first | omega | (simp; done) | assumption
   ·exact ⟨1, 0, [], rfl, by rw [g1_4]; rfl⟩
  ·rintro n1 σ6 H6 ⟨i, bv, hn1, q1_6, h3_6, h4_6, qg0_6, qg1_6, qst_6, p1, p2⟩
   have h1_6 := q1_6.trans h1_5;have g0_6 := qg0_6.trans g0_4;have g1_6 := qg1_6.trans g1_4;have hst_6 := qst_6.trans hst_4;refine awp_seq ?_;refine stp_reg TT_ok (by rfl) fun K hK => ?_;simp [h1_6, h4_6, g0_6, g1_6, encG];(try refine And.intro (by first|omega|rfl) ?_);refine hK _ _ fun σ7 hσ H7 hH => ?_;clear hK K;obtain ⟨h1_7, h3_7, h4_7, h17_7⟩ := fs4 hσ 1 3 4 17;simp [h1_6, h3_6, h4_6] at h1_7 h3_7 h4_7 h17_7;clear hσ;replace hH : H6 = H7 := Eq.symm hH;subst hH;refine awp_cond _ (by simp only [aeval_tmp]; exact h17_7) (fun hc17 => ?_) (fun hc17 => ?_)
   ·(try simp at hc17);have hlt : i < g.nodes.length := by simpa using hc17
    obtain ⟨Hc, hHc⟩ : ∃ Hc, Hc = H6 := ⟨_, rfl⟩;have s0 := p2;rw [← hHc] at s0;have k0 : ∀ j, Hc.get j ≠ none → H6.get j = Hc.get j := fun j _ => by rw [hHc]
    refine awp_skip ?_;refine q_seq ?_;refine awp_seq ?_;refine awp_block ?_;refine awp_ok fun hok => ?_;obtain ⟨m8, hn_m8⟩ : ∃ m, H6.n = m := ⟨_, rfl⟩;have hf_m8_0 := hok.free 0;simp [hn_m8, hst_6] at hf_m8_0;have nx1 := ne_get hf_m8_0 g0_6;have nx2 := ne_get hf_m8_0 g1_6;refine stp_reg TT_ok (by rfl) fun K hK => ?_;simp [h1_7, g0_6, g1_6, hn_m8, hst_6, nx1, nx2, encG];(try refine And.intro (by first|omega|rfl) ?_);refine hK _ _ fun σ9 hσ H9 hH => ?_;clear hK K;obtain ⟨h1_9, h3_9, h4_9, h5_9⟩ := fs4 hσ 1 3 4 5;simp [h1_7, h3_7, h4_7] at h1_9 h3_9 h4_9 h5_9;clear hσ;have g0_9 := gt_of hH 0;have g1_9 := gt_of hH 1;have gm8_9 := gt_of hH m8;simp [g0_6, g1_6, hn_m8, hst_6, nx1, nx2] at g0_9 g1_9 gm8_9;have hst_9 := congrArg AHeap.st hH;simp [hst_6] at hst_9
    have k1 : ∀ j, Hc.get j ≠ none → H9.get j = Hc.get j := fun j hj => by
     have hq := k0 j hj;have hj0 : ¬ j = m8 := by { intro e; rw [← hq, e, hf_m8_0] at hj; exact hj rfl }
     rw [hH]; simp [hn_m8, hst_6, hj0]; exact hq
    have hz1 : Hc.get m8 = none := by
     cases hq : Hc.get m8 with
     | none => rfl
     | some b => have h5 := k0 m8 (by rw [hq]; simp); rw [hf_m8_0, hq] at h5; cases h5
    clear hH;refine awp_seq ?_;refine stp_reg TT_ok (by rfl) fun K hK => ?_;simp [g0_9, g1_9, gm8_9, nx1, nx2, encG];(try refine And.intro (by first|omega|rfl) ?_);refine hK _ _ fun σ10 hσ H10 hH => ?_;clear hK K;obtain ⟨h1_10, h3_10, h4_10, h5_10, h6_10⟩ := fs5 hσ 1 3 4 5 6;simp [h1_9, h3_9, h4_9, h5_9] at h1_10 h3_10 h4_10 h5_10 h6_10;clear hσ;replace hH : H9 = H10 := Eq.symm hH;subst hH;refine awp_block ?_;refine awp_loopV (fun n σ' H' => ∃ (k : Nat) (v : AV), n = g.edges.length - k ∧ σ' 1 = σ10 1 ∧ σ' 3 = σ10 3 ∧ σ' 4 = σ10 4 ∧ σ' 5 = σ10 5 ∧ σ' 6 = (AV.int IntKind.i64) k ∧ H'.get 0 = H9.get 0 ∧ H'.get 1 = H9.get 1 ∧ H'.get m8 = some (.row 25 2 0 [.agg [.ro (g.nodes.map .str), v]]) ∧ H'.st = H9.st ∧ (k ≤ g.edges.length) ∧ (OwnR 39 2 2 (((g.edges.take k).filter (subP i)).map encE) v H') ∧ (∀ j, Hc.get j ≠ none → H'.get j = Hc.get j) ∧ (∀ id g n : Nat, v = AV.sl id g 0 n → Hc.get id = none ∧ id ≠ m8)) ?_ ?_
    ·refine ⟨_, 0, .nils, rfl, rfl, rfl, rfl, rfl, (by simp [h6_10]), rfl, rfl, (by simp [gm8_9]), rfl, ?_, ?_, ?_, ?_⟩
     ·first | omega | (simp; done) | assumption
     ·exact .inl ⟨rfl, by simp⟩
     ·exact k1
     ·intro id g n e; cases e
    ·rintro n2 σ11 H11 ⟨k, v, hn2, q1_11, q3_11, q4_11, q5_11, h6_11, qg0_11, qg1_11, gm8_11, qst_11, q1, q2, q3, q4⟩
     have h1_11 := q1_11.trans h1_10;have h3_11 := q3_11.trans h3_10;have h4_11 := q4_11.trans h4_10;have h5_11 := q5_11.trans h5_10;have g0_11 := qg0_11.trans g0_9;have g1_11 := qg1_11.trans g1_9;have hst_11 := qst_11.trans hst_9;refine awp_seq ?_;refine stp_reg TT_ok (by rfl) fun K hK => ?_;simp [h1_11, h6_11, g0_11, g1_11, gm8_11, nx1, nx2, encG];(try refine And.intro (by first|omega|rfl) ?_);refine hK _ _ fun σ12 hσ H12 hH => ?_;clear hK K;obtain ⟨h1_12, h3_12, h4_12, h5_12, h6_12, h27_12⟩ := fs6 hσ 1 3 4 5 6 27;simp [h1_11, h3_11, h4_11, h5_11, h6_11] at h1_12 h3_12 h4_12 h5_12 h6_12 h27_12;clear hσ;replace hH : H11 = H12 := Eq.symm hH;subst hH;refine awp_cond _ (by simp only [aeval_tmp]; exact h27_12) (fun hc27 => ?_) (fun hc27 => ?_)
     ·(try simp at hc27);have hkt : k < g.edges.length := by simpa using hc27
      have hge : (g.edges.map encE)[k]? = some (encE g.edges[k]) := by simp [hkt]
      have hst := sub_take_succ (i := i) hkt
      have hfl : (((g.edges.take k).filter (subP i)).map encE).length ≤ 4096 := by
       have := List.length_filter_le (subP i) (g.edges.take k);rw [List.length_map]; rw [List.length_take] at this; omega
      obtain ⟨es, hes⟩ : ∃ es, ((g.edges.take k).filter (subP i)).map encE = es := ⟨_, rfl⟩;rw [hes] at hfl q2;refine awp_skip ?_;refine q_seq ?_;refine awp_seq ?_;refine awp_block ?_
      by_cases f1 : (i : Int) ≤ g.edges[k].1
      ·skip
       by_cases f2 : (i : Int) ≤ g.edges[k].2
       ·skip;refine stp_reg TT_ok (by rfl) fun K hK => ?_;simp [h1_12, h4_12, h6_12, g0_11, g1_11, gm8_11, nx1, nx2, f1, f2, encG, hge, hkt, encE];(try refine And.intro (by first|omega|rfl) ?_);refine hK _ _ fun σ13 hσ H13 hH => ?_;clear hK K;obtain ⟨h1_13, h3_13, h4_13, h5_13, h6_13, h47_13⟩ := fs6 hσ 1 3 4 5 6 47;simp [h1_12, h3_12, h4_12, h5_12, h6_12] at h1_13 h3_13 h4_13 h5_13 h6_13 h47_13;clear hσ;replace hH : H11 = H13 := Eq.symm hH;subst hH;refine stp_true (by simp [aeval_tmp, h47_13, nx1, nx2, f1, f2, encG]) ?_;rcases q2 with ⟨rfl, hnil⟩ | ⟨id, gn, rest, rfl, hb, hid⟩
        ·skip;refine awp_ok fun hok => ?_;obtain ⟨m14, hn_m14⟩ : ∃ m, H11.n = m := ⟨_, rfl⟩;have hf_m14_7 := hok.free 7;simp [hn_m14, hst_11] at hf_m14_7;have nx3 := ne_get hf_m14_7 g0_11;have nx4 := ne_get hf_m14_7 g1_11;have nx5 := ne_get hf_m14_7 gm8_11;have hf_m14_8 := hok.free 8;simp [hn_m14, hst_11] at hf_m14_8;have nx6 := ne_get hf_m14_8 g0_11;have nx7 := ne_get hf_m14_8 g1_11;have nx8 := ne_get hf_m14_8 gm8_11;refine stp_lexl true TT_ok mixed (by rfl) (by rfl) (by kernel_rfl) (by rfl) fun U hU K hK => ?_;simp [h1_13, h5_13, h6_13, g0_11, g1_11, gm8_11, hn_m14, hst_11, nx1, nx2, f1, f2, nx3, nx4, nx5, nx6, nx7, nx8, encG, hge, hkt, encE];(try refine And.intro (by first|omega|rfl) ?_);refine hK _ _ _ (by rw [hU.trans (by kernel_rfl : _ = [(0, 2), (1, 2), (0, 3), (1, 3), (0, 4), (1, 4), (2, 4), (3, 4), (0, 5), (1, 5), (0, 6), (1, 6), (0, 7), (1, 7)])]; simp [logOk, ftFree, h1_13, h5_13, h6_13, g0_11, g1_11, gm8_11, hn_m14, hst_11, nx1, nx2, f1, f2, nx3, nx4, nx5, nx6, nx7, nx8, encG, hge, hkt, encE]) fun σ15 hσ H15 hH => ?_;clear hK K hU U;obtain ⟨h1_15, h3_15, h4_15, h5_15, h6_15⟩ := fs5 hσ 1 3 4 5 6;simp [h1_13, h3_13, h4_13, h5_13, h6_13] at h1_15 h3_15 h4_15 h5_15 h6_15;clear hσ;have g0_15 := gt_of hH 0;have g1_15 := gt_of hH 1;have gm8_15 := gt_of hH m8;have g_m14_7__15 := gt_of hH (m14 + 7);have g_m14_8__15 := gt_of hH (m14 + 8);simp [g0_11, g1_11, gm8_11, hn_m14, hst_11, nx1, nx2, f1, f2, nx3, nx4, nx5, nx6, nx7, nx8] at g0_15 g1_15 gm8_15 g_m14_7__15 g_m14_8__15
         have hst_15 := congrArg AHeap.st hH;simp [hst_11] at hst_15
         have kb : ∀ j, Hc.get j ≠ none → H15.get j = Hc.get j := fun j hj => by
          have hq := q3 j hj;have hj1 : ¬ j = m8 := by { intro e; rw [e, hz1] at hj; exact hj rfl }
          have hj7 : ¬ j = (m14 + 7) := by { intro e; rw [← hq, e, hf_m14_7] at hj; exact hj rfl }
          have hj8 : ¬ j = (m14 + 8) := by { intro e; rw [← hq, e, hf_m14_8] at hj; exact hj rfl }
          rw [hH]; simp [hn_m14, hj1, hj7, hj8]; exact hq
         have hz2 : Hc.get (m14 + 8) = none := by
          cases hq : Hc.get (m14 + 8) with
          | none => rfl
          | some b => have h5 := q3 (m14 + 8) (by rw [hq]; simp); rw [hf_m14_8, hq] at h5; cases h5
         clear hH;refine q_block ?_;refine q_seq ?_;refine stp_regl TT_ok (by rfl) fun K hK => ?_;simp [h6_15, g0_15, g1_15, gm8_15, g_m14_7__15, g_m14_8__15, nx1, nx2, f1, f2, nx3, nx4, nx5, nx6, nx7, nx8, encG, wrap_ok (n := (k : Int) + 1) (by omega) (by omega)];(try refine And.intro (by first|omega|rfl) ?_);refine hK _ _ fun σ16 hσ H16 hH => ?_;clear hK K;obtain ⟨h1_16, h3_16, h4_16, h5_16, h6_16⟩ := fs5 hσ 1 3 4 5 6;simp [h1_15, h3_15, h4_15, h5_15] at h1_16 h3_16 h4_16 h5_16 h6_16;clear hσ;replace hH : H15 = H16 := Eq.symm hH;subst hH;have hsp : subP i g.edges[k] = true := by simp [subP, f1, f2]
         refine ⟨_, ?_, k + 1, .sl (m14 + 8) 0 0 1, rfl, (h1_16.trans h1_10.symm), (h3_16.trans h3_10.symm), (h4_16.trans h4_10.symm), (h5_16.trans h5_10.symm), (by simp [h6_16]), (g0_15.trans g0_9.symm), (g1_15.trans g1_9.symm), (by simp [gm8_15]), (hst_15.trans hst_9.symm), ?_, ?_, ?_, ?_⟩
         ·subst hn2; omega
         ·first | omega | assumption | (simp; done)
         ·rw [hst, if_pos hsp, List.map_append, hes, hnil]; exact OwnR.mk (rest := []) g_m14_8__15 (by simp [encE]) (by simp) (by omega)
         ·exact kb
         ·intro id g n e; cases e; exact ⟨hz2, by omega⟩
        ·skip;have hidm := (q4 id gn _ rfl).2;have nx9 : ¬ id = 0 ∧ ¬ 0 = id := by omega
         have nx10 : ¬ id = 1 ∧ ¬ 1 = id := by omega
         refine awp_ok fun hok => ?_;obtain ⟨m17, hn_m17⟩ : ∃ m, H11.n = m := ⟨_, rfl⟩;have hf_m17_7 := hok.free 7;simp [hn_m17, hst_11] at hf_m17_7;have nx11 := ne_get hf_m17_7 g0_11;have nx12 := ne_get hf_m17_7 g1_11;have nx13 := ne_get hf_m17_7 gm8_11;have nx14 := ne_get hf_m17_7 hb;refine stp_lexl true TT_ok mixed (by rfl) (by rfl) (by kernel_rfl) (by rfl) fun U hU K hK => ?_;simp [h1_13, h5_13, h6_13, g0_11, g1_11, gm8_11, hb, hn_m17, hst_11, nx1, nx2, f1, f2, hidm, Ne.symm hidm, nx9, nx10, nx11, nx12, nx13, nx14, encG, hge, hkt, encE, show es.length ≤ 9223372036854775806 by omega, show (es.length + 1) * 16 ≤ 140737488355328 by omega];(try refine And.intro (by first|omega|rfl) ?_);refine hK _ _ _ (by rw [hU.trans (by kernel_rfl : _ = [(0, 2), (1, 2), (0, 3), (1, 3), (0, 4), (1, 4), (2, 4), (3, 4), (0, 5), (1, 5), (0, 6), (1, 6), (0, 7), (1, 7)])]; simp [logOk, ftFree, h1_13, h5_13, h6_13, g0_11, g1_11, gm8_11, hb, hn_m17, hst_11, nx1, nx2, f1, f2, hidm, Ne.symm hidm, nx9, nx10, nx11, nx12, nx13, nx14, encG, hge, hkt, encE, show es.length ≤ 9223372036854775806 by omega, show (es.length + 1) * 16 ≤ 140737488355328 by omega]) fun σ18 hσ H18 hH => ?_;clear hK K hU U;obtain ⟨h1_18, h3_18, h4_18, h5_18, h6_18⟩ := fs5 hσ 1 3 4 5 6;simp [h1_13, h3_13, h4_13, h5_13, h6_13] at h1_18 h3_18 h4_18 h5_18 h6_18;clear hσ;have g0_18 := gt_of hH 0;have g1_18 := gt_of hH 1;have gm8_18 := gt_of hH m8;have gid_18 := gt_of hH id;have g_m17_7__18 := gt_of hH (m17 + 7)
         simp [g0_11, g1_11, gm8_11, hb, hn_m17, hst_11, nx1, nx2, f1, f2, hidm, Ne.symm hidm, nx9, nx10, nx11, nx12, nx13, nx14] at g0_18 g1_18 gm8_18 gid_18 g_m17_7__18;have hst_18 := congrArg AHeap.st hH;simp [hst_11] at hst_18
         have kb : ∀ j, Hc.get j ≠ none → H18.get j = Hc.get j := fun j hj => by
          have hq := q3 j hj;have hj1 : ¬ j = m8 := by { intro e; rw [e, hz1] at hj; exact hj rfl }
          have hj2 : ¬ j = id := by { intro e; rw [e, (q4 id gn _ rfl).1] at hj; exact hj rfl }
          have hj7 : ¬ j = (m17 + 7) := by { intro e; rw [← hq, e, hf_m17_7] at hj; exact hj rfl }
          rw [hH]; simp [hn_m17, hst_18, hj1, hj2, hj7]; exact hq
         clear hH;refine q_block ?_;refine q_seq ?_;refine stp_regl TT_ok (by rfl) fun K hK => ?_;simp [h6_18, g0_18, g1_18, gm8_18, gid_18, g_m17_7__18, nx1, nx2, f1, f2, hidm, Ne.symm hidm, nx9, nx10, nx11, nx12, nx13, nx14, encG, wrap_ok (n := (k : Int) + 1) (by omega) (by omega)];(try refine And.intro (by first|omega|rfl) ?_);refine hK _ _ fun σ19 hσ H19 hH => ?_;clear hK K;obtain ⟨h1_19, h3_19, h4_19, h5_19, h6_19⟩ := fs5 hσ 1 3 4 5 6;simp [h1_18, h3_18, h4_18, h5_18] at h1_19 h3_19 h4_19 h5_19 h6_19;clear hσ;replace hH : H18 = H19 := Eq.symm hH;subst hH;have hsp : subP i g.edges[k] = true := by simp [subP, f1, f2]
         refine ⟨_, ?_, k + 1, .sl id (gn + 1) 0 (es.length + 1), rfl, (h1_19.trans h1_10.symm), (h3_19.trans h3_10.symm), (h4_19.trans h4_10.symm), (h5_19.trans h5_10.symm), (by simp [h6_19]), (g0_18.trans g0_9.symm), (g1_18.trans g1_9.symm), (by simp [gm8_18]), (hst_18.trans hst_9.symm), ?_, ?_, ?_, ?_⟩
         ·subst hn2; omega
         ·first | omega | assumption | (simp; done)
         ·rw [hst, if_pos hsp, List.map_append, hes]; exact OwnR.mk (rest := []) gid_18 (by simp [encE]) (by simp) (by omega)
         ·exact kb
         ·intro id2 g n e; cases e; exact q4 id gn _ rfl
       ·skip;refine stp_reg TT_ok (by rfl) fun K hK => ?_;simp [h1_12, h4_12, h6_12, g0_11, g1_11, gm8_11, nx1, nx2, f1, f2, encG, hge, hkt, encE];(try refine And.intro (by first|omega|rfl) ?_);refine hK _ _ fun σ20 hσ H20 hH => ?_;clear hK K;obtain ⟨h1_20, h3_20, h4_20, h5_20, h6_20, h47_20⟩ := fs6 hσ 1 3 4 5 6 47;simp [h1_12, h3_12, h4_12, h5_12, h6_12] at h1_20 h3_20 h4_20 h5_20 h6_20 h47_20;clear hσ;replace hH : H11 = H20 := Eq.symm hH;subst hH;refine stp_false (by simp [aeval_tmp, h47_20, nx1, nx2, f1, f2, encG]) ?_;refine awp_skip ?_;refine q_block ?_;refine q_seq ?_;refine stp_regl TT_ok (by rfl) fun K hK => ?_;simp [h6_20, g0_11, g1_11, gm8_11, nx1, nx2, f1, f2, encG, wrap_ok (n := (k : Int) + 1) (by omega) (by omega)];(try refine And.intro (by first|omega|rfl) ?_);refine hK _ _ fun σ21 hσ H21 hH => ?_;clear hK K;obtain ⟨h1_21, h3_21, h4_21, h5_21, h6_21⟩ := fs5 hσ 1 3 4 5 6;simp [h1_20, h3_20, h4_20, h5_20] at h1_21 h3_21 h4_21 h5_21 h6_21;clear hσ;replace hH : H11 = H21 := Eq.symm hH;subst hH
        have hsp : ¬ subP i g.edges[k] = true := by
         intro h; simp [subP] at h; omega
        refine ⟨_, ?_, k + 1, v, rfl, (h1_21.trans h1_10.symm), (h3_21.trans h3_10.symm), (h4_21.trans h4_10.symm), (h5_21.trans h5_10.symm), (by simp [h6_21]), (g0_11.trans g0_9.symm), (g1_11.trans g1_9.symm), (by simp [gm8_11]), (hst_11.trans hst_9.symm), ?_, ?_, ?_, ?_⟩
        ·subst hn2; omega
        ·first | omega | assumption | (simp; done)
        ·rw [hst, if_neg hsp, List.append_nil, hes]; exact q2
        ·exact q3
        ·exact q4
      ·skip;refine stp_reg TT_ok (by rfl) fun K hK => ?_;simp [h1_12, h4_12, h6_12, g0_11, g1_11, gm8_11, nx1, nx2, f1, encG, hge, hkt, encE];(try refine And.intro (by first|omega|rfl) ?_);refine hK _ _ fun σ22 hσ H22 hH => ?_;clear hK K;obtain ⟨h1_22, h3_22, h4_22, h5_22, h6_22, h47_22⟩ := fs6 hσ 1 3 4 5 6 47;simp [h1_12, h3_12, h4_12, h5_12, h6_12] at h1_22 h3_22 h4_22 h5_22 h6_22 h47_22;clear hσ;replace hH : H11 = H22 := Eq.symm hH;subst hH;refine stp_false (by simp [aeval_tmp, h47_22, nx1, nx2, f1, encG]) ?_;refine awp_skip ?_;refine q_block ?_;refine q_seq ?_;refine stp_regl TT_ok (by rfl) fun K hK => ?_;simp [h6_22, g0_11, g1_11, gm8_11, nx1, nx2, f1, encG, wrap_ok (n := (k : Int) + 1) (by omega) (by omega)];(try refine And.intro (by first|omega|rfl) ?_);refine hK _ _ fun σ23 hσ H23 hH => ?_;clear hK K;obtain ⟨h1_23, h3_23, h4_23, h5_23, h6_23⟩ := fs5 hσ 1 3 4 5 6;simp [h1_22, h3_22, h4_22, h5_22] at h1_23 h3_23 h4_23 h5_23 h6_23;clear hσ;replace hH : H11 = H23 := Eq.symm hH;subst hH
       have hsp : ¬ subP i g.edges[k] = true := by
        intro h; simp [subP] at h; omega
       refine ⟨_, ?_, k + 1, v, rfl, (h1_23.trans h1_10.symm), (h3_23.trans h3_10.symm), (h4_23.trans h4_10.symm), (h5_23.trans h5_10.symm), (by simp [h6_23]), (g0_11.trans g0_9.symm), (g1_11.trans g1_9.symm), (by simp [gm8_11]), (hst_11.trans hst_9.symm), ?_, ?_, ?_, ?_⟩
       ·subst hn2; omega
       ·first | omega | assumption | (simp; done)
       ·rw [hst, if_neg hsp, List.append_nil, hes]; exact q2
       ·exact q3
       ·exact q4
     ·(try simp at hc27);have hke : k = g.edges.length := by have := hc27; omega
      rw [hke, List.take_length, show g.edges.filter (subP i) = (g.sub i).edges from rfl] at q2;obtain ⟨Hd, hHd⟩ : ∃ Hd, Hd = H11 := ⟨_, rfl⟩;have s1 := s0.keep q3;rw [← hHd] at s1 q2
      have hse : (g.sub i).edges.length ≤ 1000000 := by
       have := List.length_filter_le (fun e : Int × Int => decide ((i : Int) ≤ e.1) && decide ((i : Int) ≤ e.2)) g.edges
       show (g.edges.filter _).length ≤ _; omega
      have hvo : v.one = true := by
       rcases q2 with ⟨h, _⟩ | ⟨_, _, _, h, _⟩ <;> rw [h] <;> rfl
      simp [AV.one] at hvo
      have q2u : ∀ id g n : Nat, v = AV.sl id g 0 n → Hd.get id ≠ none := fun id g n e => by
       rcases q2 with ⟨h, _⟩ | ⟨id2, g2, rest, h, h2, _⟩
       ·rw [h] at e; cases e
       ·rw [h] at e; cases e; rw [h2]; simp
      refine awp_exit ?_;refine q_seq_exit ?_;refine q_loop_exit ?_;refine q_block_hit ?_;refine q_seq ?_;refine stp_reg TT_ok (by rfl) fun K hK => ?_;simp [h4_12, g0_11, g1_11, gm8_11, nx1, nx2, encG];(try refine And.intro (by first|omega|rfl) ?_);refine hK _ _ fun σ24 hσ H24 hH => ?_;clear hK K;obtain ⟨h1_24, h3_24, h4_24, h5_24, h7_24⟩ := fs5 hσ 1 3 4 5 7;simp [h1_12, h3_12, h4_12, h5_12] at h1_24 h3_24 h4_24 h5_24 h7_24;clear hσ;replace hH : H11 = H24 := Eq.symm hH;subst hH;refine awp_block ?_;refine awp_loopV (fun n σ' H' => ∃ (k : Nat) (b : List Int) (bv : AV), n = g.nodes.length - k ∧ σ' 1 = σ24 1 ∧ σ' 3 = bv ∧ σ' 4 = σ24 4 ∧ σ' 5 = σ24 5 ∧ σ' 7 = (AV.int IntKind.i64) k ∧ H'.get 0 = H11.get 0 ∧ H'.get 1 = H11.get 1 ∧ H'.get m8 = H11.get m8 ∧ H'.st = H11.st ∧ (i ≤ k ∧ k ≤ g.nodes.length) ∧ (b = rcI g i (g.rcyc i) (k - i)) ∧ (SlV b bv H') ∧ (∀ j, Hd.get j ≠ none → H'.get j = Hd.get j)) ?_ ?_
      ·refine ⟨_, i, g.rcyc i, bv, rfl, rfl, (by simp [h3_24]), rfl, rfl, (by simp [h7_24]), rfl, rfl, rfl, rfl, ?_, ?_, ?_, ?_⟩
       ·first | omega | (simp; done) | assumption
       ·rw [Nat.sub_self]; rfl
       ·rw [← hHd]; exact s1
       ·exact fun j _ => by rw [hHd]
      ·rintro n3 σ25 H25 ⟨k, b, bv, hn3, q1_25, h3_25, q4_25, q5_25, h7_25, qg0_25, qg1_25, qgm8_25, qst_25, t1, t2, t3, t4⟩
       have h1_25 := q1_25.trans h1_24;have h4_25 := q4_25.trans h4_24;have h5_25 := q5_25.trans h5_24;have g0_25 := qg0_25.trans g0_11;have g1_25 := qg1_25.trans g1_11;have gm8_25 := qgm8_25.trans gm8_11;have hst_25 := qst_25.trans hst_11;refine awp_seq ?_;refine stp_reg TT_ok (by rfl) fun K hK => ?_;simp [h1_25, h7_25, g0_25, g1_25, gm8_25, nx1, nx2, encG];(try refine And.intro (by first|omega|rfl) ?_);refine hK _ _ fun σ26 hσ H26 hH => ?_;clear hK K;obtain ⟨h1_26, h3_26, h4_26, h5_26, h7_26, h63_26⟩ := fs6 hσ 1 3 4 5 7 63;simp [h1_25, h3_25, h4_25, h5_25, h7_25] at h1_26 h3_26 h4_26 h5_26 h7_26 h63_26;clear hσ;replace hH : H25 = H26 := Eq.symm hH;subst hH;refine awp_cond _ (by simp only [aeval_tmp]; exact h63_26) (fun hc63 => ?_) (fun hc63 => ?_)
       ·(try simp at hc63);have hkn : k < g.nodes.length := by simpa using hc63
        have hri := rcI_succ g i (g.rcyc i) (k - i);rw [← t2, show k - i + 1 = k + 1 - i by omega, show i + (k - i) = k by omega] at hri;have hov := q2.keep (H' := H25) fun id g n e => t4 id (q2u id g n e);have hfg : Frz H25 (.agg [.ro (g.nodes.map .str), v]) (encG (g.sub i)) := frz_graph (.pure (pu_strs _)) (hov.frz (fun _ => pu_of_edges) (fun _ => one_edge));refine awp_skip ?_;refine q_seq ?_;refine awp_seq ?_;refine awp_block ?_;refine awp_seq ?_;have hFF0 := an8 h4_26 h5_26 h7_26 g0_25 g1_25 gm8_25 nx1 nx2;refine stp_reg TT_ok (by rfl) fun K hK => ?_;simp [hFF0, encG, hvo];(try refine And.intro (by first|omega|rfl) ?_);refine FunW.at (edge_w (g.sub i) i k hse) ?hf ?_
        case hf => exact FrzL.cons hfg (FrzL.cons (.pure (pu_int _ _)) (FrzL.cons (.pure (pu_int _ _)) (FrzL.nil _)))
        simp [hFF0, encG, hvo];(try refine And.intro (by first|omega|rfl) ?_);refine hK _ _ fun σ27 hσ H27 hH => ?_;clear hK K hFF0;obtain ⟨h1_27, h3_27, h4_27, h5_27, h7_27, h70_27⟩ := fs6 hσ 1 3 4 5 7 70;simp [h1_26, h3_26, h4_26, h5_26, h7_26] at h1_27 h3_27 h4_27 h5_27 h7_27 h70_27;clear hσ;replace hH : H25 = H27 := Eq.symm hH;subst hH;refine awp_cond _ (by simp only [aeval_tmp]; exact h70_27) (fun hc70 => ?_) (fun hc70 => ?_)
        ·(try simp at hc70);have hrc : rcand g i k = [] := by rw [rcand, hc70]; rfl
         refine awp_exit ?_;refine q_seq_exit ?_;refine q_block_hit ?_;refine q_seq ?_;refine stp_regl TT_ok (by rfl) fun K hK => ?_;simp [h7_27, g0_25, g1_25, gm8_25, nx1, nx2, encG, wrap_ok (n := (k : Int) + 1) (by omega) (by omega), wrap_ok (n := (i : Int) + 1) (by omega) (by omega)];(try refine And.intro (by first|omega|rfl) ?_);refine hK _ _ fun σ28 hσ H28 hH => ?_;clear hK K;obtain ⟨h1_28, h3_28, h4_28, h5_28, h7_28⟩ := fs5 hσ 1 3 4 5 7;simp [h1_27, h3_27, h4_27, h5_27] at h1_28 h3_28 h4_28 h5_28 h7_28;clear hσ;replace hH : H25 = H28 := Eq.symm hH;subst hH;refine ⟨_, ?_, k + 1, b, bv, rfl, (h1_28.trans h1_24.symm), (by simp [h3_28]), (h4_28.trans h4_24.symm), (h5_28.trans h5_24.symm), (by simp [h7_28]), (g0_25.trans g0_11.symm), (g1_25.trans g1_11.symm), (gm8_25.trans gm8_11.symm), (hst_25.trans hst_11.symm), ?_, ?_, ?_, ?_⟩
         ·subst hn3; omega
         ·first | omega | assumption | (simp; done)
         ·rw [hri, rc1, if_pos hrc]
         ·exact t3
         ·exact t4
        ·(try simp at hc70);have hed : (g.sub i).hasEdge i k = true := by simpa using hc70
         obtain ⟨pp, hpp⟩ : ∃ pp, (g.sub i).path k i = pp := ⟨_, rfl⟩;have hrce : rcand g i k = if pp = [] then [] else (i : Int) :: pp.dropLast := by rw [rcand, if_pos hed, hpp]
         refine awp_skip ?_;refine q_seq ?_;have hFF0 := an8 h4_27 h5_27 h7_27 g0_25 g1_25 gm8_25 nx1 nx2;refine stp_reg TT_ok (by rfl) fun K hK => ?_;simp [hFF0, encG, hvo, hpp];(try refine And.intro (by first|omega|rfl) ?_);refine FunW.at (refPath_w (g.sub i) k i hse) ?hf ?_
         case hf => exact FrzL.cons hfg (FrzL.cons (.pure (pu_int _ _)) (FrzL.cons (.pure (pu_int _ _)) (FrzL.nil _)))
         simp [hFF0, encG, hvo, hpp];(try refine And.intro (by first|omega|rfl) ?_);refine hK _ _ fun σ29 hσ H29 hH => ?_;clear hK K hFF0;obtain ⟨h1_29, h3_29, h4_29, h5_29, h7_29, h8_29⟩ := fs6 hσ 1 3 4 5 7 8;simp [h1_27, h3_27, h4_27, h5_27, h7_27] at h1_29 h3_29 h4_29 h5_29 h7_29 h8_29;clear hσ;replace hH : H25 = H29 := Eq.symm hH;subst hH;refine awp_seq ?_
         by_cases hp0 : (pp.length : Int) = 0
         ·skip;refine stp_reg TT_ok (by rfl) fun K hK => ?_;simp [h8_29, g0_25, g1_25, gm8_25, nx1, nx2, hp0, beq_iff_eq.2 hp0, encG];(try refine And.intro (by first|omega|rfl) ?_);refine hK _ _ fun σ30 hσ H30 hH => ?_;clear hK K;obtain ⟨h1_30, h3_30, h4_30, h5_30, h7_30, h8_30, h77_30⟩ := fs7 hσ 1 3 4 5 7 8 77;simp [h1_29, h3_29, h4_29, h5_29, h7_29, h8_29] at h1_30 h3_30 h4_30 h5_30 h7_30 h8_30 h77_30;clear hσ;replace hH : H25 = H30 := Eq.symm hH;subst hH;refine stp_true (by simp [aeval_tmp, h77_30, nx1, nx2, hp0, beq_iff_eq.2 hp0, encG]) ?_;refine awp_exit ?_;refine q_seq_exit ?_;refine q_block_hit ?_;refine q_seq ?_;refine stp_regl TT_ok (by rfl) fun K hK => ?_;simp [h7_30, g0_25, g1_25, gm8_25, nx1, nx2, hp0, beq_iff_eq.2 hp0, encG, wrap_ok (n := (k : Int) + 1) (by omega) (by omega), wrap_ok (n := (i : Int) + 1) (by omega) (by omega)];(try refine And.intro (by first|omega|rfl) ?_);refine hK _ _ fun σ31 hσ H31 hH => ?_;clear hK K;obtain ⟨h1_31, h3_31, h4_31, h5_31, h7_31⟩ := fs5 hσ 1 3 4 5 7;simp [h1_30, h3_30, h4_30, h5_30] at h1_31 h3_31 h4_31 h5_31 h7_31;clear hσ;replace hH : H25 = H31 := Eq.symm hH;subst hH;have hrc : rcand g i k = [] := by rw [hrce, if_pos (List.eq_nil_of_length_eq_zero (by omega))]
          refine ⟨_, ?_, k + 1, b, bv, rfl, (h1_31.trans h1_24.symm), (by simp [h3_31]), (h4_31.trans h4_24.symm), (h5_31.trans h5_24.symm), (by simp [h7_31]), (g0_25.trans g0_11.symm), (g1_25.trans g1_11.symm), (gm8_25.trans gm8_11.symm), (hst_25.trans hst_11.symm), ?_, ?_, ?_, ?_⟩
          ·subst hn3; omega
          ·first | omega | assumption | (simp; done)
          ·rw [hri, rc1, if_pos hrc]
          ·exact t3
          ·exact t4
         ·skip;refine stp_reg TT_ok (by rfl) fun K hK => ?_;simp [h8_29, g0_25, g1_25, gm8_25, nx1, nx2, hp0, beq_eq_false_iff_ne.2 hp0, encG];(try refine And.intro (by first|omega|rfl) ?_);refine hK _ _ fun σ32 hσ H32 hH => ?_;clear hK K;obtain ⟨h1_32, h3_32, h4_32, h5_32, h7_32, h8_32, h77_32⟩ := fs7 hσ 1 3 4 5 7 8 77;simp [h1_29, h3_29, h4_29, h5_29, h7_29, h8_29] at h1_32 h3_32 h4_32 h5_32 h7_32 h8_32 h77_32;clear hσ;replace hH : H25 = H32 := Eq.symm hH;subst hH;refine stp_false (by simp [aeval_tmp, h77_32, nx1, nx2, hp0, beq_eq_false_iff_ne.2 hp0, encG]) ?_;refine awp_skip ?_;refine q_seq ?_;obtain ⟨q, hq⟩ : ∃ q, pp.length = q + 1 := ⟨pp.length - 1, by omega⟩
          have hpl : q ≤ 100000 := by
           have h9 := path_len25 (g := g.sub i) (a := k) (b := i);rw [hpp, hq] at h9;have : (g.sub i).nodes.length = g.nodes.length := rfl
           omega
          refine awp_ok fun hok => ?_;obtain ⟨m33, hn_m33⟩ : ∃ m, H25.n = m := ⟨_, rfl⟩;have hf_m33_0 := hok.free 0;simp [hn_m33, hst_25] at hf_m33_0;have nx15 := ne_get hf_m33_0 g0_25;have nx16 := ne_get hf_m33_0 g1_25;have nx17 := ne_get hf_m33_0 gm8_25;have hFF0 := an14 h4_32 h8_32 g0_25 g1_25 gm8_25 hn_m33 hst_25 nx1 nx2 hp0 (beq_eq_false_iff_ne.2 hp0) nx15 nx16 nx17;refine stp_reg TT_ok (by rfl) fun K hK => ?_;simp [hFF0, encG, hq, show (q : Int) + 1 - 1 = q by omega, wrap_ok (n := (q : Int)) (by omega) (by omega)];(try refine And.intro (by first|omega|rfl) ?_);refine ⟨fun x hx => ?_, ⟨by omega, by omega⟩, ?_⟩
          ·obtain ⟨y, _, rfl⟩ := List.mem_map.1 (List.mem_of_mem_take hx); rfl
          (try refine And.intro (by first|omega|rfl) ?_);refine hK _ _ fun σ34 hσ H34 hH => ?_;clear hK K hFF0;obtain ⟨h1_34, h3_34, h4_34, h5_34, h7_34, h8_34⟩ := fs6 hσ 1 3 4 5 7 8;simp [h1_32, h3_32, h4_32, h5_32, h7_32] at h1_34 h3_34 h4_34 h5_34 h7_34 h8_34;clear hσ;have g0_34 := gt_of hH 0;have g1_34 := gt_of hH 1;have gm8_34 := gt_of hH m8;have gm33_34 := gt_of hH m33;simp [g0_25, g1_25, gm8_25, hn_m33, hst_25, nx1, nx2, hp0, beq_eq_false_iff_ne.2 hp0, nx15, nx16, nx17] at g0_34 g1_34 gm8_34 gm33_34;have hst_34 := congrArg AHeap.st hH;simp [hst_25] at hst_34
          have kk : ∀ j, H25.get j ≠ none → H34.get j = H25.get j := fun j hj => by
           rw [hH]; have hjm : ¬ j = m33 := by { intro e; rw [e, hf_m33_0] at hj; exact hj rfl }
           simp [hn_m33, hst_25, hjm]
          clear hH;have t3b := t3.keep kk;have t4b : ∀ j, Hd.get j ≠ none → H34.get j = Hd.get j := fun j hj => by rw [kk j (by rw [t4 j hj]; exact hj), t4 j hj]
          have hrc2 : rcand g i k = (i : Int) :: pp.dropLast := by rw [hrce, if_neg (by intro h; rw [h] at hq; cases hq)]
          have hdr : pp.dropLast = pp.take q := by rw [List.dropLast_eq_take, hq]; rfl
          rw [hdr] at hrc2;have hcs : SlV (rcand g i k) (.sl m33 1 0 (1 + q)) H34 := ⟨m33, 1, [], by rw [hrc2]; simp [hq]; omega, by rw [hrc2, gm33_34]; simp [List.map_take]⟩;have hcf := hcs.frz;have hcl : (rcand g i k).length ≤ 1000000 := by rw [hrc2]; simp; omega
          have hcn : rcand g i k ≠ [] := by rw [hrc2]; simp
          refine awp_seq ?_
          by_cases c6 : (k : Int) = i
          ·skip;refine stp_reg TT_ok (by rfl) fun K hK => ?_;simp [h4_34, h7_34, g0_34, g1_34, gm8_34, gm33_34, nx1, nx2, hp0, beq_eq_false_iff_ne.2 hp0, nx15, nx16, nx17, c6, beq_iff_eq.2 c6, encG];(try refine And.intro (by first|omega|rfl) ?_);refine hK _ _ fun σ35 hσ H35 hH => ?_;clear hK K;obtain ⟨h1_35, h3_35, h4_35, h5_35, h7_35, h8_35, h88_35⟩ := fs7 hσ 1 3 4 5 7 8 88;simp [h1_34, h3_34, h4_34, h5_34, h7_34, h8_34] at h1_35 h3_35 h4_35 h5_35 h7_35 h8_35 h88_35;clear hσ;replace hH : H34 = H35 := Eq.symm hH;subst hH;refine stp_true (by simp [aeval_tmp, h88_35, nx1, nx2, hp0, beq_eq_false_iff_ne.2 hp0, nx15, nx16, nx17, c6, beq_iff_eq.2 c6, encG]) ?_;refine awp_ok fun hok => ?_;obtain ⟨m36, hn_m36⟩ : ∃ m, H34.n = m := ⟨_, rfl⟩;have hf_m36_0 := hok.free 0;simp [hn_m36, hst_34] at hf_m36_0;have nx18 := ne_get hf_m36_0 g0_34;have nx19 := ne_get hf_m36_0 g1_34;have nx20 := ne_get hf_m36_0 gm8_34;have nx21 := ne_get hf_m36_0 gm33_34;refine stp_regl TT_ok (by rfl) fun K hK => ?_;simp [h4_35, g0_34, g1_34, gm8_34, gm33_34, hn_m36, hst_34, nx1, nx2, hp0, beq_eq_false_iff_ne.2 hp0, nx15, nx16, nx17, c6, beq_iff_eq.2 c6, nx18, nx19, nx20, nx21, encG];(try refine And.intro (by first|omega|rfl) ?_);refine hK _ _ fun σ37 hσ H37 hH => ?_;clear hK K;obtain ⟨h1_37, h3_37, h4_37, h5_37, h7_37, h8_37⟩ := fs6 hσ 1 3 4 5 7 8;simp [h1_35, h3_35, h4_35, h5_35, h7_35] at h1_37 h3_37 h4_37 h5_37 h7_37 h8_37;clear hσ;have g0_37 := gt_of hH 0;have g1_37 := gt_of hH 1;have gm8_37 := gt_of hH m8
           have gm33_37 := gt_of hH m33;have gm36_37 := gt_of hH m36;simp [g0_34, g1_34, gm8_34, gm33_34, hn_m36, hst_34, nx1, nx2, hp0, beq_eq_false_iff_ne.2 hp0, nx15, nx16, nx17, c6, beq_iff_eq.2 c6, nx18, nx19, nx20, nx21] at g0_37 g1_37 gm8_37 gm33_37 gm36_37;have hst_37 := congrArg AHeap.st hH;simp [hst_34] at hst_37
           have kk2 : ∀ j, H34.get j ≠ none → H37.get j = H34.get j := fun j hj => by
            rw [hH]; have hjm : ¬ j = m36 := by { intro e; rw [e, hf_m36_0] at hj; exact hj rfl }
            simp [hn_m36, hst_34, hjm]
           clear hH;have t3b := t3b.keep kk2;have t4b : ∀ j, Hd.get j ≠ none → H37.get j = Hd.get j := fun j hj => by rw [kk2 j (by rw [t4b j hj]; exact hj), t4b j hj]
           have hci : rcand g i k = [(i : Int)] := by
            have hki : k = i := by omega
            subst hki;have hs2 : (g.sub k).path k k = [(k : Int)] := path_self25 (exist_iff.2 ⟨fun x hx => by simp at hx; subst hx; exact ⟨by omega, by simp [Gr.sub]; omega⟩, sub_valid hv k⟩);rw [rcand, if_pos hed, hs2]; rfl
           have hcf : Frz H37 (.sl m36 0 0 1) (.ro ((rcand g i k).map (AV.int IntKind.i64))) := by rw [hci]; exact frz_ints (xs := [(i : Int)]) (by rw [gm36_37]; rfl) rfl
           have hcs : SlV (rcand g i k) (.sl m36 0 0 1) H37 := ⟨m36, 0, [], by rw [hci]; rfl, by rw [hci, gm36_37]; rfl⟩;have hcl : (rcand g i k).length ≤ 1000000 := by rw [hci]; simp
           have hcn : rcand g i k ≠ [] := by rw [hci]; simp
           refine q_seq ?_
           by_cases z1 : (b.length : Int) = 0
           ·skip;obtain ⟨id, gn, rest, rfl, hb⟩ := t3b
            ·skip;refine stp_reg TT_ok (by rfl) fun K hK => ?_;simp [h3_37, h8_37, g0_37, g1_37, gm8_37, gm33_37, gm36_37, nx1, nx2, hp0, beq_eq_false_iff_ne.2 hp0, nx15, nx16, nx17, c6, beq_iff_eq.2 c6, nx18, nx19, nx20, nx21, z1, beq_iff_eq.2 z1, encG];(try refine And.intro (by first|omega|rfl) ?_);refine hK _ _ fun σ38 hσ H38 hH => ?_;clear hK K;obtain ⟨h1_38, h3_38, h4_38, h5_38, h7_38, h8_38, h98_38⟩ := fs7 hσ 1 3 4 5 7 8 98;simp [h1_37, h3_37, h4_37, h5_37, h7_37, h8_37] at h1_38 h3_38 h4_38 h5_38 h7_38 h8_38 h98_38;clear hσ;replace hH : H37 = H38 := Eq.symm hH;subst hH;refine stp_true (by simp [aeval_tmp, h98_38, nx1, nx2, hp0, beq_eq_false_iff_ne.2 hp0, nx15, nx16, nx17, c6, beq_iff_eq.2 c6, nx18, nx19, nx20, nx21, z1, beq_iff_eq.2 z1, encG]) ?_;refine stp_regl TT_ok (by rfl) fun K hK => ?_;simp [h8_38, g0_37, g1_37, gm8_37, gm33_37, gm36_37, nx1, nx2, hp0, beq_eq_false_iff_ne.2 hp0, nx15, nx16, nx17, c6, beq_iff_eq.2 c6, nx18, nx19, nx20, nx21, z1, beq_iff_eq.2 z1, encG];(try refine And.intro (by first|omega|rfl) ?_);refine hK _ _ fun σ39 hσ H39 hH => ?_;clear hK K;obtain ⟨h1_39, h3_39, h4_39, h5_39, h7_39⟩ := fs5 hσ 1 3 4 5 7;simp [h1_38, h4_38, h5_38, h7_38] at h1_39 h3_39 h4_39 h5_39 h7_39;clear hσ;replace hH : H37 = H39 := Eq.symm hH;subst hH;refine q_block ?_;refine q_seq ?_;refine stp_regl TT_ok (by rfl) fun K hK => ?_
             simp [h7_39, g0_37, g1_37, gm8_37, gm33_37, gm36_37, nx1, nx2, hp0, beq_eq_false_iff_ne.2 hp0, nx15, nx16, nx17, c6, beq_iff_eq.2 c6, nx18, nx19, nx20, nx21, z1, beq_iff_eq.2 z1, encG, wrap_ok (n := (k : Int) + 1) (by omega) (by omega), wrap_ok (n := (i : Int) + 1) (by omega) (by omega)];(try refine And.intro (by first|omega|rfl) ?_);refine hK _ _ fun σ40 hσ H40 hH => ?_;clear hK K;obtain ⟨h1_40, h3_40, h4_40, h5_40, h7_40⟩ := fs5 hσ 1 3 4 5 7;simp [h1_39, h3_39, h4_39, h5_39] at h1_40 h3_40 h4_40 h5_40 h7_40;clear hσ;replace hH : H37 = H40 := Eq.symm hH;subst hH;refine ⟨_, ?_, k + 1, rcand g i k, .sl m36 0 0 1, rfl, (h1_40.trans h1_24.symm), (by simp [h3_40, c6]), (h4_40.trans h4_24.symm), (h5_40.trans h5_24.symm), (by simp [h7_40, c6]), (g0_37.trans g0_11.symm), (g1_37.trans g1_11.symm), (gm8_37.trans gm8_11.symm), (hst_37.trans hst_11.symm), ?_, ?_, ?_, ?_⟩
             ·subst hn3; omega
             ·first | omega | assumption | (simp; done)
             ·rw [hri, rc1, if_neg hcn, if_pos (by first | exact .inl (List.eq_nil_of_length_eq_zero (by omega)) | exact .inr hc98)]
             ·exact hcs
             ·exact t4b
           ·skip;obtain ⟨id, gn, rest, rfl, hb⟩ := t3b
            ·skip
             have hbl : b.length ≤ 1000000 := by
              rw [t2];have := rcI_len25 g i (rcyc_len25 g i) (k - i)
              omega
             have hFF0 := an22 h3_37 h8_37 g0_37 g1_37 gm8_37 gm33_37 gm36_37 nx1 nx2 hp0 (beq_eq_false_iff_ne.2 hp0) nx15 nx16 nx17 c6 (beq_iff_eq.2 c6) nx18 nx19 nx20 nx21 z1 (beq_eq_false_iff_ne.2 z1);refine stp_reg TT_ok (by rfl) fun K hK => ?_;simp [hFF0, encG];(try refine And.intro (by first|omega|rfl) ?_);refine FunW.at (less_w (rcand g i k) b hcl hbl) ?hf ?_
             case hf => exact FrzL.cons hcf (FrzL.cons (SlV.frz ⟨id, gn, rest, rfl, hb⟩) (FrzL.nil _))
             simp [hFF0, encG];(try refine And.intro (by first|omega|rfl) ?_);refine hK _ _ fun σ41 hσ H41 hH => ?_;clear hK K hFF0;obtain ⟨h1_41, h3_41, h4_41, h5_41, h7_41, h8_41, h98_41⟩ := fs7 hσ 1 3 4 5 7 8 98;simp [h1_37, h3_37, h4_37, h5_37, h7_37, h8_37] at h1_41 h3_41 h4_41 h5_41 h7_41 h8_41 h98_41;clear hσ;replace hH : H37 = H41 := Eq.symm hH;subst hH;refine awp_cond _ (by simp only [aeval_tmp]; exact h98_41) (fun hc98 => ?_) (fun hc98 => ?_)
             ·(try simp at hc98);refine stp_regl TT_ok (by rfl) fun K hK => ?_;simp [h8_41, g0_37, g1_37, gm8_37, gm33_37, gm36_37, nx1, nx2, hp0, beq_eq_false_iff_ne.2 hp0, nx15, nx16, nx17, c6, beq_iff_eq.2 c6, nx18, nx19, nx20, nx21, z1, beq_eq_false_iff_ne.2 z1, encG];(try refine And.intro (by first|omega|rfl) ?_);refine hK _ _ fun σ42 hσ H42 hH => ?_;clear hK K;obtain ⟨h1_42, h3_42, h4_42, h5_42, h7_42⟩ := fs5 hσ 1 3 4 5 7;simp [h1_41, h4_41, h5_41, h7_41] at h1_42 h3_42 h4_42 h5_42 h7_42;clear hσ;replace hH : H37 = H42 := Eq.symm hH;subst hH;refine q_block ?_;refine q_seq ?_;refine stp_regl TT_ok (by rfl) fun K hK => ?_;simp [h7_42, g0_37, g1_37, gm8_37, gm33_37, gm36_37, nx1, nx2, hp0, beq_eq_false_iff_ne.2 hp0, nx15, nx16, nx17, c6, beq_iff_eq.2 c6, nx18, nx19, nx20, nx21, z1, beq_eq_false_iff_ne.2 z1, encG, wrap_ok (n := (k : Int) + 1) (by omega) (by omega), wrap_ok (n := (i : Int) + 1) (by omega) (by omega)];(try refine And.intro (by first|omega|rfl) ?_);refine hK _ _ fun σ43 hσ H43 hH => ?_;clear hK K;obtain ⟨h1_43, h3_43, h4_43, h5_43, h7_43⟩ := fs5 hσ 1 3 4 5 7;simp [h1_42, h3_42, h4_42, h5_42] at h1_43 h3_43 h4_43 h5_43 h7_43;clear hσ;replace hH : H37 = H43 := Eq.symm hH;subst hH
              refine ⟨_, ?_, k + 1, rcand g i k, .sl m36 0 0 1, rfl, (h1_43.trans h1_24.symm), (by simp [h3_43, c6]), (h4_43.trans h4_24.symm), (h5_43.trans h5_24.symm), (by simp [h7_43, c6]), (g0_37.trans g0_11.symm), (g1_37.trans g1_11.symm), (gm8_37.trans gm8_11.symm), (hst_37.trans hst_11.symm), ?_, ?_, ?_, ?_⟩
              ·subst hn3; omega
              ·first | omega | assumption | (simp; done)
              ·rw [hri, rc1, if_neg hcn, if_pos (by first | exact .inl (List.eq_nil_of_length_eq_zero (by omega)) | exact .inr hc98)]
              ·exact hcs
              ·exact t4b
             ·(try simp at hc98);refine awp_skip ?_;refine q_block ?_;refine q_seq ?_;refine stp_regl TT_ok (by rfl) fun K hK => ?_;simp [h7_41, g0_37, g1_37, gm8_37, gm33_37, gm36_37, nx1, nx2, hp0, beq_eq_false_iff_ne.2 hp0, nx15, nx16, nx17, c6, beq_iff_eq.2 c6, nx18, nx19, nx20, nx21, z1, beq_eq_false_iff_ne.2 z1, encG, wrap_ok (n := (k : Int) + 1) (by omega) (by omega), wrap_ok (n := (i : Int) + 1) (by omega) (by omega)];(try refine And.intro (by first|omega|rfl) ?_);refine hK _ _ fun σ44 hσ H44 hH => ?_;clear hK K;obtain ⟨h1_44, h3_44, h4_44, h5_44, h7_44⟩ := fs5 hσ 1 3 4 5 7;simp [h1_41, h3_41, h4_41, h5_41] at h1_44 h3_44 h4_44 h5_44 h7_44;clear hσ;replace hH : H37 = H44 := Eq.symm hH;subst hH;refine ⟨_, ?_, k + 1, b, .sl id gn 0 b.length, rfl, (h1_44.trans h1_24.symm), (by simp [h3_44, c6]), (h4_44.trans h4_24.symm), (h5_44.trans h5_24.symm), (by simp [h7_44, c6]), (g0_37.trans g0_11.symm), (g1_37.trans g1_11.symm), (gm8_37.trans gm8_11.symm), (hst_37.trans hst_11.symm), ?_, ?_, ?_, ?_⟩
              ·subst hn3; omega
              ·first | omega | assumption | (simp; done)
              ·rw [hri, rc1, if_neg hcn, if_neg (by rintro (h | h); exact z1 (by rw [h]; rfl); rw [h] at hc98; cases hc98)]
              ·exact ⟨id, gn, rest, rfl, hb⟩
              ·exact t4b
          ·skip;refine stp_reg TT_ok (by rfl) fun K hK => ?_;simp [h4_34, h7_34, g0_34, g1_34, gm8_34, gm33_34, nx1, nx2, hp0, beq_eq_false_iff_ne.2 hp0, nx15, nx16, nx17, c6, beq_eq_false_iff_ne.2 c6, encG];(try refine And.intro (by first|omega|rfl) ?_);refine hK _ _ fun σ45 hσ H45 hH => ?_;clear hK K;obtain ⟨h1_45, h3_45, h4_45, h5_45, h7_45, h8_45, h88_45⟩ := fs7 hσ 1 3 4 5 7 8 88;simp [h1_34, h3_34, h4_34, h5_34, h7_34, h8_34] at h1_45 h3_45 h4_45 h5_45 h7_45 h8_45 h88_45;clear hσ;replace hH : H34 = H45 := Eq.symm hH;subst hH;refine stp_false (by simp [aeval_tmp, h88_45, nx1, nx2, hp0, beq_eq_false_iff_ne.2 hp0, nx15, nx16, nx17, c6, beq_eq_false_iff_ne.2 c6, encG]) ?_;refine awp_skip ?_;refine q_seq ?_
           by_cases z1 : (b.length : Int) = 0
           ·skip;obtain ⟨id, gn, rest, rfl, hb⟩ := t3b
            ·skip;refine stp_reg TT_ok (by rfl) fun K hK => ?_;simp [h3_45, h8_45, g0_34, g1_34, gm8_34, gm33_34, nx1, nx2, hp0, beq_eq_false_iff_ne.2 hp0, nx15, nx16, nx17, c6, beq_eq_false_iff_ne.2 c6, z1, beq_iff_eq.2 z1, encG];(try refine And.intro (by first|omega|rfl) ?_);refine hK _ _ fun σ46 hσ H46 hH => ?_;clear hK K;obtain ⟨h1_46, h3_46, h4_46, h5_46, h7_46, h8_46, h98_46⟩ := fs7 hσ 1 3 4 5 7 8 98;simp [h1_45, h3_45, h4_45, h5_45, h7_45, h8_45] at h1_46 h3_46 h4_46 h5_46 h7_46 h8_46 h98_46;clear hσ;replace hH : H34 = H46 := Eq.symm hH;subst hH;refine stp_true (by simp [aeval_tmp, h98_46, nx1, nx2, hp0, beq_eq_false_iff_ne.2 hp0, nx15, nx16, nx17, c6, beq_eq_false_iff_ne.2 c6, z1, beq_iff_eq.2 z1, encG]) ?_;refine stp_regl TT_ok (by rfl) fun K hK => ?_;simp [h8_46, g0_34, g1_34, gm8_34, gm33_34, nx1, nx2, hp0, beq_eq_false_iff_ne.2 hp0, nx15, nx16, nx17, c6, beq_eq_false_iff_ne.2 c6, z1, beq_iff_eq.2 z1, encG];(try refine And.intro (by first|omega|rfl) ?_);refine hK _ _ fun σ47 hσ H47 hH => ?_;clear hK K;obtain ⟨h1_47, h3_47, h4_47, h5_47, h7_47⟩ := fs5 hσ 1 3 4 5 7;simp [h1_46, h4_46, h5_46, h7_46] at h1_47 h3_47 h4_47 h5_47 h7_47;clear hσ;replace hH : H34 = H47 := Eq.symm hH;subst hH;refine q_block ?_;refine q_seq ?_;refine stp_regl TT_ok (by rfl) fun K hK => ?_
             simp [h7_47, g0_34, g1_34, gm8_34, gm33_34, nx1, nx2, hp0, beq_eq_false_iff_ne.2 hp0, nx15, nx16, nx17, c6, beq_eq_false_iff_ne.2 c6, z1, beq_iff_eq.2 z1, encG, wrap_ok (n := (k : Int) + 1) (by omega) (by omega), wrap_ok (n := (i : Int) + 1) (by omega) (by omega)];(try refine And.intro (by first|omega|rfl) ?_);refine hK _ _ fun σ48 hσ H48 hH => ?_;clear hK K;obtain ⟨h1_48, h3_48, h4_48, h5_48, h7_48⟩ := fs5 hσ 1 3 4 5 7;simp [h1_47, h3_47, h4_47, h5_47] at h1_48 h3_48 h4_48 h5_48 h7_48;clear hσ;replace hH : H34 = H48 := Eq.symm hH;subst hH;refine ⟨_, ?_, k + 1, rcand g i k, .sl m33 1 0 (1 + q), rfl, (h1_48.trans h1_24.symm), (by simp [h3_48, c6]), (h4_48.trans h4_24.symm), (h5_48.trans h5_24.symm), (by simp [h7_48, c6]), (g0_34.trans g0_11.symm), (g1_34.trans g1_11.symm), (gm8_34.trans gm8_11.symm), (hst_34.trans hst_11.symm), ?_, ?_, ?_, ?_⟩
             ·subst hn3; omega
             ·first | omega | assumption | (simp; done)
             ·rw [hri, rc1, if_neg hcn, if_pos (by first | exact .inl (List.eq_nil_of_length_eq_zero (by omega)) | exact .inr hc98)]
             ·exact hcs
             ·exact t4b
           ·skip;obtain ⟨id, gn, rest, rfl, hb⟩ := t3b
            ·skip
             have hbl : b.length ≤ 1000000 := by
              rw [t2];have := rcI_len25 g i (rcyc_len25 g i) (k - i)
              omega
             have hFF0 := an17 h3_45 h8_45 g0_34 g1_34 gm8_34 gm33_34 nx1 nx2 hp0 (beq_eq_false_iff_ne.2 hp0) nx15 nx16 nx17 c6 (beq_eq_false_iff_ne.2 c6) z1 (beq_eq_false_iff_ne.2 z1);refine stp_reg TT_ok (by rfl) fun K hK => ?_;simp [hFF0, encG];(try refine And.intro (by first|omega|rfl) ?_);refine FunW.at (less_w (rcand g i k) b hcl hbl) ?hf ?_
             case hf => exact FrzL.cons hcf (FrzL.cons (SlV.frz ⟨id, gn, rest, rfl, hb⟩) (FrzL.nil _))
             simp [hFF0, encG];(try refine And.intro (by first|omega|rfl) ?_);refine hK _ _ fun σ49 hσ H49 hH => ?_;clear hK K hFF0;obtain ⟨h1_49, h3_49, h4_49, h5_49, h7_49, h8_49, h98_49⟩ := fs7 hσ 1 3 4 5 7 8 98;simp [h1_45, h3_45, h4_45, h5_45, h7_45, h8_45] at h1_49 h3_49 h4_49 h5_49 h7_49 h8_49 h98_49;clear hσ;replace hH : H34 = H49 := Eq.symm hH;subst hH;refine awp_cond _ (by simp only [aeval_tmp]; exact h98_49) (fun hc98 => ?_) (fun hc98 => ?_)
             ·(try simp at hc98);refine stp_regl TT_ok (by rfl) fun K hK => ?_;simp [h8_49, g0_34, g1_34, gm8_34, gm33_34, nx1, nx2, hp0, beq_eq_false_iff_ne.2 hp0, nx15, nx16, nx17, c6, beq_eq_false_iff_ne.2 c6, z1, beq_eq_false_iff_ne.2 z1, encG];(try refine And.intro (by first|omega|rfl) ?_);refine hK _ _ fun σ50 hσ H50 hH => ?_;clear hK K;obtain ⟨h1_50, h3_50, h4_50, h5_50, h7_50⟩ := fs5 hσ 1 3 4 5 7;simp [h1_49, h4_49, h5_49, h7_49] at h1_50 h3_50 h4_50 h5_50 h7_50;clear hσ;replace hH : H34 = H50 := Eq.symm hH;subst hH;refine q_block ?_;refine q_seq ?_;refine stp_regl TT_ok (by rfl) fun K hK => ?_;simp [h7_50, g0_34, g1_34, gm8_34, gm33_34, nx1, nx2, hp0, beq_eq_false_iff_ne.2 hp0, nx15, nx16, nx17, c6, beq_eq_false_iff_ne.2 c6, z1, beq_eq_false_iff_ne.2 z1, encG, wrap_ok (n := (k : Int) + 1) (by omega) (by omega), wrap_ok (n := (i : Int) + 1) (by omega) (by omega)];(try refine And.intro (by first|omega|rfl) ?_);refine hK _ _ fun σ51 hσ H51 hH => ?_;clear hK K;obtain ⟨h1_51, h3_51, h4_51, h5_51, h7_51⟩ := fs5 hσ 1 3 4 5 7;simp [h1_50, h3_50, h4_50, h5_50] at h1_51 h3_51 h4_51 h5_51 h7_51;clear hσ;replace hH : H34 = H51 := Eq.symm hH;subst hH;refine ⟨_, ?_, k + 1, rcand g i k, .sl m33 1 0 (1 + q), rfl, (h1_51.trans h1_24.symm), (by simp [h3_51, c6]), (h4_51.trans h4_24.symm), (h5_51.trans h5_24.symm), (by simp [h7_51, c6]), (g0_34.trans g0_11.symm), (g1_34.trans g1_11.symm), (gm8_34.trans gm8_11.symm), (hst_34.trans hst_11.symm), ?_, ?_, ?_, ?_⟩
              ·subst hn3; omega
              ·first | omega | assumption | (simp; done)
              ·rw [hri, rc1, if_neg hcn, if_pos (by first | exact .inl (List.eq_nil_of_length_eq_zero (by omega)) | exact .inr hc98)]
              ·exact hcs
              ·exact t4b
             ·(try simp at hc98);refine awp_skip ?_;refine q_block ?_;refine q_seq ?_;refine stp_regl TT_ok (by rfl) fun K hK => ?_;simp [h7_49, g0_34, g1_34, gm8_34, gm33_34, nx1, nx2, hp0, beq_eq_false_iff_ne.2 hp0, nx15, nx16, nx17, c6, beq_eq_false_iff_ne.2 c6, z1, beq_eq_false_iff_ne.2 z1, encG, wrap_ok (n := (k : Int) + 1) (by omega) (by omega), wrap_ok (n := (i : Int) + 1) (by omega) (by omega)];(try refine And.intro (by first|omega|rfl) ?_);refine hK _ _ fun σ52 hσ H52 hH => ?_;clear hK K;obtain ⟨h1_52, h3_52, h4_52, h5_52, h7_52⟩ := fs5 hσ 1 3 4 5 7;simp [h1_49, h3_49, h4_49, h5_49] at h1_52 h3_52 h4_52 h5_52 h7_52;clear hσ;replace hH : H34 = H52 := Eq.symm hH;subst hH;refine ⟨_, ?_, k + 1, b, .sl id gn 0 b.length, rfl, (h1_52.trans h1_24.symm), (by simp [h3_52, c6]), (h4_52.trans h4_24.symm), (h5_52.trans h5_24.symm), (by simp [h7_52, c6]), (g0_34.trans g0_11.symm), (g1_34.trans g1_11.symm), (gm8_34.trans gm8_11.symm), (hst_34.trans hst_11.symm), ?_, ?_, ?_, ?_⟩
              ·subst hn3; omega
              ·first | omega | assumption | (simp; done)
              ·rw [hri, rc1, if_neg hcn, if_neg (by rintro (h | h); exact z1 (by rw [h]; rfl); rw [h] at hc98; cases hc98)]
              ·exact ⟨id, gn, rest, rfl, hb⟩
              ·exact t4b
       ·(try simp at hc63);have hke2 : k = g.nodes.length := by have := hc63; omega
        rw [hke2, ← rcyc_succ] at t2;rw [t2] at t3;refine awp_exit ?_;refine q_seq_exit ?_;refine q_loop_exit ?_;refine q_block_hit ?_;refine q_block ?_;refine q_seq ?_;refine stp_regl TT_ok (by rfl) fun K hK => ?_;simp [h4_26, g0_25, g1_25, gm8_25, nx1, nx2, encG, wrap_ok (n := (i : Int) + 1) (by omega) (by omega)];(try refine And.intro (by first|omega|rfl) ?_);refine hK _ _ fun σ53 hσ H53 hH => ?_;clear hK K;obtain ⟨h1_53, h3_53, h4_53⟩ := fs3 hσ 1 3 4;simp [h1_26, h3_26] at h1_53 h3_53 h4_53;clear hσ;replace hH : H25 = H53 := Eq.symm hH;subst hH;refine ⟨_, ?_, i + 1, bv, rfl, (h1_53.trans h1_5.symm), (by simp [h3_53]), (by simp [h4_53]), (g0_25.trans g0_4.symm), (g1_25.trans g1_4.symm), (hst_25.trans hst_4.symm), ?_, ?_⟩
        ·subst hn1; omega
        ·first | omega | assumption | (simp; done)
        ·exact t3
   ·(try simp at hc17);refine awp_exit ?_;refine q_seq_exit ?_;refine q_loop_exit ?_;refine q_block_hit ?_;refine q_seq ?_;refine stp_reg TT_ok (by rfl) fun K hK => ?_;simp [h3_7, g0_6, g1_6, encG];(try refine And.intro (by first|omega|rfl) ?_);refine hK _ _ fun σ54 hσ H54 hH => ?_;clear hK K;have h2_54 := congrFun hσ 2;simp [] at h2_54;clear hσ;replace hH : H6 = H54 := Eq.symm hH;subst hH;refine awp_ret ?_;have hie : i = g.nodes.length := by have := hc17; omega
    rw [hie, rcyc_eq hv _ (Nat.le_refl _)] at p2;refine q_fin1 h2_54 ?_;have e : g.pcycle = g.pcyc g.nodes.length := by simp [Gr.pcycle, hv]
    rw [e]; exact p2.frz
theorem refCycle_ok (g : Gr) : Fun1 Try.prog 22 [encG g] (.ro (g.pcycle.map (AV.int IntKind.i64))) := fun1_frz (refCyc0 g) (pu_cons (pu_graph g) pu_nil) (pu_ints _)
abbrev TT_ : Int → Prop := fun _ => True
theorem Gr.Walk.snoc {g : Gr} {to c v : Int} {k : Nat} (h : g.Walk TT_ to k v) (he : (to, c) ∈ g.edges) : g.Walk TT_ c (k + 1) v := by
 induction h with
 | nil => exact .cons he trivial .nil
 | cons h1 h2 _ ih => exact .cons h1 trivial ih
theorem Gr.Walk.reach {g : Gr} {to v : Int} {k : Nat} (h : g.Walk TT_ to k v) {l : List Int} (hl : g.Reach l v) : g.Reach l to := by
 induction h with
 | nil => exact hl
 | cons h1 _ _ ih => exact ih (hl.step h1)
theorem reach_walk {g : Gr} {a x : Int} (h : g.Reach [a] x) : ∃ k, g.Walk TT_ x k a := by
 induction h with
 | base h => simp at h; subst h; exact ⟨0, .nil⟩
 | step _ he ih => obtain ⟨k, hk⟩ := ih; exact ⟨k + 1, hk.snoc he⟩
def lenL (g : Gr) (a : Int) (i : Nat) : List Int := (List.range g.nodes.length).map fun j : Nat => if j < i then ((g.path a j).length : Int) else 0
theorem idxOf_lt_of_take {l : List Int} {a : Int} {j : Nat} (h : a ∈ l.take j) : l.idxOf a < j := by
 have h1 := List.idxOf_lt_length_of_mem h
 have h2 : (l.take j ++ l.drop j).idxOf a = (l.take j).idxOf a := by rw [List.idxOf_append, if_pos h]
 rw [List.take_append_drop] at h2
 rw [h2]
 rw [List.length_take] at h1
 omega
theorem listedL_take (ss : List (List Int)) : ∀ (m j : Nat), j ≤ m → (listedL ss m).take j = listedL ss j
 | 0, j, h => by
  obtain rfl : j = 0 := by omega
  rfl
 | m + 1, j, h => by
  by_cases hj : j = m + 1
  ·subst hj; rw [List.take_of_length_le (by rw [listed_len]; omega)]
  ·rw [listedL, List.take_append_of_le_length (by rw [listed_len]; omega)]
   exact listedL_take ss m j (by omega)
theorem listedL_get (ss : List (List Int)) {m j : Nat} (h : j < m) : (listedL ss m)[j]? = some (pickN ss (listedL ss j) : Int) := by
 have h1 := listedL_take ss m (j + 1) (by omega)
 have h2 : ((listedL ss m).take (j + 1))[j]? = (listedL ss m)[j]? := by rw [List.getElem?_take, if_pos (by omega)]
 rw [← h2, h1, listedL, List.getElem?_append_right (by rw [listed_len]; omega), listed_len, Nat.sub_self]; rfl
theorem listed_before {ss : List (List Int)} (hp : Progress ss) {k x : Nat} (hk : k < ss.length) (hx : (x : Int) ∈ ss.getD k []) : (listedL ss ss.length).idxOf (x : Int) < (listedL ss ss.length).idxOf (k : Int) := by
 have hok := listed_ok2 hp (Nat.le_refl ss.length)
 have hm := listed_all hp k hk
 have hlt := List.idxOf_lt_length_of_mem hm
 rw [listed_len] at hlt
 obtain ⟨j, hj⟩ : ∃ j, (listedL ss ss.length).idxOf (k : Int) = j := ⟨_, rfl⟩
 have hg : (listedL ss ss.length)[j]? = some (k : Int) := by
  rw [← hj, List.getElem?_eq_getElem (by rw [listed_len]; exact hlt), List.getElem_idxOf]
 rw [hj] at hlt ⊢
 rw [listedL_get ss hlt] at hg
 have hpk : pickN ss (listedL ss j) = k := by have := Option.some.inj hg; omega
 have hr := hok.ready j hlt
 rw [hpk] at hr
 simp only [readyAt, Bool.and_eq_true, List.all_eq_true, decide_eq_true_eq] at hr
 have hxm := hr.2 _ hx
 rw [← listedL_take ss ss.length j (by omega)] at hxm
 exact idxOf_lt_of_take hxm
def Gr.cpos (g : Gr) (v : Nat) : Nat := g.order.idxOf (g.rank (g.grp v) : Int)
theorem grp_lt {g : Gr} (hv : g.valid = true) {v : Nat} (h : v < g.nodes.length) : g.grp v < g.nodes.length := (grp_spec hv h).2.1
theorem rank_in {g : Gr} (hv : g.valid = true) {v : Nat} (h : v < g.nodes.length) : g.rank (g.grp v) < g.cedges.length := by
 rw [cedges_len]; exact rank_lt (grp_lt hv h) (grp_grp hv h)
theorem order_all {g : Gr} (hv : g.valid = true) {v : Nat} (h : v < g.nodes.length) : (g.rank (g.grp v) : Int) ∈ g.order := listed_all (comps_progress hv) _ (rank_in hv h)
theorem order_nodup {g : Gr} (hv : g.valid = true) : g.order.Nodup := (listed_ok2 (comps_progress hv) (Nat.le_refl _)).nodup
theorem cpos_lt {g : Gr} (hv : g.valid = true) {v : Nat} (h : v < g.nodes.length) : g.cpos v < g.order.length := List.idxOf_lt_length_of_mem (order_all hv h)
theorem cpos_get {g : Gr} (hv : g.valid = true) {v : Nat} (h : v < g.nodes.length) : g.order[g.cpos v]'(cpos_lt hv h) = (g.rank (g.grp v) : Int) := List.getElem_idxOf _
theorem cpos_inj {g : Gr} (hv : g.valid = true) {u v : Nat} (hu : u < g.nodes.length) (h : v < g.nodes.length) : g.cpos u = g.cpos v ↔ g.grp u = g.grp v := by
 constructor
 ·intro e
  have h1 := cpos_get hv hu
  have h2 := cpos_get hv h
  simp only [e] at h1
  rw [h1] at h2
  exact rank_inj (grp_grp hv hu) (grp_grp hv h) (by omega)
 ·intro e; rw [Gr.cpos, Gr.cpos, e]
theorem gcomps_len {g : Gr} (hv : g.valid = true) : g.gcomps.length = g.order.length := by rw [Gr.gcomps, if_pos hv, List.length_map]
theorem gcomps_get {g : Gr} (hv : g.valid = true) {i : Nat} (h : i < g.order.length) : ∃ r, r < g.nodes.length ∧ g.grp r = r ∧ g.order[i] = (g.rank r : Int) ∧ g.gcomps[i]? = some (g.mem g.nodes.length r) := by
 have hin := order_in g (g.order[i]) (List.getElem_mem h)
 have hk : (g.order[i]).toNat < (g.reps g.nodes.length).length := by
  have := in_toNat hin; rw [comps_len] at this; exact this
 obtain ⟨k, hke⟩ : ∃ k : Nat, (g.order[i]).toNat = k := ⟨_, rfl⟩
 rw [hke] at hk
 obtain ⟨r, hr⟩ : ∃ r, (g.reps g.nodes.length)[k] = r := ⟨_, rfl⟩
 have hrm : r ∈ g.reps g.nodes.length := by rw [← hr]; exact List.getElem_mem hk
 obtain ⟨h1, h2⟩ := reps_mem.1 hrm
 have h3 := reps_rank h1 h2
 have hnd : (g.reps g.nodes.length).Nodup := List.filter_sublist.nodup List.nodup_range
 have hrk : g.rank r = k := by
  have h4 : (g.reps g.nodes.length)[k]? = some r := by rw [List.getElem?_eq_getElem hk, hr]
  exact (List.getElem?_inj (List.getElem?_eq_some_iff.1 h3).1 hnd).1 (h3.trans h4.symm)
 refine ⟨r, h1, h2, by rw [hrk, ← hke, Int.toNat_of_nonneg hin.1], ?_⟩
 rw [Gr.gcomps, if_pos hv, List.getElem?_map, List.getElem?_eq_getElem h]
 simp only [Option.map_some, hke]
 rw [Gr.comps, Gr.ndL, List.getD_eq_getElem?_getD, List.getElem?_map, List.getElem?_eq_getElem hk, hr]; rfl
theorem mem_mem {g : Gr} {n r : Nat} {x : Int} : x ∈ g.mem n r ↔ ∃ v : Nat, v < n ∧ g.grp v = r ∧ x = v := by
 simp only [Gr.mem, List.mem_map, List.mem_filter, List.mem_range, decide_eq_true_eq]
 constructor
 ·rintro ⟨v, ⟨h1, h2⟩, rfl⟩; exact ⟨v, h1, h2, rfl⟩
 ·rintro ⟨v, h1, h2, rfl⟩; exact ⟨v, ⟨h1, h2⟩, rfl⟩
theorem mem_sorted (g : Gr) (n r : Nat) : (g.mem n r).Pairwise (· < ·) := by
 rw [Gr.mem, List.pairwise_map]
 exact (List.pairwise_lt_range.filter _).imp fun h => by omega
theorem comp_mem {g : Gr} (hv : g.valid = true) {i v : Nat} (hi : i < g.order.length) (h : v < g.nodes.length) : (v : Int) ∈ g.gcomps.getD i [] ↔ g.cpos v = i := by
 obtain ⟨r, h1, h2, h3, h4⟩ := gcomps_get hv hi
 rw [List.getD_eq_getElem?_getD, h4, Option.getD_some, mem_mem]
 constructor
 ·rintro ⟨u, _, h5, h6⟩
  obtain rfl : u = v := by omega
  rw [Gr.cpos, h5, ← h3]
  exact (order_nodup hv).idxOf_getElem i hi
 ·intro e
  refine ⟨v, h, ?_, rfl⟩
  have h5 := cpos_get hv h
  simp only [e] at h5
  rw [h3] at h5
  exact rank_inj (grp_grp hv h) h2 (by omega)
theorem comp_in {g : Gr} (hv : g.valid = true) {i : Nat} (hi : i < g.order.length) {x : Int} (hx : x ∈ g.gcomps.getD i []) : inR g.nodes.length x := by
 obtain ⟨r, h1, h2, h3, h4⟩ := gcomps_get hv hi
 rw [List.getD_eq_getElem?_getD, h4, Option.getD_some, mem_mem] at hx
 obtain ⟨v, hv, _, rfl⟩ := hx
 exact ⟨by omega, by omega⟩
theorem comp_sorted {g : Gr} (hv : g.valid = true) {i : Nat} (hi : i < g.order.length) : (g.gcomps.getD i []).Pairwise (· < ·) := by
 obtain ⟨r, h1, h2, h3, h4⟩ := gcomps_get hv hi
 rw [List.getD_eq_getElem?_getD, h4, Option.getD_some]; exact mem_sorted ..
theorem edge_cpos {g : Gr} (hv : g.valid = true) {u w : Int} (he : (u, w) ∈ g.edges) : g.cpos w.toNat ≤ g.cpos u.toNat := by
 obtain ⟨hu, hw⟩ := valid_edge hv he
 by_cases e : g.grp u.toNat = g.grp w.toNat
 ·rw [Gr.cpos, Gr.cpos, e]; exact Nat.le_refl _
 ·have hcu : (g.rank (g.grp w.toNat) : Int) ∈ g.cedges.getD (g.rank (g.grp u.toNat)) [] := by
   have h1 := ceU_get hv (i := g.nodes.length) (in_toNat hu)
   rw [Gr.cedges, List.getD_eq_getElem?_getD, h1, Option.getD_some, ceR_mem]
   refine ⟨u.toNat, in_toNat hu, rfl, w, (succ_mem hv).2 (by rw [toNat_cast hu]; exact he), fun h => e h.symm, rfl⟩
  exact Nat.le_of_lt (listed_before (comps_progress hv) (rank_in hv (in_toNat hu)) hcu)
def atL (g : Gr) (i j : Nat) : List Int := (List.range g.nodes.length).map fun v : Nat => if g.cpos v < i ∨ (g.cpos v = i ∧ (v : Int) ∈ (g.gcomps.getD i []).take j) then (g.cpos v : Int) + 1 else 0
def mxL (lev : List Int) (xs : List Int) : Int := xs.foldl (fun m x => max m (gt lev x + 1)) 0
theorem foldl_max_ge (f : Int → Int) : ∀ (xs : List Int) (a : Int), a ≤ xs.foldl (fun m x => max m (f x)) a ∧ ∀ x ∈ xs, f x ≤ xs.foldl (fun m x => max m (f x)) a
 | [], a => ⟨Int.le_refl _, fun x h => by cases h⟩
 | y :: xs, a => by
  obtain ⟨h1, h2⟩ := foldl_max_ge f xs (max a (f y))
  rw [List.foldl_cons]
  refine ⟨by omega, fun x hx => ?_⟩
  rcases List.mem_cons.1 hx with rfl | hx
  ·omega
  ·exact h2 x hx
theorem mxL_ge (lev xs : List Int) : 0 ≤ mxL lev xs ∧ ∀ x ∈ xs, gt lev x + 1 ≤ mxL lev xs := foldl_max_ge (fun x => gt lev x + 1) xs 0
theorem foldl_max_congr {f h : Int → Int} : ∀ (xs : List Int) (a : Int), (∀ x ∈ xs, f x = h x) → xs.foldl (fun m x => max m (f x)) a = xs.foldl (fun m x => max m (h x)) a
 | [], _, _ => rfl
 | y :: xs, a, e => by rw [List.foldl_cons, List.foldl_cons, e y (by simp), foldl_max_congr xs _ fun x hx => e x (List.mem_cons_of_mem _ hx)]
theorem mxL_congr {lev lev' xs : List Int} (h : ∀ x ∈ xs, gt lev x = gt lev' x) : mxL lev xs = mxL lev' xs := foldl_max_congr xs 0 fun x hx => by rw [h x hx]
theorem lvIn_len (lev : List Int) (k : Int) : ∀ xs : List Int, (lvIn lev k xs).length = lev.length := by
 intro xs
 rw [lvIn]
 induction xs generalizing lev with
 | nil => rfl
 | cons x xs ih => rw [List.foldl_cons, ih]; simp
theorem lvIn_gt {M : Nat} {k : Int} (hk : inR M k) : ∀ (xs : List Int) (lev : List Int), lev.length = M → (∀ x ∈ xs, inR M x ∧ x ≠ k) →
  ∀ y, inR M y → gt (lvIn lev k xs) y = if y = k then xs.foldl (fun m x => max m (gt lev x + 1)) (gt lev k) else gt lev y
 | [], lev, hl, _, y, hy => by
  simp only [lvIn, List.foldl_nil]
  split
  ·rename_i e; rw [e]
  ·rfl
 | x :: xs, lev, hl, hx, y, hy => by
  obtain ⟨hx1, hx2⟩ := hx x (by simp)
  have hl2 : (lev.set k.toNat (max (gt lev k) (gt lev x + 1))).length = M := by rw [List.length_set, hl]
  have ih := lvIn_gt hk xs _ hl2 (fun z hz => hx z (List.mem_cons_of_mem _ hz)) y hy
  have e1 : lvIn lev k (x :: xs) = lvIn (lev.set k.toNat (max (gt lev k) (gt lev x + 1))) k xs := rfl
  have hkl : inR lev.length k := by rw [hl]; exact hk
  rw [e1, ih]
  have hg : ∀ z, inR M z → z ≠ k → gt (lev.set k.toNat (max (gt lev k) (gt lev x + 1))) z = gt lev z := fun z hz hzk => by
   rw [gt_set hkl (by rw [hl]; exact hz), if_neg hzk]
  have hgk : gt (lev.set k.toNat (max (gt lev k) (gt lev x + 1))) k = max (gt lev k) (gt lev x + 1) := by rw [gt_set hkl hkl, if_pos rfl]
  split
  ·rw [hgk, List.foldl_cons]
   exact foldl_max_congr xs _ fun z hz => by rw [hg z (hx z (List.mem_cons_of_mem _ hz)).1 (hx z (List.mem_cons_of_mem _ hz)).2]
  ·rename_i hyk; exact hg y hy hyk
structure Topo (ce : List (List Int)) (l : List Int) : Prop where
 nodup : l.Nodup
 inn : ∀ x ∈ l, inR ce.length x
 inn2 : ∀ k : Nat, ∀ x ∈ ce.getD k [], inR ce.length x
 before : ∀ i : Nat, ∀ k, l[i]? = some k → ∀ x ∈ ce.getD k.toNat [], x ∈ l.take i
section
variable {ce cs : List (List Int)} {l : List Int}
theorem lv2_len (ht : Topo ce l) : ∀ i, i ≤ l.length → (lv2 ce cs (l.take i)).1.length = ce.length
 | 0, _ => by simp [lv2]
 | i + 1, h => by
  rw [lv2_succ (by omega), lvStep]
  simp only
  rw [lvIn_len, lv2_len ht i (by omega)]
theorem lv2_gt (ht : Topo ce l) : ∀ i, i ≤ l.length → ∀ y, inR ce.length y → (y ∉ l.take i → gt (lv2 ce cs (l.take i)).1 y = 0)
 | 0, _, y, hy, _ => by
  have : y.toNat < ce.length := in_toNat hy
  simp [lv2, gt, this]
 | i + 1, h, y, hy, hn => by
  have hi : i < l.length := by omega
  rw [lv2_succ hi, lvStep]
  simp only
  have hk := ht.inn l[i] (List.getElem_mem hi)
  have hb := ht.before i l[i] (List.getElem?_eq_getElem hi)
  rw [List.take_succ_eq_append_getElem hi] at hn
  simp only [List.mem_append, List.mem_singleton, not_or] at hn
  have hki : l[i] ∉ l.take i := fun hm => by
   obtain ⟨j, hj, he⟩ := List.mem_take_iff_getElem.1 hm
   have := (List.getElem?_inj (by omega : j < l.length) ht.nodup).1 (by rw [List.getElem?_eq_getElem (by omega), List.getElem?_eq_getElem hi, he] : l[j]? = l[i]?)
   omega
  rw [lvIn_gt hk _ _ (lv2_len ht i (by omega)) (fun x hx => ⟨ht.inn2 _ x hx, fun e => hki (e ▸ hb x hx)⟩) y hy, if_neg hn.2]
  exact lv2_gt ht i (by omega) y hy hn.1
theorem notin_take (ht : Topo ce l) {i : Nat} (hi : i < l.length) : l[i] ∉ l.take i := fun hm => by
 obtain ⟨j, hj, he⟩ := List.mem_take_iff_getElem.1 hm
 have := (List.getElem?_inj (by omega : j < l.length) ht.nodup).1 (by rw [List.getElem?_eq_getElem (by omega), List.getElem?_eq_getElem hi, he] : l[j]? = l[i]?)
 omega
theorem lv2_step (ht : Topo ce l) {i : Nat} (hi : i < l.length) {y : Int} (hy : inR ce.length y) :
  gt (lv2 ce cs (l.take (i + 1))).1 y = if y = l[i] then mxL (lv2 ce cs (l.take i)).1 (ce.getD (l[i]).toNat []) else gt (lv2 ce cs (l.take i)).1 y := by
 rw [lv2_succ hi, lvStep]
 simp only
 have hk := ht.inn l[i] (List.getElem_mem hi)
 have hb := ht.before i l[i] (List.getElem?_eq_getElem hi)
 have hki := notin_take ht hi
 rw [lvIn_gt hk _ _ (lv2_len ht i (by omega)) (fun x hx => ⟨ht.inn2 _ x hx, fun e => hki (e ▸ hb x hx)⟩) y hy, lv2_gt ht i (by omega) _ hk hki]; rfl
theorem lv2_stable (ht : Topo ce l) {i : Nat} {y : Int} (hm : y ∈ l.take i) : ∀ d, i + d ≤ l.length → gt (lv2 ce cs (l.take (i + d))).1 y = gt (lv2 ce cs (l.take i)).1 y
 | 0, _ => rfl
 | d + 1, h => by
  have hi : i + d < l.length := by omega
  have hm2 : y ∈ l.take (i + d) := by rw [List.take_add]; exact List.mem_append_left _ hm
  have hne : ¬ y = l[i + d] := fun e => by rw [e] at hm2; exact notin_take ht hi hm2
  rw [show i + (d + 1) = i + d + 1 by omega, lv2_step ht hi (ht.inn y (List.mem_of_mem_take hm)), if_neg hne, lv2_stable ht hm d (by omega)]
theorem lv2_stable2 (ht : Topo ce l) {i : Nat} (hi : i ≤ l.length) {y : Int} (hm : y ∈ l.take i) : gt (lv2 ce cs (l.take i)).1 y = gt (lv2 ce cs l).1 y := by
 have := lv2_stable (cs := cs) ht hm (l.length - i) (by omega)
 rw [show i + (l.length - i) = l.length by omega, List.take_length] at this
 exact this.symm
theorem lv2_at (ht : Topo ce l) {i : Nat} (hi : i < l.length) : gt (lv2 ce cs (l.take (i + 1))).1 l[i] = gt (lv2 ce cs l).1 l[i] :=
 lv2_stable2 ht (by omega) (by rw [List.take_succ_eq_append_getElem hi]; exact List.mem_append_right _ (List.mem_singleton.2 rfl))
theorem lv2_rec (ht : Topo ce l) {i : Nat} (hi : i < l.length) : gt (lv2 ce cs l).1 l[i] = mxL (lv2 ce cs l).1 (ce.getD (l[i]).toNat []) := by
 rw [← lv2_at ht hi, lv2_step ht hi (ht.inn _ (List.getElem_mem hi)), if_pos rfl]
 exact mxL_congr fun x hx => lv2_stable2 ht (by omega) (ht.before i _ (List.getElem?_eq_getElem hi) x hx)
structure OutOk (ce cs : List (List Int)) (l : List Int) (i : Nat) (out : List (List Int)) : Prop where
 lt : ∀ j (h : j < l.length), j < i → (gt (lv2 ce cs l).1 l[j]).toNat < out.length
 top : out.length = 0 ∨ ∃ j, ∃ h : j < l.length, j < i ∧ (gt (lv2 ce cs l).1 l[j]).toNat + 1 = out.length
 mem : ∀ d, d < out.length → ∀ x, x ∈ out.getD d [] ↔ ∃ j, ∃ h : j < l.length, j < i ∧ (gt (lv2 ce cs l).1 l[j]).toNat = d ∧ x ∈ cs.getD (l[j]).toNat []
 nodup : ∀ d, d < out.length → (out.getD d []).Nodup
theorem padL_getD {out : List (List Int)} {m d : Nat} : (padL out m).getD d [] = out.getD d [] := by
 rw [padL, List.getD_eq_getElem?_getD, List.getD_eq_getElem?_getD, List.getElem?_append]
 split
 ·rfl
 ·rename_i h
  rw [List.getElem?_eq_none (l := out) (by omega), List.getElem?_replicate]
  split <;> rfl
theorem lv2_out (ht : Topo ce l) (hdis : ∀ i j (hi : i < l.length) (hj : j < l.length), i ≠ j → ∀ x ∈ cs.getD (l[i]).toNat [], x ∉ cs.getD (l[j]).toNat []) (hnd : ∀ k, (cs.getD k []).Nodup) :
  ∀ i, i ≤ l.length → OutOk ce cs l i (lv2 ce cs (l.take i)).2
 | 0, _ => ⟨fun j _ h => by omega, .inl (by simp [lv2]), fun d h => by simp [lv2] at h, fun d h => by simp [lv2] at h⟩
 | i + 1, h => by
  have hi : i < l.length := by omega
  have ih := lv2_out ht hdis hnd i (by omega)
  have hlv := lv2_at (cs := cs) ht hi
  rw [lv2_succ hi, lvStep] at hlv ⊢
  simp only at hlv ⊢
  rw [hlv]
  obtain ⟨out, hout⟩ : ∃ out, (lv2 ce cs (l.take i)).2 = out := ⟨_, rfl⟩
  obtain ⟨D, hD⟩ : ∃ D, (gt (lv2 ce cs l).1 l[i]).toNat = D := ⟨_, rfl⟩
  rw [hout] at ih ⊢
  rw [hD]
  have hlen := stepOut_len (cs := cs) (out := out) (d := D) (k := l[i])
  have hget : ∀ d, d < (stepOut cs out D l[i]).length → (stepOut cs out D l[i]).getD d [] = if d = D then out.getD D [] ++ cs.getD (l[i]).toNat [] else out.getD d [] := by
   intro d hd
   rw [stepOut, padL_getD, List.getD_eq_getElem?_getD, List.getElem?_set]
   split
   ·rename_i e
    subst e
    rw [if_pos (by rw [padL_len]; omega), if_pos rfl]; rfl
   ·rename_i e
    rw [if_neg (fun h => e h.symm), ← List.getD_eq_getElem?_getD, padL_getD]
  have hge : ∀ d, ¬ d < out.length → out.getD d [] = [] := fun d hd => by rw [List.getD_eq_getElem?_getD, List.getElem?_eq_none (by omega)]; rfl
  refine ⟨fun j hj hji => ?_, ?_, fun d hd x => ?_, fun d hd => ?_⟩
  ·rw [hlen]
   by_cases e : j = i
   ·subst e; rw [hD]; omega
   ·have := ih.lt j hj (by omega); omega
  ·right
   rw [hlen]
   rcases Nat.lt_or_ge D out.length with h1 | h1
   ·rcases ih.top with h2 | ⟨j, hj, h2, h3⟩
    ·omega
    ·exact ⟨j, hj, by omega, by omega⟩
   ·exact ⟨i, hi, by omega, by rw [hD]; omega⟩
  ·rw [hget d hd]
   split
   ·rename_i e
    subst e
    rw [List.mem_append]
    constructor
    ·rintro (h1 | h1)
     ·by_cases hdo : d < out.length
      ·obtain ⟨j, hj, h2, h3⟩ := (ih.mem d hdo x).1 h1
       exact ⟨j, hj, by omega, h3⟩
      ·rw [hge d hdo] at h1; cases h1
     ·exact ⟨i, hi, by omega, hD, h1⟩
    ·rintro ⟨j, hj, h2, h3, h4⟩
     by_cases e : j = i
     ·subst e; exact .inr h4
     ·left
      have := ih.lt j hj (by omega)
      exact (ih.mem d (by omega) x).2 ⟨j, hj, by omega, h3, h4⟩
   ·rename_i e
    by_cases hdo : d < out.length
    ·rw [ih.mem d hdo x]
     constructor
     ·rintro ⟨j, hj, h2, h3⟩; exact ⟨j, hj, by omega, h3⟩
     ·rintro ⟨j, hj, h2, h3, h4⟩
      refine ⟨j, hj, ?_, h3, h4⟩
      by_cases e2 : j = i
      ·subst e2; omega
      ·omega
    ·rw [hge d hdo]
     constructor
     ·intro h1; cases h1
     ·rintro ⟨j, hj, h2, h3, h4⟩
      exfalso
      by_cases e2 : j = i
      ·subst e2; omega
      ·have := ih.lt j hj (by omega); omega
  ·rw [hget d hd]
   split
   ·rename_i e
    subst e
    rw [List.nodup_append]
    refine ⟨?_, hnd _, fun a ha b hb e => ?_⟩
    ·by_cases hdo : d < out.length
     ·exact ih.nodup d hdo
     ·rw [hge d hdo]; exact List.nodup_nil
    ·subst e
     by_cases hdo : d < out.length
     ·obtain ⟨j, hj, h2, h3, h4⟩ := (ih.mem d hdo a).1 ha
      exact hdis i j hi hj (by omega) a hb h4
     ·rw [hge d hdo] at ha; cases ha
   ·by_cases hdo : d < out.length
    ·exact ih.nodup d hdo
    ·rw [hge d hdo]; exact List.nodup_nil
end
theorem topo {g : Gr} (hv : g.valid = true) : Topo g.cedges g.order := by
 have hok := listed_ok2 (comps_progress hv) (Nat.le_refl g.cedges.length)
 refine ⟨hok.nodup, hok.inn, fun k x hx => ?_, fun i k hk x hx => ?_⟩
 ·rw [List.getD_eq_getElem?_getD] at hx
  cases h : g.cedges[k]? with
  | none => rw [h] at hx; cases hx
  | some l => rw [h] at hx; exact (cedges_ok hv l (List.mem_of_getElem? h)).2 x hx
 ·have hi : i < g.cedges.length := by have := (List.getElem?_eq_some_iff.1 hk).1; rwa [order_len] at this
  have h1 := listedL_get g.cedges hi
  have h2 : (pickN g.cedges (listedL g.cedges i) : Int) = k := Option.some.inj (h1.symm.trans hk)
  have hr := hok.ready i hi
  simp only [readyAt, Bool.and_eq_true, List.all_eq_true, decide_eq_true_eq] at hr
  have h3 := hr.2 x (by rw [← h2] at hx; exact hx)
  rw [Gr.order, listedL_take _ _ _ (by omega)]; exact h3
def Gr.lvF (g : Gr) : List Int := (lv2 g.cedges g.comps g.order).1
def Gr.lv (g : Gr) (v : Nat) : Nat := (gt g.lvF (g.rank (g.grp v))).toNat
theorem lvF_rec {g : Gr} (hv : g.valid = true) {v : Nat} (h : v < g.nodes.length) : gt g.lvF (g.rank (g.grp v)) = mxL g.lvF (g.cedges.getD (g.rank (g.grp v)) []) := by
 have h1 := lv2_rec (cs := g.comps) (topo hv) (cpos_lt hv h)
 rw [cpos_get hv h] at h1
 exact h1
theorem lvF_nn {g : Gr} (hv : g.valid = true) {v : Nat} (h : v < g.nodes.length) : (g.lv v : Int) = gt g.lvF (g.rank (g.grp v)) := by
 have := lvF_rec hv h
 have h2 := (mxL_ge g.lvF (g.cedges.getD (g.rank (g.grp v)) [])).1
 rw [Gr.lv, Int.toNat_of_nonneg (by omega)]
theorem edge_dep {g : Gr} (hv : g.valid = true) {u w : Int} (he : (u, w) ∈ g.edges) (h : ¬ g.grp u.toNat = g.grp w.toNat) : (g.rank (g.grp w.toNat) : Int) ∈ g.cedges.getD (g.rank (g.grp u.toNat)) [] := by
 obtain ⟨hu, hw⟩ := valid_edge hv he
 have h1 := ceU_get hv (i := g.nodes.length) (in_toNat hu)
 rw [Gr.cedges, List.getD_eq_getElem?_getD, h1, Option.getD_some, ceR_mem]
 exact ⟨u.toNat, in_toNat hu, rfl, w, (succ_mem hv).2 (by rw [toNat_cast hu]; exact he), fun e => h e.symm, rfl⟩
theorem comps_at2 {g : Gr} (hv : g.valid = true) {i : Nat} (hi : i < g.order.length) : g.comps.getD (g.order[i]).toNat [] = g.gcomps.getD i [] := by
 rw [Gr.gcomps, if_pos hv, List.getD_eq_getElem?_getD (l := g.order.map _), List.getElem?_map, List.getElem?_eq_getElem hi]; rfl
theorem levels_out {g : Gr} (hv : g.valid = true) : OutOk g.cedges g.comps g.order g.order.length (lv2 g.cedges g.comps g.order).2 := by
 have h := lv2_out (cs := g.comps) (topo hv) (fun i j hi hj hij x hx hy => ?_) (fun k => ?_) g.order.length (Nat.le_refl _)
 ·rwa [List.take_length] at h
 ·rw [comps_at2 hv hi] at hx
  rw [comps_at2 hv hj] at hy
  have hr := comp_in hv hi hx
  have h1 := (comp_mem hv hi (in_toNat hr)).1 (by rw [toNat_cast hr]; exact hx)
  have h2 := (comp_mem hv hj (in_toNat hr)).1 (by rw [toNat_cast hr]; exact hy)
  omega
 ·rw [List.getD_eq_getElem?_getD]
  cases h : g.comps[k]? with
  | none => exact List.nodup_nil
  | some l =>
   obtain ⟨r, _, rfl⟩ := List.mem_map.1 (List.mem_of_getElem? h)
   exact (mem_sorted ..).imp fun h => by omega
def levN (g : Gr) (d : Nat) : List Int := ((List.range g.nodes.length).filter fun v => decide (g.lv v = d)).map fun v : Nat => (v : Int)
theorem levN_sorted (g : Gr) (d : Nat) : (levN g d).Pairwise (· < ·) := by
 rw [levN, List.pairwise_map]
 exact (List.pairwise_lt_range.filter _).imp fun h => by omega
theorem levN_mem {g : Gr} {d : Nat} {x : Int} : x ∈ levN g d ↔ ∃ v : Nat, v < g.nodes.length ∧ g.lv v = d ∧ x = v := by
 simp only [levN, List.mem_map, List.mem_filter, List.mem_range, decide_eq_true_eq]
 constructor
 ·rintro ⟨v, ⟨h1, h2⟩, rfl⟩; exact ⟨v, h1, h2, rfl⟩
 ·rintro ⟨v, h1, h2, rfl⟩; exact ⟨v, ⟨h1, h2⟩, rfl⟩
theorem glevels_len {g : Gr} (hv : g.valid = true) : g.glevels.length = (lv2 g.cedges g.comps g.order).2.length := by rw [Gr.glevels, if_pos hv, List.length_map]
theorem lv_lt {g : Gr} (hv : g.valid = true) {v : Nat} (h : v < g.nodes.length) : g.lv v < g.glevels.length := by
 have h1 := (levels_out hv).lt (g.cpos v) (cpos_lt hv h) (cpos_lt hv h)
 rw [cpos_get hv h] at h1
 rw [glevels_len hv]; exact h1
theorem foldl_max_le (f : Int → Int) (b : Int) : ∀ (xs : List Int) (a : Int), a ≤ b → (∀ x ∈ xs, f x ≤ b) → xs.foldl (fun m x => max m (f x)) a ≤ b
 | [], a, h, _ => h
 | y :: xs, a, h, hx => by
  rw [List.foldl_cons]
  have := hx y (by simp)
  exact foldl_max_le f b xs _ (by omega) fun x h => hx x (List.mem_cons_of_mem _ h)
theorem lv2_le {ce cs : List (List Int)} {l : List Int} (ht : Topo ce l) (i : Nat) : ∀ (hi : i < l.length), gt (lv2 ce cs l).1 l[i] ≤ i := by
 induction i using Nat.strongRecOn with
 | _ i ih =>
  intro hi
  rw [lv2_rec ht hi]
  refine foldl_max_le (fun x => gt (lv2 ce cs l).1 x + 1) i _ 0 (by omega) fun x hx => ?_
  obtain ⟨j, hj, he⟩ := List.mem_take_iff_getElem.1 (ht.before i _ (List.getElem?_eq_getElem hi) x hx)
  have := ih j (by omega) (by omega)
  rw [he] at this
  omega
theorem glevels_le {g : Gr} (hv : g.valid = true) {b : Nat} (hb : g.nodes.length ≤ b) : g.glevels.length ≤ b := by
 rw [glevels_len hv]
 have hol : g.order.length ≤ g.nodes.length := by rw [order_len, cedges_len]; exact reps_len _ _
 rcases (levels_out hv).top with h | ⟨j, hj, _, h⟩
 ·omega
 ·have := lv2_le (cs := g.comps) (topo hv) j hj
  omega
theorem levels_get {g : Gr} (hv : g.valid = true) {d : Nat} (hd : d < g.glevels.length) : g.glevels[d] = levN g d := by
 have hout := levels_out hv
 have hd2 : d < (lv2 g.cedges g.comps g.order).2.length := by rw [← glevels_len hv]; exact hd
 have he : g.glevels[d] = sortI ((lv2 g.cedges g.comps g.order).2.getD d []) := by
  have : g.glevels[d]? = some (sortI ((lv2 g.cedges g.comps g.order).2.getD d [])) := by
   rw [Gr.glevels, if_pos hv, List.getElem?_map, List.getD_eq_getElem?_getD, List.getElem?_eq_getElem hd2]; rfl
  rw [List.getElem?_eq_getElem hd] at this
  exact Option.some.inj this
 rw [he]
 refine strict_eq ?_ (levN_sorted g d) fun x => ?_
 ·have hn : (sortI ((lv2 g.cedges g.comps g.order).2.getD d [])).Nodup := (List.mergeSort_perm _ _).nodup_iff.2 (hout.nodup d hd2)
  have hs := sortI_sorted ((lv2 g.cedges g.comps g.order).2.getD d [])
  exact (hs.and hn).imp fun h => by omega
 ·rw [sortI_mem, hout.mem d hd2 x, levN_mem]
  constructor
  ·rintro ⟨j, hj, _, h2, h3⟩
   rw [comps_at2 hv hj] at h3
   have hr := comp_in hv hj h3
   have hc := (comp_mem hv hj (in_toNat hr)).1 (by rw [toNat_cast hr]; exact h3)
   refine ⟨x.toNat, in_toNat hr, ?_, (toNat_cast hr).symm⟩
   have h4 := cpos_get hv (in_toNat hr)
   simp only [hc] at h4
   rw [h4] at h2; exact h2
  ·rintro ⟨v, h1, h2, rfl⟩
   refine ⟨g.cpos v, cpos_lt hv h1, cpos_lt hv h1, ?_, ?_⟩
   ·rw [cpos_get hv h1]; exact h2
   ·rw [comps_at2 hv (cpos_lt hv h1)]; exact (comp_mem hv (cpos_lt hv h1) h1).2 rfl
theorem glevels_eq {g : Gr} (hv : g.valid = true) : g.glevels = (List.range g.glevels.length).map (levN g) := by
 refine List.ext_getElem (by simp) fun i h1 h2 => ?_
 rw [levels_get hv h1]; simp
theorem levN_len (g : Gr) (d : Nat) : (levN g d).length ≤ g.nodes.length := by
 rw [levN, List.length_map]; exact Nat.le_trans (List.length_filter_le _ _) (by simp)
def lvT (g : Gr) (i j : Nat) : List Int := (List.range g.nodes.length).map fun v : Nat => if g.lv v < i ∨ (g.lv v = i ∧ (v : Int) ∈ (levN g i).take j) then (g.lv v : Int) + 1 else 0
theorem pickC_spec (far : List Int) : ∀ (m : Nat) (ks : List Int), ks.length = m → (∀ k ∈ ks, 0 ≤ k) →
  (pickC far ks = (-1, 0) ∧ ∀ k ∈ ks, gt far k < 0) ∨ ((pickC far ks).1 ∈ ks ∧ (pickC far ks).2 = gt far (pickC far ks).1 ∧ 0 ≤ (pickC far ks).2 ∧ ∀ k ∈ ks, 0 ≤ gt far k → (pickC far ks).2 ≤ gt far k)
 | 0, ks, hm, _ => by
  obtain rfl := List.eq_nil_of_length_eq_zero hm
  exact .inl ⟨rfl, fun k h => by cases h⟩
 | m + 1, ks, hm, hp => by
  obtain ⟨az, x, rfl⟩ : ∃ a x, ks = a ++ [x] := ⟨ks.dropLast, ks.getLast (by intro e; rw [e] at hm; cases hm), (List.dropLast_concat_getLast _).symm⟩
  have ih := pickC_spec far m az (by simp at hm; omega) fun k hk => hp k (List.mem_append_left _ hk)
  have hx := hp x (by simp)
  rw [pickC_snoc]
  obtain ⟨nx, ln, hs⟩ : ∃ nx ln, pickC far az = (nx, ln) := ⟨_, _, rfl⟩
  rw [hs] at ih ⊢
  simp only [pstep]
  rcases ih with ⟨h1, h2⟩ | ⟨h1, h2, h3, h4⟩
  ·obtain ⟨rfl, rfl⟩ := Prod.mk.inj h1
   by_cases hg : 0 ≤ gt far x
   ·rw [if_pos ⟨hg, .inl (by omega)⟩]
    refine .inr ⟨by simp, rfl, hg, fun k hk hk0 => ?_⟩
    rcases List.mem_append.1 hk with hk | hk
    ·have := h2 k hk; omega
    ·simp at hk; subst hk; exact Int.le_refl _
   ·rw [if_neg (fun h => hg h.1)]
    refine .inl ⟨rfl, fun k hk => ?_⟩
    rcases List.mem_append.1 hk with hk | hk
    ·exact h2 k hk
    ·simp at hk; subst hk; omega
  ·simp only at h1 h2 h3 h4
   by_cases hg : 0 ≤ gt far x ∧ (nx < 0 ∨ gt far x < ln)
   ·rw [if_pos hg]
    refine .inr ⟨by simp, rfl, hg.1, fun k hk hk0 => ?_⟩
    have hnx := hp nx (List.mem_append_left _ h1)
    rcases List.mem_append.1 hk with hk | hk
    ·have := h4 k hk hk0; simp only; omega
    ·simp at hk; subst hk; exact Int.le_refl _
   ·rw [if_neg hg]
    refine .inr ⟨List.mem_append_left _ h1, h2, h3, fun k hk hk0 => ?_⟩
    rcases List.mem_append.1 hk with hk | hk
    ·exact h4 k hk hk0
    ·simp at hk; subst hk; simp only; omega
theorem geL_mem {g : Gr} (hv : g.valid = true) {f : Nat} {k : Int} : k ∈ geL f (g.succ f) ↔ ((f : Int), k) ∈ g.edges ∧ (f : Int) ≤ k := by
 simp only [geL, List.mem_filter, decide_eq_true_eq, succ_mem hv]
structure CycOk (g : Gr) (i : Nat) (best : List Int) : Prop where
 short : ∀ f : Nat, f < i → ∀ (L : Nat) (k : Int), ((f : Int), k) ∈ g.edges → (f : Int) ≤ k → g.Walk (fun x => (f : Int) ≤ x) f L k → best ≠ [] ∧ best.length ≤ L + 1
 form : best = [] ∨ ∃ (f : Nat) (n : Nat) (nx : Int), f < i ∧ ((f : Int), nx) ∈ g.edges ∧ g.Far (fun x => (f : Int) ≤ x) f n nx ∧ best = (f : Int) :: (g.way ((g.sub f).dist f) n nx).dropLast
theorem pcyc_ok {g : Gr} (hv : g.valid = true) : ∀ i, i ≤ g.nodes.length → CycOk g i (g.pcyc i)
 | 0, _ => ⟨fun f h => by omega, .inl rfl⟩
 | i + 1, h => by
  have ih := pcyc_ok hv i (by omega)
  have hi : inR g.nodes.length (i : Int) := ⟨by omega, by omega⟩
  have hD := dist_sub hv (Int.le_refl (i : Int)) hi
  have hps := pickC_spec ((g.sub i).dist i) _ (geL i (g.succ i)) rfl fun k hk => by have := ((geL_mem hv).1 hk).2; omega
  have hwalk : ∀ (L : Nat) (k : Int), ((i : Int), k) ∈ g.edges → g.Walk (fun x => (i : Int) ≤ x) i L k → 0 ≤ gt ((g.sub i).dist i) k ∧ gt ((g.sub i).dist i) k ≤ L := by
   intro L k he hw
   have hk := (valid_edge hv he).2
   obtain ⟨j, hj, hf⟩ := hw.far
   have := hD.all k.toNat j (in_toNat hk) (by rw [toNat_cast hk]; exact hf)
   have hg : gt ((g.sub i).dist i) k = j := by rw [gt, List.getD_eq_getElem?_getD, this]; rfl
   omega
  rw [pcyc_succ, Gr.cstep]
  obtain ⟨far, hfar⟩ : ∃ far, (g.sub i).dist i = far := ⟨_, rfl⟩
  rw [hfar] at hD hps hwalk ⊢
  obtain ⟨nx, ln, hs⟩ : ∃ nx ln, pickC far (geL i (g.succ i)) = (nx, ln) := ⟨_, _, rfl⟩
  rw [hs] at hps ⊢
  simp only at hps ⊢
  have hlt : ∀ {f : Nat}, f < i + 1 → ¬ f = i → f < i := fun h1 h2 => by omega
  rcases hps with ⟨h1, h2⟩ | ⟨h1, h2, h3, h4⟩
  ·obtain ⟨rfl, rfl⟩ := Prod.mk.inj h1
   rw [if_pos (.inl (by omega))]
   refine ⟨fun f hf L k he hk hw => ?_, ?_⟩
   ·by_cases e : f = i
    ·subst e
     have := h2 k ((geL_mem hv).2 ⟨he, hk⟩)
     have := hwalk L k he hw
     omega
    ·exact ih.short f (hlt hf e) L k he hk hw
   ·rcases ih.form with h5 | ⟨f, n, nx, h5, h6⟩
    ·exact .inl h5
    ·exact .inr ⟨f, n, nx, by omega, h6⟩
  ·obtain ⟨he0, hge0⟩ := (geL_mem hv).1 h1
   have hnx := (valid_edge hv he0).2
   obtain ⟨n, hn, hfn⟩ : ∃ n : Nat, ln = n ∧ g.Far (fun x => (i : Int) ≤ x) i n nx := by
    have hnl : nx.toNat < far.length := by rw [hD.len]; exact in_toNat hnx
    rcases hD.val nx.toNat _ (List.getElem?_eq_getElem hnl) with q | ⟨n, q, hf⟩
    ·rw [gt_elem hnl] at q; omega
    ·rw [gt_elem hnl] at q; exact ⟨n, by omega, by rwa [toNat_cast hnx] at hf⟩
   subst hn
   by_cases hA : nx < 0 ∨ (g.pcyc i ≠ [] ∧ (n : Int) + 1 ≥ (g.pcyc i).length)
   ·rw [if_pos hA]
    have hA2 := hA.resolve_left (by omega)
    refine ⟨fun f hf L k he hk hw => ?_, ?_⟩
    ·by_cases e : f = i
     ·subst e
      have h5 := h4 k ((geL_mem hv).2 ⟨he, hk⟩) (hwalk L k he hw).1
      have h6 := (hwalk L k he hw).2
      exact ⟨hA2.1, by omega⟩
     ·exact ih.short f (hlt hf e) L k he hk hw
    ·rcases ih.form with h5 | ⟨f, n, nx, h5, h6⟩
     ·exact .inl h5
     ·exact .inr ⟨f, n, nx, by omega, h6⟩
   ·rw [if_neg hA, Int.toNat_natCast]
    have hcl := cand_len g far (i : Int) n nx
    refine ⟨fun f hf L k he hk hw => ⟨by simp, ?_⟩, .inr ⟨i, n, nx, by omega, he0, hfn, by rw [hfar]⟩⟩
    rw [hcl]
    by_cases e : f = i
    ·subst e
     have h5 := h4 k ((geL_mem hv).2 ⟨he, hk⟩) (hwalk L k he hw).1
     have h6 := (hwalk L k he hw).2
     omega
    ·obtain ⟨h5, h6⟩ := ih.short f (hlt hf e) L k he hk hw
     have : ¬ (n : Int) + 1 ≥ (g.pcyc i).length := fun h => hA (.inr ⟨h5, h⟩)
     omega
theorem walk_fun {g : Gr} {to : Int} {k : Nat} {v : Int} (h : g.Walk TT_ to k v) : ∃ f : Nat → Int, f 0 = v ∧ f k = to ∧ ∀ i, i < k → (f i, f (i + 1)) ∈ g.edges := by
 induction h with
 | nil => exact ⟨fun _ => to, rfl, rfl, fun i h => by omega⟩
 | @cons a b k he _ _ ih =>
  obtain ⟨f, h1, h2, h3⟩ := ih
  refine ⟨fun i => match i with | 0 => a | i + 1 => f i, rfl, h2, fun i hi => ?_⟩
  cases i with
  | zero => simp only; rw [h1]; exact he
  | succ i => exact h3 i (by omega)
theorem fun_walk {g : Gr} {ok : Int → Prop} {h : Nat → Int} (he : ∀ i, (h i, h (i + 1)) ∈ g.edges) (hok : ∀ i, ok (h i)) : ∀ (k a : Nat), g.Walk ok (h (a + k)) k (h a)
 | 0, a => .nil
 | k + 1, a => by
  have := fun_walk he hok k (a + 1)
  rw [show a + 1 + k = a + (k + 1) by omega] at this
  exact .cons (he a) (hok a) this
theorem min_at (h : Nat → Int) : ∀ L, 0 < L → ∃ j, j < L ∧ ∀ i, i < L → h j ≤ h i
 | 0, h0 => by omega
 | 1, _ => by
  refine ⟨0, by omega, fun i hi => ?_⟩
  obtain rfl : i = 0 := by omega
  exact Int.le_refl _
 | L + 2, _ => by
  obtain ⟨j, h1, h2⟩ := min_at h (L + 1) (by omega)
  by_cases hc : h j ≤ h (L + 1)
  ·refine ⟨j, by omega, fun i hi => ?_⟩
   by_cases e : i = L + 1
   ·subst e; exact hc
   ·exact h2 i (by omega)
  ·refine ⟨L + 1, by omega, fun i hi => ?_⟩
   by_cases e : i = L + 1
   ·subst e; exact Int.le_refl _
   ·have := h2 i (by omega); omega
theorem closed_least {g : Gr} (hv : g.valid = true) {L : Nat} {u w : Int} (he : (u, w) ∈ g.edges) (h : g.Walk TT_ u L w) :
  ∃ (f : Nat) (k : Int), f < g.nodes.length ∧ ((f : Int), k) ∈ g.edges ∧ (f : Int) ≤ k ∧ g.Walk (fun x => (f : Int) ≤ x) f L k := by
 obtain ⟨p, h1, h2, h3⟩ := walk_fun (Gr.Walk.cons (k := L) he trivial h)
 have hp : ∀ i, (p (i % (L + 1)), p ((i + 1) % (L + 1))) ∈ g.edges := by
  intro i
  have hlt := Nat.mod_lt i (show 0 < L + 1 by omega)
  have := h3 (i % (L + 1)) hlt
  by_cases e : i % (L + 1) + 1 = L + 1
  ·have e2 : (i + 1) % (L + 1) = 0 := by rw [Nat.add_mod, show i % (L + 1) = L by omega]; simp
   rw [e, h2, ← h1] at this
   rw [e2]; exact this
  ·have e2 : (i + 1) % (L + 1) = i % (L + 1) + 1 := by
    rw [Nat.add_mod]
    by_cases hL : L = 0
    ·subst hL; omega
    ·rw [Nat.mod_eq_of_lt (a := 1) (by omega), Nat.mod_eq_of_lt (a := i % (L + 1) + 1) (by omega)]
   rw [e2]; exact this
 obtain ⟨j, hj, hmin⟩ := min_at (fun i => p (i % (L + 1))) (L + 1) (by omega)
 have hall : ∀ i, p (j % (L + 1)) ≤ p (i % (L + 1)) := fun i => by
  have := hmin (i % (L + 1)) (Nat.mod_lt _ (by omega))
  simpa using this
 have hr := (valid_edge hv (hp j)).1
 obtain ⟨f, hf⟩ : ∃ f : Nat, p (j % (L + 1)) = f := ⟨(p (j % (L + 1))).toNat, (Int.toNat_of_nonneg hr.1).symm⟩
 have hw := fun_walk (g := g) (ok := fun x => (f : Int) ≤ x) (h := fun i => p (i % (L + 1))) hp (fun i => by rw [← hf]; exact hall i) L (j + 1)
 have e3 : (j + 1 + L) % (L + 1) = j % (L + 1) := by rw [show j + 1 + L = j + (L + 1) by omega, Nat.add_mod_right]
 simp only [e3, hf] at hw
 refine ⟨f, p ((j + 1) % (L + 1)), by rw [hf] at hr; have := hr.2; simp at this; omega, by rw [← hf]; exact hp j, by rw [← hf]; exact hall _, hw⟩
theorem pcycle_short {g : Gr} (hv : g.valid = true) {L : Nat} {u w : Int} (he : (u, w) ∈ g.edges) (h : g.Walk TT_ u L w) : g.pcycle ≠ [] ∧ g.pcycle.length ≤ L + 1 := by
 obtain ⟨f, k, h1, h2, h3, h4⟩ := closed_least hv he h
 rw [Gr.pcycle, if_pos hv]
 exact (pcyc_ok hv _ (Nat.le_refl _)).short f h1 L k h2 h3 h4
structure IsCyc (g : Gr) (c : List Int) : Prop where
 least : ∀ x ∈ c, c.getD 0 0 ≤ x
 nodup : c.Nodup
 edge : ∀ i (h : i < c.length), (c[i], c.getD ((i + 1) % c.length) 0) ∈ g.edges
theorem nocyc {g : Gr} (hv : g.valid = true) (h : g.pcycle = []) {u w : Int} (he : (u, w) ∈ g.edges) : ¬ g.Reach [w] u := fun hr => by
 obtain ⟨k, hk⟩ := reach_walk hr
 exact (pcycle_short hv he hk).1 h
theorem walk_first {g : Gr} {to a : Int} {k : Nat} (h : g.Walk TT_ to k a) : to = a ∨ ∃ b k, (a, b) ∈ g.edges ∧ g.Walk TT_ to k b := by
 cases h with
 | nil => exact .inl rfl
 | cons he _ hw => exact .inr ⟨_, _, he, hw⟩
theorem grp_self {g : Gr} (hv : g.valid = true) (h : g.pcycle = []) {v : Nat} (hvn : v < g.nodes.length) : g.grp v = v := by
 obtain ⟨_, _, h1, h2, _⟩ := grp_spec hv hvn
 obtain ⟨k, hk⟩ := reach_walk h1
 rcases walk_first hk with e | ⟨b, k, he, hw⟩
 ·omega
 ·exact absurd (Gr.R.trans (hw.reach (l := [b]) (.base (by simp))) h2) (nocyc hv h he)
theorem reps_self {g : Gr} (hv : g.valid = true) (h : g.pcycle = []) {i : Nat} (hi : i ≤ g.nodes.length) : g.reps i = List.range i := by
 rw [Gr.reps, List.filter_eq_self]
 intro v hm
 rw [decide_eq_true_eq]
 exact grp_self hv h (by have := List.mem_range.1 hm; omega)
theorem rank_self {g : Gr} (hv : g.valid = true) (h : g.pcycle = []) {r : Nat} (hr : r ≤ g.nodes.length) : g.rank r = r := by rw [Gr.rank, reps_self hv h hr, List.length_range]
theorem filter_range_eq {r : Nat} : ∀ {n : Nat}, r < n → (List.range n).filter (fun u => decide (u = r)) = [r]
 | 0, h => by omega
 | n + 1, h => by
  rw [List.range_succ, List.filter_append]
  by_cases e : r = n
  ·subst e
   have : (List.range r).filter (fun u => decide (u = r)) = [] := by
    rw [List.filter_eq_nil_iff]
    intro u hu
    have := List.mem_range.1 hu
    simp; omega
   rw [this]; simp
  ·rw [filter_range_eq (by omega)]
   have : ¬ n = r := fun h => e h.symm
   simp [this]
theorem cedges_self {g : Gr} (hv : g.valid = true) (h : g.pcycle = []) : g.cedges = g.succs := by
 rw [Gr.cedges, Gr.ceU, reps_self hv h (Nat.le_refl _), Gr.succs]
 refine List.map_congr_left fun r hr => ?_
 have hrn := List.mem_range.1 hr
 have h1 : (List.range g.nodes.length).filter (fun u => decide (g.grp u = r)) = [r] := by
  rw [← filter_range_eq hrn]
  exact List.filter_congr fun u hu => by rw [grp_self hv h (List.mem_range.1 hu)]
 rw [Gr.ceR, h1, List.flatMap_cons, List.flatMap_nil, List.append_nil, Gr.ceP]
 have h2 : (g.succ r).filter (fun k => decide (g.grp k.toNat ≠ g.grp r)) = g.succ r := by
  rw [List.filter_eq_self]
  intro k hk
  have he := (succ_mem hv).1 hk
  have hkr := (valid_edge hv he).2
  rw [decide_eq_true_eq, grp_self hv h (in_toNat hkr), grp_self hv h hrn]
  intro e
  refine nocyc hv h he (.base ?_)
  have := toNat_cast hkr
  simp only at this e
  simp; omega
 rw [h2]
 refine (List.map_congr_left fun k hk => ?_).trans (List.map_id _)
 have hkr := (valid_edge hv ((succ_mem hv).1 hk)).2
 rw [grp_self hv h (in_toNat hkr), rank_self hv h (Nat.le_of_lt (in_toNat hkr)), toNat_cast hkr]; rfl
theorem porder_self {g : Gr} (hv : g.valid = true) (h : g.pcycle = []) : g.porder = (g.order, true) := by
 rw [Gr.porder, if_pos ⟨hv, h⟩, Gr.order, cedges_self hv h]
theorem order_len2 {g : Gr} (hv : g.valid = true) (h : g.pcycle = []) : g.order.length = g.nodes.length := by
 rw [order_len, cedges_self hv h]; simp [Gr.succs]
theorem comps_flat {g : Gr} (hv : g.valid = true) (h : g.pcycle = []) : g.gcomps.flatten = g.order := by
 have : g.gcomps = g.order.map fun k => [k] := by
  rw [Gr.gcomps, if_pos hv]
  refine List.map_congr_left fun k hk => ?_
  have hr := order_in g k hk
  rw [comps_len, reps_self hv h (Nat.le_refl _), List.length_range] at hr
  have hkn := in_toNat hr
  rw [Gr.comps, Gr.ndL, reps_self hv h (Nat.le_refl _), List.getD_eq_getElem?_getD, List.getElem?_map, List.getElem?_range hkn]
  simp only [Option.map_some, Option.getD_some, Gr.mem]
  have h1 : (List.range g.nodes.length).filter (fun v => decide (g.grp v = k.toNat)) = [k.toNat] := by
   rw [← filter_range_eq hkn]
   exact List.filter_congr fun u hu => by rw [grp_self hv h (List.mem_range.1 hu)]
  rw [h1]
  simp [toNat_cast hr]
 rw [this]
 induction g.order with
 | nil => rfl
 | cons x l ih => rw [List.map_cons, List.flatten_cons, ih]; rfl
theorem flat_take_len (L : List (List Int)) (i : Nat) : (L.take i).flatten.length ≤ L.flatten.length := by
 have : L.flatten = (L.take i).flatten ++ (L.drop i).flatten := by rw [← List.flatten_append, List.take_append_drop]
 rw [this, List.length_append]; omega
theorem flat_succ {L : List (List Int)} {i : Nat} (h : i < L.length) : (L.take (i + 1)).flatten = (L.take i).flatten ++ L[i] := by
 rw [List.take_succ_eq_append_getElem h, List.flatten_append]; simp
set_option maxHeartbeats 1000000 in
theorem refOrder0 (g : Gr) : ACalls Try.prog 26 [encG g] AHeap.nil (fun r H => Frz H r (.tup [.ro (g.porder.1.map (AV.int IntKind.i64)), .bool g.porder.2])) := by
 refine acalls_body TT_ok Try.func26 rfl rfl (by simp [Try.ntmps26]) ?_;rw [Try.ntmps26];obtain ⟨σ, hσ⟩ : ∃ σ, σ = st0 [encG g] := ⟨_, rfl⟩;rw [← hσ];have h0_0 := congrFun hσ 0;simp [st0] at h0_0;clear hσ;obtain ⟨H, hH⟩ : ∃ H, H = AHeap.nil := ⟨_, rfl⟩;rw [← hH];have hn_0 : H.n = 0 := by rw [hH]; rfl
 have hst_0 : H.st = 1 := by rw [hH]; rfl
 clear hH;refine stp_reg TT_ok (by rfl) fun K hK => ?_;simp [h0_0, hn_0, hst_0, encG];(try refine And.intro (by first|omega|rfl) ?_);refine hK _ _ fun σ1 hσ H1 hH => ?_;clear hK K;have h1_1 := congrFun hσ 1;simp [] at h1_1;clear hσ;have g0_1 := gt_of hH 0;simp [hn_0, hst_0] at g0_1;have hn_1 := congrArg AHeap.n hH;simp [hn_0, hst_0] at hn_1;have hst_1 := congrArg AHeap.st hH;simp [hn_0, hst_0] at hst_1;clear hH;refine awp_seq ?_
 by_cases hv : g.valid = true
 ·skip
  by_cases hc : (g.pcycle.length : Int) = 0
  ·skip;have hce : g.pcycle = [] := List.eq_nil_of_length_eq_zero (by omega);have hFF0 := an6 h1_1 g0_1 hv (beq_iff_eq.2 hv) hc (beq_iff_eq.2 hc);refine stp_reg TT_ok (by rfl) fun K hK => ?_;simp [hFF0, encG, hce];(try refine And.intro (by first|omega|rfl) ?_);refine stp_call (refValid_ok g) ?_;simp [hFF0, encG, hce];(try refine And.intro (by first|omega|rfl) ?_);refine stp_call (refCycle_ok g) ?_;simp [hFF0, encG, hce];(try refine And.intro (by first|omega|rfl) ?_);refine hK _ _ fun σ2 hσ H2 hH => ?_;clear hK K hFF0;obtain ⟨h1_2, h15_2⟩ := fs2 hσ 1 15;simp [h1_1] at h1_2 h15_2;clear hσ;replace hH : H1 = H2 := Eq.symm hH;subst hH;refine stp_false (by simp [aeval_tmp, h15_2, hv, beq_iff_eq.2 hv, hc, beq_iff_eq.2 hc, encG]) ?_;refine awp_skip ?_;refine q_seq ?_;obtain ⟨hb1, hb2⟩ := valid_nodes hv;have hfl := comps_flat hv hce;have hol := order_len2 hv hce;have hgl := gcomps_len hv;have hFF0 := an6 h1_2 g0_1 hv (beq_iff_eq.2 hv) hc (beq_iff_eq.2 hc);refine stp_reg TT_ok (by rfl) fun K hK => ?_;simp [hFF0, encG];(try refine And.intro (by first|omega|rfl) ?_);refine stp_call (refComps_ok g) ?_;simp [hFF0, encG];(try refine And.intro (by first|omega|rfl) ?_);refine hK _ _ fun σ3 hσ H3 hH => ?_;clear hK K hFF0;have h4_3 := congrFun hσ 4;simp [] at h4_3;clear hσ;replace hH : H1 = H3 := Eq.symm hH;subst hH;refine stp_reg TT_ok (by rfl) fun K hK => ?_;simp [g0_1, hn_1, hst_1, hv, beq_iff_eq.2 hv, hc, beq_iff_eq.2 hc, encG];(try refine And.intro (by first|omega|rfl) ?_)
   refine hK _ _ fun σ4 hσ H4 hH => ?_;clear hK K;obtain ⟨h4_4, h5_4⟩ := fs2 hσ 4 5;simp [h4_3] at h4_4 h5_4;clear hσ;have g0_4 := gt_of hH 0;have g1_4 := gt_of hH 1;simp [g0_1, hn_1, hst_1, hv, beq_iff_eq.2 hv, hc, beq_iff_eq.2 hc] at g0_4 g1_4;have hn_4 := congrArg AHeap.n hH;simp [hn_1, hst_1] at hn_4;have hst_4 := congrArg AHeap.st hH;simp [hn_1, hst_1] at hst_4;clear hH;refine awp_seq ?_;refine stp_reg TT_ok (by rfl) fun K hK => ?_;simp [g0_4, g1_4, hv, beq_iff_eq.2 hv, hc, beq_iff_eq.2 hc, encG];(try refine And.intro (by first|omega|rfl) ?_);refine hK _ _ fun σ5 hσ H5 hH => ?_;clear hK K;obtain ⟨h4_5, h5_5, h6_5⟩ := fs3 hσ 4 5 6;simp [h4_4, h5_4] at h4_5 h5_5 h6_5;clear hσ;replace hH : H4 = H5 := Eq.symm hH;subst hH;refine awp_block ?_;refine awp_loopV (fun n σ' H' => ∃ (i : Nat) (gn : Nat) (es : List Int), n = g.gcomps.length - i ∧ σ' 4 = σ5 4 ∧ σ' 5 = .sl 1 gn 0 es.length ∧ σ' 6 = (AV.int IntKind.i64) i ∧ H'.get 0 = H4.get 0 ∧ H'.get 1 = some (.row 3 1 gn (es.map (AV.int IntKind.i64))) ∧ H'.st = H4.st ∧ (i ≤ g.gcomps.length) ∧ (es = (g.gcomps.take i).flatten)) ?_ ?_
   ·refine ⟨_, 0, 0, [], rfl, rfl, (by simp [h5_5]), (by simp [h6_5]), rfl, (by simp [g1_4]), rfl, ?_, ?_⟩
    ·first | omega | (simp; done) | assumption
    ·rfl
   ·rintro n1 σ6 H6 ⟨i, gn, es, hn1, q4_6, h5_6, h6_6, qg0_6, g1_6, qst_6, p1, p2⟩
    have h4_6 := q4_6.trans h4_5;have g0_6 := qg0_6.trans g0_4;have hst_6 := qst_6.trans hst_4;refine awp_seq ?_;refine stp_reg TT_ok (by rfl) fun K hK => ?_;simp [h4_6, h6_6, g0_6, g1_6, hv, beq_iff_eq.2 hv, hc, beq_iff_eq.2 hc, encG, encS];(try refine And.intro (by first|omega|rfl) ?_);refine hK _ _ fun σ7 hσ H7 hH => ?_;clear hK K;obtain ⟨h4_7, h5_7, h6_7, h22_7⟩ := fs4 hσ 4 5 6 22;simp [h4_6, h5_6, h6_6] at h4_7 h5_7 h6_7 h22_7;clear hσ;replace hH : H6 = H7 := Eq.symm hH;subst hH;refine awp_cond _ (by simp only [aeval_tmp]; exact h22_7) (fun hc22 => ?_) (fun hc22 => ?_)
    ·(try simp at hc22);have hlt : i < g.gcomps.length := by simpa using hc22
     have hft := flat_take_len g.gcomps (i + 1);rw [flat_succ hlt, ← p2, hfl, List.length_append] at hft;refine awp_skip ?_;refine q_seq ?_;refine awp_seq ?_;refine awp_block ?_;refine stp_regl TT_ok (by rfl) fun K hK => ?_;simp [h4_7, h5_7, h6_7, g0_6, g1_6, hst_6, hv, beq_iff_eq.2 hv, hc, beq_iff_eq.2 hc, encG, encS, hlt, take_map_len, show (es.length + (g.gcomps[i]).length) * 8 ≤ 140737488355328 by omega, show es.length + (g.gcomps[i]).length ≤ 9223372036854775807 by omega];(try refine And.intro (by first|omega|rfl) ?_);refine hK _ _ fun σ8 hσ H8 hH => ?_;clear hK K;obtain ⟨h4_8, h5_8, h6_8⟩ := fs3 hσ 4 5 6;simp [h4_7, h6_7] at h4_8 h5_8 h6_8;clear hσ;have g0_8 := gt_of hH 0;have g1_8 := gt_of hH 1;simp [g0_6, g1_6, hst_6, hv, beq_iff_eq.2 hv, hc, beq_iff_eq.2 hc] at g0_8 g1_8;have hst_8 := congrArg AHeap.st hH;simp [hst_6] at hst_8;clear hH;refine q_block ?_;refine q_seq ?_;refine stp_regl TT_ok (by rfl) fun K hK => ?_;simp [h6_8, g0_8, g1_8, hv, beq_iff_eq.2 hv, hc, beq_iff_eq.2 hc, encG, wrap_ok (n := (i : Int) + 1) (by omega) (by omega)];(try refine And.intro (by first|omega|rfl) ?_);refine hK _ _ fun σ9 hσ H9 hH => ?_;clear hK K;obtain ⟨h4_9, h5_9, h6_9⟩ := fs3 hσ 4 5 6;simp [h4_8, h5_8] at h4_9 h5_9 h6_9;clear hσ;replace hH : H8 = H9 := Eq.symm hH;subst hH;refine ⟨_, ?_, i + 1, gn + 1, es ++ g.gcomps[i], rfl, (h4_9.trans h4_5.symm), (by simp [h5_9]), (by simp [h6_9]), (g0_8.trans g0_4.symm), (by simp [g1_8]), (hst_8.trans hst_4.symm), ?_, ?_⟩
     ·subst hn1; omega
     ·first | omega | assumption | (simp; done)
     ·rw [flat_succ hlt, p2]
    ·(try simp at hc22);refine awp_exit ?_;refine q_seq_exit ?_;refine q_loop_exit ?_;refine q_block_hit ?_;refine q_seq ?_;refine stp_reg TT_ok (by rfl) fun K hK => ?_;simp [h5_7, g0_6, g1_6, hv, beq_iff_eq.2 hv, hc, beq_iff_eq.2 hc, encG];(try refine And.intro (by first|omega|rfl) ?_);refine hK _ _ fun σ10 hσ H10 hH => ?_;clear hK K;obtain ⟨h2_10, h3_10⟩ := fs2 hσ 2 3;simp [] at h2_10 h3_10;clear hσ;replace hH : H6 = H10 := Eq.symm hH;subst hH;refine awp_ret ?_;have hie : i = g.gcomps.length := by have := hc22; omega
     rw [hie, List.take_length, hfl] at p2;subst p2;refine q_fin2 h2_10 h3_10 ?_;rw [porder_self hv hce]
     exact .tup rfl fun j x y hx hy => by
      match j, hx, hy with
      | 0, hx, hy => simp at hx hy; subst hx; subst hy; exact frz_ints g1_6 rfl
      | 1, hx, hy => simp at hx hy; subst hx; subst hy; exact .pure (.bool _)
  ·skip;have hce : ¬ g.pcycle = [] := fun e => hc (by rw [e]; rfl);have hFF0 := an6 h1_1 g0_1 hv (beq_iff_eq.2 hv) hc (beq_eq_false_iff_ne.2 hc);refine stp_reg TT_ok (by rfl) fun K hK => ?_;simp [hFF0, encG, List.length_pos_iff.2 hce];(try refine And.intro (by first|omega|rfl) ?_);refine stp_call (refValid_ok g) ?_;simp [hFF0, encG, List.length_pos_iff.2 hce];(try refine And.intro (by first|omega|rfl) ?_);refine stp_call (refCycle_ok g) ?_;simp [hFF0, encG, List.length_pos_iff.2 hce];(try refine And.intro (by first|omega|rfl) ?_);refine hK _ _ fun σ11 hσ H11 hH => ?_;clear hK K hFF0;obtain ⟨h1_11, h15_11⟩ := fs2 hσ 1 15;simp [h1_1] at h1_11 h15_11;clear hσ;replace hH : H1 = H11 := Eq.symm hH;subst hH;refine stp_true (by simp [aeval_tmp, h15_11, hv, beq_iff_eq.2 hv, hc, beq_eq_false_iff_ne.2 hc, encG, List.length_pos_iff.2 hce]) ?_;refine stp_reg TT_ok (by rfl) fun K hK => ?_;simp [g0_1, hv, beq_iff_eq.2 hv, hc, beq_eq_false_iff_ne.2 hc, encG];(try refine And.intro (by first|omega|rfl) ?_);refine hK _ _ fun σ12 hσ H12 hH => ?_;clear hK K;obtain ⟨h2_12, h3_12⟩ := fs2 hσ 2 3;simp [] at h2_12 h3_12;clear hσ;replace hH : H1 = H12 := Eq.symm hH;subst hH;refine awp_ret ?_;refine q_seq_ret ?_;refine q_fin2 h2_12 h3_12 ?_;have e : g.porder = ([], false) := by rw [Gr.porder, if_neg (fun h => by first | exact hv h.1 | exact hce h.2)]
   rw [e]
   exact .tup rfl fun j x y hx hy => by
    match j, hx, hy with
    | 0, hx, hy => simp at hx hy; subst hx; subst hy; exact .nils
    | 1, hx, hy => simp at hx hy; subst hx; subst hy; exact .pure (.bool _)
 ·skip;have hFF0 := an4 h1_1 g0_1 hv (beq_eq_false_iff_ne.2 hv);refine stp_reg TT_ok (by rfl) fun K hK => ?_;simp [hFF0, encG];(try refine And.intro (by first|omega|rfl) ?_);refine stp_call (refValid_ok g) ?_;simp [hFF0, encG];(try refine And.intro (by first|omega|rfl) ?_);refine hK _ _ fun σ13 hσ H13 hH => ?_;clear hK K hFF0;obtain ⟨h1_13, h15_13⟩ := fs2 hσ 1 15;simp [h1_1] at h1_13 h15_13;clear hσ;replace hH : H1 = H13 := Eq.symm hH;subst hH;refine stp_true (by simp [aeval_tmp, h15_13, hv, beq_eq_false_iff_ne.2 hv, encG]) ?_;refine stp_reg TT_ok (by rfl) fun K hK => ?_;simp [g0_1, hv, beq_eq_false_iff_ne.2 hv, encG];(try refine And.intro (by first|omega|rfl) ?_);refine hK _ _ fun σ14 hσ H14 hH => ?_;clear hK K;obtain ⟨h2_14, h3_14⟩ := fs2 hσ 2 3;simp [] at h2_14 h3_14;clear hσ;replace hH : H1 = H14 := Eq.symm hH;subst hH;refine awp_ret ?_;refine q_seq_ret ?_;refine q_fin2 h2_14 h3_14 ?_;have e : g.porder = ([], false) := by rw [Gr.porder, if_neg (fun h => by first | exact hv h.1 | exact hce h.2)]
  rw [e]
  exact .tup rfl fun j x y hx hy => by
   match j, hx, hy with
   | 0, hx, hy => simp at hx hy; subst hx; subst hy; exact .nils
   | 1, hx, hy => simp at hx hy; subst hx; subst hy; exact .pure (.bool _)
theorem refOrder_ok (g : Gr) : Fun1 Try.prog 26 [encG g] (.tup [.ro (g.porder.1.map (AV.int IntKind.i64)), .bool g.porder.2]) := fun1_frz (refOrder0 g) (pu_cons (pu_graph g) pu_nil) (.tup (pu_cons (pu_ints _) (pu_cons (.bool _) pu_nil)))
def lvR (g : Gr) (i j : Nat) : List Int := (List.range g.nodes.length).map fun v : Nat => if g.cpos v < i ∨ (g.cpos v = i ∧ (v : Int) ∈ (g.gcomps.getD i []).take j) then (g.lv v : Int) else 0
theorem lvR_len (g : Gr) (i j : Nat) : (lvR g i j).length = g.nodes.length := by simp [lvR]
theorem lvR_zero (g : Gr) : lvR g 0 0 = List.replicate g.nodes.length 0 := by
 refine List.ext_getElem (by simp [lvR]) fun i h1 h2 => by simp [lvR]
theorem lvR_get {g : Gr} {i j v : Nat} {h : v < (lvR g i j).length} : (lvR g i j)[v] = if g.cpos v < i ∨ (g.cpos v = i ∧ (v : Int) ∈ (g.gcomps.getD i []).take j) then (g.lv v : Int) else 0 := by simp [lvR]
theorem lvR_next {g : Gr} (hv : g.valid = true) {i : Nat} (hi : i < g.order.length) : lvR g i (g.gcomps.getD i []).length = lvR g (i + 1) 0 := by
 refine List.ext_getElem (by simp [lvR]) fun v h1 h2 => ?_
 have hvn : v < g.nodes.length := by rw [lvR_len] at h1; exact h1
 have hm := comp_mem hv hi hvn
 rw [lvR_get, lvR_get, List.take_length]
 simp only [hm]
 by_cases h : g.cpos v < i + 1
 ·rw [if_pos (by omega), if_pos (.inl h)]
 ·rw [if_neg (by omega), if_neg (by rintro (h5 | ⟨_, h5⟩); exact h h5; simp at h5)]
theorem lvR_set {g : Gr} (hv : g.valid = true) {i j : Nat} (hi : i < g.order.length) {x : Int} (hx : (g.gcomps.getD i [])[j]? = some x) : (lvR g i j).set x.toNat (g.lv x.toNat : Int) = lvR g i (j + 1) := by
 have hjl := (List.getElem?_eq_some_iff.1 hx).1
 have hxm := List.mem_of_getElem? hx
 have hr := comp_in hv hi hxm
 have hc : g.cpos x.toNat = i := (comp_mem hv hi (in_toNat hr)).1 (by rw [toNat_cast hr]; exact hxm)
 refine List.ext_getElem (by simp [lvR]) fun v h1 h2 => ?_
 have hvn : v < g.nodes.length := by rw [lvR_len] at h2; exact h2
 rw [List.getElem_set, lvR_get]
 split
 ·rename_i e
  subst e
  rw [lvR_get, toNat_cast hr, if_pos (.inr ⟨hc, List.mem_take_iff_getElem.2 ⟨j, by omega, (List.getElem?_eq_some_iff.1 hx).2⟩⟩)]
 ·rename_i e
  rw [lvR_get]
  have : (v : Int) ∈ (g.gcomps.getD i []).take (j + 1) ↔ (v : Int) ∈ (g.gcomps.getD i []).take j := by
   rw [List.take_add_one, hx]
   simp only [Option.toList_some, List.mem_append, List.mem_singleton]
   constructor
   ·rintro (h | h)
    ·exact h
    ·exfalso; apply e; rw [← h]; rfl
   ·exact Or.inl
  simp only [this]
theorem lvR_old {g : Gr} {i : Nat} {x : Int} (hc : g.cpos x.toNat < i) {h : x.toNat < (lvR g i 0).length} : (lvR g i 0)[x.toNat] = (g.lv x.toNat : Int) := by
 rw [lvR_get, if_pos (.inl hc)]
theorem lvR_full {g : Gr} (hv : g.valid = true) {v : Nat} (hvn : v < g.nodes.length) {h : v < (lvR g g.order.length 0).length} : (lvR g g.order.length 0)[v] = (g.lv v : Int) := by
 rw [lvR_get, if_pos (.inl (cpos_lt hv hvn))]
theorem comp_head {g : Gr} (hv : g.valid = true) {i : Nat} (hi : i < g.order.length) : ∃ r, r < g.nodes.length ∧ g.grp r = r ∧ g.order[i] = (g.rank r : Int) ∧ (g.gcomps.getD i [])[0]? = some (r : Int) ∧ ∀ v : Nat, v < g.nodes.length → (g.grp v = r ↔ g.cpos v = i) := by
 obtain ⟨r, h1, h2, h3, h4⟩ := gcomps_get hv hi
 have hs := comp_sorted hv hi
 have hm : ∀ v : Nat, v < g.nodes.length → ((v : Int) ∈ g.gcomps.getD i [] ↔ g.grp v = r) := fun v hvn => by
  rw [List.getD_eq_getElem?_getD, h4, Option.getD_some, mem_mem]
  constructor
  ·rintro ⟨u, _, h5, h6⟩; obtain rfl : v = u := by omega
   exact h5
  ·intro e; exact ⟨v, hvn, e, rfl⟩
 refine ⟨r, h1, h2, h3, ?_, fun v hvn => ?_⟩
 ·have hrm := (hm r h1).2 h2
  obtain ⟨c, hc⟩ : ∃ c, g.gcomps.getD i [] = c := ⟨_, rfl⟩
  have hin : ∀ x ∈ g.gcomps.getD i [], inR g.nodes.length x := fun x hx => comp_in hv hi hx
  rw [hc] at hs hm hrm hin ⊢
  cases c with
  | nil => cases hrm
  | cons a c =>
   have ha := hin a (by simp)
   have hga := (hm a.toNat (in_toNat ha)).1 (by rw [toNat_cast ha]; simp)
   have hle := (grp_spec hv (in_toNat ha)).1
   have hca := toNat_cast ha
   rcases List.mem_cons.1 hrm with e | hmem
   ·rw [e]; rfl
   ·have := (List.pairwise_cons.1 hs).1 _ hmem
    omega
 ·rw [← hm v hvn]; exact comp_mem hv hi hvn
structure NR (g : Gr) (r : Nat) (es : List (Int × Int)) (m : Int) : Prop where
 nn : 0 ≤ m
 ge : ∀ e ∈ es, g.grp e.1.toNat = r → ¬ g.grp e.2.toNat = r → (g.lv e.2.toNat : Int) + 1 ≤ m
 le : m = 0 ∨ ∃ e ∈ es, g.grp e.1.toNat = r ∧ ¬ g.grp e.2.toNat = r ∧ m = (g.lv e.2.toNat : Int) + 1
theorem NR.nil (g : Gr) (r : Nat) : NR g r [] 0 := ⟨by omega, fun e h => (nomatch h), .inl rfl⟩
theorem NR.skip {g : Gr} {r : Nat} {es : List (Int × Int)} {m : Int} (h : NR g r es m) {e : Int × Int} (he : ¬ (g.grp e.1.toNat = r ∧ ¬ g.grp e.2.toNat = r)) : NR g r (es ++ [e]) m := by
 refine ⟨h.nn, fun x hx h1 h2 => ?_, h.le.imp id fun ⟨x, hx, h1⟩ => ⟨x, List.mem_append_left _ hx, h1⟩⟩
 rcases List.mem_append.1 hx with hx | hx
 ·exact h.ge x hx h1 h2
 ·simp at hx; subst hx; exact absurd ⟨h1, h2⟩ he
theorem NR.step {g : Gr} {r : Nat} {es : List (Int × Int)} {m : Int} (h : NR g r es m) {e : Int × Int} (h1 : g.grp e.1.toNat = r) (h2 : ¬ g.grp e.2.toNat = r) : NR g r (es ++ [e]) (max m ((g.lv e.2.toNat : Int) + 1)) := by
 have hn := h.nn
 refine ⟨by omega, fun x hx h3 h4 => ?_, ?_⟩
 ·rcases List.mem_append.1 hx with hx | hx
  ·have := h.ge x hx h3 h4; omega
  ·simp at hx; subst hx; omega
 ·rcases Int.le_total m ((g.lv e.2.toNat : Int) + 1) with h3 | h3
  ·exact .inr ⟨e, by simp, h1, h2, by omega⟩
  ·rw [Int.max_eq_left h3]
   exact h.le.imp id fun ⟨x, hx, h1⟩ => ⟨x, List.mem_append_left _ hx, h1⟩
theorem NR.final {g : Gr} (hv : g.valid = true) {r : Nat} (hr : r < g.nodes.length) (hg : g.grp r = r) {m : Int} (h : NR g r g.edges m) : m = g.lv r := by
 have hrec := lvF_rec hv hr
 have hnn := lvF_nn hv hr
 rw [hnn, hrec, hg]
 have hmx := mxL_ge g.lvF (g.cedges.getD (g.rank r) [])
 refine Int.le_antisymm ?_ ?_
 ·rcases h.le with h1 | ⟨⟨u, w⟩, he, h1, h2, h3⟩
  ·omega
  ·have hd := edge_dep hv he (fun e => h2 (by rw [← e]; exact h1))
   simp only at h1 h2 h3
   rw [h1] at hd
   have := hmx.2 _ hd
   rw [← lvF_nn hv (in_toNat (valid_edge hv he).2)] at this
   simp only at this
   omega
 ·refine foldl_max_le (fun x => gt g.lvF x + 1) m _ 0 h.nn fun x hx => ?_
  have h1 := ceU_get hv (i := g.nodes.length) hr
  rw [hg] at h1
  rw [Gr.cedges, List.getD_eq_getElem?_getD, h1, Option.getD_some, ceR_mem] at hx
  obtain ⟨u, hu, hgu, k, hk, hne, rfl⟩ := hx
  have he := (succ_mem hv).1 hk
  have hkr := (valid_edge hv he).2
  have := h.ge _ he (by simpa using hgu) (by rw [← hgu]; exact hne)
  rw [← lvF_nn hv (in_toNat hkr)]
  exact this
structure MS (g : Gr) (i : Nat) (m : Int) : Prop where
 ge : ∀ v : Nat, v < g.nodes.length → g.cpos v < i → (g.lv v : Int) ≤ m
 top : (i = 0 ∧ m = -1) ∨ ∃ v : Nat, v < g.nodes.length ∧ m = g.lv v
theorem MS.zero (g : Gr) : MS g 0 (-1) := ⟨fun v _ h => by omega, .inl ⟨rfl, rfl⟩⟩
theorem lv_grp {g : Gr} {u v : Nat} (h : g.grp u = g.grp v) : g.lv u = g.lv v := by rw [Gr.lv, Gr.lv, h]
theorem MS.step {g : Gr} (hv : g.valid = true) {i : Nat} {m : Int} (h : MS g i m) {r : Nat} (hr : r < g.nodes.length) (hc : g.cpos r = i) : MS g (i + 1) (max m (g.lv r)) := by
 refine ⟨fun v hvn hcv => ?_, ?_⟩
 ·by_cases e : g.cpos v = i
  ·rw [lv_grp ((cpos_inj hv hvn hr).1 (e.trans hc.symm))]; omega
  ·have := h.ge v hvn (by omega); omega
 ·right
  rcases Int.le_total m (g.lv r : Int) with h3 | h3
  ·exact ⟨r, hr, by omega⟩
  ·rw [Int.max_eq_left h3]
   rcases h.top with ⟨_, h4⟩ | h4
   ·omega
   ·exact h4
theorem MS.final {g : Gr} (hv : g.valid = true) {m : Int} (h : MS g g.order.length m) : m + 1 = g.glevels.length := by
 have hout := levels_out hv
 have hl := glevels_len hv
 have hub : ∀ v : Nat, v < g.nodes.length → g.lv v < g.glevels.length := fun v hvn => lv_lt hv hvn
 rcases h.top with ⟨h1, h2⟩ | ⟨v, hvn, h2⟩
 ·rcases hout.top with h3 | ⟨j, hj, _, _⟩
  ·omega
  ·omega
 ·have h3 := hub v hvn
  rcases hout.top with h4 | ⟨j, hj, h5, h6⟩
  ·omega
  ·obtain ⟨r, r1, r2, r3, _, r5⟩ := comp_head hv hj
   have hcr := (r5 r r1).1 r2
   have := h.ge r r1 (by omega)
   rw [r3] at h6
   have hrr : g.lv r = (gt g.lvF (g.rank r)).toNat := by rw [Gr.lv, r2]
   rw [Gr.lvF] at hrr
   omega
def levP (g : Gr) (d i : Nat) : List Int := ((List.range i).filter fun v => decide (g.lv v = d)).map fun v : Nat => (v : Int)
theorem levP_succ (g : Gr) (d i : Nat) : levP g d (i + 1) = levP g d i ++ if g.lv i = d then [(i : Int)] else [] := by
 simp only [levP, List.range_succ, List.filter_append, List.map_append]
 congr 1
 by_cases h : g.lv i = d <;> simp [h]
theorem levP_len (g : Gr) (d i : Nat) : (levP g d i).length ≤ i := by
 rw [levP, List.length_map]; exact Nat.le_trans (List.length_filter_le _ _) (by simp)
set_option maxHeartbeats 1000000 in
theorem refLevels0 (g : Gr) : ACalls Try.prog 31 [encG g] AHeap.nil (fun r H => Frz H r (encS g.glevels)) := by
 refine acalls_body TT_ok Try.func31 rfl rfl (by simp [Try.ntmps31]) ?_;rw [Try.ntmps31];obtain ⟨σ, hσ⟩ : ∃ σ, σ = st0 [encG g] := ⟨_, rfl⟩;rw [← hσ];have h0_0 := congrFun hσ 0;simp [st0] at h0_0;clear hσ;obtain ⟨H, hH⟩ : ∃ H, H = AHeap.nil := ⟨_, rfl⟩;rw [← hH];have hn_0 : H.n = 0 := by rw [hH]; rfl
 have hst_0 : H.st = 1 := by rw [hH]; rfl
 clear hH;refine stp_reg TT_ok (by rfl) fun K hK => ?_;simp [h0_0, hn_0, hst_0, encG];(try refine And.intro (by first|omega|rfl) ?_);refine hK _ _ fun σ1 hσ H1 hH => ?_;clear hK K;have h1_1 := congrFun hσ 1;simp [] at h1_1;clear hσ;have g0_1 := gt_of hH 0;simp [hn_0, hst_0] at g0_1;have hn_1 := congrArg AHeap.n hH;simp [hn_0, hst_0] at hn_1;have hst_1 := congrArg AHeap.st hH;simp [hn_0, hst_0] at hst_1;clear hH;refine awp_seq ?_;refine stp_reg TT_ok (by rfl) fun K hK => ?_;simp [h1_1, g0_1, encG];(try refine And.intro (by first|omega|rfl) ?_);refine stp_call (refValid_ok g) ?_;simp [h1_1, g0_1, encG];(try refine And.intro (by first|omega|rfl) ?_);refine hK _ _ fun σ2 hσ H2 hH => ?_;clear hK K;obtain ⟨h1_2, h18_2⟩ := fs2 hσ 1 18;simp [h1_1] at h1_2 h18_2;clear hσ;replace hH : H1 = H2 := Eq.symm hH;subst hH;refine awp_cond _ (by simp only [aeval_tmp]; exact h18_2) (fun hc18 => ?_) (fun hc18 => ?_)
 ·(try simp at hc18);refine stp_reg TT_ok (by rfl) fun K hK => ?_;simp [g0_1, encG];(try refine And.intro (by first|omega|rfl) ?_);refine hK _ _ fun σ3 hσ H3 hH => ?_;clear hK K;have h2_3 := congrFun hσ 2;simp [] at h2_3;clear hσ;replace hH : H1 = H3 := Eq.symm hH;subst hH;refine awp_ret ?_;refine q_seq_ret ?_;refine q_fin1 h2_3 ?_;rw [show g.glevels = [] by simp [Gr.glevels, hc18]]; exact .nils
 ·(try simp at hc18);have hv : g.valid = true := by simpa using hc18
  obtain ⟨hb1, hb2⟩ := valid_nodes hv;have hgl := grpL_len g g.nodes.length;have hcl := gcomps_len hv;have hol : g.order.length ≤ g.nodes.length := by rw [order_len, cedges_len]; exact reps_len _ _
  have hgll := glevels_le hv (Nat.le_refl _);refine awp_skip ?_;refine q_seq ?_;refine stp_lex false TT_ok mixed (by rfl) (by rfl) (by kernel_rfl) (by rfl) fun U hU K hK => ?_;simp [h1_2, g0_1, encG];(try refine And.intro (by first|omega|rfl) ?_);refine lex_call (groups_ok g hv) ?_;simp [h1_2, g0_1, encG];(try refine And.intro (by first|omega|rfl) ?_);refine lex_call (refComps_ok g) ?_;simp [h1_2, g0_1, encG];(try refine And.intro (by first|omega|rfl) ?_);refine hK _ _ _ (by subst hU; kernel_rfl) fun σ4 hσ H4 hH => ?_;clear hK K hU U;obtain ⟨h1_4, h3_4, h4_4⟩ := fs3 hσ 1 3 4;simp [h1_2] at h1_4 h3_4 h4_4;clear hσ;replace hH : H1 = H4 := Eq.symm hH;subst hH;refine stp_reg TT_ok (by rfl) fun K hK => ?_;simp [h1_4, g0_1, hn_1, hst_1, encG, show (g.nodes.length : Int) ≤ 281474976710656 by omega];(try refine And.intro (by first|omega|rfl) ?_);refine hK _ _ fun σ5 hσ H5 hH => ?_;clear hK K;obtain ⟨h1_5, h3_5, h4_5, h5_5⟩ := fs4 hσ 1 3 4 5;simp [h1_4, h3_4, h4_4] at h1_5 h3_5 h4_5 h5_5;clear hσ;have g0_5 := gt_of hH 0;have g1_5 := gt_of hH 1;simp [g0_1, hn_1, hst_1] at g0_5 g1_5;have hn_5 := congrArg AHeap.n hH;simp [hn_1, hst_1] at hn_5;have hst_5 := congrArg AHeap.st hH;simp [hn_1, hst_1] at hst_5;clear hH;refine stp_reg TT_ok (by rfl) fun K hK => ?_;simp [g0_5, g1_5, encG];(try refine And.intro (by first|omega|rfl) ?_);refine hK _ _ fun σ6 hσ H6 hH => ?_;clear hK K;obtain ⟨h1_6, h3_6, h4_6, h5_6, h6_6⟩ := fs5 hσ 1 3 4 5 6;simp [h1_5, h3_5, h4_5, h5_5] at h1_6 h3_6 h4_6 h5_6 h6_6
  clear hσ;replace hH : H5 = H6 := Eq.symm hH;subst hH;refine awp_seq ?_;refine stp_reg TT_ok (by rfl) fun K hK => ?_;simp [g0_5, g1_5, encG];(try refine And.intro (by first|omega|rfl) ?_);refine hK _ _ fun σ7 hσ H7 hH => ?_;clear hK K;obtain ⟨h1_7, h3_7, h4_7, h5_7, h6_7, h7_7⟩ := fs6 hσ 1 3 4 5 6 7;simp [h1_6, h3_6, h4_6, h5_6, h6_6] at h1_7 h3_7 h4_7 h5_7 h6_7 h7_7;clear hσ;replace hH : H5 = H7 := Eq.symm hH;subst hH;refine awp_block ?_;refine awp_loopV (fun n σ' H' => ∃ (i : Nat) (mst : Int), n = g.order.length - i ∧ σ' 1 = σ7 1 ∧ σ' 3 = σ7 3 ∧ σ' 4 = σ7 4 ∧ σ' 5 = σ7 5 ∧ σ' 6 = (AV.int IntKind.i64) mst ∧ σ' 7 = (AV.int IntKind.i64) i ∧ H'.get 0 = H5.get 0 ∧ H'.get 1 = some (.row 3 1 0 ((lvR g i 0).map (AV.int IntKind.i64))) ∧ H'.st = H5.st ∧ (i ≤ g.order.length) ∧ (MS g i mst)) ?_ ?_
  ·refine ⟨_, 0, (-1), rfl, rfl, rfl, rfl, rfl, (by simp [h6_7, lvR_zero]), (by simp [h7_7, lvR_zero]), rfl, (by simp [g1_5, lvR_zero]), rfl, ?_, ?_⟩
   ·first | omega | (simp; done) | assumption
   ·exact MS.zero g
  ·rintro n1 σ8 H8 ⟨i, mst, hn1, q1_8, q3_8, q4_8, q5_8, h6_8, h7_8, qg0_8, g1_8, qst_8, p1, p2⟩
   have h1_8 := q1_8.trans h1_7;have h3_8 := q3_8.trans h3_7;have h4_8 := q4_8.trans h4_7;have h5_8 := q5_8.trans h5_7;have g0_8 := qg0_8.trans g0_5;have hst_8 := qst_8.trans hst_5;refine awp_seq ?_;refine stp_reg TT_ok (by rfl) fun K hK => ?_;simp [h4_8, h7_8, g0_8, g1_8, encG, encS, hcl];(try refine And.intro (by first|omega|rfl) ?_);refine hK _ _ fun σ9 hσ H9 hH => ?_;clear hK K;obtain ⟨h1_9, h3_9, h4_9, h5_9, h6_9, h7_9, h30_9⟩ := fs7 hσ 1 3 4 5 6 7 30;simp [h1_8, h3_8, h4_8, h5_8, h6_8, h7_8] at h1_9 h3_9 h4_9 h5_9 h6_9 h7_9 h30_9;clear hσ;replace hH : H8 = H9 := Eq.symm hH;subst hH;refine awp_cond _ (by simp only [aeval_tmp]; exact h30_9) (fun hc30 => ?_) (fun hc30 => ?_)
   ·(try simp at hc30);have hlt : i < g.order.length := by simpa using hc30
    have hlc : i < g.gcomps.length := by omega
    obtain ⟨r, r1, r2, r3, r4, r5⟩ := comp_head hv hlt;have hcg : g.gcomps.getD i [] = g.gcomps[i] := by rw [List.getD_eq_getElem?_getD, List.getElem?_eq_getElem hlc]; rfl
    have hci := fun x hx => comp_in hv hlt (x := x) hx;have hcm := fun v hvn => comp_mem hv hlt (v := v) hvn;have hset := fun j x hx => lvR_set hv hlt (j := j) (x := x) hx;have hnx := lvR_next hv hlt;obtain ⟨c, hc⟩ : ∃ c, g.gcomps[i] = c := ⟨_, rfl⟩;rw [hcg, hc] at r4 hci hcm hset hnx;have hcp : 0 < c.length := (List.getElem?_eq_some_iff.1 r4).1;have hc0 : c[0] = (r : Int) := (List.getElem?_eq_some_iff.1 r4).2
    have hcl1 : c.length ≤ g.nodes.length := by
     obtain ⟨q, h1, h2, h3, h4⟩ := gcomps_get hv hlt;rw [List.getElem?_eq_getElem hlc, hc] at h4;rw [Option.some.inj h4]; exact mem_len _ _ _
    have hll0 := lvR_len g i 0;refine awp_skip ?_;refine q_seq ?_;refine awp_seq ?_;refine awp_block ?_;refine stp_reg TT_ok (by rfl) fun K hK => ?_;simp [g0_8, g1_8, encG];(try refine And.intro (by first|omega|rfl) ?_);refine hK _ _ fun σ10 hσ H10 hH => ?_;clear hK K;obtain ⟨h1_10, h3_10, h4_10, h5_10, h6_10, h7_10, h8_10⟩ := fs7 hσ 1 3 4 5 6 7 8;simp [h1_9, h3_9, h4_9, h5_9, h6_9, h7_9] at h1_10 h3_10 h4_10 h5_10 h6_10 h7_10 h8_10;clear hσ;replace hH : H8 = H10 := Eq.symm hH;subst hH;refine awp_seq ?_;refine stp_reg TT_ok (by rfl) fun K hK => ?_;simp [g0_8, g1_8, encG];(try refine And.intro (by first|omega|rfl) ?_);refine hK _ _ fun σ11 hσ H11 hH => ?_;clear hK K;obtain ⟨h1_11, h3_11, h4_11, h5_11, h6_11, h7_11, h8_11, h9_11⟩ := fs8 hσ 1 3 4 5 6 7 8 9;simp [h1_10, h3_10, h4_10, h5_10, h6_10, h7_10, h8_10] at h1_11 h3_11 h4_11 h5_11 h6_11 h7_11 h8_11 h9_11;clear hσ;replace hH : H8 = H11 := Eq.symm hH;subst hH;refine awp_block ?_;refine awp_loopV (fun n σ' H' => ∃ (k : Nat) (m : Int), n = g.edges.length - k ∧ σ' 1 = σ11 1 ∧ σ' 3 = σ11 3 ∧ σ' 4 = σ11 4 ∧ σ' 5 = σ11 5 ∧ σ' 6 = σ11 6 ∧ σ' 7 = σ11 7 ∧ σ' 8 = (AV.int IntKind.i64) m ∧ σ' 9 = (AV.int IntKind.i64) k ∧ H'.get 0 = H8.get 0 ∧ H'.get 1 = H8.get 1 ∧ H'.st = H8.st ∧ (k ≤ g.edges.length) ∧ (NR g r (g.edges.take k) m) ∧ (m ≤ g.nodes.length)) ?_ ?_
    ·refine ⟨_, 0, 0, rfl, rfl, rfl, rfl, rfl, rfl, rfl, (by simp [h8_11]), (by simp [h9_11]), rfl, rfl, rfl, ?_, ?_, ?_⟩
     ·first | omega | (simp; done) | assumption
     ·exact NR.nil g r
     ·omega
    ·rintro n2 σ12 H12 ⟨k, m, hn2, q1_12, q3_12, q4_12, q5_12, q6_12, q7_12, h8_12, h9_12, qg0_12, qg1_12, qst_12, q1, q2, q3⟩
     have h1_12 := q1_12.trans h1_11;have h3_12 := q3_12.trans h3_11;have h4_12 := q4_12.trans h4_11;have h5_12 := q5_12.trans h5_11;have h6_12 := q6_12.trans h6_11;have h7_12 := q7_12.trans h7_11;have g0_12 := qg0_12.trans g0_8;have g1_12 := qg1_12.trans g1_8;have hst_12 := qst_12.trans hst_8;refine awp_seq ?_;refine stp_reg TT_ok (by rfl) fun K hK => ?_;simp [h1_12, h9_12, g0_12, g1_12, encG];(try refine And.intro (by first|omega|rfl) ?_);refine hK _ _ fun σ13 hσ H13 hH => ?_;clear hK K;obtain ⟨h1_13, h3_13, h4_13, h5_13, h6_13, h7_13, h8_13, h9_13, h37_13⟩ := fs9 hσ 1 3 4 5 6 7 8 9 37;simp [h1_12, h3_12, h4_12, h5_12, h6_12, h7_12, h8_12, h9_12] at h1_13 h3_13 h4_13 h5_13 h6_13 h7_13 h8_13 h9_13 h37_13;clear hσ;replace hH : H12 = H13 := Eq.symm hH;subst hH;refine awp_cond _ (by simp only [aeval_tmp]; exact h37_13) (fun hc37 => ?_) (fun hc37 => ?_)
     ·(try simp at hc37);have hkt : k < g.edges.length := by simpa using hc37
      have hge2 : (g.edges.map encE)[k]? = some (encE g.edges[k]) := by simp [hkt]
      have hedm : (g.edges[k].1, g.edges[k].2) ∈ g.edges := List.getElem_mem hkt;obtain ⟨⟨e1, e2⟩, e3, e4⟩ := valid_edge hv hedm;simp only at e1 e2 e3 e4;have hga := grpL_at g ⟨e1, e2⟩;have hgb := grpL_at g ⟨e3, e4⟩;have a1 : g.edges[k].1.toNat < (g.grpL g.nodes.length).length := by omega
      have a2 : g.edges[k].2.toNat < (g.grpL g.nodes.length).length := by omega
      have a3 : g.edges[k].1.toNat < g.nodes.length := by omega
      have a4 : g.edges[k].2.toNat < g.nodes.length := by omega
      have hga2 : (g.grpL g.nodes.length)[g.edges[k].1.toNat] = (g.grp g.edges[k].1.toNat : Int) := by rw [gt_elem a1, hga]
      have hgb2 : (g.grpL g.nodes.length)[g.edges[k].2.toNat] = (g.grp g.edges[k].2.toNat : Int) := by rw [gt_elem a2, hgb]
      have htk := List.take_succ_eq_append_getElem hkt;have hcpe := edge_cpos hv hedm;refine awp_skip ?_;refine q_seq ?_;refine awp_seq ?_;refine awp_block ?_;refine awp_ok fun hok => ?_;obtain ⟨m14, hn_m14⟩ : ∃ m, H12.n = m := ⟨_, rfl⟩;have hf_m14_0 := hok.free 0;simp [hn_m14, hst_12] at hf_m14_0;have nx1 := ne_get hf_m14_0 g0_12;have nx2 := ne_get hf_m14_0 g1_12;refine stp_reg TT_ok (by rfl) fun K hK => ?_;simp [h1_13, h9_13, g0_12, g1_12, hn_m14, hst_12, nx1, nx2, encG, hge2, hkt, encE];(try refine And.intro (by first|omega|rfl) ?_);refine hK _ _ fun σ15 hσ H15 hH => ?_;clear hK K;obtain ⟨h1_15, h3_15, h4_15, h5_15, h6_15, h7_15, h8_15, h9_15, h10_15⟩ := fs9 hσ 1 3 4 5 6 7 8 9 10;simp [h1_13, h3_13, h4_13, h5_13, h6_13, h7_13, h8_13, h9_13] at h1_15 h3_15 h4_15 h5_15 h6_15 h7_15 h8_15 h9_15 h10_15;clear hσ;have g0_15 := gt_of hH 0;have g1_15 := gt_of hH 1;have gm14_15 := gt_of hH m14;simp [g0_12, g1_12, hn_m14, hst_12, nx1, nx2] at g0_15 g1_15 gm14_15;have hst_15 := congrArg AHeap.st hH;simp [hst_12] at hst_15;clear hH
      by_cases d1 : (g.grp g.edges[k].1.toNat : Int) = r
      ·skip
       by_cases d2 : (g.grp g.edges[k].2.toNat : Int) = r
       ·skip;refine stp_lex false TT_ok mixed (by rfl) (by rfl) (by kernel_rfl) (by rfl) fun U hU K hK => ?_;simp [h3_15, h4_15, h7_15, h10_15, g0_15, g1_15, gm14_15, nx1, nx2, d1, beq_iff_eq.2 d1, d2, beq_iff_eq.2 d2, encG, encS, e1, e2, e3, e4, a1, a2, hga2, hgb2, hgl, hlc, hc, hcp, hc0];(try refine And.intro (by first|omega|rfl) ?_);refine hK _ _ _ (by subst hU; kernel_rfl) fun σ16 hσ H16 hH => ?_;clear hK K hU U;obtain ⟨h1_16, h3_16, h4_16, h5_16, h6_16, h7_16, h8_16, h9_16, h10_16, h70_16⟩ := fs10 hσ 1 3 4 5 6 7 8 9 10 70;simp [h1_15, h3_15, h4_15, h5_15, h6_15, h7_15, h8_15, h9_15, h10_15] at h1_16 h3_16 h4_16 h5_16 h6_16 h7_16 h8_16 h9_16 h10_16 h70_16;clear hσ;replace hH : H15 = H16 := Eq.symm hH;subst hH;refine stp_false (by simp [aeval_tmp, h70_16, nx1, nx2, d1, beq_iff_eq.2 d1, d2, beq_iff_eq.2 d2, encG]) ?_;refine awp_skip ?_;refine q_block ?_;refine q_seq ?_;refine stp_regl TT_ok (by rfl) fun K hK => ?_;simp [h9_16, g0_15, g1_15, gm14_15, nx1, nx2, d1, beq_iff_eq.2 d1, d2, beq_iff_eq.2 d2, encG, wrap_ok (n := (k : Int) + 1) (by omega) (by omega)];(try refine And.intro (by first|omega|rfl) ?_);refine hK _ _ fun σ17 hσ H17 hH => ?_;clear hK K;obtain ⟨h1_17, h3_17, h4_17, h5_17, h6_17, h7_17, h8_17, h9_17⟩ := fs8 hσ 1 3 4 5 6 7 8 9;simp [h1_16, h3_16, h4_16, h5_16, h6_16, h7_16, h8_16] at h1_17 h3_17 h4_17 h5_17 h6_17 h7_17 h8_17 h9_17;clear hσ;replace hH : H15 = H17 := Eq.symm hH;subst hH
        refine ⟨_, ?_, k + 1, m, rfl, (h1_17.trans h1_11.symm), (h3_17.trans h3_11.symm), (h4_17.trans h4_11.symm), (h5_17.trans h5_11.symm), (h6_17.trans h6_11.symm), (h7_17.trans h7_11.symm), (by simp [h8_17]), (by simp [h9_17]), (g0_15.trans g0_8.symm), (g1_15.trans g1_8.symm), (hst_15.trans hst_8.symm), ?_, ?_, ?_⟩
        ·subst hn2; omega
        ·first | omega | assumption | (simp; done)
        ·rw [htk]; exact q2.skip (fun h => h.2 (by omega))
        ·first | omega | assumption | (simp; done)
       ·skip;refine stp_lex false TT_ok mixed (by rfl) (by rfl) (by kernel_rfl) (by rfl) fun U hU K hK => ?_;simp [h3_15, h4_15, h7_15, h10_15, g0_15, g1_15, gm14_15, nx1, nx2, d1, beq_iff_eq.2 d1, d2, beq_eq_false_iff_ne.2 d2, encG, encS, e1, e2, e3, e4, a1, a2, hga2, hgb2, hgl, hlc, hc, hcp, hc0];(try refine And.intro (by first|omega|rfl) ?_);refine hK _ _ _ (by subst hU; kernel_rfl) fun σ18 hσ H18 hH => ?_;clear hK K hU U;obtain ⟨h1_18, h3_18, h4_18, h5_18, h6_18, h7_18, h8_18, h9_18, h10_18, h70_18⟩ := fs10 hσ 1 3 4 5 6 7 8 9 10 70;simp [h1_15, h3_15, h4_15, h5_15, h6_15, h7_15, h8_15, h9_15, h10_15] at h1_18 h3_18 h4_18 h5_18 h6_18 h7_18 h8_18 h9_18 h10_18 h70_18;clear hσ;replace hH : H15 = H18 := Eq.symm hH;subst hH;refine stp_true (by simp [aeval_tmp, h70_18, nx1, nx2, d1, beq_iff_eq.2 d1, d2, beq_eq_false_iff_ne.2 d2, encG]) ?_;have hcu : g.cpos g.edges[k].1.toNat = i := (r5 _ a3).1 (by omega)
        have hcw : g.cpos g.edges[k].2.toNat < i := by
         have : ¬ g.cpos g.edges[k].2.toNat = i := fun e => d2 (by have := (r5 _ a4).2 e; omega)
         omega
        have hlw := lv_lt hv a4;refine stp_regl TT_ok (by rfl) fun K hK => ?_;simp [h5_18, h8_18, h10_18, g0_15, g1_15, gm14_15, nx1, nx2, d1, beq_iff_eq.2 d1, d2, beq_eq_false_iff_ne.2 d2, encG, e3, e4, a4, hll0, lvR_old hcw, wrap_ok (n := (g.lv g.edges[k].2.toNat : Int) + 1) (by omega) (by omega), ite_max];(try refine And.intro (by first|omega|rfl) ?_);refine hK _ _ fun σ19 hσ H19 hH => ?_;clear hK K;obtain ⟨h1_19, h3_19, h4_19, h5_19, h6_19, h7_19, h8_19, h9_19⟩ := fs8 hσ 1 3 4 5 6 7 8 9;simp [h1_18, h3_18, h4_18, h5_18, h6_18, h7_18, h9_18] at h1_19 h3_19 h4_19 h5_19 h6_19 h7_19 h8_19 h9_19;clear hσ;replace hH : H15 = H19 := Eq.symm hH;subst hH;refine q_block ?_;refine q_seq ?_;refine stp_regl TT_ok (by rfl) fun K hK => ?_;simp [h9_19, g0_15, g1_15, gm14_15, nx1, nx2, d1, beq_iff_eq.2 d1, d2, beq_eq_false_iff_ne.2 d2, encG, wrap_ok (n := (k : Int) + 1) (by omega) (by omega)];(try refine And.intro (by first|omega|rfl) ?_);refine hK _ _ fun σ20 hσ H20 hH => ?_;clear hK K;obtain ⟨h1_20, h3_20, h4_20, h5_20, h6_20, h7_20, h8_20, h9_20⟩ := fs8 hσ 1 3 4 5 6 7 8 9;simp [h1_19, h3_19, h4_19, h5_19, h6_19, h7_19, h8_19] at h1_20 h3_20 h4_20 h5_20 h6_20 h7_20 h8_20 h9_20;clear hσ;replace hH : H15 = H20 := Eq.symm hH;subst hH
        refine ⟨_, ?_, k + 1, max m ((g.lv g.edges[k].2.toNat : Int) + 1), rfl, (h1_20.trans h1_11.symm), (h3_20.trans h3_11.symm), (h4_20.trans h4_11.symm), (h5_20.trans h5_11.symm), (h6_20.trans h6_11.symm), (h7_20.trans h7_11.symm), (by simp [h8_20]), (by simp [h9_20]), (g0_15.trans g0_8.symm), (g1_15.trans g1_8.symm), (hst_15.trans hst_8.symm), ?_, ?_, ?_⟩
        ·subst hn2; omega
        ·first | omega | assumption | (simp; done)
        ·rw [htk]; exact q2.step (by omega) (by omega)
        ·omega
      ·skip;refine stp_lex false TT_ok mixed (by rfl) (by rfl) (by kernel_rfl) (by rfl) fun U hU K hK => ?_;simp [h3_15, h4_15, h7_15, h10_15, g0_15, g1_15, gm14_15, nx1, nx2, d1, beq_eq_false_iff_ne.2 d1, encG, encS, e1, e2, e3, e4, a1, a2, hga2, hgb2, hgl, hlc, hc, hcp, hc0];(try refine And.intro (by first|omega|rfl) ?_);refine hK _ _ _ (by subst hU; kernel_rfl) fun σ21 hσ H21 hH => ?_;clear hK K hU U;obtain ⟨h1_21, h3_21, h4_21, h5_21, h6_21, h7_21, h8_21, h9_21, h10_21, h70_21⟩ := fs10 hσ 1 3 4 5 6 7 8 9 10 70;simp [h1_15, h3_15, h4_15, h5_15, h6_15, h7_15, h8_15, h9_15, h10_15] at h1_21 h3_21 h4_21 h5_21 h6_21 h7_21 h8_21 h9_21 h10_21 h70_21;clear hσ;replace hH : H15 = H21 := Eq.symm hH;subst hH;refine stp_false (by simp [aeval_tmp, h70_21, nx1, nx2, d1, beq_eq_false_iff_ne.2 d1, encG]) ?_;refine awp_skip ?_;refine q_block ?_;refine q_seq ?_;refine stp_regl TT_ok (by rfl) fun K hK => ?_;simp [h9_21, g0_15, g1_15, gm14_15, nx1, nx2, d1, beq_eq_false_iff_ne.2 d1, encG, wrap_ok (n := (k : Int) + 1) (by omega) (by omega)];(try refine And.intro (by first|omega|rfl) ?_);refine hK _ _ fun σ22 hσ H22 hH => ?_;clear hK K;obtain ⟨h1_22, h3_22, h4_22, h5_22, h6_22, h7_22, h8_22, h9_22⟩ := fs8 hσ 1 3 4 5 6 7 8 9;simp [h1_21, h3_21, h4_21, h5_21, h6_21, h7_21, h8_21] at h1_22 h3_22 h4_22 h5_22 h6_22 h7_22 h8_22 h9_22;clear hσ;replace hH : H15 = H22 := Eq.symm hH;subst hH
       refine ⟨_, ?_, k + 1, m, rfl, (h1_22.trans h1_11.symm), (h3_22.trans h3_11.symm), (h4_22.trans h4_11.symm), (h5_22.trans h5_11.symm), (h6_22.trans h6_11.symm), (h7_22.trans h7_11.symm), (by simp [h8_22]), (by simp [h9_22]), (g0_15.trans g0_8.symm), (g1_15.trans g1_8.symm), (hst_15.trans hst_8.symm), ?_, ?_, ?_⟩
       ·subst hn2; omega
       ·first | omega | assumption | (simp; done)
       ·rw [htk]; exact q2.skip (fun h => d1 (by omega))
       ·first | omega | assumption | (simp; done)
     ·(try simp at hc37);have hke : k = g.edges.length := by have := hc37; omega
      rw [hke, List.take_length] at q2;have hm := q2.final hv r1 r2;subst hm;have hcr := (r5 r r1).1 r2;refine awp_exit ?_;refine q_seq_exit ?_;refine q_loop_exit ?_;refine q_block_hit ?_;refine q_seq ?_;refine awp_seq ?_;refine stp_reg TT_ok (by rfl) fun K hK => ?_;simp [g0_12, g1_12, encG];(try refine And.intro (by first|omega|rfl) ?_);refine hK _ _ fun σ23 hσ H23 hH => ?_;clear hK K;obtain ⟨h1_23, h3_23, h4_23, h5_23, h6_23, h7_23, h8_23, h11_23⟩ := fs8 hσ 1 3 4 5 6 7 8 11;simp [h1_13, h3_13, h4_13, h5_13, h6_13, h7_13, h8_13] at h1_23 h3_23 h4_23 h5_23 h6_23 h7_23 h8_23 h11_23;clear hσ;replace hH : H12 = H23 := Eq.symm hH;subst hH;refine awp_block ?_;refine awp_loopV (fun n σ' H' => ∃ (j : Nat), n = c.length - j ∧ σ' 1 = σ23 1 ∧ σ' 3 = σ23 3 ∧ σ' 4 = σ23 4 ∧ σ' 5 = σ23 5 ∧ σ' 6 = σ23 6 ∧ σ' 7 = σ23 7 ∧ σ' 8 = σ23 8 ∧ σ' 11 = (AV.int IntKind.i64) j ∧ H'.get 0 = H12.get 0 ∧ H'.get 1 = some (.row 3 1 0 ((lvR g i j).map (AV.int IntKind.i64))) ∧ H'.st = H12.st ∧ (j ≤ c.length)) ?_ ?_
      ·refine ⟨_, 0, rfl, rfl, rfl, rfl, rfl, rfl, rfl, rfl, (by simp [h11_23]), rfl, (by simp [g1_12]), rfl, ?_⟩
       ·first | omega | (simp; done) | assumption
      ·rintro n3 σ24 H24 ⟨j, hn3, q1_24, q3_24, q4_24, q5_24, q6_24, q7_24, q8_24, h11_24, qg0_24, g1_24, qst_24, s1⟩
       have h1_24 := q1_24.trans h1_23;have h3_24 := q3_24.trans h3_23;have h4_24 := q4_24.trans h4_23;have h5_24 := q5_24.trans h5_23;have h6_24 := q6_24.trans h6_23;have h7_24 := q7_24.trans h7_23;have h8_24 := q8_24.trans h8_23;have g0_24 := qg0_24.trans g0_12;have hst_24 := qst_24.trans hst_12;refine awp_seq ?_;refine stp_reg TT_ok (by rfl) fun K hK => ?_;simp [h4_24, h7_24, h11_24, g0_24, g1_24, encG, encS, hlc, hc];(try refine And.intro (by first|omega|rfl) ?_);refine hK _ _ fun σ25 hσ H25 hH => ?_;clear hK K;obtain ⟨h1_25, h3_25, h4_25, h5_25, h6_25, h7_25, h8_25, h11_25, h85_25⟩ := fs9 hσ 1 3 4 5 6 7 8 11 85;simp [h1_24, h3_24, h4_24, h5_24, h6_24, h7_24, h8_24, h11_24] at h1_25 h3_25 h4_25 h5_25 h6_25 h7_25 h8_25 h11_25 h85_25;clear hσ;replace hH : H24 = H25 := Eq.symm hH;subst hH;refine awp_cond _ (by simp only [aeval_tmp]; exact h85_25) (fun hc85 => ?_) (fun hc85 => ?_)
       ·(try simp at hc85);have hjt : j < c.length := by simpa using hc85
        have hcj : c[j]? = some c[j] := by rw [List.getElem?_eq_getElem]
        obtain ⟨x1, x2⟩ := hci _ (List.getElem_mem hjt);have x3 : c[j].toNat < g.nodes.length := by omega
        have x4 : g.cpos c[j].toNat = i := (hcm _ x3).1 (by rw [toNat_cast ⟨x1, x2⟩]; exact List.getElem_mem hjt);have x5 : g.lv c[j].toNat = g.lv r := lv_grp ((cpos_inj hv x3 r1).1 (by omega));have f2 := hset j _ hcj;rw [x5] at f2;have f4 : ((lvR g i j).map (AV.int IntKind.i64)).set c[j].toNat ((AV.int IntKind.i64) (g.lv r : Int)) = (lvR g i (j + 1)).map (AV.int IntKind.i64) := by rw [← List.map_set, f2]
        have hll := lvR_len g i j;refine awp_skip ?_;refine q_seq ?_;refine awp_seq ?_;refine awp_block ?_;refine stp_regl TT_ok (by rfl) fun K hK => ?_;simp [h4_25, h5_25, h7_25, h8_25, h11_25, g0_24, g1_24, encG, encS, hlc, hc, hjt, x1, x2, x3, hll];(try refine And.intro (by first|omega|rfl) ?_);refine hK _ _ fun σ26 hσ H26 hH => ?_;clear hK K;obtain ⟨h1_26, h3_26, h4_26, h5_26, h6_26, h7_26, h8_26, h11_26⟩ := fs8 hσ 1 3 4 5 6 7 8 11;simp [h1_25, h3_25, h4_25, h5_25, h6_25, h7_25, h8_25, h11_25] at h1_26 h3_26 h4_26 h5_26 h6_26 h7_26 h8_26 h11_26;clear hσ;have g0_26 := gt_of hH 0;have g1_26 := gt_of hH 1;simp [g0_24, g1_24, hst_24] at g0_26 g1_26;have hst_26 := congrArg AHeap.st hH;simp [hst_24] at hst_26;clear hH;refine q_block ?_;refine q_seq ?_;refine stp_regl TT_ok (by rfl) fun K hK => ?_;simp [h11_26, g0_26, g1_26, encG, wrap_ok (n := (j : Int) + 1) (by omega) (by omega)];(try refine And.intro (by first|omega|rfl) ?_);refine hK _ _ fun σ27 hσ H27 hH => ?_;clear hK K;obtain ⟨h1_27, h3_27, h4_27, h5_27, h6_27, h7_27, h8_27, h11_27⟩ := fs8 hσ 1 3 4 5 6 7 8 11;simp [h1_26, h3_26, h4_26, h5_26, h6_26, h7_26, h8_26] at h1_27 h3_27 h4_27 h5_27 h6_27 h7_27 h8_27 h11_27;clear hσ;replace hH : H26 = H27 := Eq.symm hH;subst hH
        refine ⟨_, ?_, j + 1, rfl, (h1_27.trans h1_23.symm), (h3_27.trans h3_23.symm), (h4_27.trans h4_23.symm), (h5_27.trans h5_23.symm), (h6_27.trans h6_23.symm), (h7_27.trans h7_23.symm), (h8_27.trans h8_23.symm), (by simp [h11_27, f4]), (g0_26.trans g0_12.symm), (by simp [g1_26, f4]), (hst_26.trans hst_12.symm), ?_⟩
        ·subst hn3; omega
        ·first | omega | assumption | (simp; done)
       ·(try simp at hc85);refine awp_exit ?_;refine q_seq_exit ?_;refine q_loop_exit ?_;refine q_block_hit ?_;refine q_seq ?_;have hje : j = c.length := by have := hc85; omega
        subst hje;refine stp_regl TT_ok (by rfl) fun K hK => ?_;simp [h6_25, h8_25, g0_24, g1_24, encG, ite_max];(try refine And.intro (by first|omega|rfl) ?_);refine hK _ _ fun σ28 hσ H28 hH => ?_;clear hK K;obtain ⟨h1_28, h3_28, h4_28, h5_28, h6_28, h7_28⟩ := fs6 hσ 1 3 4 5 6 7;simp [h1_25, h3_25, h4_25, h5_25, h7_25] at h1_28 h3_28 h4_28 h5_28 h6_28 h7_28;clear hσ;replace hH : H24 = H28 := Eq.symm hH;subst hH;refine q_block ?_;refine q_seq ?_;refine stp_regl TT_ok (by rfl) fun K hK => ?_;simp [h7_28, g0_24, g1_24, encG, wrap_ok (n := (i : Int) + 1) (by omega) (by omega)];(try refine And.intro (by first|omega|rfl) ?_);refine hK _ _ fun σ29 hσ H29 hH => ?_;clear hK K;obtain ⟨h1_29, h3_29, h4_29, h5_29, h6_29, h7_29⟩ := fs6 hσ 1 3 4 5 6 7;simp [h1_28, h3_28, h4_28, h5_28, h6_28] at h1_29 h3_29 h4_29 h5_29 h6_29 h7_29;clear hσ;replace hH : H24 = H29 := Eq.symm hH;subst hH;refine ⟨_, ?_, i + 1, max mst (g.lv r : Int), rfl, (h1_29.trans h1_7.symm), (h3_29.trans h3_7.symm), (h4_29.trans h4_7.symm), (h5_29.trans h5_7.symm), (by simp [h6_29, hnx]), (by simp [h7_29, hnx]), (g0_24.trans g0_5.symm), (by simp [g1_24, hnx]), (hst_24.trans hst_5.symm), ?_, ?_⟩
        ·subst hn1; omega
        ·first | omega | assumption | (simp; done)
        ·exact p2.step hv r1 hcr
   ·(try simp at hc30);have hie : i = g.order.length := by have := hc30; omega
    subst hie;have hmf := p2.final hv;have hllf := lvR_len g g.order.length 0;refine awp_exit ?_;refine q_seq_exit ?_;refine q_loop_exit ?_;refine q_block_hit ?_;refine q_seq ?_;refine awp_ok fun hok => ?_;obtain ⟨m30, hn_m30⟩ : ∃ m, H8.n = m := ⟨_, rfl⟩;have hf_m30_0 := hok.free 0;simp [hn_m30, hst_8] at hf_m30_0;have nx3 := ne_get hf_m30_0 g0_8;have nx4 := ne_get hf_m30_0 g1_8;refine stp_reg TT_ok (by rfl) fun K hK => ?_;simp [g0_8, g1_8, hn_m30, hst_8, nx3, nx4, encG];(try refine And.intro (by first|omega|rfl) ?_);refine hK _ _ fun σ31 hσ H31 hH => ?_;clear hK K;obtain ⟨h5_31, h6_31, h12_31⟩ := fs3 hσ 5 6 12;simp [h5_9, h6_9] at h5_31 h6_31 h12_31;clear hσ;have g0_31 := gt_of hH 0;have g1_31 := gt_of hH 1;have gm30_31 := gt_of hH m30;simp [g0_8, g1_8, hn_m30, hst_8, nx3, nx4] at g0_31 g1_31 gm30_31;have hst_31 := congrArg AHeap.st hH;simp [hst_8] at hst_31;clear hH;refine awp_seq ?_;refine stp_reg TT_ok (by rfl) fun K hK => ?_;simp [g0_31, g1_31, gm30_31, nx3, nx4, encG];(try refine And.intro (by first|omega|rfl) ?_);refine hK _ _ fun σ32 hσ H32 hH => ?_;clear hK K;obtain ⟨h5_32, h6_32, h12_32, h13_32⟩ := fs4 hσ 5 6 12 13;simp [h5_31, h6_31, h12_31] at h5_32 h6_32 h12_32 h13_32;clear hσ;replace hH : H31 = H32 := Eq.symm hH;subst hH;refine awp_block ?_
    refine awp_loopV (fun n σ' H' => ∃ (d : Nat) (gn : Nat) (vs : List AV), n = g.glevels.length - d ∧ σ' 5 = σ32 5 ∧ σ' 6 = σ32 6 ∧ σ' 12 = .sl m30 gn 0 d ∧ σ' 13 = (AV.int IntKind.i64) d ∧ H'.get 0 = H31.get 0 ∧ H'.get 1 = H31.get 1 ∧ H'.get m30 = some (.row 26 1 gn vs) ∧ H'.st = H31.st ∧ (d ≤ g.glevels.length) ∧ (Rows 2 vs ((List.range d).map (levN g)) H') ∧ (∀ i y g n : Nat, vs[i]? = some (AV.sl y g 0 n) → y ≠ m30)) ?_ ?_
    ·refine ⟨_, 0, 0, [], rfl, rfl, rfl, (by simp [h12_32]), (by simp [h13_32]), rfl, rfl, (by simp [gm30_31]), rfl, ?_, ?_, ?_⟩
     ·first | omega | (simp; done) | assumption
     ·exact ⟨by rfl, fun i v l h => by simp at h, fun i j id g n g' n' h => by simp at h⟩
     ·intro i y g n h; simp at h
    ·rintro n4 σ33 H33 ⟨d, gn, vs, hn4, q5_33, q6_33, h12_33, h13_33, qg0_33, qg1_33, gm30_33, qst_33, u1, u2, u3⟩
     have h5_33 := q5_33.trans h5_32;have h6_33 := q6_33.trans h6_32;have g0_33 := qg0_33.trans g0_31;have g1_33 := qg1_33.trans g1_31;have hst_33 := qst_33.trans hst_31;have hvl : vs.length = d := by rw [u2.len]; simp
     refine awp_seq ?_;refine stp_reg TT_ok (by rfl) fun K hK => ?_;simp [h6_33, h13_33, g0_33, g1_33, gm30_33, nx3, nx4, encG];(try refine And.intro (by first|omega|rfl) ?_);refine hK _ _ fun σ34 hσ H34 hH => ?_;clear hK K;obtain ⟨h5_34, h6_34, h12_34, h13_34, h104_34⟩ := fs5 hσ 5 6 12 13 104;simp [h5_33, h6_33, h12_33, h13_33] at h5_34 h6_34 h12_34 h13_34 h104_34;clear hσ;replace hH : H33 = H34 := Eq.symm hH;subst hH;refine awp_cond _ (by simp only [aeval_tmp]; exact h104_34) (fun hc104 => ?_) (fun hc104 => ?_)
     ·(try simp at hc104);have hdt : d < g.glevels.length := by have := hc104; omega
      refine awp_skip ?_;refine q_seq ?_;refine awp_seq ?_;refine awp_block ?_;refine awp_ok fun hok => ?_;obtain ⟨m35, hn_m35⟩ : ∃ m, H33.n = m := ⟨_, rfl⟩;have hf_m35_0 := hok.free 0;simp [hn_m35, hst_33] at hf_m35_0;have nx5 := ne_get hf_m35_0 g0_33;have nx6 := ne_get hf_m35_0 g1_33;have nx7 := ne_get hf_m35_0 gm30_33;refine stp_reg TT_ok (by rfl) fun K hK => ?_;simp [g0_33, g1_33, gm30_33, hn_m35, hst_33, nx3, nx4, nx5, nx6, nx7, encG];(try refine And.intro (by first|omega|rfl) ?_);refine hK _ _ fun σ36 hσ H36 hH => ?_;clear hK K;obtain ⟨h5_36, h6_36, h12_36, h13_36, h14_36⟩ := fs5 hσ 5 6 12 13 14;simp [h5_34, h6_34, h12_34, h13_34] at h5_36 h6_36 h12_36 h13_36 h14_36;clear hσ;have g0_36 := gt_of hH 0;have g1_36 := gt_of hH 1;have gm30_36 := gt_of hH m30;have gm35_36 := gt_of hH m35;simp [g0_33, g1_33, gm30_33, hn_m35, hst_33, nx3, nx4, nx5, nx6, nx7] at g0_36 g1_36 gm30_36 gm35_36;have hst_36 := congrArg AHeap.st hH;simp [hst_33] at hst_36
      have kd : ∀ y, H33.get y ≠ none → H36.get y = H33.get y := fun y hy => by
       rw [hH]; have hjm : ¬ y = m35 := by { intro e; rw [e, hf_m35_0] at hy; exact hy rfl }
       simp [hn_m35, hst_33, hjm]
      clear hH;have u2c := u2.keep (H' := H36) fun id _ hid => kd id hid
      have hfm : ∀ i y g n : Nat, vs[i]? = some (AV.sl y g 0 n) → y ≠ m35 := fun i y g n h e => by
       have u1 := (u2.used h).1;rw [e, hf_m35_0] at u1; exact u1 rfl
      have hm0 : levP g d 0 = [] := rfl;refine awp_seq ?_;refine stp_reg TT_ok (by rfl) fun K hK => ?_;simp [g0_36, g1_36, gm30_36, gm35_36, nx3, nx4, nx5, nx6, nx7, encG];(try refine And.intro (by first|omega|rfl) ?_);refine hK _ _ fun σ37 hσ H37 hH => ?_;clear hK K;obtain ⟨h5_37, h6_37, h12_37, h13_37, h14_37, h15_37⟩ := fs6 hσ 5 6 12 13 14 15;simp [h5_36, h6_36, h12_36, h13_36, h14_36] at h5_37 h6_37 h12_37 h13_37 h14_37 h15_37;clear hσ;replace hH : H36 = H37 := Eq.symm hH;subst hH;refine awp_block ?_;rw [show ([] : List AV) = (levP g d 0).map (AV.int IntKind.i64) from rfl] at gm35_36;refine awp_loopV (fun n σ' H' => ∃ (i : Nat) (cg : Nat), n = g.nodes.length - i ∧ σ' 5 = σ37 5 ∧ σ' 6 = σ37 6 ∧ σ' 12 = σ37 12 ∧ σ' 13 = σ37 13 ∧ σ' 14 = .sl m35 cg 0 (levP g d i).length ∧ σ' 15 = (AV.int IntKind.i64) i ∧ H'.get 0 = H36.get 0 ∧ H'.get 1 = H36.get 1 ∧ H'.get m30 = H36.get m30 ∧ H'.get m35 = some (.row 3 1 cg ((levP g d i).map (AV.int IntKind.i64))) ∧ H'.st = H36.st ∧ (i ≤ g.nodes.length) ∧ (Rows 2 vs ((List.range d).map (levN g)) H')) ?_ ?_
      ·refine ⟨_, 0, 0, rfl, rfl, rfl, rfl, rfl, (by simp [h14_37, hm0]), (by simp [h15_37, hm0]), rfl, rfl, rfl, (by simp [gm35_36, hm0]), rfl, ?_, ?_⟩
       ·first | omega | (simp; done) | assumption
       ·exact u2c
      ·rintro n5 σ38 H38 ⟨i, cg, hn5, q5_38, q6_38, q12_38, q13_38, h14_38, h15_38, qg0_38, qg1_38, qgm30_38, gm35_38, qst_38, t1, t2⟩
       have h5_38 := q5_38.trans h5_37;have h6_38 := q6_38.trans h6_37;have h12_38 := q12_38.trans h12_37;have h13_38 := q13_38.trans h13_37;have g0_38 := qg0_38.trans g0_36;have g1_38 := qg1_38.trans g1_36;have gm30_38 := qgm30_38.trans gm30_36;have hst_38 := qst_38.trans hst_36;refine awp_seq ?_;refine stp_reg TT_ok (by rfl) fun K hK => ?_;simp [h5_38, h15_38, g0_38, g1_38, gm30_38, gm35_38, nx3, nx4, nx5, nx6, nx7, encG, hllf];(try refine And.intro (by first|omega|rfl) ?_);refine hK _ _ fun σ39 hσ H39 hH => ?_;clear hK K;obtain ⟨h5_39, h6_39, h12_39, h13_39, h14_39, h15_39, h111_39⟩ := fs7 hσ 5 6 12 13 14 15 111;simp [h5_38, h6_38, h12_38, h13_38, h14_38, h15_38] at h5_39 h6_39 h12_39 h13_39 h14_39 h15_39 h111_39;clear hσ;replace hH : H38 = H39 := Eq.symm hH;subst hH;refine awp_cond _ (by simp only [aeval_tmp]; exact h111_39) (fun hc111 => ?_) (fun hc111 => ?_)
       ·(try simp at hc111);have hin : i < g.nodes.length := by simpa using hc111
        have hls := levP_succ g d i;have hln := levP_len g d i;refine awp_skip ?_;refine q_seq ?_;refine awp_seq ?_;refine awp_block ?_
        by_cases s2 : (g.lv i : Int) = d
        ·skip;refine stp_reg TT_ok (by rfl) fun K hK => ?_;simp [h5_39, h13_39, h15_39, g0_38, g1_38, gm30_38, gm35_38, nx3, nx4, nx5, nx6, nx7, s2, beq_iff_eq.2 s2, encG, hin, hllf, lvR_full hv hin];(try refine And.intro (by first|omega|rfl) ?_);refine hK _ _ fun σ40 hσ H40 hH => ?_;clear hK K;obtain ⟨h5_40, h6_40, h12_40, h13_40, h14_40, h15_40, h119_40⟩ := fs7 hσ 5 6 12 13 14 15 119;simp [h5_39, h6_39, h12_39, h13_39, h14_39, h15_39] at h5_40 h6_40 h12_40 h13_40 h14_40 h15_40 h119_40;clear hσ;replace hH : H38 = H40 := Eq.symm hH;subst hH;refine stp_true (by simp [aeval_tmp, h119_40, nx3, nx4, nx5, nx6, nx7, s2, beq_iff_eq.2 s2, encG]) ?_;refine awp_ok fun hok => ?_;obtain ⟨m41, hn_m41⟩ : ∃ m, H38.n = m := ⟨_, rfl⟩;have hf_m41_0 := hok.free 0;simp [hn_m41, hst_38] at hf_m41_0;have nx8 := ne_get hf_m41_0 g0_38;have nx9 := ne_get hf_m41_0 g1_38;have nx10 := ne_get hf_m41_0 gm30_38;have nx11 := ne_get hf_m41_0 gm35_38;refine stp_regl TT_ok (by rfl) fun K hK => ?_;simp [h14_40, h15_40, g0_38, g1_38, gm30_38, gm35_38, hn_m41, hst_38, nx3, nx4, nx5, nx6, nx7, s2, beq_iff_eq.2 s2, nx8, nx9, nx10, nx11, encG, show ((levP g d i).length + 1) * 8 ≤ 140737488355328 by omega, show (levP g d i).length ≤ 9223372036854775806 by omega, take_map_len];(try refine And.intro (by first|omega|rfl) ?_);refine hK _ _ fun σ42 hσ H42 hH => ?_;clear hK K;obtain ⟨h5_42, h6_42, h12_42, h13_42, h14_42, h15_42⟩ := fs6 hσ 5 6 12 13 14 15
         simp [h5_40, h6_40, h12_40, h13_40, h15_40] at h5_42 h6_42 h12_42 h13_42 h14_42 h15_42;clear hσ;have g0_42 := gt_of hH 0;have g1_42 := gt_of hH 1;have gm30_42 := gt_of hH m30;have gm35_42 := gt_of hH m35;have gm41_42 := gt_of hH m41;simp [g0_38, g1_38, gm30_38, gm35_38, hn_m41, hst_38, nx3, nx4, nx5, nx6, nx7, s2, beq_iff_eq.2 s2, nx8, nx9, nx10, nx11] at g0_42 g1_42 gm30_42 gm35_42 gm41_42;have hst_42 := congrArg AHeap.st hH;simp [hst_38] at hst_42
         have ke : ∀ i y g n : Nat, vs[i]? = some (AV.sl y g 0 n) → H42.get y = H38.get y := fun i y g n h => by
          have h1 := hfm _ _ _ _ h;have hy := (t2.used h).1;rw [hH]; have hjm : ¬ y = m41 := by { intro e; rw [e, hf_m41_0] at hy; exact hy rfl }
          simp [hn_m41, hjm, h1]
         clear hH;refine q_block ?_;refine q_seq ?_;refine stp_regl TT_ok (by rfl) fun K hK => ?_;simp [h15_42, g0_42, g1_42, gm30_42, gm35_42, gm41_42, nx3, nx4, nx5, nx6, nx7, s2, beq_iff_eq.2 s2, nx8, nx9, nx10, nx11, encG, wrap_ok (n := (i : Int) + 1) (by omega) (by omega)];(try refine And.intro (by first|omega|rfl) ?_);refine hK _ _ fun σ43 hσ H43 hH => ?_;clear hK K;obtain ⟨h5_43, h6_43, h12_43, h13_43, h14_43, h15_43⟩ := fs6 hσ 5 6 12 13 14 15;simp [h5_42, h6_42, h12_42, h13_42, h14_42] at h5_43 h6_43 h12_43 h13_43 h14_43 h15_43;clear hσ;replace hH : H42 = H43 := Eq.symm hH;subst hH;have hls2 : levP g d (i + 1) = levP g d i ++ [(i : Int)] := by rw [hls, if_pos (by omega)]
         refine ⟨_, ?_, i + 1, cg + 1, rfl, (h5_43.trans h5_37.symm), (h6_43.trans h6_37.symm), (h12_43.trans h12_37.symm), (h13_43.trans h13_37.symm), (by simp [h14_43, hls2]), (by simp [h15_43, hls2]), (g0_42.trans g0_36.symm), (g1_42.trans g1_36.symm), (gm30_42.trans gm30_36.symm), (by simp [gm35_42, hls2]), (hst_42.trans hst_36.symm), ?_, ?_⟩
         ·subst hn5; omega
         ·first | omega | assumption | (simp; done)
         ·exact t2.keepR ke
        ·skip;refine stp_reg TT_ok (by rfl) fun K hK => ?_;simp [h5_39, h13_39, h15_39, g0_38, g1_38, gm30_38, gm35_38, nx3, nx4, nx5, nx6, nx7, s2, beq_eq_false_iff_ne.2 s2, encG, hin, hllf, lvR_full hv hin];(try refine And.intro (by first|omega|rfl) ?_);refine hK _ _ fun σ44 hσ H44 hH => ?_;clear hK K;obtain ⟨h5_44, h6_44, h12_44, h13_44, h14_44, h15_44, h119_44⟩ := fs7 hσ 5 6 12 13 14 15 119;simp [h5_39, h6_39, h12_39, h13_39, h14_39, h15_39] at h5_44 h6_44 h12_44 h13_44 h14_44 h15_44 h119_44;clear hσ;replace hH : H38 = H44 := Eq.symm hH;subst hH;refine stp_false (by simp [aeval_tmp, h119_44, nx3, nx4, nx5, nx6, nx7, s2, beq_eq_false_iff_ne.2 s2, encG]) ?_;refine awp_skip ?_;refine q_block ?_;refine q_seq ?_;refine stp_regl TT_ok (by rfl) fun K hK => ?_;simp [h15_44, g0_38, g1_38, gm30_38, gm35_38, nx3, nx4, nx5, nx6, nx7, s2, beq_eq_false_iff_ne.2 s2, encG, wrap_ok (n := (i : Int) + 1) (by omega) (by omega)];(try refine And.intro (by first|omega|rfl) ?_);refine hK _ _ fun σ45 hσ H45 hH => ?_;clear hK K;obtain ⟨h5_45, h6_45, h12_45, h13_45, h14_45, h15_45⟩ := fs6 hσ 5 6 12 13 14 15;simp [h5_44, h6_44, h12_44, h13_44, h14_44] at h5_45 h6_45 h12_45 h13_45 h14_45 h15_45;clear hσ;replace hH : H38 = H45 := Eq.symm hH;subst hH;have hls2 : levP g d (i + 1) = levP g d i := by rw [hls, if_neg (by omega), List.append_nil]
         refine ⟨_, ?_, i + 1, cg, rfl, (h5_45.trans h5_37.symm), (h6_45.trans h6_37.symm), (h12_45.trans h12_37.symm), (h13_45.trans h13_37.symm), (by simp [h14_45, hls2]), (by simp [h15_45, hls2]), (g0_38.trans g0_36.symm), (g1_38.trans g1_36.symm), (gm30_38.trans gm30_36.symm), (by simp [gm35_38, hls2]), (hst_38.trans hst_36.symm), ?_, ?_⟩
         ·subst hn5; omega
         ·first | omega | assumption | (simp; done)
         ·exact t2
       ·(try simp at hc111);have hie : i = g.nodes.length := by have := hc111; omega
        subst hie;refine awp_exit ?_;refine q_seq_exit ?_;refine q_loop_exit ?_;refine q_block_hit ?_;refine q_seq ?_;refine awp_ok fun hok => ?_;obtain ⟨m46, hn_m46⟩ : ∃ m, H38.n = m := ⟨_, rfl⟩;have hf_m46_0 := hok.free 0;simp [hn_m46, hst_38] at hf_m46_0;have nx12 := ne_get hf_m46_0 g0_38;have nx13 := ne_get hf_m46_0 g1_38;have nx14 := ne_get hf_m46_0 gm30_38;have nx15 := ne_get hf_m46_0 gm35_38;refine stp_regl TT_ok (by rfl) fun K hK => ?_;simp [h12_39, h14_39, g0_38, g1_38, gm30_38, gm35_38, hn_m46, hst_38, nx3, nx4, nx5, nx6, nx7, nx12, nx13, nx14, nx15, encG, hvl, show (d + 1) * 24 ≤ 140737488355328 by omega, show d ≤ 9223372036854775806 by omega];(try refine And.intro (by first|omega|rfl) ?_);refine hK _ _ fun σ47 hσ H47 hH => ?_;clear hK K;obtain ⟨h5_47, h6_47, h12_47, h13_47⟩ := fs4 hσ 5 6 12 13;simp [h5_39, h6_39, h13_39] at h5_47 h6_47 h12_47 h13_47;clear hσ;have g0_47 := gt_of hH 0;have g1_47 := gt_of hH 1;have gm30_47 := gt_of hH m30;have gm35_47 := gt_of hH m35;have gm46_47 := gt_of hH m46;simp [g0_38, g1_38, gm30_38, gm35_38, hn_m46, hst_38, nx3, nx4, nx5, nx6, nx7, nx12, nx13, nx14, nx15] at g0_47 g1_47 gm30_47 gm35_47 gm46_47;have hst_47 := congrArg AHeap.st hH;simp [hst_38] at hst_47
        have kf : ∀ y, H38.get y ≠ none → y ≠ m30 → H47.get y = H38.get y := fun y hy h2 => by
         rw [hH]; have hjm : ¬ y = m46 := by { intro e; rw [e, hf_m46_0] at hy; exact hy rfl }
         simp [hn_m46, hjm, h2]
        clear hH;refine q_block ?_;refine q_seq ?_;refine stp_regl TT_ok (by rfl) fun K hK => ?_;simp [h13_47, g0_47, g1_47, gm30_47, gm35_47, gm46_47, nx3, nx4, nx5, nx6, nx7, nx12, nx13, nx14, nx15, encG, wrap_ok (n := (d : Int) + 1) (by omega) (by omega)];(try refine And.intro (by first|omega|rfl) ?_);refine hK _ _ fun σ48 hσ H48 hH => ?_;clear hK K;obtain ⟨h5_48, h6_48, h12_48, h13_48⟩ := fs4 hσ 5 6 12 13;simp [h5_47, h6_47, h12_47] at h5_48 h6_48 h12_48 h13_48;clear hσ;replace hH : H47 = H48 := Eq.symm hH;subst hH;refine ⟨_, ?_, d + 1, gn + 1, vs ++ [.sl m35 cg 0 (levP g d g.nodes.length).length], rfl, (h5_48.trans h5_32.symm), (h6_48.trans h6_32.symm), (by simp [h12_48, List.take_of_length_le, hvl]), (by simp [h13_48, List.take_of_length_le, hvl]), (g0_47.trans g0_31.symm), (g1_47.trans g1_31.symm), (by simp [gm30_47, List.take_of_length_le, hvl]), (hst_47.trans hst_31.symm), ?_, ?_, ?_⟩
        ·subst hn4; omega
        ·first | omega | assumption | (simp; done)
        ·rw [List.range_succ, List.map_append];refine RowsV.pushR (id := 0) (g := 0) (v := .nils) t2 (OwnR.mk (rest := []) gm35_47 (by simp [levP, levN]) (by simp [levP, levN]) (by omega)) fun i y g' n' h => ⟨kf y (t2.used h).1 (u3 _ _ _ _ h), fun g'' n'' e => by cases e; exact hfm _ _ _ _ h rfl⟩
        ·intro i2 y g2 n2 h;rw [List.getElem?_append] at h
         split at h
         ·exact u3 _ _ _ _ h
         ·rw [List.getElem?_singleton] at h
          split at h
          ·cases h; omega
          ·cases h
     ·(try simp at hc104);refine awp_exit ?_;refine q_seq_exit ?_;refine q_loop_exit ?_;refine q_block_hit ?_;refine q_seq ?_;refine stp_reg TT_ok (by rfl) fun K hK => ?_;simp [h12_34, g0_33, g1_33, gm30_33, nx3, nx4, encG];(try refine And.intro (by first|omega|rfl) ?_);refine hK _ _ fun σ49 hσ H49 hH => ?_;clear hK K;have h2_49 := congrFun hσ 2;simp [] at h2_49;clear hσ;replace hH : H33 = H49 := Eq.symm hH;subst hH;refine awp_ret ?_;have hde : d = g.glevels.length := by have := hc104; omega
      subst hde;refine q_fin1 h2_49 ?_;rw [glevels_eq hv]; exact u2.frz gm30_33 (by simp [hvl])
theorem refLevels_ok (g : Gr) : Fun1 Try.prog 31 [encG g] (encS g.glevels) := fun1_frz (refLevels0 g) (pu_cons (pu_graph g) pu_nil) (pu_encS _)
theorem gcomps_small (g : Gr) : g.gcomps.length ≤ 1000000 ∧ ∀ l ∈ g.gcomps, l.length ≤ 1000000 := by
 by_cases hv : g.valid = true
 ·obtain ⟨hb1, hb2⟩ := valid_nodes hv;have hl := gcomps_len hv;have ho := order_len g;have hcl : g.cedges.length ≤ g.nodes.length := by rw [cedges_len]; exact reps_len _ _
  refine ⟨by omega, fun l hlm => ?_⟩;obtain ⟨i, hi⟩ := List.mem_iff_getElem?.1 hlm;have hil : i < g.order.length := by have := (List.getElem?_eq_some_iff.1 hi).1; omega
  obtain ⟨r, _, _, _, h4⟩ := gcomps_get hv hil;rw [hi] at h4;rw [Option.some.inj h4];have := mem_len g g.nodes.length r
  omega
 ·rw [Gr.gcomps, if_neg hv]; exact ⟨by simp, fun l h => by cases h⟩
theorem glevels_small (g : Gr) : g.glevels.length ≤ 1000000 ∧ ∀ l ∈ g.glevels, l.length ≤ 1000000 := by
 by_cases hv : g.valid = true
 ·obtain ⟨hb1, hb2⟩ := valid_nodes hv;refine ⟨glevels_le hv (by omega), fun l hlm => ?_⟩;rw [glevels_eq hv] at hlm;obtain ⟨d, _, rfl⟩ := List.mem_map.1 hlm;have := levN_len g d
  omega
 ·rw [Gr.glevels, if_neg hv]; exact ⟨by simp, fun l h => by cases h⟩
theorem porder_small (g : Gr) : g.porder.1.length ≤ 1000000 := by
 by_cases h : g.valid = true ∧ g.pcycle = []
 ·rw [porder_self h.1 h.2];have := order_len2 h.1 h.2;obtain ⟨hb1, hb2⟩ := valid_nodes h.1;simp only; omega
 ·rw [Gr.porder, if_neg h]; simp
set_option maxHeartbeats 1000000 in
theorem orders0 (g : Gr) : ACalls Try.prog 5 [encG g] AHeap.nil (fun r _ => r = .bool true) := by
 refine acalls_body TT_ok Try.func5 rfl rfl (by simp [Try.ntmps5]) ?_;rw [Try.ntmps5];obtain ⟨σ, hσ⟩ : ∃ σ, σ = st0 [encG g] := ⟨_, rfl⟩;rw [← hσ];have h0_0 := congrFun hσ 0;simp [st0] at h0_0;clear hσ;obtain ⟨H, hH⟩ : ∃ H, H = AHeap.nil := ⟨_, rfl⟩;rw [← hH];have hn_0 : H.n = 0 := by rw [hH]; rfl
 have hst_0 : H.st = 1 := by rw [hH]; rfl
 clear hH;refine stp_reg TT_ok (by rfl) fun K hK => ?_;simp [h0_0, hn_0, hst_0, encG];(try refine And.intro (by first|omega|rfl) ?_);refine hK _ _ fun σ1 hσ H1 hH => ?_;clear hK K;have h1_1 := congrFun hσ 1;simp [] at h1_1;clear hσ;have g0_1 := gt_of hH 0;simp [hn_0, hst_0] at g0_1;have hn_1 := congrArg AHeap.n hH;simp [hn_0, hst_0] at hn_1;have hst_1 := congrArg AHeap.st hH;simp [hn_0, hst_0] at hst_1;clear hH;refine awp_seq ?_;refine stp_reg TT_ok (by rfl) fun K hK => ?_;simp [g0_1, encG];(try refine And.intro (by first|omega|rfl) ?_);refine stp_call (awake_ok) ?_;simp [g0_1, encG];(try refine And.intro (by first|omega|rfl) ?_);refine hK _ _ fun σ2 hσ H2 hH => ?_;clear hK K;obtain ⟨h1_2, h8_2⟩ := fs2 hσ 1 8;simp [h1_1] at h1_2 h8_2;clear hσ;replace hH : H1 = H2 := Eq.symm hH;subst hH;refine stp_false (by simp [aeval_tmp, h8_2, encG]) ?_;refine awp_skip ?_;refine q_seq ?_;refine awp_seq ?_
 by_cases hf : g.nodes.length ≤ 14 ∧ g.edges.length ≤ 60
 ·skip;have hFF0 := an3 h1_2 g0_1 hf;refine stp_reg TT_ok (by rfl) fun K hK => ?_;simp [hFF0, encG];(try refine And.intro (by first|omega|rfl) ?_);refine stp_call (few_ok g) ?_;simp [hFF0, encG];(try refine And.intro (by first|omega|rfl) ?_);refine hK _ _ fun σ3 hσ H3 hH => ?_;clear hK K hFF0;obtain ⟨h1_3, h11_3⟩ := fs2 hσ 1 11;simp [h1_2] at h1_3 h11_3;clear hσ;replace hH : H1 = H3 := Eq.symm hH;subst hH;refine stp_false (by simp [aeval_tmp, h11_3, hf, encG]) ?_;refine awp_skip ?_;refine q_seq ?_;have hFF0 := an3 h1_3 g0_1 hf;refine stp_reg TT_ok (by rfl) fun K hK => ?_;simp [hFF0, encG];(try refine And.intro (by first|omega|rfl) ?_);refine stp_call (order_ok g) ?_;simp [hFF0, encG];(try refine And.intro (by first|omega|rfl) ?_);refine hK _ _ fun σ4 hσ H4 hH => ?_;clear hK K hFF0;obtain ⟨h1_4, h3_4, h4_4⟩ := fs3 hσ 1 3 4;simp [h1_3] at h1_4 h3_4 h4_4;clear hσ;replace hH : H1 = H4 := Eq.symm hH;subst hH;have hFF0 := an3 h1_4 g0_1 hf;refine stp_reg TT_ok (by rfl) fun K hK => ?_;simp [hFF0, encG];(try refine And.intro (by first|omega|rfl) ?_);refine stp_call (refOrder_ok g) ?_;simp [hFF0, encG];(try refine And.intro (by first|omega|rfl) ?_);refine hK _ _ fun σ5 hσ H5 hH => ?_;clear hK K hFF0;obtain ⟨h1_5, h3_5, h4_5, h5_5, h6_5⟩ := fs5 hσ 1 3 4 5 6;simp [h1_4, h3_4, h4_4] at h1_5 h3_5 h4_5 h5_5 h6_5;clear hσ;replace hH : H1 = H5 := Eq.symm hH;subst hH;have hFF0 := an7 h1_5 h3_5 h4_5 h5_5 h6_5 g0_1 hf
  refine stp_lex false TT_ok mixed (by rfl) (by rfl) (by kernel_rfl) (by rfl) fun U hU K hK => ?_;simp [hFF0, encG];(try refine And.intro (by first|omega|rfl) ?_);refine lex_call (equalI g.porder.1 g.porder.1 (porder_small g)) ?_;simp [hFF0, encG];(try refine And.intro (by first|omega|rfl) ?_);refine lex_call (comps_ok g) ?_;simp [hFF0, encG];(try refine And.intro (by first|omega|rfl) ?_);refine lex_call (refComps_ok g) ?_;simp [hFF0, encG];(try refine And.intro (by first|omega|rfl) ?_);refine lex_call (same_ok g.gcomps g.gcomps (gcomps_small g).1 (gcomps_small g).2) ?_;simp [hFF0, encG];(try refine And.intro (by first|omega|rfl) ?_);refine lex_call (levels_ok g) ?_;simp [hFF0, encG];(try refine And.intro (by first|omega|rfl) ?_);refine lex_call (refLevels_ok g) ?_;simp [hFF0, encG];(try refine And.intro (by first|omega|rfl) ?_);refine lex_call (same_ok g.glevels g.glevels (glevels_small g).1 (glevels_small g).2) ?_;simp [hFF0, encG];(try refine And.intro (by first|omega|rfl) ?_);refine hK _ _ _ (by subst hU; kernel_rfl) fun σ6 hσ H6 hH => ?_;clear hK K hU U hFF0;have h2_6 := congrFun hσ 2;simp [] at h2_6;clear hσ;replace hH : H1 = H6 := Eq.symm hH;subst hH;refine awp_ret ?_;refine q_fin1 h2_6 ?_
  first | rfl | (simp; done)
 ·skip;have hFF0 := an3 h1_2 g0_1 hf;refine stp_reg TT_ok (by rfl) fun K hK => ?_;simp [hFF0, encG];(try refine And.intro (by first|omega|rfl) ?_);refine stp_call (few_ok g) ?_;simp [hFF0, encG];(try refine And.intro (by first|omega|rfl) ?_);refine hK _ _ fun σ7 hσ H7 hH => ?_;clear hK K hFF0;obtain ⟨h1_7, h11_7⟩ := fs2 hσ 1 11;simp [h1_2] at h1_7 h11_7;clear hσ;replace hH : H1 = H7 := Eq.symm hH;subst hH;refine stp_true (by simp [aeval_tmp, h11_7, hf, encG]) ?_;refine stp_reg TT_ok (by rfl) fun K hK => ?_;simp [g0_1, hf, encG];(try refine And.intro (by first|omega|rfl) ?_);refine hK _ _ fun σ8 hσ H8 hH => ?_;clear hK K;have h2_8 := congrFun hσ 2;simp [] at h2_8;clear hσ;replace hH : H1 = H8 := Eq.symm hH;subst hH;refine awp_ret ?_;refine q_seq_ret ?_;refine q_fin1 h2_8 ?_
  first | rfl | (simp; done)
set_option maxRecDepth 100000 in
theorem graphOrders_lifted (os : Os) (started : os.Started) (H : Type) (enc : TypeId × Value → H) :
  ReturnsInHanded {} Try.checked os 5 .any (Rows.graphOrdersSpec.pre6 enc Try.prog Try.f5 Rows.graphOrdersRow.domain false) (Rows.graphOrdersSpec.post enc Try.prog Try.f5 false true false false) := by
 refine returnsInHanded_of_change (C := Try.checked) own started (by kernel_rfl) Try.func5
  (ChangeSpec.witness6 (enc := enc) (C := Try.checked) false ⟨#[], #[.agg #[.slice none 0 0, .slice none 0 0]], []⟩ 9 (by kernel_rfl) (by kernel_rfl) (by kernel_rfl) (by kernel_rfl)) ?_
 intro W base args ds gs before hval hW hcnd _;refine law_calls2 TT_ok laid (fn := Try.f5) (s := Rows.graphOrdersSpec) (tb := 4) 9 rfl rfl Try.underlying4 (by kernel_rfl) (fun ds h => ?_) (fun avs ha => ?_) hval hW
 ·match ds, h with
  | [d0], _ => rfl
 ·have ha0 := ha;obtain ⟨v0, r0, rfl, hv0, ha⟩ := Args.cons ha;obtain rfl := Args.nil ha;obtain ⟨g, rfl⟩ := ty_graph hv0;exact orders0 g
theorem graphOrders_over : Rows.graphOrdersRow.holds Try.pinned (OpenSpec.ofChange Rows.graphOrdersSpec) :=
 OpenClaim.holds_of_wide 5 Try.f5 rfl rfl rfl rfl rfl rfl rfl ⟨rfl, rfl, rfl, rfl, rfl⟩ rfl rfl rfl rfl rfl (by kernel_rfl) Try.func5 (by kernel_rfl)
  (of_decide_eq_true (by kernel_rfl)) (by unfold Func.isWrapper; first | (rw [if_pos (by decide +kernel)]; kernel_rfl) | (rw [if_neg (by decide +kernel)]; exact ⟨rfl, rfl⟩))
  (fun os started H enc _ => graphOrders_lifted os started H enc)
theorem graphOrders_holds : Rows.GraphOrdersSaid := graphOrders_over
end Go.Proofs.Yteifhcohmipdcaa
