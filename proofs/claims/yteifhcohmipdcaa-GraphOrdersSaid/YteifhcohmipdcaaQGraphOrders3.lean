/-
  What the functions that the law calls answer, whatever they are handed: part 3. Conditions: none.
-/
import Derived.Test.YteifhcohmipdcaaQGraphOrders2
import Derived.Sort.Grow
import Derived.Shelf.Small.Bits
import Derived.Shelf.Strconv.Itoa0
import Derived.Shelf.Sort.Plain
import Derived.Shelf.Bits.Mul64
import Derived.Ground.Names2Prog
import Derived.Shelf.Slices.CompactI
import Derived.Test.YteifhcohmipdcaaProg
import Derived.Lib.RowBridge
namespace Go.Proofs.Yteifhcohmipdcaa
open Go.Abs
set_option linter.unusedSimpArgs false
set_option linter.unusedVariables false
def swapE (e : Int × Int) : Int × Int := (e.2, e.1)
theorem rev_of {g : Gr} (hv : g.valid = true) : g.rev = ⟨g.nodes, g.edges.map swapE⟩ := by simp only [Gr.rev, hv, if_true]; rfl
theorem frz_graph {H : AHeap} {g : Gr} {v w : AV} (h1 : Frz H v (.ro (g.nodes.map .str))) (h2 : Frz H w (.ro (g.edges.map encE))) : Frz H (.agg [v, w]) (encG g) :=
 .agg rfl (by simp [AV.one]) fun j x y hx hy => by
  match j, hx, hy with
  | 0, hx, hy => simp at hx hy; subst hx; subst hy; exact h1
  | 1, hx, hy => simp at hx hy; subst hx; subst hy; exact h2
theorem map_take_succ {α : Type} {es : List (Int × Int)} {f : Int × Int → α} {i : Nat} (h : i < es.length) : (es.take (i + 1)).map f = (es.take i).map f ++ [f es[i]] := by
 rw [List.take_succ_eq_append_getElem h, List.map_append]; rfl
set_option maxHeartbeats 1000000 in
theorem reverse0 (g : Gr) : ACalls Try.prog 17 [encG g] AHeap.nil (fun r H => Frz H r (encG g.rev)) := by
 refine acalls_body TT_ok Try.func17 rfl rfl (by simp [Try.ntmps17]) ?_;rw [Try.ntmps17];obtain ⟨σ, hσ⟩ : ∃ σ, σ = st0 [encG g] := ⟨_, rfl⟩;rw [← hσ];have h0_0 := congrFun hσ 0;simp [st0] at h0_0;clear hσ;obtain ⟨H, hH⟩ : ∃ H, H = AHeap.nil := ⟨_, rfl⟩;rw [← hH];have hn_0 : H.n = 0 := by rw [hH]; rfl
 have hst_0 : H.st = 1 := by rw [hH]; rfl
 clear hH;refine stp_reg TT_ok (by rfl) fun K hK => ?_;simp [h0_0, hn_0, hst_0, encG];(try refine And.intro (by first|omega|rfl) ?_);refine hK _ _ fun σ1 hσ H1 hH => ?_;clear hK K;obtain ⟨h1_1, h2_1⟩ := fs2 hσ 1 2;simp [] at h1_1 h2_1;clear hσ;have g0_1 := gt_of hH 0;have g1_1 := gt_of hH 1;simp [hn_0, hst_0] at g0_1 g1_1;have hn_1 := congrArg AHeap.n hH;simp [hn_0, hst_0] at hn_1;have hst_1 := congrArg AHeap.st hH;simp [hn_0, hst_0] at hst_1;clear hH;refine awp_seq ?_;have hFF0 := an3 h1_1 g0_1 g1_1;refine stp_reg TT_ok (by rfl) fun K hK => ?_;simp [hFF0, encG];(try refine And.intro (by first|omega|rfl) ?_);refine stp_call (valid_ok g) ?_;simp [hFF0, encG];(try refine And.intro (by first|omega|rfl) ?_);refine hK _ _ fun σ2 hσ H2 hH => ?_;clear hK K hFF0;obtain ⟨h1_2, h2_2, h8_2⟩ := fs3 hσ 1 2 8;simp [h1_1, h2_1] at h1_2 h2_2 h8_2;clear hσ;replace hH : H1 = H2 := Eq.symm hH;subst hH;refine awp_cond _ (by simp only [aeval_tmp]; exact h8_2) (fun hc8 => ?_) (fun hc8 => ?_)
 ·(try simp at hc8);refine stp_reg TT_ok (by rfl) fun K hK => ?_;simp [h2_2, g0_1, g1_1, encG];(try refine And.intro (by first|omega|rfl) ?_);refine hK _ _ fun σ3 hσ H3 hH => ?_;clear hK K;have h2_3 := congrFun hσ 2;simp [h2_2] at h2_3;clear hσ;have g0_3 := gt_of hH 0;have g1_3 := gt_of hH 1;simp [g0_1, g1_1, hn_1, hst_1] at g0_3 g1_3;have hn_3 : H3.n = _ := (congrArg AHeap.n hH).trans hn_1;have hst_3 : H3.st = _ := (congrArg AHeap.st hH).trans hst_1;clear hH;refine awp_ret ?_;refine q_seq_ret ?_;refine q_finC (H' := H3) (v := .agg [.nils, .nils]) (by rfl) (by simp [h2_3, g0_3, g1_3]) ?_;rw [show g.rev = ⟨[], []⟩ by simp only [Gr.rev, hc8]; rfl]; exact frz_graph .nils .nils
 ·(try simp at hc8);obtain ⟨hn1, hn2⟩ := valid_nodes hc8;refine awp_skip ?_;refine q_seq ?_;have hFF0 := an5 h1_2 g0_1 g1_1 hn_1 hst_1;refine stp_reg TT_ok (by rfl) fun K hK => ?_;simp [hFF0, encG];(try refine And.intro (by first|omega|rfl) ?_);refine stp_call (cloneS_ok g.nodes (by omega)) ?_;simp [hFF0, encG];(try refine And.intro (by first|omega|rfl) ?_);refine hK _ _ fun σ4 hσ H4 hH => ?_;clear hK K hFF0;obtain ⟨h1_4, h2_4, h3_4⟩ := fs3 hσ 1 2 3;simp [h1_2, h2_2] at h1_4 h2_4 h3_4;clear hσ;have g0_4 := gt_of hH 0;have g1_4 := gt_of hH 1;have g2_4 := gt_of hH 2;simp [g0_1, g1_1, hn_1, hst_1] at g0_4 g1_4 g2_4;have hn_4 := congrArg AHeap.n hH;simp [hn_1, hst_1] at hn_4;have hst_4 := congrArg AHeap.st hH;simp [hn_1, hst_1] at hst_4;clear hH;refine awp_seq ?_;refine stp_reg TT_ok (by rfl) fun K hK => ?_;simp [h1_4, g0_4, g1_4, g2_4, encG];(try refine And.intro (by first|omega|rfl) ?_);refine hK _ _ fun σ5 hσ H5 hH => ?_;clear hK K;obtain ⟨h2_5, h3_5, h15_5, h16_5, h17_5⟩ := fs5 hσ 2 3 15 16 17;simp [h2_4, h3_4] at h2_5 h3_5 h15_5 h16_5 h17_5;clear hσ;replace hH : H4 = H5 := Eq.symm hH;subst hH;refine awp_block ?_
  refine awp_loopV (fun n σ' H' => ∃ (i : Nat) (v : AV), n = g.edges.length - i ∧ σ' 2 = σ5 2 ∧ σ' 3 = σ5 3 ∧ σ' 15 = σ5 15 ∧ σ' 16 = σ5 16 ∧ σ' 17 = (AV.int IntKind.i64) i ∧ H'.get 0 = H4.get 0 ∧ H'.get 1 = H4.get 1 ∧ H'.get 2 = some (.row 25 2 0 [.agg [.ro (g.nodes.map .str), v]]) ∧ H'.st = H4.st ∧ (i ≤ g.edges.length) ∧ (Own 39 2 3 (((g.edges.take i).map swapE).map encE) v H')) ?_ ?_
  ·refine ⟨_, 0, .nils, rfl, rfl, rfl, rfl, rfl, (by simp [h17_5]), rfl, rfl, (by simp [g2_4]), rfl, ?_, ?_⟩
   ·first | omega | (simp; done) | assumption
   ·exact .inl ⟨rfl, by simp⟩
  ·rintro n1 σ6 H6 ⟨i, v, hn1, q2_6, q3_6, q15_6, q16_6, h17_6, qg0_6, qg1_6, g2_6, qst_6, p1, p2⟩
   have h2_6 := q2_6.trans h2_5;have h3_6 := q3_6.trans h3_5;have h15_6 := q15_6.trans h15_5;have h16_6 := q16_6.trans h16_5;have g0_6 := qg0_6.trans g0_4;have g1_6 := qg1_6.trans g1_4;have hst_6 := qst_6.trans hst_4;refine stp_reg TT_ok (by rfl) fun K hK => ?_;simp [h16_6, h17_6, g0_6, g1_6, g2_6, encG];(try refine And.intro (by first|omega|rfl) ?_);refine hK _ _ fun σ7 hσ H7 hH => ?_;clear hK K;obtain ⟨h2_7, h3_7, h15_7, h16_7, h17_7, h18_7⟩ := fs6 hσ 2 3 15 16 17 18;simp [h2_6, h3_6, h15_6, h16_6, h17_6] at h2_7 h3_7 h15_7 h16_7 h17_7 h18_7;clear hσ;replace hH : H6 = H7 := Eq.symm hH;subst hH;refine awp_seq ?_;refine awp_cond _ (by simp only [aeval_tmp]; exact h18_7) (fun hc18 => ?_) (fun hc18 => ?_)
   ·(try simp at hc18);have hlt : i < g.edges.length := by simpa using hc18
    have hge : (g.edges.map encE)[i]? = some (encE g.edges[i]) := by simp [hlt]
    have hsn := map_take_succ (f := swapE) hlt;have hln : (((g.edges.take i).map swapE).map encE).length = i := by simp; omega
    have hln2 : min i g.edges.length = i := by omega
    refine awp_skip ?_;refine q_seq ?_;refine awp_seq ?_;refine awp_block ?_;rcases p2 with ⟨rfl, hnil⟩ | ⟨id, gn, rfl, hb, hid⟩
    ·skip;have hi0 : i = 0 := by rw [hnil] at hln; simpa using hln.symm
     refine awp_ok fun hok => ?_;obtain ⟨m8, hn_m8⟩ : ∃ m, H6.n = m := ⟨_, rfl⟩;have hf_m8_0 := hok.free 0;simp [hn_m8, hst_6] at hf_m8_0;have nx1 := ne_get hf_m8_0 g0_6;have nx2 := ne_get hf_m8_0 g1_6;have nx3 := ne_get hf_m8_0 g2_6;refine stp_reg TT_ok (by rfl) fun K hK => ?_;simp [h15_7, h17_7, g0_6, g1_6, g2_6, hn_m8, hst_6, nx1, nx2, nx3, encG, hge, hlt, encE];(try refine And.intro (by first|omega|rfl) ?_);refine hK _ _ fun σ9 hσ H9 hH => ?_;clear hK K;obtain ⟨h2_9, h3_9, h5_9, h15_9, h16_9, h17_9⟩ := fs6 hσ 2 3 5 15 16 17;simp [h2_7, h3_7, h15_7, h16_7, h17_7] at h2_9 h3_9 h5_9 h15_9 h16_9 h17_9;clear hσ;have g0_9 := gt_of hH 0;have g1_9 := gt_of hH 1;have g2_9 := gt_of hH 2;have gm8_9 := gt_of hH m8;simp [g0_6, g1_6, g2_6, hn_m8, hst_6, nx1, nx2, nx3] at g0_9 g1_9 g2_9 gm8_9;have hst_9 := congrArg AHeap.st hH;simp [hst_6] at hst_9;clear hH;refine awp_ok fun hok => ?_;obtain ⟨m10, hn_m10⟩ : ∃ m, H9.n = m := ⟨_, rfl⟩;have hf_m10_0 := hok.free 0;simp [hn_m10, hst_9] at hf_m10_0;have nx4 := ne_get hf_m10_0 g0_9;have nx5 := ne_get hf_m10_0 g1_9;have nx6 := ne_get hf_m10_0 g2_9;have nx7 := ne_get hf_m10_0 gm8_9;have hf_m10_1 := hok.free 1;simp [hn_m10, hst_9] at hf_m10_1;have nx8 := ne_get hf_m10_1 g0_9;have nx9 := ne_get hf_m10_1 g1_9;have nx10 : ¬ m10 = 0 ∧ ¬ 0 = m10 := by omega
     have nx11 := ne_get hf_m10_1 g2_9;have nx12 : ¬ m10 = 1 ∧ ¬ 1 = m10 := by omega
     have nx13 := ne_get hf_m10_1 gm8_9;refine stp_regl TT_ok (by rfl) fun K hK => ?_;simp [h3_9, h5_9, g0_9, g1_9, g2_9, gm8_9, hn_m10, hst_9, nx1, nx2, nx3, nx4, nx5, nx6, nx7, nx8, nx9, nx10, nx11, nx12, nx13, encG, hge, hlt, encE];(try refine And.intro (by first|omega|rfl) ?_);refine hK _ _ fun σ11 hσ H11 hH => ?_;clear hK K;obtain ⟨h2_11, h3_11, h15_11, h16_11, h17_11⟩ := fs5 hσ 2 3 15 16 17;simp [h2_9, h3_9, h15_9, h16_9, h17_9] at h2_11 h3_11 h15_11 h16_11 h17_11;clear hσ;have g0_11 := gt_of hH 0;have g1_11 := gt_of hH 1;have g2_11 := gt_of hH 2;have gm8_11 := gt_of hH m8;have gm10_11 := gt_of hH m10;have g_m10_1__11 := gt_of hH (m10 + 1);simp [g0_9, g1_9, g2_9, gm8_9, hn_m10, hst_9, nx1, nx2, nx3, nx4, nx5, nx6, nx7, nx8, nx9, nx10, nx11, nx12, nx13] at g0_11 g1_11 g2_11 gm8_11 gm10_11 g_m10_1__11;have hst_11 := congrArg AHeap.st hH;simp [hst_9] at hst_11;clear hH;refine q_block ?_;refine q_seq ?_;refine stp_regl TT_ok (by rfl) fun K hK => ?_;simp [h17_11, g0_11, g1_11, g2_11, gm8_11, gm10_11, g_m10_1__11, nx1, nx2, nx3, nx4, nx5, nx6, nx7, nx8, nx9, nx10, nx11, nx12, nx13, encG, wrap_ok (n := (i : Int) + 1) (by omega) (by omega)];(try refine And.intro (by first|omega|rfl) ?_);refine hK _ _ fun σ12 hσ H12 hH => ?_;clear hK K;obtain ⟨h2_12, h3_12, h15_12, h16_12, h17_12⟩ := fs5 hσ 2 3 15 16 17;simp [h2_11, h3_11, h15_11, h16_11] at h2_12 h3_12 h15_12 h16_12 h17_12;clear hσ;replace hH : H11 = H12 := Eq.symm hH;subst hH
     refine ⟨_, ?_, i + 1, .sl (m10 + 1) 0 0 1, rfl, (h2_12.trans h2_5.symm), (h3_12.trans h3_5.symm), (h15_12.trans h15_5.symm), (h16_12.trans h16_5.symm), (by simp [h17_12]), (g0_11.trans g0_4.symm), (g1_11.trans g1_4.symm), (by simp [g2_11]), (hst_11.trans hst_4.symm), ?_, ?_⟩
     ·subst hn1; omega
     ·first | omega | assumption | (simp; done)
     ·exact Own.mk g_m10_1__11 (by rw [hsn, List.map_append, hnil]; simp [encE, swapE]) (by simp; omega) (by omega)
    ·skip;rw [hln] at g2_6;have nx14 : ¬ id = 0 ∧ ¬ 0 = id := by omega
     have nx15 : ¬ id = 1 ∧ ¬ 1 = id := by omega
     have nx16 : ¬ id = 2 ∧ ¬ 2 = id := by omega
     refine awp_ok fun hok => ?_;obtain ⟨m13, hn_m13⟩ : ∃ m, H6.n = m := ⟨_, rfl⟩;have hf_m13_0 := hok.free 0;simp [hn_m13, hst_6] at hf_m13_0;have nx17 := ne_get hf_m13_0 g0_6;have nx18 := ne_get hf_m13_0 g1_6;have nx19 := ne_get hf_m13_0 g2_6;have nx20 := ne_get hf_m13_0 hb;refine stp_reg TT_ok (by rfl) fun K hK => ?_;simp [h15_7, h17_7, g0_6, g1_6, g2_6, hb, hn_m13, hst_6, nx14, nx15, nx16, nx17, nx18, nx19, nx20, encG, hge, hlt, encE];(try refine And.intro (by first|omega|rfl) ?_);refine hK _ _ fun σ14 hσ H14 hH => ?_;clear hK K;obtain ⟨h2_14, h3_14, h5_14, h15_14, h16_14, h17_14⟩ := fs6 hσ 2 3 5 15 16 17;simp [h2_7, h3_7, h15_7, h16_7, h17_7] at h2_14 h3_14 h5_14 h15_14 h16_14 h17_14;clear hσ;have g0_14 := gt_of hH 0;have g1_14 := gt_of hH 1;have g2_14 := gt_of hH 2;have gid_14 := gt_of hH id;have gm13_14 := gt_of hH m13;simp [g0_6, g1_6, g2_6, hb, hn_m13, hst_6, nx14, nx15, nx16, nx17, nx18, nx19, nx20] at g0_14 g1_14 g2_14 gid_14 gm13_14;have hst_14 := congrArg AHeap.st hH;simp [hst_6] at hst_14;clear hH;refine awp_ok fun hok => ?_;obtain ⟨m15, hn_m15⟩ : ∃ m, H14.n = m := ⟨_, rfl⟩;have hf_m15_0 := hok.free 0;simp [hn_m15, hst_14] at hf_m15_0;have nx21 := ne_get hf_m15_0 g0_14;have nx22 := ne_get hf_m15_0 g1_14;have nx23 := ne_get hf_m15_0 g2_14;have nx24 := ne_get hf_m15_0 gid_14;have nx25 := ne_get hf_m15_0 gm13_14;refine stp_regl TT_ok (by rfl) fun K hK => ?_
     simp [h3_14, h5_14, g0_14, g1_14, g2_14, gid_14, gm13_14, hn_m15, hst_14, nx14, nx15, nx16, nx17, nx18, nx19, nx20, nx21, nx22, nx23, nx24, nx25, encG, hge, hlt, encE, hln, hln2, show (i + 1) * 16 ≤ 140737488355328 by omega, show i ≤ 9223372036854775806 by omega];(try refine And.intro (by first|omega|rfl) ?_);refine hK _ _ fun σ16 hσ H16 hH => ?_;clear hK K;obtain ⟨h2_16, h3_16, h15_16, h16_16, h17_16⟩ := fs5 hσ 2 3 15 16 17;simp [h2_14, h3_14, h15_14, h16_14, h17_14] at h2_16 h3_16 h15_16 h16_16 h17_16;clear hσ;have g0_16 := gt_of hH 0;have g1_16 := gt_of hH 1;have g2_16 := gt_of hH 2;have gid_16 := gt_of hH id;have gm13_16 := gt_of hH m13;have gm15_16 := gt_of hH m15;simp [g0_14, g1_14, g2_14, gid_14, gm13_14, hn_m15, hst_14, nx14, nx15, nx16, nx17, nx18, nx19, nx20, nx21, nx22, nx23, nx24, nx25] at g0_16 g1_16 g2_16 gid_16 gm13_16 gm15_16;have hst_16 := congrArg AHeap.st hH;simp [hst_14] at hst_16;clear hH;refine q_block ?_;refine q_seq ?_;refine stp_regl TT_ok (by rfl) fun K hK => ?_;simp [h17_16, g0_16, g1_16, g2_16, gid_16, gm13_16, gm15_16, nx14, nx15, nx16, nx17, nx18, nx19, nx20, nx21, nx22, nx23, nx24, nx25, encG, wrap_ok (n := (i : Int) + 1) (by omega) (by omega)];(try refine And.intro (by first|omega|rfl) ?_);refine hK _ _ fun σ17 hσ H17 hH => ?_;clear hK K;obtain ⟨h2_17, h3_17, h15_17, h16_17, h17_17⟩ := fs5 hσ 2 3 15 16 17;simp [h2_16, h3_16, h15_16, h16_16] at h2_17 h3_17 h15_17 h16_17 h17_17;clear hσ;replace hH : H16 = H17 := Eq.symm hH;subst hH
     refine ⟨_, ?_, i + 1, .sl id (gn + 1) 0 (i + 1), rfl, (h2_17.trans h2_5.symm), (h3_17.trans h3_5.symm), (h15_17.trans h15_5.symm), (h16_17.trans h16_5.symm), (by simp [h17_17]), (g0_16.trans g0_4.symm), (g1_16.trans g1_4.symm), (by simp [g2_16]), (hst_16.trans hst_4.symm), ?_, ?_⟩
     ·subst hn1; omega
     ·first | omega | assumption | (simp; done)
     ·exact Own.mk gid_16 (by rw [hsn, List.map_append]; simp [encE, swapE, List.take_take]) (by simp; omega) (by omega)
   ·(try simp at hc18);refine awp_exit ?_;refine q_seq_exit ?_;refine q_loop_exit ?_;refine q_block_hit ?_;refine q_seq ?_;have hvo := p2.one;simp [AV.one] at hvo;have hie : i = g.edges.length := by have := hc18; omega
    subst hie;rw [List.take_length] at p2;refine stp_reg TT_ok (by rfl) fun K hK => ?_;simp [h2_7, h3_7, g0_6, g1_6, g2_6, encG, hvo];(try refine And.intro (by first|omega|rfl) ?_);refine hK _ _ fun σ18 hσ H18 hH => ?_;clear hK K;have h2_18 := congrFun hσ 2;simp [h2_7] at h2_18;clear hσ;have g0_18 := gt_of hH 0;have g1_18 := gt_of hH 1;have g2_18 := gt_of hH 2;simp [g0_6, g1_6, g2_6, hst_6] at g0_18 g1_18 g2_18;have hst_18 := congrArg AHeap.st hH;simp [hst_6] at hst_18;have hall : ∀ j, 3 ≤ j → H18.get j = H6.get j := fun j hj => by rw [hH, put_getH, if_neg (by omega)]
    clear hH;refine awp_ret ?_;refine q_finC (H' := H18) (v := .agg [.ro (g.nodes.map .str), v]) (by rfl) (by simp [h2_18, g0_18, g1_18, g2_18]) ?_;rw [rev_of hc8]; exact frz_graph (.pure (pu_strs _)) ((p2.keep hall).frz (fun _ => pu_of_edges) (fun _ => one_edge))
theorem reverse_ok (g : Gr) : Fun1 Try.prog 17 [encG g] (encG g.rev) := fun1_frz (reverse0 g) (pu_cons (pu_graph _) pu_nil) (pu_graph _)
end Go.Proofs.Yteifhcohmipdcaa
namespace Go.Abs
set_option linter.unusedSimpArgs false
set_option linter.unusedVariables false
open Go.Sort
section
variable {P : Program} {T : TypeId → Option TE}
theorem Fun1.of_calls {f : FuncId} {args : List AV} {cargs : Array Value} {r : AV} {c : Value} (hcall : Callable P f) (hs : cargs.size = args.length)
  (ha : ∀ (j : Nat) (v : AV) (u : Value), args[j]? = some v → cargs[j]? = some u → ∀ (G : Gh) (w : World) (u' : Value), VRel G w v u' → u' = u)
  (hr : ∀ (G : Gh) (w : World), VRel G w r c) (h : ∀ w, Calls P f cargs w fun e w' => e = .returned c ∧ w' = w) : Fun1 P f args r := by
 intro H
 refine ⟨hcall, fun G w cs hrel hcs hv => ?_⟩
 have : cs = cargs := by
  apply Array.ext (by omega)
  intro i h1 h2
  have hi : i < args.length := by omega
  exact ha i args[i] cargs[i] (by simp [hi]) (by simp [h2]) G w _ (hv i args[i] cs[i] (by simp [hi]) (by simp [h1]))
 subst this
 refine (h w).mono ?_
 rintro e w' ⟨rfl, rfl⟩
 exact ⟨c, r, H, G, rfl, ⟨rfl, rfl⟩, hr G _, .refl hrel⟩
theorem ACalls.of_putRow {α : Type} [Inhabited α] {f : FuncId} {enc : α → Value} {encA : α → AV} (hcall : Callable P f)
  (he : ∀ (G : Gh) (w : World) (x : α) (c : Value), VRel G w (encA x) c ↔ c = enc x) (h1 : ∀ x, (encA x).cells = [encA x] ∧ (encA x).one = true)
  {zs ys : List α} (hlen : ys.length = zs.length) (rv : Nat → Nat → Nat → Value) (ra : AV) {H : AHeap} {id e g n : Nat} {rest : List AV}
  (hra : ∀ (G : Gh) (w : World) (o c : Nat), G.dom id → g ≤ G.gm id → c ≤ G.cap id g → zs.length ≤ c → (o = G.base id g ∨ c = 0) → VRel G w ra (rv (G.blk id g) o c))
  (h : ∀ (blk off cap : Nat) (w : World), Holds enc w blk off zs.toArray → blk < w.heap.size → zs.length ≤ cap →
   Calls P f #[.slice (some ⟨blk, off, none⟩) zs.length cap] w fun e w' => e = .returned (rv blk off cap) ∧ ∃ n os, w' = grow (putRow enc (Sort.ahead w n) blk off ys.toArray) os)
  (hb : H.get id = some (.row e 1 g (zs.map encA ++ rest))) (hn : n = zs.length) {K : AV → AHeap → Prop}
  (hK : K ra (H.put id (.row e 1 g (ys.map encA ++ rest)))) : ACalls P f [.sl id g 0 n] H K := by
 subst hn
 refine ⟨hcall, fun G w cargs hr hs hv => ?_⟩
 have h0 : 0 < cargs.size := by rw [hs]; simp
 have hv0 := hv 0 _ cargs[0] rfl (by simp [h0])
 have hca : cargs = #[cargs[0]] := by
  apply Array.ext (by simpa using hs)
  intro i h1 h2
  have : i = 0 := by simp at h2; omega
  subst this; rfl
 rw [hca]
 generalize cargs[0] = c0 at hv0
 cases hv0 with
 | @sl _ _ _ _ o c hid hg hc hl ho =>
  obtain ⟨_, hgm, hszz, hpos, hlen', hcapm, hro, cur, hcur, hsize, hrel⟩ := hr.blk id _ hb
  have hlt : G.blk id g < w.heap.size := (Array.getElem?_eq_some_iff.1 hcur).1
  have hcell : ∀ (i : Nat) (x : α), zs[i]? = some x → cur[G.base id g + i]? = some (enc x) := by
   intro i x hx
   have hil := (List.getElem?_eq_some_iff.1 hx).1
   obtain ⟨cc, h2, h3⟩ := hrel i (encA x) 0 (encA x) (by rw [List.getElem?_append_left (by simpa using hil), List.getElem?_map, hx]; rfl) (by rw [(h1 x).1]; rfl)
   rw [Nat.mul_one, Nat.add_zero] at h2
   rw [h2, (he G w x cc).1 h3]
  have hoo : zs.length = 0 ∨ o = G.base id g := by
   rcases ho with ho | ho
   ·right; rw [ho]; omega
   ·left; omega
  have hH : Holds enc w (G.blk id g) o zs.toArray := by
   intro j hj
   have hj' : j < zs.length := by simpa using hj
   have hoo' : o = G.base id g := by
    rcases hoo with h | h
    ·omega
    ·exact h
   subst hoo'
   have hx : zs[j]? = some zs[j] := by simp [hj']
   refine ⟨?_, ?_⟩
   ·simp only [World.cell?, hcur]
    rw [hcell j _ hx]; simp [hj']
   ·simp [World.frozen?, hcur]
  refine (h _ o c w hH hlt hl).mono ?_
  rintro ee w' ⟨rfl, k, os, rfl⟩
  let cur2 := putCells enc o ys.toArray cur
  have hheap : ∀ b, b < w.heap.size → (grow (putRow enc (Sort.ahead w k) (G.blk id g) o ys.toArray) os).heap[b]? = if b = G.blk id g then some (.cells cur2 e (0, 0)) else w.heap[b]? := by
   intro b hbl
   simp only [grow, putRow, mapBlock, Sort.ahead]
   rw [Array.getElem?_append_left (by simpa using hbl), Array.getElem?_modify]
   by_cases hbb : b = G.blk id g
   ·subst hbb; simp [hcur, onCells, cur2]
   ·rw [if_neg (Ne.symm hbb), if_neg hbb]
  have hold : ∀ b, b < w.heap.size → b ≠ G.blk id g → (grow (putRow enc (Sort.ahead w k) (G.blk id g) o ys.toArray) os).heap[b]? = w.heap[b]? := fun b hb1 hb2 => by rw [hheap b hb1, if_neg hb2]
  have hI : ∀ b, G.I b → (grow (putRow enc (Sort.ahead w k) (G.blk id g) o ys.toArray) os).heap[b]? = w.heap[b]? := fun b hb1 => hold b (hr.ilt b hb1) (fun e' => hr.imm id _ hb (by simpa [Blk.gen] using e' ▸ hb1))
  refine ⟨_, ra, _, G, rfl, hK, hra G _ o c hid hg (by omega) hl (ho.imp (fun ho => by omega) (fun ho => ho)), ?_⟩
  refine Run.put hr hb (.refl G) (fun _ h => h) (fun _ => Iff.rfl) (fun _ _ _ => rfl) ?_ rfl rfl rfl (by simp [grow, putRow, mapBlock, Sort.ahead]) hold (.inl rfl)
  refine ⟨hgm, hszz, hpos, by simpa [hlen] using hlen', hcapm, ?_, cur2, by rw [hheap _ hlt, if_pos rfl], by simp [cur2, putCells, hsize], ?_⟩
  ·intro x hx
   rcases List.mem_append.1 hx with hx | hx
   ·obtain ⟨y, _, rfl⟩ := List.mem_map.1 hx
    refine ⟨by rw [(h1 y).1]; rfl, fun v hv => ?_⟩
    rw [(h1 y).1] at hv; simp at hv; subst hv; exact (h1 y).2
   ·exact hro x (List.mem_append.2 (.inr hx))
  ·intro i x j v hx hv
   have hcur2 : ∀ q, cur2[q]? = (cur[q]?).map fun u => if o ≤ q ∧ q < o + ys.length then enc (ys.toArray)[q - o]! else u := by
    intro q; simp [cur2, putCells, Array.getElem?_mapIdx]
   by_cases hi : i < ys.length
   ·rw [List.getElem?_append_left (by simpa using hi), List.getElem?_map, List.getElem?_eq_getElem hi] at hx
    simp only [Option.map_some, Option.some.injEq] at hx
    subst hx
    rw [(h1 _).1] at hv
    have hj : j = 0 := by
     have := (List.getElem?_eq_some_iff.1 hv).1; simp at this; exact this
    subst hj
    simp at hv; subst hv
    have hoo' : o = G.base id g := by
     rcases hoo with h | h
     ·omega
     ·exact h
    have hzi : i < zs.length := by omega
    have hc' := hcell i zs[i] (by simp [hzi])
    refine ⟨enc ys[i], ?_, (he G _ _ _).2 rfl⟩
    rw [Nat.mul_one, Nat.add_zero, hcur2, hc', Option.map_some, if_pos (by omega), hoo', Nat.add_sub_cancel_left]
    simp [hi]
   ·rw [List.getElem?_append_right (by simpa using Nat.le_of_not_lt hi)] at hx
    simp only [List.length_map] at hx
    have hx' : (zs.map encA ++ rest)[i]? = some x := by
     rw [List.getElem?_append_right (by simp; omega)]; simpa [hlen] using hx
    obtain ⟨cc, h2, h3⟩ := hrel i x j v hx' hv
    refine ⟨cc, ?_, h3.mono (.refl G) hI⟩
    rw [hcur2, h2, Option.map_some]
    rcases hoo with h | h
    ·rw [if_neg (by omega)]
    ·rw [if_neg (by omega)]
theorem callable_of {f : FuncId} {fn : Func} {c : Code} (h : P.funcs[f]? = some fn) (hb : fn.body = some c) (hn : (fn.name == "runtime.NumGoroutine") = false) : Callable P f := ⟨fn, c, h, hb, hn⟩
theorem vrel_int {k : IntKind} {x : Int} {c : Value} {G : Gh} {w : World} : VRel G w (.int k x) c ↔ c = .int k x := ⟨fun h => by cases h; rfl, fun h => by subst h; exact .int _ _⟩
end
end Go.Abs
namespace Go.Proofs
open Go.Shelf
def Try.lays125_ren : Go.Shelf.Ren := ⟨fun | 125 => 69 | 128 => 82 | 129 => 83 | n => n, fun | 46 => 83 | 3 => 3 | 51 => 96 | 53 => 98 | 4 => 4 | 5 => 5 | 9 => 9 | n => n, fun | n => n⟩
theorem Try.lays125 : Go.Proofs.Lays.n125 Try.prog Try.lays125_ren := {
 mixed := by kernel_rfl
 f125 := Try.func69.trans (congrArg some (by kernel_rfl))
 f128 := Try.func82.trans (congrArg some (by kernel_rfl))
 f129 := Try.func83.trans (congrArg some (by kernel_rfl))
 t3 := Try.underlying3
 a3 := Try.isAgg3
 z3 := Try.sizeOf3
 v3 := Try.zeroValue3
 t4 := Try.underlying4
 a4 := Try.isAgg4
 z4 := Try.sizeOf4
 v4 := Try.zeroValue4
 t5 := Try.underlying5
 a5 := Try.isAgg5
 z5 := Try.sizeOf5
 v5 := Try.zeroValue5
 t9 := Try.underlying9
 a9 := Try.isAgg9
 z9 := Try.sizeOf9
 v9 := Try.zeroValue9
 t46 := Try.underlying83
 a46 := Try.isAgg83
 z46 := Try.sizeOf83
 v46 := Try.zeroValue83
 t51 := Try.underlying96
 a51 := Try.isAgg96
 z51 := Try.sizeOf96
 v51 := Try.zeroValue96
 t53 := Try.underlying98
 a53 := Try.isAgg98
 z53 := Try.sizeOf98
 v53 := Try.zeroValue98 }
theorem Try.bits_Len (x : Int) (w : World) (h0 : 0 ≤ x) (h1 : x ≤ 18446744073709551615) :
  Calls Try.prog 69 #[.int .u64 x] w fun e w' => e = .returned (.int .i64 (Lib.bitLen x.toNat)) ∧ w' = w := Any.bits_Len Try.lays125 x w h0 h1
def Try.lays189_ren : Go.Shelf.Ren := ⟨fun | 189 => 57 | 125 => 69 | 257 => 68 | 128 => 82 | 129 => 83 | 294 => 74 | 295 => 75 | 296 => 76 | 297 => 77 | 298 => 78 | 299 => 79 | 216 => 60 | 300 => 80 | 301 => 81 | 328 => 86 | 329 => 87 | 330 => 88 | 331 => 89 | 332 => 90 | 215 => 70 | 343 => 91 | n => n, fun | 28 => 26 | 3 => 3 | 46 => 83 | 0 => 0 | 51 => 96 | 53 => 98 | 4 => 4 | 183 => 89 | 182 => 88 | 131 => 93 | 5 => 5 | 9 => 9 | 218 => 103 | 222 => 107 | 228 => 109 | 229 => 110 | n => n, fun | n => n⟩
theorem Try.lays189 : Go.Proofs.Lays.n189 Try.prog Try.lays189_ren := {
 mixed := by kernel_rfl
 f125 := Try.func69.trans (congrArg some (by kernel_rfl))
 f128 := Try.func82.trans (congrArg some (by kernel_rfl))
 f129 := Try.func83.trans (congrArg some (by kernel_rfl))
 f189 := Try.func57.trans (congrArg some (by kernel_rfl))
 f215 := Try.func70.trans (congrArg some (by kernel_rfl))
 f216 := Try.func60.trans (congrArg some (by kernel_rfl))
 f257 := Try.func68.trans (congrArg some (by kernel_rfl))
 f294 := Try.func74.trans (congrArg some (by kernel_rfl))
 f295 := Try.func75.trans (congrArg some (by kernel_rfl))
 f296 := Try.func76.trans (congrArg some (by kernel_rfl))
 f297 := Try.func77.trans (congrArg some (by kernel_rfl))
 f298 := Try.func78.trans (congrArg some (by kernel_rfl))
 f299 := Try.func79.trans (congrArg some (by kernel_rfl))
 f300 := Try.func80.trans (congrArg some (by kernel_rfl))
 f301 := Try.func81.trans (congrArg some (by kernel_rfl))
 f328 := Try.func86.trans (congrArg some (by kernel_rfl))
 f329 := Try.func87.trans (congrArg some (by kernel_rfl))
 f330 := Try.func88.trans (congrArg some (by kernel_rfl))
 f331 := Try.func89.trans (congrArg some (by kernel_rfl))
 f332 := Try.func90.trans (congrArg some (by kernel_rfl))
 f343 := Try.func91.trans (congrArg some (by kernel_rfl))
 t0 := Try.underlying0
 a0 := Try.isAgg0
 z0 := Try.sizeOf0
 v0 := Try.zeroValue0
 t3 := Try.underlying3
 a3 := Try.isAgg3
 z3 := Try.sizeOf3
 v3 := Try.zeroValue3
 t4 := Try.underlying4
 a4 := Try.isAgg4
 z4 := Try.sizeOf4
 v4 := Try.zeroValue4
 t5 := Try.underlying5
 a5 := Try.isAgg5
 z5 := Try.sizeOf5
 v5 := Try.zeroValue5
 t9 := Try.underlying9
 a9 := Try.isAgg9
 z9 := Try.sizeOf9
 v9 := Try.zeroValue9
 t28 := Try.underlying26
 a28 := Try.isAgg26
 z28 := Try.sizeOf26
 v28 := Try.zeroValue26
 t46 := Try.underlying83
 a46 := Try.isAgg83
 z46 := Try.sizeOf83
 v46 := Try.zeroValue83
 t51 := Try.underlying96
 a51 := Try.isAgg96
 z51 := Try.sizeOf96
 v51 := Try.zeroValue96
 t53 := Try.underlying98
 a53 := Try.isAgg98
 z53 := Try.sizeOf98
 v53 := Try.zeroValue98
 t131 := Try.underlying93
 a131 := Try.isAgg93
 z131 := Try.sizeOf93
 v131 := Try.zeroValue93
 t182 := Try.underlying88
 a182 := Try.isAgg88
 z182 := Try.sizeOf88
 v182 := Try.zeroValue88
 t183 := Try.underlying89
 a183 := Try.isAgg89
 z183 := Try.sizeOf89
 v183 := Try.zeroValue89
 t218 := Try.underlying103
 a218 := Try.isAgg103
 z218 := Try.sizeOf103
 v218 := Try.zeroValue103
 t222 := Try.underlying107
 a222 := Try.isAgg107
 z222 := Try.sizeOf107
 v222 := Try.zeroValue107
 t228 := Try.underlying109
 a228 := Try.isAgg109
 z228 := Try.sizeOf109
 v228 := Try.zeroValue109
 t229 := Try.underlying110
 a229 := Try.isAgg110
 z229 := Try.sizeOf110
 v229 := Try.zeroValue110 }
open Go.Sort Go.RowKit in
theorem Try.slices_Sort_int (blk off cap : Nat) (zs : List Int) (w : World) (hH : Holds (Value.int .i64) w blk off zs.toArray) (hblk : blk < w.heap.size) (hsz : zs.length < 4611686018427387904) :
  Calls Try.prog 57 #[.slice (some ⟨blk, off, none⟩) zs.length cap] w fun e w' =>
   e = .returned (.tuple #[]) ∧ ∃ n os, w' = grow (putRow (Value.int .i64) (Sort.ahead w n) blk off (zs.mergeSort fun x y => decide (x ≤ y)).toArray) os := Any.slices_Sort_int Try.lays189 blk off cap zs w hH hblk hsz
def Try.lays212_ren : Go.Shelf.Ren := ⟨fun | 212 => 72 | 263 => 84 | 264 => 85 | n => n, fun | 46 => 83 | 51 => 96 | 146 => 99 | 53 => 98 | 148 => 101 | n => n, fun | n => n⟩
theorem Try.lays212 : Go.Proofs.Lays.n212 Try.prog Try.lays212_ren := {
 mixed := by kernel_rfl
 f212 := Try.func72.trans (congrArg some (by kernel_rfl))
 f263 := Try.func84.trans (congrArg some (by kernel_rfl))
 f264 := Try.func85.trans (congrArg some (by kernel_rfl))
 t46 := Try.underlying83
 a46 := Try.isAgg83
 z46 := Try.sizeOf83
 v46 := Try.zeroValue83
 t51 := Try.underlying96
 a51 := Try.isAgg96
 z51 := Try.sizeOf96
 v51 := Try.zeroValue96
 t53 := Try.underlying98
 a53 := Try.isAgg98
 z53 := Try.sizeOf98
 v53 := Try.zeroValue98
 t146 := Try.underlying99
 a146 := Try.isAgg99
 z146 := Try.sizeOf99
 v146 := Try.zeroValue99
 t148 := Try.underlying101
 a148 := Try.isAgg101
 z148 := Try.sizeOf101
 v148 := Try.zeroValue101 }
open Go.RowKit Go.Lib in
theorem Try.bits_Mul (x y : Nat) (hx : x < 18446744073709551616) (hy : y < 18446744073709551616) (w : World) :
  Calls Try.prog 72 #[.int .u64 x, .int .u64 y] w fun e w' => e = .returned (.tuple #[.int .u64 ((x * y / 18446744073709551616 : Nat) : Int), .int .u64 ((x * y % 18446744073709551616 : Nat) : Int)]) ∧ w' = w := Any.bits_Mul Try.lays212 x y hx hy w
def Try.laysNm220_ren : Go.Shelf.Ren := ⟨fun | 20 => 63 | n => n, fun | 22 => 26 | 3 => 3 | 4 => 4 | 0 => 0 | n => n, fun | n => n⟩
theorem Try.laysNm220 : Go.Proofs.Lays2.n20 Try.prog Try.laysNm220_ren := {
 mixed := by kernel_rfl
 f20 := Try.func63.trans (congrArg some (by kernel_rfl))
 t0 := Try.underlying0
 a0 := Try.isAgg0
 z0 := Try.sizeOf0
 v0 := Try.zeroValue0
 t3 := Try.underlying3
 a3 := Try.isAgg3
 z3 := Try.sizeOf3
 v3 := Try.zeroValue3
 t4 := Try.underlying4
 a4 := Try.isAgg4
 z4 := Try.sizeOf4
 v4 := Try.zeroValue4
 t22 := Try.underlying26
 a22 := Try.isAgg26
 z22 := Try.sizeOf26
 v22 := Try.zeroValue26
 i3 := by kernel_rfl }
open Go.RowKit Go.Lib Go.Sort in
theorem Try.slices_Compact_int (blk off cap : Nat) (zs : List Int) (w : World) (hH : Holds (Value.int .i64) w blk off zs.toArray) (hsz : zs.length ≤ 9223372036854775807) (hcap : zs.length ≤ cap) :
  Calls Try.prog 63 #[.slice (some ⟨blk, off, none⟩) zs.length cap] w fun e w' => e = .returned (.slice (some ⟨blk, off, none⟩) (Lib.compact zs).length cap) ∧ ∃ q, w' = putRow (Value.int .i64) (Sort.ahead w q) blk off (Lib.compact zs ++ List.replicate (zs.length - (Lib.compact zs).length) 0).toArray := Any.slices_Compact_int Try.laysNm220 blk off cap zs w hH hsz hcap
end Go.Proofs
namespace Go.Proofs.Yteifhcohmipdcaa
open Go.Abs
set_option linter.unusedSimpArgs false
set_option linter.unusedVariables false
def sortI (l : List Int) : List Int := l.mergeSort fun x y => decide (x ≤ y)
theorem sortI_len (l : List Int) : (sortI l).length = l.length := by simp [sortI]
theorem sort_row {l : List Int} (hl : l.length ≤ 1000000) {H : AHeap} {id e g n : Nat} {rest : List AV} (hb : H.get id = some (.row e 1 g (l.map (AV.int IntKind.i64) ++ rest))) (hn : n = l.length) {K : AV → AHeap → Prop}
  (hK : K (.tup []) (H.put id (.row e 1 g ((sortI l).map (AV.int IntKind.i64) ++ rest)))) : ACalls Try.prog 57 [.sl id g 0 n] H K :=
 ACalls.of_putRow (enc := Value.int .i64) (encA := (AV.int IntKind.i64)) (callable_of Try.func57 rfl rfl) (fun G w x c => vrel_int) (fun x => ⟨rfl, rfl⟩) (sortI_len l) (fun _ _ _ => .tuple #[]) (.tup []) (fun _ _ _ _ _ _ _ _ _ => .tup rfl (fun j v c hj => by simp at hj))
  (fun blk off cap w hH hblk _ => Try.slices_Sort_int blk off cap l w hH hblk (by omega)) hb hn hK
theorem compact_len (l : List Int) : (Lib.compact l).length ≤ l.length := Lib.compact_length_le l
theorem compact_row {l : List Int} (hl : l.length ≤ 1000000) {H : AHeap} {id e g n : Nat} {rest : List AV} (hb : H.get id = some (.row e 1 g (l.map (AV.int IntKind.i64) ++ rest))) (hn : n = l.length) {K : AV → AHeap → Prop}
  (hK : K (.sl id g 0 (Lib.compact l).length) (H.put id (.row e 1 g ((Lib.compact l ++ List.replicate (l.length - (Lib.compact l).length) 0).map (AV.int IntKind.i64) ++ rest)))) : ACalls Try.prog 63 [.sl id g 0 n] H K :=
 ACalls.of_putRow (enc := Value.int .i64) (encA := (AV.int IntKind.i64)) (callable_of Try.func63 rfl rfl) (fun G w x c => vrel_int) (fun x => ⟨rfl, rfl⟩)
  (ys := Lib.compact l ++ List.replicate (l.length - (Lib.compact l).length) 0) (by have := compact_len l; simp; omega) (fun b o c => .slice (some ⟨b, o, none⟩) (Lib.compact l).length c) (.sl id g 0 (Lib.compact l).length)
  (fun G w o c h1 h2 h3 h4 h5 => .sl h1 h2 (by have := compact_len l; omega) (Nat.le_trans (compact_len l) h4) (h5.imp (fun h => by omega) (fun h => h)))
  (fun blk off cap w hH hblk hcap => (Try.slices_Compact_int blk off cap l w hH (by omega) hcap).mono fun e w' ⟨h1, q, h2⟩ => ⟨h1, q, #[], by rw [Sort.grow_empty]; exact h2⟩) hb hn hK
theorem mul_ok {x y : Nat} (hx : x < 18446744073709551616) (hy : y < 18446744073709551616) : Fun1 Try.prog 72 [.int .u64 x, .int .u64 y] (.tup [.int .u64 ((x * y / 18446744073709551616 : Nat) : Int), .int .u64 ((x * y % 18446744073709551616 : Nat) : Int)]) :=
 Fun1.of_calls (cargs := #[.int .u64 x, .int .u64 y]) (callable_of Try.func72 rfl rfl) rfl (fun j v u hj hu G w u' h => by
  match j, hj, hu with
  | 0, hj, hu => simp at hj hu; subst hj; subst hu; exact vrel_int.1 h
  | 1, hj, hu => simp at hj hu; subst hj; subst hu; exact vrel_int.1 h)
  (fun G w => .tup rfl fun j v c hj hc => by
   match j, hj, hc with
   | 0, hj, hc => simp at hj hc; subst hj; subst hc; exact .int _ _
   | 1, hj, hc => simp at hj hc; subst hj; subst hc; exact .int _ _) (fun w => Try.bits_Mul x y hx hy w)
theorem len64_ok : Fun1 Try.prog 69 [.int .u64 0] (.int .i64 0) :=
 Fun1.of_calls (cargs := #[.int .u64 0]) (callable_of Try.func69 rfl rfl) rfl (fun j v u hj hu G w u' h => by
  match j, hj, hu with
  | 0, hj, hu => simp at hj hu; subst hj; subst hu; exact vrel_int.1 h)
  (fun G w => .int _ _) (fun w => Try.bits_Len 0 w (by omega) (by omega))
theorem strict_eq : ∀ {l m : List Int}, l.Pairwise (· < ·) → m.Pairwise (· < ·) → (∀ x, x ∈ l ↔ x ∈ m) → l = m
 | [], [], _, _, _ => rfl
 | [], b :: m, _, _, h => by have := (h b).2 (by simp); simp at this
 | a :: l, [], _, _, h => by have := (h a).1 (by simp); simp at this
 | a :: l, b :: m, hl, hm, h => by
  have hl' := List.pairwise_cons.1 hl
  have hm' := List.pairwise_cons.1 hm
  have hab : a = b := by
   have h1 : a ∈ b :: m := (h a).1 (by simp)
   have h2 : b ∈ a :: l := (h b).2 (by simp)
   simp only [List.mem_cons] at h1 h2
   rcases h1 with h1 | h1
   ·exact h1
   ·rcases h2 with h2 | h2
    ·exact h2.symm
    ·have := hl'.1 b h2; have := hm'.1 a h1; omega
  subst hab
  rw [strict_eq hl'.2 hm'.2 fun x => ?_]
  have hx := h x
  simp only [List.mem_cons] at hx
  constructor
  ·intro q
   rcases hx.1 (.inr q) with e | e
   ·have := hl'.1 x q; omega
   ·exact e
  ·intro q
   rcases hx.2 (.inr q) with e | e
   ·have := hm'.1 x q; omega
   ·exact e
theorem compact_mem {l : List Int} {x : Int} : x ∈ Lib.compact l ↔ x ∈ l := by
 simp only [Lib.compact, Lib.compactUpTo, List.mem_map, List.mem_filter, List.mem_range]
 constructor
 ·rintro ⟨j, ⟨hj, _⟩, rfl⟩
  simp [hj]
 ·intro hx
  obtain ⟨j, hj⟩ := List.mem_iff_getElem?.1 hx
  induction j using Nat.strongRecOn with
  | _ j ih =>
   have hjl := (List.getElem?_eq_some_iff.1 hj).1
   have hv := (List.getElem?_eq_some_iff.1 hj).2
   by_cases hk : Lib.keeps l.toArray j = true
   ·exact ⟨j, ⟨hjl, hk⟩, by simp [hjl, hv]⟩
   ·simp only [Lib.keeps, decide_eq_true_eq, not_or, ne_eq, Decidable.not_not] at hk
    refine ih (j - 1) (by omega) ?_
    have h1 : j - 1 < l.length := by omega
    have := hk.2
    simp [hjl, h1, hv] at this
    rw [List.getElem?_eq_getElem h1, this]
theorem compact_strict {l : List Int} (hs : l.Pairwise (· ≤ ·)) : (Lib.compact l).Pairwise (· < ·) := by
 simp only [Lib.compact, Lib.compactUpTo]
 rw [List.pairwise_map, List.pairwise_filter]
 refine List.Pairwise.imp_of_mem ?_ (List.pairwise_lt_range)
 intro i j hi hj hij h1 h2
 have hjl : j < l.length := List.mem_range.1 hj
 have hil : i < l.length := List.mem_range.1 hi
 simp only [Lib.keeps, decide_eq_true_eq] at h2
 rcases h2 with h2 | h2
 ·omega
 ·have h3 : j - 1 < l.length := by omega
  simp only [List.getElem!_toArray] at h2 ⊢
  simp [hjl, h3, hil] at h2 ⊢
  have hle : ∀ a b : Nat, (ha : a < l.length) → (hb : b < l.length) → a ≤ b → l[a] ≤ l[b] := fun a b ha hb hab => by
   rcases Nat.lt_or_eq_of_le hab with h | h
   ·exact List.pairwise_iff_getElem.1 hs a b ha hb h
   ·subst h; exact Int.le_refl _
  have q1 := hle i (j - 1) hil h3 (by omega)
  have q2 := hle (j - 1) j h3 hjl (by omega)
  omega
theorem sortI_sorted (l : List Int) : (sortI l).Pairwise (· ≤ ·) := by
 have := List.pairwise_mergeSort (le := fun x y : Int => decide (x ≤ y)) (fun a b c h1 h2 => by simp at *; omega) (fun a b => by simp; omega) l
 exact this.imp (fun h => by simpa using h)
theorem sortI_mem {l : List Int} {x : Int} : x ∈ sortI l ↔ x ∈ l := List.mem_mergeSort
def targets (es : List (Int × Int)) (i : Nat) : List Int := (es.filter fun e => decide (e.1 = (i : Int))).map Prod.snd
def Gr.succ (g : Gr) (i : Nat) : List Int := ((List.range g.nodes.length).filter fun k => g.hasEdge i (k : Nat)).map fun k : Nat => (k : Int)
def Gr.succs (g : Gr) : List (List Int) := (List.range g.nodes.length).map g.succ
theorem succ_mem {g : Gr} (hv : g.valid = true) {i : Nat} {x : Int} : x ∈ g.succ i ↔ ((i : Int), x) ∈ g.edges := by
 simp only [Gr.succ, List.mem_map, List.mem_filter, List.mem_range, hasEdge_iff]
 constructor
 ·rintro ⟨k, ⟨_, h⟩, rfl⟩; exact h
 ·intro h
  have hx := (valid_edge hv h).2
  have e : (x.toNat : Int) = x := Int.toNat_of_nonneg hx.1
  exact ⟨x.toNat, ⟨in_toNat hx, by rw [e]; exact h⟩, e⟩
theorem succ_strict (g : Gr) (i : Nat) : (g.succ i).Pairwise (· < ·) := by
 simp only [Gr.succ]
 rw [List.pairwise_map]
 refine List.Pairwise.imp ?_ (List.Pairwise.filter _ List.pairwise_lt_range)
 intro a b h; omega
theorem targets_mem {es : List (Int × Int)} {i : Nat} {x : Int} : x ∈ targets es i ↔ ((i : Int), x) ∈ es := by
 simp only [targets, List.mem_map, List.mem_filter, decide_eq_true_eq]
 constructor
 ·rintro ⟨⟨a, b⟩, ⟨h, rfl⟩, rfl⟩; exact h
 ·intro h; exact ⟨_, ⟨h, rfl⟩, rfl⟩
theorem succ_eq {g : Gr} (hv : g.valid = true) (i : Nat) : Lib.compact (sortI (targets g.edges i)) = g.succ i :=
 strict_eq (compact_strict (sortI_sorted _)) (succ_strict g i) fun x => by rw [compact_mem, sortI_mem, targets_mem, succ_mem hv]
theorem succ_len (g : Gr) (i : Nat) : (g.succ i).length ≤ g.nodes.length := by
 simp only [Gr.succ, List.length_map]
 exact Nat.le_trans (List.length_filter_le _ _) (by simp)
def OwnR (e sz lo : Nat) (es : List AV) (v : AV) (H : AHeap) : Prop := (v = .nils ∧ es = []) ∨ ∃ id g rest, v = .sl id g 0 es.length ∧ H.get id = some (.row e sz g (es ++ rest)) ∧ lo ≤ id
theorem OwnR.mk {e sz lo id g n : Nat} {es rest es' : List AV} {H : AHeap} (hb : H.get id = some (.row e sz g es')) (he : es' = es ++ rest) (hn : n = es.length) (hlo : lo ≤ id) : OwnR e sz lo es (.sl id g 0 n) H := by
 subst he; subst hn; exact .inr ⟨id, g, rest, rfl, hb, hlo⟩
theorem OwnR.frz {e sz lo : Nat} {es : List AV} {v : AV} {H : AHeap} (h : OwnR e sz lo es v H) (hv : ∀ x ∈ es, Pu x) (h1 : ∀ x ∈ es, ∀ v ∈ x.cells, v.one = true) : Frz H v (.ro es) := by
 rcases h with ⟨rfl, rfl⟩ | ⟨id, g, rest, rfl, hb, _⟩
 ·exact .nils
 ·refine .sl hb (by simp) rfl (fun j x y hx hy q u v hu hv' => ?_) (fun y hy => ⟨y, List.mem_append.2 (.inl hy), rfl⟩) h1
  rw [Nat.zero_add, List.getElem?_append_left (List.getElem?_eq_some_iff.1 hy).1] at hx
  rw [hx] at hy; cases hy
  rw [hu] at hv'; cases hv'
  exact .pure ((hv x (List.mem_of_getElem? hx)).cells (List.mem_of_getElem? hu))
theorem OwnR.keep {e sz lo : Nat} {es : List AV} {v : AV} {H H' : AHeap} (h : OwnR e sz lo es v H) (hk : ∀ id g n, v = .sl id g 0 n → H'.get id = H.get id) : OwnR e sz lo es v H' := by
 rcases h with h | ⟨id, g, rest, h1, h2, h3⟩
 ·exact .inl h
 ·exact .inr ⟨id, g, rest, h1, by rw [hk id g _ h1]; exact h2, h3⟩
structure Rows (lo : Nat) (vs : List AV) (ls : List (List Int)) (H : AHeap) : Prop where
 len : vs.length = ls.length
 own : ∀ (i : Nat) (v : AV) (l : List Int), vs[i]? = some v → ls[i]? = some l → OwnR 3 1 lo (l.map (AV.int IntKind.i64)) v H
 ne : ∀ (i j id g n g' n' : Nat), vs[i]? = some (.sl id g 0 n) → vs[j]? = some (.sl id g' 0 n') → i = j
theorem Rows.at {lo : Nat} {vs : List AV} {ls : List (List Int)} {H : AHeap} (h : Rows lo vs ls H) {i : Nat} {v : AV} (hv : vs[i]? = some v) : ∃ l, ls[i]? = some l ∧ OwnR 3 1 lo (l.map (AV.int IntKind.i64)) v H := by
 have hi := (List.getElem?_eq_some_iff.1 hv).1
 have hl : ls[i]? = some (ls[i]'(h.len ▸ hi)) := List.getElem?_eq_getElem _
 exact ⟨_, hl, h.own i v _ hv hl⟩
theorem Rows.used {lo : Nat} {vs : List AV} {ls : List (List Int)} {H : AHeap} (h : Rows lo vs ls H) {i id g n : Nat} (hv : vs[i]? = some (.sl id g 0 n)) : H.get id ≠ none ∧ lo ≤ id := by
 obtain ⟨l, _, ho⟩ := h.at hv
 rcases ho with ⟨h1, _⟩ | ⟨id', g', rest, h1, h2, h3⟩
 ·cases h1
 ·cases h1; exact ⟨by rw [h2]; simp, h3⟩
theorem Rows.set {lo : Nat} {vs : List AV} {ls : List (List Int)} {H H' : AHeap} (h : Rows lo vs ls H) {k : Nat} {v : AV} {l : List Int} (hv : OwnR 3 1 lo (l.map (AV.int IntKind.i64)) v H')
  (ho : ∀ (j id g n : Nat), j ≠ k → vs[j]? = some (.sl id g 0 n) → H'.get id = H.get id ∧ ∀ g' n', v ≠ .sl id g' 0 n') : Rows lo (vs.set k v) (ls.set k l) H' := by
 refine ⟨by simpa using h.len, fun i u m hu hm => ?_, fun i j id g n g' n' hi hj => ?_⟩
 ·rw [List.getElem?_set] at hu hm
  by_cases hik : k = i
  ·subst hik
   simp only [if_true] at hu hm
   split at hu
   ·split at hm
    ·cases hu; cases hm; exact hv
    ·cases hm
   ·cases hu
  ·rw [if_neg hik] at hu hm
   exact (h.own i u m hu hm).keep fun id g n e => (ho i id g n (Ne.symm hik) (e ▸ hu)).1
 ·rw [List.getElem?_set] at hi hj
  by_cases hik : k = i
  ·subst hik
   simp only [if_true] at hi
   split at hi
   ·by_cases hjk : k = j
    ·exact hjk
    ·rw [if_neg hjk] at hj
     cases hi
     exact absurd rfl ((ho j id g' n' (Ne.symm hjk) hj).2 g n)
   ·cases hi
  ·rw [if_neg hik] at hi
   by_cases hjk : k = j
   ·subst hjk
    simp only [if_true] at hj
    split at hj
    ·cases hj
     exact absurd rfl ((ho i id g n (Ne.symm hik) hi).2 g' n')
    ·cases hj
   ·rw [if_neg hjk] at hj
    exact h.ne i j id g n g' n' hi hj
theorem Rows.keep {lo : Nat} {vs : List AV} {ls : List (List Int)} {H H' : AHeap} (h : Rows lo vs ls H) (hk : ∀ id, lo ≤ id → H.get id ≠ none → H'.get id = H.get id) : Rows lo vs ls H' :=
 ⟨h.len, fun i v l hv hl => (h.own i v l hv hl).keep fun id g n e => (by have := h.used (e ▸ hv); exact hk id this.2 this.1), h.ne⟩
theorem rows_nil (lo n : Nat) (H : AHeap) : Rows lo (List.replicate n .nils) (List.replicate n []) H :=
 ⟨by simp, fun i v l hv hl => (by
  rw [List.getElem?_replicate] at hv hl
  split at hv
  ·rename_i h; rw [if_pos h] at hl; cases hv; cases hl; exact .inl ⟨rfl, rfl⟩
  ·cases hv), fun i j id g n g' n' hi hj => (by
  rw [List.getElem?_replicate] at hi
  split at hi
  ·cases hi
  ·cases hi)⟩
def encS (ss : List (List Int)) : AV := .ro (ss.map fun l => .ro (l.map (AV.int IntKind.i64)))
theorem pu_encS (ss : List (List Int)) : Pu (encS ss) := .ro fun v hv => by obtain ⟨l, _, rfl⟩ := List.mem_map.1 hv; exact pu_ints _
theorem Rows.frz {lo id e g n : Nat} {vs : List AV} {ls : List (List Int)} {H : AHeap} (h : Rows lo vs ls H) (hb : H.get id = some (.row e 1 g vs)) (hn : n = vs.length) : Frz H (.sl id g 0 n) (encS ls) := by
 subst hn
 refine .sl hb (by simp) (by simp [h.len]) (fun j x y hx hy q u v hu hv => ?_) (fun y hy => ?_) (fun y hy v hv => ?_)
 ·rw [Nat.zero_add] at hx
  rw [List.getElem?_map, Option.map_eq_some_iff] at hy
  obtain ⟨l, hl, rfl⟩ := hy
  have ho := h.own j x l hx hl
  have hxc : x.cells = [x] := by rcases ho with ⟨rfl, _⟩ | ⟨_, _, _, rfl, _⟩ <;> rfl
  rw [hxc] at hu
  simp only [AV.cells] at hv
  cases q with
  | zero => simp at hu hv; subst hu; subst hv; exact ho.frz (fun _ => pu_of_ints) (fun _ => one_ints)
  | succ q => simp at hu
 ·obtain ⟨l, hl, rfl⟩ := List.mem_map.1 hy
  obtain ⟨i, hi⟩ := List.mem_iff_getElem?.1 hl
  have hil : i < vs.length := by rw [h.len]; exact (List.getElem?_eq_some_iff.1 hi).1
  have ho := h.own i vs[i] l (List.getElem?_eq_getElem hil) hi
  refine ⟨vs[i], List.getElem_mem hil, ?_⟩
  rcases ho with ⟨e1, _⟩ | ⟨_, _, _, e1, _⟩ <;> rw [e1] <;> rfl
 ·obtain ⟨l, hl, rfl⟩ := List.mem_map.1 hy
  simp only [AV.cells, List.mem_singleton] at hv; subst hv; rfl
def tgs (g : Gr) (i : Nat) : List (List Int) := (List.range g.nodes.length).map (targets (g.edges.take i))
theorem tgs_get {g : Gr} {i k : Nat} (hk : k < g.nodes.length) : (tgs g i)[k]? = some (targets (g.edges.take i) k) := by simp [tgs, hk]
theorem tgs_zero (g : Gr) : tgs g 0 = List.replicate g.nodes.length [] := by
 refine List.ext_getElem? fun k => ?_
 rw [List.getElem?_replicate]
 by_cases hk : k < g.nodes.length
 ·rw [tgs_get hk, if_pos hk]; simp [targets]
 ·rw [if_neg hk, List.getElem?_eq_none (by simp [tgs]; omega)]
theorem targets_snoc {es : List (Int × Int)} {i : Nat} (h : i < es.length) (k : Nat) : targets (es.take (i + 1)) k = targets (es.take i) k ++ if es[i].1 = (k : Int) then [es[i].2] else [] := by
 rw [List.take_succ_eq_append_getElem h]
 simp only [targets, List.filter_append, List.map_append]
 by_cases hk : es[i].1 = (k : Int) <;> simp [hk]
theorem tgs_succ {g : Gr} {i : Nat} (h : i < g.edges.length) (hr : inR g.nodes.length g.edges[i].1) : tgs g (i + 1) = (tgs g i).set g.edges[i].1.toNat (targets (g.edges.take i) g.edges[i].1.toNat ++ [g.edges[i].2]) := by
 have hk := in_toNat hr
 have e : (g.edges[i].1.toNat : Int) = g.edges[i].1 := Int.toNat_of_nonneg hr.1
 refine List.ext_getElem? fun k => ?_
 rw [List.getElem?_set]
 by_cases hkl : k < g.nodes.length
 ·rw [tgs_get hkl, targets_snoc h]
  by_cases hke : g.edges[i].1.toNat = k
  ·subst hke
   rw [if_pos rfl, if_pos e.symm, if_pos (by simp [tgs]; exact hkl)]
  ·rw [if_neg hke, tgs_get hkl, if_neg (by omega)]; simp
 ·rw [List.getElem?_eq_none (by simp [tgs]; omega)]
  split
  ·omega
  ·rw [List.getElem?_eq_none (by simp [tgs]; omega)]
def scs (g : Gr) (i : Nat) : List (List Int) := (List.range g.nodes.length).map fun j => if j < i then g.succ j else targets g.edges j
theorem scs_get {g : Gr} {i k : Nat} (hk : k < g.nodes.length) : (scs g i)[k]? = some (if k < i then g.succ k else targets g.edges k) := by simp [scs, hk]
theorem scs_zero (g : Gr) : scs g 0 = tgs g g.edges.length := by simp [scs, tgs]
theorem scs_succ {g : Gr} {i : Nat} : scs g (i + 1) = (scs g i).set i (g.succ i) := by
 refine List.ext_getElem? fun k => ?_
 rw [List.getElem?_set]
 by_cases hkl : k < g.nodes.length
 ·rw [scs_get hkl]
  by_cases hke : i = k
  ·subst hke; simp [scs, hkl]
  ·rw [if_neg hke, scs_get hkl]
   by_cases h : k < i
   ·rw [if_pos h, if_pos (by omega)]
   ·rw [if_neg h, if_neg (by omega)]
 ·have hlen : ∀ i, (scs g i).length = g.nodes.length := fun i => by simp [scs]
  rw [List.getElem?_eq_none (by rw [hlen]; omega)]
  split
  ·rw [if_neg (by rw [hlen]; omega)]
  ·rw [List.getElem?_eq_none (by rw [hlen]; omega)]
theorem scs_end {g : Gr} : scs g g.nodes.length = g.succs := by
 refine List.ext_getElem? fun k => ?_
 by_cases hkl : k < g.nodes.length
 ·rw [scs_get hkl, if_pos hkl]; simp [Gr.succs, hkl]
 ·rw [List.getElem?_eq_none (by simp [scs]; omega), List.getElem?_eq_none (by simp [Gr.succs]; omega)]
theorem targets_len (es : List (Int × Int)) (i : Nat) : (targets es i).length ≤ es.length := by
 simp only [targets, List.length_map]; exact List.length_filter_le _ _
set_option maxHeartbeats 1000000 in
theorem insNil0  : ACalls Try.prog 74 [.nils, (AV.int IntKind.i64) 0, (AV.int IntKind.i64) 0] AHeap.nil (fun r _ => r = .tup []) := by
 refine acalls_body TT_ok Try.func74 rfl rfl (by simp [Try.ntmps74]) ?_;rw [Try.ntmps74];obtain ⟨σ, hσ⟩ : ∃ σ, σ = st0 [.nils, (AV.int IntKind.i64) 0, (AV.int IntKind.i64) 0] := ⟨_, rfl⟩;rw [← hσ];obtain ⟨h0_0, h1_0, h2_0⟩ := fs3 hσ 0 1 2;simp [st0] at h0_0 h1_0 h2_0;clear hσ;obtain ⟨H, hH⟩ : ∃ H, H = AHeap.nil := ⟨_, rfl⟩;rw [← hH];have hn_0 : H.n = 0 := by rw [hH]; rfl
 have hst_0 : H.st = 1 := by rw [hH]; rfl
 clear hH;refine stp_reg TT_ok (by rfl) fun K hK => ?_;simp [h1_0, wrap_ok (n := 1) (by omega) (by omega)];(try refine And.intro (by first|omega|rfl) ?_);refine hK _ _ fun σ1 hσ H1 hH => ?_;clear hK K;obtain ⟨h0_1, h1_1, h2_1, h6_1⟩ := fs4 hσ 0 1 2 6;simp [h0_0, h1_0, h2_0] at h0_1 h1_1 h2_1 h6_1;clear hσ;replace hH : H = H1 := Eq.symm hH;subst hH;refine awp_block ?_;refine awp_loopV (fun n σ' H' => n = 0 ∧ σ' 0 = σ1 0 ∧ σ' 1 = σ1 1 ∧ σ' 2 = σ1 2 ∧ σ' 6 = (AV.int IntKind.i64) 1 ∧ H' = H) ?_ ?_
 ·refine ⟨_, rfl, rfl, rfl, rfl, (by simp [h6_1]), rfl⟩
 ·rintro n1 σ2 H2 ⟨hn1, q0_2, q1_2, q2_2, h6_2, hHq⟩
  have h0_2 := q0_2.trans h0_1;have h1_2 := q1_2.trans h1_1;have h2_2 := q2_2.trans h2_1;replace hHq := hHq.symm;subst hHq;refine awp_seq ?_;refine stp_reg TT_ok (by rfl) fun K hK => ?_;simp [h2_2, h6_2];(try refine And.intro (by first|omega|rfl) ?_);refine hK _ _ fun σ3 hσ H3 hH => ?_;clear hK K;obtain ⟨h0_3, h1_3, h2_3, h6_3, h12_3⟩ := fs5 hσ 0 1 2 6 12;simp [h0_2, h1_2, h2_2, h6_2] at h0_3 h1_3 h2_3 h6_3 h12_3;clear hσ;replace hH : H = H3 := Eq.symm hH;subst hH;refine stp_false (by simp [aeval_tmp, h12_3]) ?_;refine awp_exit ?_;refine q_seq_exit ?_;refine q_loop_exit ?_;refine q_block_hit ?_;refine q_fin0 ?_
  first | rfl | (simp; done)
theorem insNil_ok : Fun1 Try.prog 74 [.nils, (AV.int IntKind.i64) 0, (AV.int IntKind.i64) 0] (.tup []) := fun1_pure insNil0 (pu_cons .nils (pu_cons (pu_int _ _) (pu_cons (pu_int _ _) pu_nil))) (.tup pu_nil)
set_option maxHeartbeats 1000000 in
theorem pdqNil0  : ACalls Try.prog 68 [.nils, (AV.int IntKind.i64) 0, (AV.int IntKind.i64) 0, (AV.int IntKind.i64) 0] AHeap.nil (fun r _ => r = .tup []) := by
 refine acalls_body TT_ok Try.func68 rfl rfl (by simp [Try.ntmps68]) ?_;rw [Try.ntmps68];obtain ⟨σ, hσ⟩ : ∃ σ, σ = st0 [.nils, (AV.int IntKind.i64) 0, (AV.int IntKind.i64) 0, (AV.int IntKind.i64) 0] := ⟨_, rfl⟩;rw [← hσ];obtain ⟨h0_0, h1_0, h2_0, h3_0⟩ := fs4 hσ 0 1 2 3;simp [st0] at h0_0 h1_0 h2_0 h3_0;clear hσ;obtain ⟨H, hH⟩ : ∃ H, H = AHeap.nil := ⟨_, rfl⟩;rw [← hH];have hn_0 : H.n = 0 := by rw [hH]; rfl
 have hst_0 : H.st = 1 := by rw [hH]; rfl
 clear hH;refine stp_reg TT_ok (by rfl) fun K hK => ?_;simp [];(try refine And.intro (by first|omega|rfl) ?_);refine hK _ _ fun σ1 hσ H1 hH => ?_;clear hK K;obtain ⟨h0_1, h1_1, h2_1, h3_1, h8_1⟩ := fs5 hσ 0 1 2 3 8;simp [h0_0, h1_0, h2_0, h3_0] at h0_1 h1_1 h2_1 h3_1 h8_1;clear hσ;replace hH : H = H1 := Eq.symm hH;subst hH;refine stp_reg TT_ok (by rfl) fun K hK => ?_;simp [];(try refine And.intro (by first|omega|rfl) ?_);refine hK _ _ fun σ2 hσ H2 hH => ?_;clear hK K;obtain ⟨h0_2, h1_2, h2_2, h3_2, h8_2, h9_2⟩ := fs6 hσ 0 1 2 3 8 9;simp [h0_1, h1_1, h2_1, h3_1, h8_1] at h0_2 h1_2 h2_2 h3_2 h8_2 h9_2;clear hσ;replace hH : H = H2 := Eq.symm hH;subst hH;refine awp_block ?_;refine awp_loopV (fun n σ' H' => n = 0 ∧ σ' 0 = σ2 0 ∧ σ' 1 = (AV.int IntKind.i64) 0 ∧ σ' 2 = (AV.int IntKind.i64) 0 ∧ σ' 3 = (AV.int IntKind.i64) 0 ∧ σ' 8 = .bool true ∧ σ' 9 = .bool true ∧ H' = H) ?_ ?_
 ·refine ⟨_, rfl, rfl, (by simp [h1_2]), (by simp [h2_2]), (by simp [h3_2]), (by simp [h8_2]), (by simp [h9_2]), rfl⟩
 ·rintro n1 σ3 H3 ⟨hn1, q0_3, h1_3, h2_3, h3_3, h8_3, h9_3, hHq⟩
  have h0_3 := q0_3.trans h0_2;replace hHq := hHq.symm;subst hHq;refine awp_block ?_;refine stp_reg TT_ok (by rfl) fun K hK => ?_;simp [h1_3, h2_3, wrap_ok (n := 0) (by omega) (by omega)];(try refine And.intro (by first|omega|rfl) ?_);refine hK _ _ fun σ4 hσ H4 hH => ?_;clear hK K;obtain ⟨h0_4, h1_4, h2_4, h3_4, h8_4, h9_4, h10_4⟩ := fs7 hσ 0 1 2 3 8 9 10;simp [h0_3, h1_3, h2_3, h3_3, h8_3, h9_3] at h0_4 h1_4 h2_4 h3_4 h8_4 h9_4 h10_4;clear hσ;replace hH : H = H4 := Eq.symm hH;subst hH;refine awp_seq ?_;refine stp_reg TT_ok (by rfl) fun K hK => ?_;simp [h10_4];(try refine And.intro (by first|omega|rfl) ?_);refine hK _ _ fun σ5 hσ H5 hH => ?_;clear hK K;obtain ⟨h0_5, h1_5, h2_5, h3_5, h8_5, h9_5, h10_5, h23_5⟩ := fs8 hσ 0 1 2 3 8 9 10 23;simp [h0_4, h1_4, h2_4, h3_4, h8_4, h9_4, h10_4] at h0_5 h1_5 h2_5 h3_5 h8_5 h9_5 h10_5 h23_5;clear hσ;replace hH : H = H5 := Eq.symm hH;subst hH;refine stp_true (by simp [aeval_tmp, h23_5]) ?_;have hFF0 := an3 h0_5 h1_5 h2_5;refine stp_reg TT_ok (by rfl) fun K hK => ?_;simp [hFF0];(try refine And.intro (by first|omega|rfl) ?_);refine stp_call (insNil_ok) ?_;simp [hFF0];(try refine And.intro (by first|omega|rfl) ?_);refine hK _ _ fun σ6 hσ H6 hH => ?_;clear hK K hFF0;clear hσ;replace hH : H = H6 := Eq.symm hH;subst hH;refine awp_ret ?_;refine q_seq_ret ?_;refine q_block_ret ?_;refine q_loop_ret ?_;refine q_block_ret ?_;refine q_fin0r ?_
  first | rfl | (simp; done)
theorem pdqNil_ok : Fun1 Try.prog 68 [.nils, (AV.int IntKind.i64) 0, (AV.int IntKind.i64) 0, (AV.int IntKind.i64) 0] (.tup []) := fun1_pure pdqNil0 (pu_cons .nils (pu_cons (pu_int _ _) (pu_cons (pu_int _ _) (pu_cons (pu_int _ _) pu_nil)))) (.tup pu_nil)
set_option maxHeartbeats 1000000 in
theorem sortNil0  : ACalls Try.prog 57 [.nils] AHeap.nil (fun r _ => r = .tup []) := by
 refine acalls_body TT_ok Try.func57 rfl rfl (by simp [Try.ntmps57]) ?_;rw [Try.ntmps57];obtain ⟨σ, hσ⟩ : ∃ σ, σ = st0 [.nils] := ⟨_, rfl⟩;rw [← hσ];have h0_0 := congrFun hσ 0;simp [st0] at h0_0;clear hσ;obtain ⟨H, hH⟩ : ∃ H, H = AHeap.nil := ⟨_, rfl⟩;rw [← hH];have hn_0 : H.n = 0 := by rw [hH]; rfl
 have hst_0 : H.st = 1 := by rw [hH]; rfl
 clear hH;refine stp_reg TT_ok (by rfl) fun K hK => ?_;simp [h0_0];(try refine And.intro (by first|omega|rfl) ?_);refine hK _ _ fun σ1 hσ H1 hH => ?_;clear hK K;obtain ⟨h0_1, h2_1⟩ := fs2 hσ 0 2;simp [h0_0] at h0_1 h2_1;clear hσ;replace hH : H = H1 := Eq.symm hH;subst hH;refine stp_regl TT_ok (by rfl) fun K hK => ?_;simp [h0_1, h2_1, show IntKind.u64.wrap 0 = 0 by rfl];(try refine And.intro (by first|omega|rfl) ?_);refine stp_call (len64_ok) ?_;simp [h0_1, h2_1, show IntKind.u64.wrap 0 = 0 by rfl];(try refine And.intro (by first|omega|rfl) ?_);refine stp_call (pdqNil_ok) ?_;simp [h0_1, h2_1, show IntKind.u64.wrap 0 = 0 by rfl];(try refine And.intro (by first|omega|rfl) ?_);refine hK _ _ fun σ2 hσ H2 hH => ?_;clear hK K;clear hσ;replace hH : H = H2 := Eq.symm hH;subst hH;refine q_fin0 ?_
 first | rfl | (simp; done)
theorem sortNil_ok : Fun1 Try.prog 57 [.nils] (.tup []) := fun1_pure sortNil0 (pu_cons .nils pu_nil) (.tup pu_nil)
set_option maxHeartbeats 1000000 in
theorem compactNil0  : ACalls Try.prog 63 [.nils] AHeap.nil (fun r _ => r = .nils) := by
 refine acalls_body TT_ok Try.func63 rfl rfl (by simp [Try.ntmps63]) ?_;rw [Try.ntmps63];obtain ⟨σ, hσ⟩ : ∃ σ, σ = st0 [.nils] := ⟨_, rfl⟩;rw [← hσ];have h0_0 := congrFun hσ 0;simp [st0] at h0_0;clear hσ;obtain ⟨H, hH⟩ : ∃ H, H = AHeap.nil := ⟨_, rfl⟩;rw [← hH];have hn_0 : H.n = 0 := by rw [hH]; rfl
 have hst_0 : H.st = 1 := by rw [hH]; rfl
 clear hH;refine stp_reg TT_ok (by rfl) fun K hK => ?_;simp [];(try refine And.intro (by first|omega|rfl) ?_);refine hK _ _ fun σ1 hσ H1 hH => ?_;clear hK K;have h0_1 := congrFun hσ 0;simp [h0_0] at h0_1;clear hσ;replace hH : H = H1 := Eq.symm hH;subst hH;refine awp_seq ?_;refine stp_reg TT_ok (by rfl) fun K hK => ?_;simp [h0_1];(try refine And.intro (by first|omega|rfl) ?_);refine hK _ _ fun σ2 hσ H2 hH => ?_;clear hK K;obtain ⟨h0_2, h8_2⟩ := fs2 hσ 0 8;simp [h0_1] at h0_2 h8_2;clear hσ;replace hH : H = H2 := Eq.symm hH;subst hH;refine stp_true (by simp [aeval_tmp, h8_2]) ?_;refine stp_reg TT_ok (by rfl) fun K hK => ?_;simp [h0_2];(try refine And.intro (by first|omega|rfl) ?_);refine hK _ _ fun σ3 hσ H3 hH => ?_;clear hK K;have h2_3 := congrFun hσ 2;simp [] at h2_3;clear hσ;replace hH : H = H3 := Eq.symm hH;subst hH;refine awp_ret ?_;refine q_seq_ret ?_;refine q_fin1 h2_3 ?_
 first | rfl | (simp; done)
theorem compactNil_ok : Fun1 Try.prog 63 [.nils] .nils := fun1_pure compactNil0 (pu_cons .nils pu_nil) .nils
set_option maxHeartbeats 1000000 in
theorem succs0 (g : Gr) (hv : g.valid = true) : ACalls Try.prog 40 [encG g] AHeap.nil (fun r H => Frz H r (encS g.succs)) := by
 refine acalls_body TT_ok Try.func40 rfl rfl (by simp [Try.ntmps40]) ?_;rw [Try.ntmps40];obtain ⟨σ, hσ⟩ : ∃ σ, σ = st0 [encG g] := ⟨_, rfl⟩;rw [← hσ];have h0_0 := congrFun hσ 0;simp [st0] at h0_0;clear hσ;obtain ⟨H, hH⟩ : ∃ H, H = AHeap.nil := ⟨_, rfl⟩;rw [← hH];have hn_0 : H.n = 0 := by rw [hH]; rfl
 have hst_0 : H.st = 1 := by rw [hH]; rfl
 clear hH;refine stp_reg TT_ok (by rfl) fun K hK => ?_;simp [h0_0, hn_0, hst_0, encG];(try refine And.intro (by first|omega|rfl) ?_);refine hK _ _ fun σ1 hσ H1 hH => ?_;clear hK K;have h1_1 := congrFun hσ 1;simp [] at h1_1;clear hσ;have g0_1 := gt_of hH 0;simp [hn_0, hst_0] at g0_1;have hn_1 := congrArg AHeap.n hH;simp [hn_0, hst_0] at hn_1;have hst_1 := congrArg AHeap.st hH;simp [hn_0, hst_0] at hst_1;clear hH;obtain ⟨hn1, hn2⟩ := valid_nodes hv;refine stp_reg TT_ok (by rfl) fun K hK => ?_;simp [h1_1, g0_1, hn_1, hst_1, encG, show (24 : Int) * (g.nodes.length : Int) ≤ 281474976710656 by omega];(try refine And.intro (by first|omega|rfl) ?_);refine hK _ _ fun σ2 hσ H2 hH => ?_;clear hK K;obtain ⟨h1_2, h3_2⟩ := fs2 hσ 1 3;simp [h1_1] at h1_2 h3_2;clear hσ;have g0_2 := gt_of hH 0;have g1_2 := gt_of hH 1;simp [g0_1, hn_1, hst_1] at g0_2 g1_2;have hn_2 := congrArg AHeap.n hH;simp [hn_1, hst_1] at hn_2;have hst_2 := congrArg AHeap.st hH;simp [hn_1, hst_1] at hst_2;clear hH;refine awp_seq ?_;refine stp_reg TT_ok (by rfl) fun K hK => ?_;simp [h1_2, g0_2, g1_2, encG];(try refine And.intro (by first|omega|rfl) ?_);refine hK _ _ fun σ3 hσ H3 hH => ?_;clear hK K;obtain ⟨h3_3, h12_3, h13_3, h14_3⟩ := fs4 hσ 3 12 13 14;simp [h3_2] at h3_3 h12_3 h13_3 h14_3;clear hσ;replace hH : H2 = H3 := Eq.symm hH;subst hH;refine awp_block ?_
 refine awp_loopV (fun n σ' H' => ∃ (i : Nat) (vs : List AV), n = g.edges.length - i ∧ σ' 3 = σ3 3 ∧ σ' 12 = σ3 12 ∧ σ' 13 = σ3 13 ∧ σ' 14 = (AV.int IntKind.i64) i ∧ H'.get 0 = H2.get 0 ∧ H'.get 1 = some (.row 26 1 0 vs) ∧ H'.st = H2.st ∧ (i ≤ g.edges.length) ∧ (Rows 2 vs (tgs g i) H')) ?_ ?_
 ·refine ⟨_, 0, List.replicate g.nodes.length .nils, rfl, rfl, rfl, rfl, (by simp [h14_3]), rfl, (by simp [g1_2]), rfl, ?_, ?_⟩
  ·first | omega | (simp; done) | assumption
  ·rw [tgs_zero]; exact rows_nil _ _ _
 ·rintro n1 σ4 H4 ⟨i, vs, hn1, q3_4, q12_4, q13_4, h14_4, qg0_4, g1_4, qst_4, p1, p2⟩
  have h3_4 := q3_4.trans h3_3;have h12_4 := q12_4.trans h12_3;have h13_4 := q13_4.trans h13_3;have g0_4 := qg0_4.trans g0_2;have hst_4 := qst_4.trans hst_2;have hvl : vs.length = g.nodes.length := by rw [p2.len]; simp [tgs]
  refine stp_reg TT_ok (by rfl) fun K hK => ?_;simp [h13_4, h14_4, g0_4, g1_4, encG];(try refine And.intro (by first|omega|rfl) ?_);refine hK _ _ fun σ5 hσ H5 hH => ?_;clear hK K;obtain ⟨h3_5, h12_5, h13_5, h14_5, h15_5⟩ := fs5 hσ 3 12 13 14 15;simp [h3_4, h12_4, h13_4, h14_4] at h3_5 h12_5 h13_5 h14_5 h15_5;clear hσ;replace hH : H4 = H5 := Eq.symm hH;subst hH;refine awp_seq ?_;refine awp_cond _ (by simp only [aeval_tmp]; exact h15_5) (fun hc15 => ?_) (fun hc15 => ?_)
  ·(try simp at hc15);have hlt : i < g.edges.length := by simpa using hc15
   have hge : (g.edges.map encE)[i]? = some (encE g.edges[i]) := by simp [hlt]
   obtain ⟨⟨e1, e2⟩, e3, e4⟩ := valid_edge hv (List.getElem_mem hlt);have e5 : g.edges[i].1.toNat < vs.length := by omega
   have e6 : g.edges[i].1.toNat < g.nodes.length := by omega
   have hvk : vs[g.edges[i].1.toNat]? = some vs[g.edges[i].1.toNat] := List.getElem?_eq_getElem e5;have hok := p2.own _ _ _ hvk (tgs_get e6);have htl := targets_len (g.edges.take i) g.edges[i].1.toNat;rw [List.length_take] at htl;refine awp_skip ?_;refine q_seq ?_;refine awp_seq ?_;refine awp_block ?_;rcases hok with ⟨hvn, hnil⟩ | ⟨id, gn, rest, hvn, hb, hid⟩
   ·skip;refine awp_ok fun hok => ?_;obtain ⟨m6, hn_m6⟩ : ∃ m, H4.n = m := ⟨_, rfl⟩;have hf_m6_0 := hok.free 0;simp [hn_m6, hst_4] at hf_m6_0;have nx1 := ne_get hf_m6_0 g0_4;have nx2 := ne_get hf_m6_0 g1_4;refine stp_reg TT_ok (by rfl) fun K hK => ?_;simp [h12_5, h14_5, g0_4, g1_4, hn_m6, hst_4, nx1, nx2, encG, hge, hlt, encE];(try refine And.intro (by first|omega|rfl) ?_);refine hK _ _ fun σ7 hσ H7 hH => ?_;clear hK K;obtain ⟨h3_7, h5_7, h12_7, h13_7, h14_7⟩ := fs5 hσ 3 5 12 13 14;simp [h3_5, h12_5, h13_5, h14_5] at h3_7 h5_7 h12_7 h13_7 h14_7;clear hσ;have g0_7 := gt_of hH 0;have g1_7 := gt_of hH 1;have gm6_7 := gt_of hH m6;simp [g0_4, g1_4, hn_m6, hst_4, nx1, nx2] at g0_7 g1_7 gm6_7;have hst_7 := congrArg AHeap.st hH;simp [hst_4] at hst_7
    have ka : ∀ j, H4.get j ≠ none → H7.get j = H4.get j := fun j hj => by
     rw [hH]; have hjm : ¬ j = m6 := by { intro e; rw [e, hf_m6_0] at hj; exact hj rfl }
     simp [hn_m6, hjm]
    clear hH;refine awp_ok fun hok => ?_;obtain ⟨m8, hn_m8⟩ : ∃ m, H7.n = m := ⟨_, rfl⟩;have hf_m8_10 := hok.free 10;simp [hn_m8, hst_7] at hf_m8_10;have nx3 := ne_get hf_m8_10 g0_7;have nx4 := ne_get hf_m8_10 g1_7;have nx5 := ne_get hf_m8_10 gm6_7;have hf_m8_11 := hok.free 11;simp [hn_m8, hst_7] at hf_m8_11;have nx6 := ne_get hf_m8_11 g0_7;have nx7 := ne_get hf_m8_11 g1_7;have nx8 := ne_get hf_m8_11 gm6_7;refine stp_lexl true TT_ok mixed (by rfl) (by rfl) (by kernel_rfl) (by rfl) fun U hU K hK => ?_;simp [h3_7, h5_7, g0_7, g1_7, gm6_7, hn_m8, hst_7, nx1, nx2, nx3, nx4, nx5, nx6, nx7, nx8, encG, e1, e2, e5, e6, hvl, hvn];(try refine And.intro (by first|omega|rfl) ?_);refine hK _ _ _ (by rw [hU.trans (by kernel_rfl : _ = [(0, 1), (0, 2), (0, 3), (1, 3), (2, 3), (0, 4), (1, 4), (2, 4), (3, 4), (0, 5), (1, 5), (2, 5), (3, 5), (0, 6), (1, 6), (2, 6), (0, 7), (1, 7), (2, 7), (0, 8), (1, 8), (2, 8), (3, 8), (4, 8), (5, 8), (6, 8), (7, 8), (0, 9), (1, 9), (2, 9), (3, 9), (4, 9), (5, 9), (6, 9), (7, 9), (0, 10), (1, 10), (2, 10), (3, 10), (4, 10), (5, 10), (6, 10), (7, 10), (0, 11), (1, 11), (2, 11)])]; simp [logOk, ftFree, h3_7, h5_7, g0_7, g1_7, gm6_7, hn_m8, hst_7, nx1, nx2, nx3, nx4, nx5, nx6, nx7, nx8, encG, e1, e2, e5, e6, hvl, hvn]) fun σ9 hσ H9 hH => ?_;clear hK K hU U;obtain ⟨h3_9, h12_9, h13_9, h14_9⟩ := fs4 hσ 3 12 13 14;simp [h3_7, h12_7, h13_7, h14_7] at h3_9 h12_9 h13_9 h14_9;clear hσ;have g0_9 := gt_of hH 0;have g1_9 := gt_of hH 1;have gm6_9 := gt_of hH m6
    have g_m8_10__9 := gt_of hH (m8 + 10);have g_m8_11__9 := gt_of hH (m8 + 11);simp [g0_7, g1_7, gm6_7, hn_m8, hst_7, nx1, nx2, nx3, nx4, nx5, nx6, nx7, nx8] at g0_9 g1_9 gm6_9 g_m8_10__9 g_m8_11__9;have hst_9 := congrArg AHeap.st hH;simp [hst_7] at hst_9
    have kb : ∀ j, H7.get j ≠ none → j ≠ 1 → H9.get j = H7.get j := fun j hj h1 => by
     rw [hH]; have hjm : ¬ j = (m8 + 10) := by { intro e; rw [e, hf_m8_10] at hj; exact hj rfl }
     have hjn : ¬ j = (m8 + 11) := by { intro e; rw [e, hf_m8_11] at hj; exact hj rfl }
     simp [hn_m8, hjm, hjn, h1]
    clear hH;refine q_block ?_;refine q_seq ?_;refine stp_regl TT_ok (by rfl) fun K hK => ?_;simp [h14_9, g0_9, g1_9, gm6_9, g_m8_10__9, g_m8_11__9, nx1, nx2, nx3, nx4, nx5, nx6, nx7, nx8, encG, wrap_ok (n := (i : Int) + 1) (by omega) (by omega)];(try refine And.intro (by first|omega|rfl) ?_);refine hK _ _ fun σ10 hσ H10 hH => ?_;clear hK K;obtain ⟨h3_10, h12_10, h13_10, h14_10⟩ := fs4 hσ 3 12 13 14;simp [h3_9, h12_9, h13_9] at h3_10 h12_10 h13_10 h14_10;clear hσ;replace hH : H9 = H10 := Eq.symm hH;subst hH;refine ⟨_, ?_, i + 1, vs.set g.edges[i].1.toNat (.sl (m8 + 11) 0 0 1), rfl, (h3_10.trans h3_3.symm), (h12_10.trans h12_3.symm), (h13_10.trans h13_3.symm), (by simp [h14_10]), (g0_9.trans g0_2.symm), (by simp [g1_9]), (hst_9.trans hst_2.symm), ?_, ?_⟩
    ·subst hn1; omega
    ·first | omega | assumption | (simp; done)
    ·rw [tgs_succ hlt ⟨e1, e2⟩];refine p2.set (OwnR.mk (rest := []) g_m8_11__9 (by simp [List.map_eq_nil_iff.1 hnil]) (by simp [List.map_eq_nil_iff.1 hnil]) (by omega)) fun j id g' n' hj hvj => ?_;obtain ⟨u1, u2⟩ := p2.used hvj;have u3 := u1;rw [← ka id u1] at u3;refine ⟨(kb id u3 (by omega)).trans (ka id u1), fun g'' n'' e => ?_⟩;cases e; exact u3 hf_m8_11
   ·skip;rw [hvn] at hvk;have nx9 : ¬ id = 0 ∧ ¬ 0 = id := by omega
    have nx10 : ¬ id = 1 ∧ ¬ 1 = id := by omega
    refine awp_ok fun hok => ?_;obtain ⟨m11, hn_m11⟩ : ∃ m, H4.n = m := ⟨_, rfl⟩;have hf_m11_0 := hok.free 0;simp [hn_m11, hst_4] at hf_m11_0;have nx11 := ne_get hf_m11_0 g0_4;have nx12 := ne_get hf_m11_0 g1_4;have nx13 := ne_get hf_m11_0 hb;refine stp_reg TT_ok (by rfl) fun K hK => ?_;simp [h12_5, h14_5, g0_4, g1_4, hb, hn_m11, hst_4, nx9, nx10, nx11, nx12, nx13, encG, hge, hlt, encE];(try refine And.intro (by first|omega|rfl) ?_);refine hK _ _ fun σ12 hσ H12 hH => ?_;clear hK K;obtain ⟨h3_12, h5_12, h12_12, h13_12, h14_12⟩ := fs5 hσ 3 5 12 13 14;simp [h3_5, h12_5, h13_5, h14_5] at h3_12 h5_12 h12_12 h13_12 h14_12;clear hσ;have g0_12 := gt_of hH 0;have g1_12 := gt_of hH 1;have gid_12 := gt_of hH id;have gm11_12 := gt_of hH m11;simp [g0_4, g1_4, hb, hn_m11, hst_4, nx9, nx10, nx11, nx12, nx13] at g0_12 g1_12 gid_12 gm11_12;have hst_12 := congrArg AHeap.st hH;simp [hst_4] at hst_12
    have ka : ∀ j, H4.get j ≠ none → H12.get j = H4.get j := fun j hj => by
     rw [hH]; have hjm : ¬ j = m11 := by { intro e; rw [e, hf_m11_0] at hj; exact hj rfl }
     simp [hn_m11, hjm]
    clear hH;refine awp_ok fun hok => ?_;obtain ⟨m13, hn_m13⟩ : ∃ m, H12.n = m := ⟨_, rfl⟩;have hf_m13_10 := hok.free 10;simp [hn_m13, hst_12] at hf_m13_10;have nx14 := ne_get hf_m13_10 g0_12;have nx15 := ne_get hf_m13_10 g1_12;have nx16 := ne_get hf_m13_10 gid_12;have nx17 := ne_get hf_m13_10 gm11_12;refine stp_lexl true TT_ok mixed (by rfl) (by rfl) (by kernel_rfl) (by rfl) fun U hU K hK => ?_;simp [h3_12, h5_12, g0_12, g1_12, gid_12, gm11_12, hn_m13, hst_12, nx9, nx10, nx11, nx12, nx13, nx14, nx15, nx16, nx17, encG, e1, e2, e5, e6, hvl, hvn, show (targets (List.take i g.edges) g.edges[i].1.toNat).length ≤ 9223372036854775806 by omega, show ((targets (List.take i g.edges) g.edges[i].1.toNat).length + 1) * 8 ≤ 140737488355328 by omega];(try refine And.intro (by first|omega|rfl) ?_)
    refine hK _ _ _ (by rw [hU.trans (by kernel_rfl : _ = [(0, 1), (0, 2), (0, 3), (1, 3), (2, 3), (0, 4), (1, 4), (2, 4), (3, 4), (0, 5), (1, 5), (2, 5), (3, 5), (0, 6), (1, 6), (2, 6), (0, 7), (1, 7), (2, 7), (0, 8), (1, 8), (2, 8), (3, 8), (4, 8), (5, 8), (6, 8), (7, 8), (0, 9), (1, 9), (2, 9), (3, 9), (4, 9), (5, 9), (6, 9), (7, 9), (0, 10), (1, 10), (2, 10), (3, 10), (4, 10), (5, 10), (6, 10), (7, 10), (0, 11), (1, 11), (2, 11)])]; simp [logOk, ftFree, h3_12, h5_12, g0_12, g1_12, gid_12, gm11_12, hn_m13, hst_12, nx9, nx10, nx11, nx12, nx13, nx14, nx15, nx16, nx17, encG, e1, e2, e5, e6, hvl, hvn, show (targets (List.take i g.edges) g.edges[i].1.toNat).length ≤ 9223372036854775806 by omega, show ((targets (List.take i g.edges) g.edges[i].1.toNat).length + 1) * 8 ≤ 140737488355328 by omega]) fun σ14 hσ H14 hH => ?_;clear hK K hU U;obtain ⟨h3_14, h12_14, h13_14, h14_14⟩ := fs4 hσ 3 12 13 14;simp [h3_12, h12_12, h13_12, h14_12] at h3_14 h12_14 h13_14 h14_14;clear hσ;have g0_14 := gt_of hH 0;have g1_14 := gt_of hH 1;have gid_14 := gt_of hH id;have gm11_14 := gt_of hH m11;have g_m13_10__14 := gt_of hH (m13 + 10);simp [g0_12, g1_12, gid_12, gm11_12, hn_m13, hst_12, nx9, nx10, nx11, nx12, nx13, nx14, nx15, nx16, nx17] at g0_14 g1_14 gid_14 gm11_14 g_m13_10__14;have hst_14 := congrArg AHeap.st hH;simp [hst_12] at hst_14
    have kb : ∀ j, H12.get j ≠ none → j ≠ 1 → j ≠ id → H14.get j = H12.get j := fun j hj h1 h2 => by
     rw [hH]; have hjm : ¬ j = (m13 + 10) := by { intro e; rw [e, hf_m13_10] at hj; exact hj rfl }
     simp [hn_m13, hst_14, hjm, h1, h2]
    clear hH;refine q_block ?_;refine q_seq ?_;refine stp_regl TT_ok (by rfl) fun K hK => ?_;simp [h14_14, g0_14, g1_14, gid_14, gm11_14, g_m13_10__14, nx9, nx10, nx11, nx12, nx13, nx14, nx15, nx16, nx17, encG, wrap_ok (n := (i : Int) + 1) (by omega) (by omega)];(try refine And.intro (by first|omega|rfl) ?_);refine hK _ _ fun σ15 hσ H15 hH => ?_;clear hK K;obtain ⟨h3_15, h12_15, h13_15, h14_15⟩ := fs4 hσ 3 12 13 14;simp [h3_14, h12_14, h13_14] at h3_15 h12_15 h13_15 h14_15;clear hσ;replace hH : H14 = H15 := Eq.symm hH;subst hH;refine ⟨_, ?_, i + 1, vs.set g.edges[i].1.toNat (.sl id (gn + 1) 0 ((targets (g.edges.take i) g.edges[i].1.toNat).length + 1)), rfl, (h3_15.trans h3_3.symm), (h12_15.trans h12_3.symm), (h13_15.trans h13_3.symm), (by simp [h14_15]), (g0_14.trans g0_2.symm), (by simp [g1_14]), (hst_14.trans hst_2.symm), ?_, ?_⟩
    ·subst hn1; omega
    ·first | omega | assumption | (simp; done)
    ·rw [tgs_succ hlt ⟨e1, e2⟩];refine p2.set (OwnR.mk (rest := []) gid_14 (by simp) (by simp) (by omega)) fun j id' g' n' hj hvj => ?_;obtain ⟨u1, u2⟩ := p2.used hvj;have u4 : id' ≠ id := fun e => hj (by subst e; exact p2.ne _ _ _ _ _ _ _ hvj hvk);refine ⟨(kb id' (by rw [ka id' u1]; exact u1) (by omega) u4).trans (ka id' u1), fun g'' n'' e => ?_⟩;cases e; exact u4 rfl
  ·(try simp at hc15);refine awp_exit ?_;refine q_seq_exit ?_;refine q_loop_exit ?_;refine q_block_hit ?_;refine q_seq ?_;refine awp_seq ?_;have hie : i = g.edges.length := by have := hc15; omega
   subst hie;refine stp_reg TT_ok (by rfl) fun K hK => ?_;simp [h3_5, g0_4, g1_4, encG, hvl];(try refine And.intro (by first|omega|rfl) ?_);refine hK _ _ fun σ16 hσ H16 hH => ?_;clear hK K;obtain ⟨h3_16, h33_16, h34_16⟩ := fs3 hσ 3 33 34;simp [h3_5] at h3_16 h33_16 h34_16;clear hσ;replace hH : H4 = H16 := Eq.symm hH;subst hH;refine awp_block ?_;refine awp_loopV (fun n σ' H' => ∃ (i2 : Nat) (ws : List AV), n = g.nodes.length - i2 ∧ σ' 3 = σ16 3 ∧ σ' 33 = σ16 33 ∧ σ' 34 = (AV.int IntKind.i64) i2 ∧ H'.get 0 = H4.get 0 ∧ H'.get 1 = some (.row 26 1 0 ws) ∧ H'.st = H4.st ∧ (i2 ≤ g.nodes.length) ∧ (Rows 2 ws (scs g i2) H')) ?_ ?_
   ·refine ⟨_, 0, vs, rfl, rfl, rfl, (by simp [h34_16]), rfl, (by simp [g1_4]), rfl, ?_, ?_⟩
    ·first | omega | (simp; done) | assumption
    ·rw [scs_zero]; exact p2
   ·rintro n2 σ17 H17 ⟨i2, ws, hn2, q3_17, q33_17, h34_17, qg0_17, g1_17, qst_17, r1, r2⟩
    have h3_17 := q3_17.trans h3_16;have h33_17 := q33_17.trans h33_16;have g0_17 := qg0_17.trans g0_4;have hst_17 := qst_17.trans hst_4;have hwl : ws.length = g.nodes.length := by rw [r2.len]; simp [scs]
    refine stp_reg TT_ok (by rfl) fun K hK => ?_;simp [h33_17, h34_17, g0_17, g1_17, encG];(try refine And.intro (by first|omega|rfl) ?_);refine hK _ _ fun σ18 hσ H18 hH => ?_;clear hK K;obtain ⟨h3_18, h33_18, h34_18, h35_18⟩ := fs4 hσ 3 33 34 35;simp [h3_17, h33_17, h34_17] at h3_18 h33_18 h34_18 h35_18;clear hσ;replace hH : H17 = H18 := Eq.symm hH;subst hH;refine awp_seq ?_;refine awp_cond _ (by simp only [aeval_tmp]; exact h35_18) (fun hc35 => ?_) (fun hc35 => ?_)
    ·(try simp at hc35);have hlt2 : i2 < g.nodes.length := by simpa using hc35
     have hlt3 : i2 < ws.length := by omega
     have hwk : ws[i2]? = some ws[i2] := List.getElem?_eq_getElem hlt3;have hok2 := r2.own _ _ _ hwk (scs_get hlt2);rw [if_neg (Nat.lt_irrefl _)] at hok2;have htl2 := targets_len g.edges i2;refine awp_skip ?_;refine q_seq ?_;refine awp_seq ?_;refine awp_block ?_;refine stp_reg TT_ok (by rfl) fun K hK => ?_;simp [h34_18, g0_17, g1_17, encG];(try refine And.intro (by first|omega|rfl) ?_);refine hK _ _ fun σ19 hσ H19 hH => ?_;clear hK K;obtain ⟨h3_19, h6_19, h33_19, h34_19⟩ := fs4 hσ 3 6 33 34;simp [h3_18, h33_18, h34_18] at h3_19 h6_19 h33_19 h34_19;clear hσ;replace hH : H17 = H19 := Eq.symm hH;subst hH;rcases hok2 with ⟨hwn, hnil⟩ | ⟨id, gn, rest, hwn, hb, hid⟩
     ·skip;rw [List.map_eq_nil_iff] at hnil;have hFF0 := an4 h3_19 h6_19 g0_17 g1_17;refine stp_reg TT_ok (by rfl) fun K hK => ?_;simp [hFF0, encG, hwl, hwn, hlt2, hlt3];(try refine And.intro (by first|omega|rfl) ?_);refine stp_call (sortNil_ok) ?_;simp [hFF0, encG, hwl, hwn, hlt2, hlt3];(try refine And.intro (by first|omega|rfl) ?_);refine hK _ _ fun σ20 hσ H20 hH => ?_;clear hK K hFF0;obtain ⟨h3_20, h6_20, h33_20, h34_20⟩ := fs4 hσ 3 6 33 34;simp [h3_19, h6_19, h33_19, h34_19] at h3_20 h6_20 h33_20 h34_20;clear hσ;replace hH : H17 = H20 := Eq.symm hH;subst hH;have hFF0 := an4 h3_20 h6_20 g0_17 g1_17;refine stp_regl TT_ok (by rfl) fun K hK => ?_;simp [hFF0, encG, hwl, hwn, hlt2, hlt3];(try refine And.intro (by first|omega|rfl) ?_);refine stp_call (compactNil_ok) ?_;simp [hFF0, encG, hwl, hwn, hlt2, hlt3];(try refine And.intro (by first|omega|rfl) ?_);refine hK _ _ fun σ21 hσ H21 hH => ?_;clear hK K hFF0;obtain ⟨h3_21, h33_21, h34_21⟩ := fs3 hσ 3 33 34;simp [h3_20, h33_20, h34_20] at h3_21 h33_21 h34_21;clear hσ;have g0_21 := gt_of hH 0;have g1_21 := gt_of hH 1;simp [g0_17, g1_17, hst_17] at g0_21 g1_21;have hst_21 := congrArg AHeap.st hH;simp [hst_17] at hst_21;have kb : ∀ j, j ≠ 1 → H21.get j = H17.get j := fun j h1 => by rw [hH]; simp [h1]
      clear hH;refine q_block ?_;refine q_seq ?_;refine stp_regl TT_ok (by rfl) fun K hK => ?_;simp [h34_21, g0_21, g1_21, encG, wrap_ok (n := (i2 : Int) + 1) (by omega) (by omega)];(try refine And.intro (by first|omega|rfl) ?_);refine hK _ _ fun σ22 hσ H22 hH => ?_;clear hK K;obtain ⟨h3_22, h33_22, h34_22⟩ := fs3 hσ 3 33 34;simp [h3_21, h33_21] at h3_22 h33_22 h34_22;clear hσ;replace hH : H21 = H22 := Eq.symm hH;subst hH;refine ⟨_, ?_, i2 + 1, ws.set i2 .nils, rfl, (h3_22.trans h3_16.symm), (h33_22.trans h33_16.symm), (by simp [h34_22]), (g0_21.trans g0_4.symm), (by simp [g1_21]), (hst_21.trans hst_4.symm), ?_, ?_⟩
      ·subst hn2; omega
      ·first | omega | assumption | (simp; done)
      ·rw [scs_succ];have hsn : g.succ i2 = [] := by rw [← succ_eq hv, hnil]; simp [sortI, Lib.compact, Lib.compactUpTo]
       exact r2.set (.inl ⟨rfl, by rw [hsn]; rfl⟩) fun j id' g' n' hj hvj => ⟨kb id' (by have := (r2.used hvj).2; omega), fun g'' n'' e => by cases e⟩
     ·skip;rw [hwn] at hwk;rw [List.length_map] at hwn;have nx18 : ¬ id = 0 ∧ ¬ 0 = id := by omega
      have nx19 : ¬ id = 1 ∧ ¬ 1 = id := by omega
      have hFF0 := an7 h3_19 h6_19 g0_17 g1_17 hb nx18 nx19;refine stp_reg TT_ok (by rfl) fun K hK => ?_;simp [hFF0, encG, hwl, hwn, hlt2, hlt3];(try refine And.intro (by first|omega|rfl) ?_);refine sort_row (l := targets g.edges i2) (by omega) hb rfl ?_;simp [hFF0, encG, hwl, hwn, hlt2, hlt3];(try refine And.intro (by first|omega|rfl) ?_);refine hK _ _ fun σ23 hσ H23 hH => ?_;clear hK K hFF0;obtain ⟨h3_23, h6_23, h33_23, h34_23⟩ := fs4 hσ 3 6 33 34;simp [h3_19, h6_19, h33_19, h34_19] at h3_23 h6_23 h33_23 h34_23;clear hσ;have g0_23 := gt_of hH 0;have g1_23 := gt_of hH 1;have gid_23 := gt_of hH id;simp [g0_17, g1_17, hb, hst_17, nx18, nx19] at g0_23 g1_23 gid_23;have hst_23 := congrArg AHeap.st hH;simp [hst_17] at hst_23;have ka : ∀ j, j ≠ id → H23.get j = H17.get j := fun j h1 => by rw [hH]; simp [h1]
      clear hH;have hFF0 := an7 h3_23 h6_23 g0_23 g1_23 gid_23 nx18 nx19;refine stp_regl TT_ok (by rfl) fun K hK => ?_;simp [hFF0, encG, hwl, hwn, hlt2, hlt3];(try refine And.intro (by first|omega|rfl) ?_);refine compact_row (l := sortI (targets g.edges i2)) (by rw [sortI_len]; omega) gid_23 (by rw [sortI_len]) ?_;simp [hFF0, encG, hwl, hwn, hlt2, hlt3, succ_eq hv];(try refine And.intro (by first|omega|rfl) ?_);refine hK _ _ fun σ24 hσ H24 hH => ?_;clear hK K hFF0;obtain ⟨h3_24, h33_24, h34_24⟩ := fs3 hσ 3 33 34;simp [h3_23, h33_23, h34_23] at h3_24 h33_24 h34_24;clear hσ;have g0_24 := gt_of hH 0;have g1_24 := gt_of hH 1;have gid_24 := gt_of hH id;simp [g0_23, g1_23, gid_23, hst_23, nx18, nx19] at g0_24 g1_24 gid_24;have hst_24 := congrArg AHeap.st hH;simp [hst_23] at hst_24;have kb : ∀ j, j ≠ id → j ≠ 1 → H24.get j = H23.get j := fun j h1 h2 => by rw [hH]; simp [h1, h2]
      clear hH;refine q_block ?_;refine q_seq ?_;refine stp_regl TT_ok (by rfl) fun K hK => ?_;simp [h34_24, g0_24, g1_24, gid_24, nx18, nx19, encG, wrap_ok (n := (i2 : Int) + 1) (by omega) (by omega)];(try refine And.intro (by first|omega|rfl) ?_);refine hK _ _ fun σ25 hσ H25 hH => ?_;clear hK K;obtain ⟨h3_25, h33_25, h34_25⟩ := fs3 hσ 3 33 34;simp [h3_24, h33_24] at h3_25 h33_25 h34_25;clear hσ;replace hH : H24 = H25 := Eq.symm hH;subst hH;refine ⟨_, ?_, i2 + 1, ws.set i2 (.sl id gn 0 (g.succ i2).length), rfl, (h3_25.trans h3_16.symm), (h33_25.trans h33_16.symm), (by simp [h34_25]), (g0_24.trans g0_4.symm), (by simp [g1_24]), (hst_24.trans hst_4.symm), ?_, ?_⟩
      ·subst hn2; omega
      ·first | omega | assumption | (simp; done)
      ·rw [scs_succ];refine r2.set (OwnR.mk (rest := _) gid_24 rfl (by simp) (by omega)) fun j id' g' n' hj hvj => ?_;have u4 : id' ≠ id := fun e => hj (by subst e; exact r2.ne _ _ _ _ _ _ _ hvj hwk);exact ⟨(kb id' u4 (by have := (r2.used hvj).2; omega)).trans (ka id' u4), fun g'' n'' e => by cases e; exact u4 rfl⟩
    ·(try simp at hc35);refine awp_exit ?_;refine q_seq_exit ?_;refine q_loop_exit ?_;refine q_block_hit ?_;refine q_seq ?_;refine stp_reg TT_ok (by rfl) fun K hK => ?_;simp [h3_18, g0_17, g1_17, encG];(try refine And.intro (by first|omega|rfl) ?_);refine hK _ _ fun σ26 hσ H26 hH => ?_;clear hK K;have h2_26 := congrFun hσ 2;simp [] at h2_26;clear hσ;replace hH : H17 = H26 := Eq.symm hH;subst hH;refine awp_ret ?_;have hie2 : i2 = g.nodes.length := by have := hc35; omega
     subst hie2;refine q_fin1 h2_26 ?_;rw [← scs_end]; exact r2.frz g1_17 hwl.symm
theorem succs_ok (g : Gr) (hv : g.valid = true) : Fun1 Try.prog 40 [encG g] (encS g.succs) := fun1_frz (succs0 g hv) (pu_cons (pu_graph _) pu_nil) (pu_encS _)
end Go.Proofs.Yteifhcohmipdcaa
namespace Go.Abs
set_option linter.unusedSimpArgs false
set_option linter.unusedVariables false
section
variable {P : Program} {T : TypeId → Option TE}
theorem ACalls.freshW {f : FuncId} {args : List AV} {K0 : AV → AHeap → Prop} {e sz : Nat} {es : List AV} (h : ACalls P f args AHeap.nil K0) (hp : ∀ a ∈ args, Pu a)
  (hsc : ∀ x ∈ es, ∀ v ∈ x.cells, Scal v) (hk : ∀ r H', K0 r H' → ∃ id g, r = .sl id g 0 es.length ∧ H'.get id = some (.row e sz g es)) {H : AHeap} {args' : List AV} (hf : FrzL H args' args) :
  ACalls P f args' H fun r H' => H' = H.alloc (.row e sz 0 es) ∧ r = .sl H.n 0 0 es.length := by
 refine ⟨h.1, fun G w cargs hr hs hv => ?_⟩
 have hn : Rel { (G.freeze H) with dom := fun _ => False } AHeap.nil w :=
  ⟨⟨Nat.one_pos, fun _ => rfl⟩, fun _ h => h.elim, fun id b h => by simp [AHeap.nil] at h, fun i j a b h => by simp [AHeap.nil] at h, fun i a h => by simp [AHeap.nil] at h, fun b hb => by
   rcases hb with hb | ⟨i, a, ha, rfl⟩
   ·exact hr.ilt b hb
   ·exact hr.lt ha⟩
 refine (h.2 _ w cargs hn (hs.trans hf.1) (fun j v c hj hc => ?_)).mono ?_
 ·have hlt : j < args'.length := by rw [hf.1]; exact (List.getElem?_eq_some_iff.1 hj).1
  exact (VRel.freeze hr (hf.2 j _ v (List.getElem?_eq_getElem hlt) hj) (hv j _ c (List.getElem?_eq_getElem hlt) hc)).toI (hp v (List.mem_of_getElem? hj)) _ (fun _ hb => hb)
 rintro e' w' ⟨v, r, H', G', rfl, hK, hvr, hg⟩
 obtain ⟨id, g, rfl, hb⟩ := hk r H' hK
 obtain ⟨hid, hgm, hsz, hpos⟩ := hg.rel.row hb
 have hold : ∀ b, b < w.heap.size → w'.heap[b]? = w.heap[b]? := fun b hb => hg.fr.block b hb (fun i a ha => by simp [AHeap.nil] at ha)
 have hnew : w.heap.size ≤ G'.blk id g := by
  rcases hg.own id _ hb with h1 | ⟨j, b, hb, _⟩
  ·exact h1
  ·simp [AHeap.nil] at hb
 let G2 : Gh := G.add H.n (G'.blk id g) (G'.base id g) (G'.cap id g) sz
 have he : Ext G G2 := G.ext_add hr.new (G'.blk id g) (G'.base id g) (G'.cap id g) sz
 have hvr2 : VRel G2 w' (.sl H.n 0 0 es.length) v := by
  cases hvr with
  | @sl _ _ _ _ o c h1 h2 h3 h4 h5 =>
   have := VRel.sl (G := G2) (w := w') (id := H.n) (g := 0) (off := 0) (len := es.length) (o := o) (c := c) (by simp [G2, Gh.add]) (Nat.zero_le _) (by simpa [G2, Gh.add] using h3) h4 (by simpa [G2, Gh.add, hsz] using h5)
   simpa [G2, Gh.add] using this
 refine ⟨v, _, _, G2, rfl, ⟨rfl, rfl⟩, hvr2, ?_⟩
 have hne : ∀ i a, H.get i = some a → i ≠ H.n := fun i a ha => hr.ne (hr.blk i a ha).1
 have hkey : ∀ i a, H.get i = some a → G2.blk i a.gen = G.blk i a.gen := fun i a ha => by simp [G2, Gh.add, hne i a ha]
 have hkn : G2.blk H.n 0 = G'.blk id g := by simp [G2, Gh.add]
 refine ⟨⟨hr.ok.alloc _, ?_, ?_, ?_, ?_, fun b hb => Nat.lt_of_lt_of_le (hr.ilt b hb) hg.fr.size⟩, he, ⟨hg.fr.os, hg.fr.tape, hg.fr.output, hg.fr.size, fun b hb _ => hold b hb⟩, ?_, fun b hb => .inl hb⟩
 ·intro i hd
  simp only [AHeap.alloc]
  split
  ·simp
  ·rcases hd with h | h
   ·contradiction
   ·exact hr.dom i h
 ·intro i c hc
  simp only [AHeap.alloc] at hc
  split at hc
  ·rename_i h; cases hc
   obtain ⟨_, _, _, _, q4, q5, q6, cur, q7, q8, q9⟩ := hg.rel.blk id _ hb
   subst h
   refine ⟨.inl rfl, by simp [G2, Gh.add, Blk.gen], by simp [G2, Gh.add], hpos, by simpa [G2, Gh.add] using q4, by simpa [G2, Gh.add] using q5, q6, cur, by simpa [G2, Gh.add] using q7, by simpa [G2, Gh.add] using q8, ?_⟩
   intro i x j u hx hu
   obtain ⟨c, hc, hvv⟩ := q9 i x j u hx hu
   exact ⟨c, by simpa [G2, Gh.add] using hc, hvv.scal (hsc x (List.mem_of_getElem? hx) u (List.mem_of_getElem? hu))⟩
  ·rename_i h
   obtain ⟨h1, h2⟩ := hr.blk i c hc
   exact ⟨.inr h1, h2.keep he (fun b hb => hold b (hr.ilt b hb)) h1 (by simp [G2, Gh.add, hr.ne h1]) (hold _ (hr.lt hc))⟩
 ·intro i j a c ha hc hij
  simp only [AHeap.alloc] at ha hc
  split at ha
  ·rename_i h; cases ha; subst h
   split at hc
   ·rename_i h; exact absurd h.symm hij
   ·rw [show (Blk.row e sz 0 es).gen = 0 from rfl, hkn, hkey j c hc]; have := hr.lt hc; omega
  ·split at hc
   ·rename_i h; cases hc; subst h; rw [show (Blk.row e sz 0 es).gen = 0 from rfl, hkn, hkey i a ha]; have := hr.lt ha; omega
   ·rw [hkey i a ha, hkey j c hc]; exact hr.inj i j a c ha hc hij
 ·intro i a ha hi
  simp only [AHeap.alloc] at ha
  have hi' := hr.ilt _ hi
  split at ha
  ·rename_i h; cases ha; subst h
   simp only [Blk.gen] at hi'
   rw [hkn] at hi'; omega
  ·rw [hkey i a ha] at hi
   exact hr.imm i a ha hi
 ·intro i a ha
  simp only [AHeap.alloc] at ha
  split at ha
  ·rename_i h; cases ha; subst h; left; simp only [Blk.gen]; rw [hkn]; exact hnew
  ·exact .inr ⟨i, a, ha, (hkey i a ha).symm⟩
theorem stp_cut {rd : Bool} {nt : Nat} {σ : St} {H : AHeap} {Q : APost} {x y : Code} (P' : St → AHeap → Prop) (h : AWP P rd nt x σ H fun e σ' H' => e = .normal ∧ P' σ' H') (hr : ∀ σ' H', P' σ' H' → AWP P rd nt y σ' H' Q) : AWP P rd nt (.seq x y) σ H Q :=
 awp_seq (h.mono fun e σ' H' ⟨h1, h2⟩ => by subst h1; exact hr σ' H' h2)
def FunRowW (P : Program) (f : FuncId) (args : List AV) (e sz : Nat) (es : List AV) : Prop := ∀ H args', FrzL H args' args → ACalls P f args' H fun r H' => H' = H.alloc (.row e sz 0 es) ∧ r = .sl H.n 0 0 es.length
theorem FunRowW.at {f : FuncId} {args args' : List AV} {e sz : Nat} {es : List AV} (h : FunRowW P f args e sz es) {H : AHeap} (hf : FrzL H args' args) {K : AV → AHeap → Prop} (hk : K (.sl H.n 0 0 es.length) (H.alloc (.row e sz 0 es))) : ACalls P f args' H K :=
 (h H args' hf).mono fun r' H' ⟨h1, h2⟩ => by subst h1; subst h2; exact hk
theorem lex_rowW {f : FuncId} {args args' caps : List AV} {e sz : Nat} {es : List AV} (h : FunRowW P f args e sz es) {H : AHeap} {σ : St} (ids : List Nat) (hf : ∀ H' : AHeap, (∀ id ∈ ids, H'.get id = H.get id) → FrzL H' (args' ++ caps) args)
  {ops rest : List Oper} {k n0 s j : Nat} {dst : Option Tmp} {log : List Foot} {K : St → AHeap → List Foot → Prop}
  (hk : aLex P T ops true k n0 s (j + 1) rest (σ.put dst (.sl (n0 + j * s) 0 0 es.length)) ((AHeap.mk (n0 + j * s) (s * k) H.get).alloc (.row e sz 0 es)) (log ++ [(ids, some (n0 + j * s))]) K) :
  lcallK P T ops true k n0 s j rest dst σ log K H (.fn f caps) args' :=
 ⟨ids, .row e sz es, rfl, fun H' hH => (h H' (args' ++ caps) (hf H' hH)).mono fun v H2 ⟨h1, h2⟩ => ⟨h2, h1⟩, hk⟩
end
end Go.Abs
namespace Go.Proofs.Yteifhcohmipdcaa
open Go.Abs
set_option linter.unusedSimpArgs false
set_option linter.unusedVariables false
theorem wrapU_ok {n : Nat} (h : n ≤ 1000000) : IntKind.u64.wrap (n : Int) = n := by rw [IntKind.wrap_u64]; omega
set_option maxHeartbeats 1000000 in
theorem repeat0 (x : Int) (c : Nat) (hn : c ≤ 1000000) : ACalls Try.prog 65 [.ro [(AV.int IntKind.i64) x], (AV.int IntKind.i64) c] AHeap.nil (RowOut 3 1 (List.replicate c ((AV.int IntKind.i64) x))) := by
 refine acalls_body TT_ok Try.func65 rfl rfl (by simp [Try.ntmps65]) ?_;rw [Try.ntmps65];obtain ⟨σ, hσ⟩ : ∃ σ, σ = st0 [.ro [(AV.int IntKind.i64) x], (AV.int IntKind.i64) c] := ⟨_, rfl⟩;rw [← hσ];obtain ⟨h0_0, h1_0⟩ := fs2 hσ 0 1;simp [st0] at h0_0 h1_0;clear hσ;obtain ⟨H, hH⟩ : ∃ H, H = AHeap.nil := ⟨_, rfl⟩;rw [← hH];have hn_0 : H.n = 0 := by rw [hH]; rfl
 have hst_0 : H.st = 1 := by rw [hH]; rfl
 clear hH;refine stp_reg TT_ok (by rfl) fun K hK => ?_;simp [];(try refine And.intro (by first|omega|rfl) ?_);refine hK _ _ fun σ1 hσ H1 hH => ?_;clear hK K;obtain ⟨h0_1, h1_1⟩ := fs2 hσ 0 1;simp [h0_0, h1_0] at h0_1 h1_1;clear hσ;replace hH : H = H1 := Eq.symm hH;subst hH;refine awp_seq ?_;refine stp_reg TT_ok (by rfl) fun K hK => ?_;simp [h1_1];(try refine And.intro (by first|omega|rfl) ?_);refine hK _ _ fun σ2 hσ H2 hH => ?_;clear hK K;obtain ⟨h0_2, h1_2, h10_2⟩ := fs3 hσ 0 1 10;simp [h0_1, h1_1] at h0_2 h1_2 h10_2;clear hσ;replace hH : H = H2 := Eq.symm hH;subst hH;refine stp_false (by simp [aeval_tmp, h10_2]) ?_;refine awp_skip ?_;refine q_seq ?_;refine stp_reg TT_ok (by rfl) fun K hK => ?_;simp [h0_2, h1_2, wrapU_ok hn, show IntKind.u64.wrap 1 = 1 by rfl];(try refine And.intro (by first|omega|rfl) ?_);refine stp_call ((mul_ok (x := 1) (y := c) (by omega) (by omega))) ?_;simp [h0_2, h1_2, wrapU_ok hn, show IntKind.u64.wrap 1 = 1 by rfl];(try refine And.intro (by first|omega|rfl) ?_);refine hK _ _ fun σ3 hσ H3 hH => ?_;clear hK K;obtain ⟨h0_3, h5_3, h6_3⟩ := fs3 hσ 0 5 6;simp [h0_2] at h0_3 h5_3 h6_3;clear hσ;replace hH : H = H3 := Eq.symm hH;subst hH;refine awp_seq ?_;refine stp_reg TT_ok (by rfl) fun K hK => ?_;simp [h5_3, h6_3, show c / 18446744073709551616 = 0 by omega, show c % 18446744073709551616 = c by omega, show ¬ (9223372036854775807 : Int) < c by omega, show (c : Int) / 18446744073709551616 = 0 by omega, show (c : Int) % 18446744073709551616 = c by omega]
 (try refine And.intro (by first|omega|rfl) ?_);refine hK _ _ fun σ4 hσ H4 hH => ?_;clear hK K;obtain ⟨h0_4, h6_4, h26_4⟩ := fs3 hσ 0 6 26;simp [h0_3, h6_3] at h0_4 h6_4 h26_4;clear hσ;replace hH : H = H4 := Eq.symm hH;subst hH;refine stp_false (by simp [aeval_tmp, h26_4]) ?_;refine awp_skip ?_;refine q_seq ?_;refine stp_reg TT_ok (by rfl) fun K hK => ?_;simp [h6_4, hn_0, hst_0, show c % 18446744073709551616 = c by omega, show (c : Int) % 18446744073709551616 = c by omega, wrap_ok (n := (c : Int)) (by omega) (by omega), show (8 : Int) * c ≤ 281474976710656 by omega, show (c : Int) ≤ 9223372036854775807 by omega];(try refine And.intro (by first|omega|rfl) ?_);refine hK _ _ fun σ5 hσ H5 hH => ?_;clear hK K;obtain ⟨h0_5, h7_5⟩ := fs2 hσ 0 7;simp [h0_4] at h0_5 h7_5;clear hσ;have g0_5 := gt_of hH 0;simp [hn_0, hst_0] at g0_5;have hn_5 := congrArg AHeap.n hH;simp [hn_0, hst_0] at hn_5;have hst_5 := congrArg AHeap.st hH;simp [hn_0, hst_0] at hst_5;clear hH;refine stp_reg TT_ok (by rfl) fun K hK => ?_;simp [h0_5, h7_5, g0_5];(try refine And.intro (by first|omega|rfl) ?_);refine hK _ _ fun σ6 hσ H6 hH => ?_;clear hK K;obtain ⟨h7_6, h8_6⟩ := fs2 hσ 7 8;simp [h7_5] at h7_6 h8_6;clear hσ;have g0_6 := gt_of hH 0;simp [g0_5, hn_5, hst_5] at g0_6;have hn_6 : H6.n = _ := (congrArg AHeap.n hH).trans hn_5;have hst_6 : H6.st = _ := (congrArg AHeap.st hH).trans hst_5;clear hH;refine awp_seq ?_;refine awp_block ?_
 refine awp_loopV (fun n σ' H' => ∃ (m : Nat) (es : List AV), n = c - m ∧ σ' 7 = σ6 7 ∧ σ' 8 = (AV.int IntKind.i64) m ∧ H'.get 0 = some (.row 3 1 0 es) ∧ H'.n = H6.n ∧ H'.st = H6.st ∧ (m ≤ c) ∧ (es.length = c) ∧ (es.take m = List.replicate m ((AV.int IntKind.i64) x)) ∧ (0 < c → 0 < m)) ?_ ?_
 ·refine ⟨_, min 1 c, List.take c [(AV.int IntKind.i64) x] ++ List.replicate (c - min c 1) ((AV.int IntKind.i64) 0), rfl, rfl, (by simp [h8_6]), (by simp [g0_6]), rfl, rfl, ?_, ?_, ?_, ?_⟩
  ·first | omega | (simp; done) | assumption
  ·simp; omega
  ·cases c with
   | zero => simp
   | succ c => simp [List.replicate_succ, Nat.min_eq_left]
  ·first | omega | (simp; done) | assumption
 ·rintro n1 σ7 H7 ⟨m, es, hn1, q7_7, h8_7, g0_7, qn_7, qst_7, p1, p2, p3, p4⟩
  have h7_7 := q7_7.trans h7_6;have hst_7 := qst_7.trans hst_6;have hn_7 := qn_7.trans hn_6;refine awp_seq ?_;refine stp_reg TT_ok (by rfl) fun K hK => ?_;simp [h7_7, h8_7, g0_7];(try refine And.intro (by first|omega|rfl) ?_);refine hK _ _ fun σ8 hσ H8 hH => ?_;clear hK K;obtain ⟨h7_8, h8_8, h37_8⟩ := fs3 hσ 7 8 37;simp [h7_7, h8_7] at h7_8 h8_8 h37_8;clear hσ;replace hH : H7 = H8 := Eq.symm hH;subst hH;refine awp_cond _ (by simp only [aeval_tmp]; exact h37_8) (fun hc37 => ?_) (fun hc37 => ?_)
  ·(try simp at hc37);have hlt : m < c := by simpa using hc37
   obtain ⟨mm, hmm⟩ : ∃ mm, min m (c - m) = mm := ⟨_, rfl⟩;refine awp_skip ?_;refine q_seq ?_;refine awp_block ?_;refine stp_lexl false TT_ok mixed (by rfl) (by rfl) (by kernel_rfl) (by rfl) fun U hU K hK => ?_;simp [h7_8, h8_8, g0_7, p1, p2, p3, show m + (c - m) ≤ c by omega, show (m : Int) ≤ c by omega, hmm, show min (c - m) m = mm by omega, wrap_ok (n := (m : Int) + (mm : Int)) (by omega) (by omega)];(try refine And.intro (by first|omega|rfl) ?_);refine hK _ _ _ (by subst hU; kernel_rfl) fun σ9 hσ H9 hH => ?_;clear hK K hU U;obtain ⟨h7_9, h8_9⟩ := fs2 hσ 7 8;simp [h7_8] at h7_9 h8_9;clear hσ;have g0_9 := gt_of hH 0;simp [g0_7, hn_7, hst_7] at g0_9;have hn_9 : H9.n = _ := (congrArg AHeap.n hH).trans hn_7;have hst_9 : H9.st = _ := (congrArg AHeap.st hH).trans hst_7;clear hH;refine q_block ?_;refine ⟨_, ?_, m + mm, List.replicate (m + mm) ((AV.int IntKind.i64) x) ++ List.drop (m + mm) es, rfl, (h7_9.trans h7_6.symm), (by simp [h8_9]), (by simp [g0_9]), (hn_9.trans hn_6.symm), (hst_9.trans hst_6.symm), ?_, ?_, ?_, ?_⟩
   ·have := p4 (by omega); subst hn1; omega
   ·first | omega | assumption | (simp; done)
   ·simp; omega
   ·simp
   ·first | omega | assumption | (simp; done)
  ·(try simp at hc37);refine awp_exit ?_;refine q_seq_exit ?_;refine q_loop_exit ?_;refine q_block_hit ?_;refine q_seq ?_;refine stp_reg TT_ok (by rfl) fun K hK => ?_;simp [h7_8, g0_7];(try refine And.intro (by first|omega|rfl) ?_);refine hK _ _ fun σ10 hσ H10 hH => ?_;clear hK K;have h4_10 := congrFun hσ 4;simp [] at h4_10;clear hσ;replace hH : H7 = H10 := Eq.symm hH;subst hH;refine awp_ret ?_;have hmc : m = c := by have := hc37; omega
   subst hmc;refine q_fin1 h4_10 ?_;exact ⟨0, 0, by simp, by rw [g0_7, ← p3, List.take_of_length_le (by omega)]⟩
theorem repeat_w (x : Int) (c : Nat) (hn : c ≤ 1000000) : FunRowW Try.prog 65 [.ro [(AV.int IntKind.i64) x], (AV.int IntKind.i64) c] 3 1 (List.replicate c ((AV.int IntKind.i64) x)) :=
 fun H args' hf => ACalls.freshW (repeat0 x c hn) (pu_cons (pu_ints [x]) (pu_cons (pu_int _ _) pu_nil)) (fun y hy => by rw [List.eq_of_mem_replicate hy]; simp only [AV.cells, List.mem_singleton, forall_eq]; exact .int _ _)
  (fun r H' ⟨id, g, h1, h2⟩ => ⟨id, g, h1, h2⟩) hf
def ofFn (ss : List (List Int)) (node least : Int) : AV := .fn 64 [.rop [encS ss], .rop [(AV.int IntKind.i64) node], .rop [(AV.int IntKind.i64) least]]
theorem pu_ofFn (ss : List (List Int)) (node least : Int) : Pu (ofFn ss node least) :=
 .fn (pu_cons (.rop (pu_cons (pu_encS ss) pu_nil)) (pu_cons (.rop (pu_cons (pu_int _ _) pu_nil)) (pu_cons (.rop (pu_cons (pu_int _ _) pu_nil)) pu_nil)))
set_option maxHeartbeats 1000000 in
theorem of0 (ss : List (List Int)) (node least : Int) : ACalls Try.prog 42 [encS ss, (AV.int IntKind.i64) node, (AV.int IntKind.i64) least] AHeap.nil (fun r H => Frz H r (ofFn ss node least)) := by
 refine acalls_body TT_ok Try.func42 rfl rfl (by simp [Try.ntmps42]) ?_;rw [Try.ntmps42];obtain ⟨σ, hσ⟩ : ∃ σ, σ = st0 [encS ss, (AV.int IntKind.i64) node, (AV.int IntKind.i64) least] := ⟨_, rfl⟩;rw [← hσ];obtain ⟨h0_0, h1_0, h2_0⟩ := fs3 hσ 0 1 2;simp [st0] at h0_0 h1_0 h2_0;clear hσ;obtain ⟨H, hH⟩ : ∃ H, H = AHeap.nil := ⟨_, rfl⟩;rw [← hH];have hn_0 : H.n = 0 := by rw [hH]; rfl
 have hst_0 : H.st = 1 := by rw [hH]; rfl
 clear hH;refine stp_reg TT_ok (by rfl) fun K hK => ?_;simp [h0_0, h1_0, h2_0, hn_0, hst_0, encS];(try refine And.intro (by first|omega|rfl) ?_);refine hK _ _ fun σ1 hσ H1 hH => ?_;clear hK K;obtain ⟨h3_1, h4_1, h5_1⟩ := fs3 hσ 3 4 5;simp [] at h3_1 h4_1 h5_1;clear hσ;have g0_1 := gt_of hH 0;have g1_1 := gt_of hH 1;have g2_1 := gt_of hH 2;simp [hn_0, hst_0] at g0_1 g1_1 g2_1;have hn_1 := congrArg AHeap.n hH;simp [hn_0, hst_0] at hn_1;have hst_1 := congrArg AHeap.st hH;simp [hn_0, hst_0] at hst_1;clear hH;refine stp_reg TT_ok (by rfl) fun K hK => ?_;simp [h3_1, h4_1, h5_1, g0_1, g1_1, g2_1, encS];(try refine And.intro (by first|omega|rfl) ?_);refine hK _ _ fun σ2 hσ H2 hH => ?_;clear hK K;have h6_2 := congrFun hσ 6;simp [] at h6_2;clear hσ;replace hH : H1 = H2 := Eq.symm hH;subst hH;refine awp_ret ?_;refine q_fin1 h6_2 ?_;exact frz_fn (FrzL.cons (frz_box g0_1 (FrzL.cons (.pure (pu_encS ss)) (FrzL.nil _)) (by simp [encS, AV.one])) (FrzL.cons (frz_box g1_1 (FrzL.cons (.pure (pu_int _ _)) (FrzL.nil _)) (by simp [AV.one])) (FrzL.cons (frz_box g2_1 (FrzL.cons (.pure (pu_int _ _)) (FrzL.nil _)) (by simp [AV.one])) (FrzL.nil _))))
theorem of_ok (ss : List (List Int)) (node least : Int) : Fun1 Try.prog 42 [encS ss, (AV.int IntKind.i64) node, (AV.int IntKind.i64) least] (ofFn ss node least) :=
 fun1_frz (of0 ss node least) (pu_cons (pu_encS _) (pu_cons (pu_int _ _) (pu_cons (pu_int _ _) pu_nil))) (pu_ofFn _ _ _)
def geL (least : Int) (l : List Int) : List Int := l.filter fun x => decide (least ≤ x)
theorem geL_snoc {least : Int} {l : List Int} {i : Nat} (h : i < l.length) : geL least (l.take (i + 1)) = geL least (l.take i) ++ if least ≤ l[i] then [l[i]] else [] := by
 rw [List.take_succ_eq_append_getElem h];simp only [geL, List.filter_append]
 congr 1
 by_cases hk : least ≤ l[i] <;> simp [hk]
theorem geL_split {least : Int} {l : List Int} {i : Nat} (h : i < l.length) (hk : least ≤ l[i]) : ∃ post, geL least l = geL least (l.take i) ++ l[i] :: post := by
 refine ⟨geL least (l.drop (i + 1)), ?_⟩
 conv => lhs; rw [← List.take_append_drop i l, List.drop_eq_getElem_cons h]
 simp only [geL, List.filter_append, List.filter_cons, hk, decide_true, if_true]
set_option maxHeartbeats 1000000 in
theorem of1 (ss : List (List Int)) (node least : Int) (l : List Int) (h0 : 0 ≤ node) (hl : ss[node.toNat]? = some l) (hll : l.length ≤ 1000000) (id : Nat) (Inv : List Int → AHeap → Prop) (Fin : AHeap → Prop) (H0 : AHeap) (hi : Inv [] H0)
  (hround : ∀ (pre : List Int) (x : Int) (H : AHeap), (∃ post, geL least l = pre ++ x :: post) → Inv pre H → AYield Try.prog id [(AV.int IntKind.i64) x] H (fun r H' => ∃ b, r = .bool b ∧ (b = true → Inv (pre ++ [x]) H') ∧ (b = false → Fin H')))
  (hend : ∀ H, Inv (geL least l) H → Fin H) : ACalls Try.prog 64 [.yl id, .rop [encS ss], .rop [(AV.int IntKind.i64) node], .rop [(AV.int IntKind.i64) least]] H0 (fun _ H' => Fin H') := by
 have hnl : node.toNat < ss.length := (List.getElem?_eq_some_iff.1 hl).1;have hnl2 : node < ss.length := by omega
 have hge : (ss.map fun l => AV.ro (l.map (AV.int IntKind.i64)))[node.toNat]? = some (.ro (l.map (AV.int IntKind.i64))) := by rw [List.getElem?_map, hl]; rfl
 have hsg : ss[node.toNat] = l := (List.getElem?_eq_some_iff.1 hl).2;refine acalls_body TT_ok Try.func64 rfl rfl (by simp [Try.ntmps64]) ?_;rw [Try.ntmps64];obtain ⟨σ, hσ⟩ : ∃ σ, σ = st0 [.yl id, .rop [encS ss], .rop [(AV.int IntKind.i64) node], .rop [(AV.int IntKind.i64) least]] := ⟨_, rfl⟩;rw [← hσ];obtain ⟨h0_0, h1_0, h2_0, h3_0⟩ := fs4 hσ 0 1 2 3;simp [st0] at h0_0 h1_0 h2_0 h3_0;clear hσ;refine stp_reg TT_ok (by rfl) fun K hK => ?_;simp [h1_0, h2_0, encS, hge, h0, hnl2, hl, hnl, hsg];(try refine And.intro (by first|omega|rfl) ?_);refine hK _ _ fun σ1 hσ H1 hH => ?_;clear hK K;obtain ⟨h0_1, h3_1, h10_1, h11_1, h12_1⟩ := fs5 hσ 0 3 10 11 12;simp [h0_0, h3_0] at h0_1 h3_1 h10_1 h11_1 h12_1;clear hσ;replace hH : H0 = H1 := Eq.symm hH;subst hH;refine awp_block ?_;refine awp_loopV (fun n σ' H' => ∃ (i : Nat), n = l.length - i ∧ σ' 0 = σ1 0 ∧ σ' 3 = σ1 3 ∧ σ' 10 = σ1 10 ∧ σ' 11 = σ1 11 ∧ σ' 12 = (AV.int IntKind.i64) i ∧ (i ≤ l.length) ∧ (Inv (geL least (l.take i)) H')) ?_ ?_
 ·refine ⟨_, 0, rfl, rfl, rfl, rfl, rfl, (by simp [h12_1]), ?_, ?_⟩
  ·first | omega | (simp; done) | assumption
  ·exact hi
 ·rintro n1 σ2 H2 ⟨i, hn1, q0_2, q3_2, q10_2, q11_2, h12_2, p1, p2⟩
  have h0_2 := q0_2.trans h0_1;have h3_2 := q3_2.trans h3_1;have h10_2 := q10_2.trans h10_1;have h11_2 := q11_2.trans h11_1;refine stp_reg TT_ok (by rfl) fun K hK => ?_;simp [h11_2, h12_2];(try refine And.intro (by first|omega|rfl) ?_);refine hK _ _ fun σ3 hσ H3 hH => ?_;clear hK K;obtain ⟨h0_3, h3_3, h10_3, h11_3, h12_3, h13_3⟩ := fs6 hσ 0 3 10 11 12 13;simp [h0_2, h3_2, h10_2, h11_2, h12_2] at h0_3 h3_3 h10_3 h11_3 h12_3 h13_3;clear hσ;replace hH : H2 = H3 := Eq.symm hH;subst hH;refine awp_seq ?_;refine awp_cond _ (by simp only [aeval_tmp]; exact h13_3) (fun hc13 => ?_) (fun hc13 => ?_)
  ·(try simp at hc13);have hlt : i < l.length := by simpa using hc13
   refine awp_skip ?_;refine q_seq ?_;refine awp_seq ?_;refine awp_block ?_;refine stp_reg TT_ok (by rfl) fun K hK => ?_;simp [h10_3, h12_3, hlt];(try refine And.intro (by first|omega|rfl) ?_);refine hK _ _ fun σ4 hσ H4 hH => ?_;clear hK K;obtain ⟨h0_4, h3_4, h6_4, h10_4, h11_4, h12_4⟩ := fs6 hσ 0 3 6 10 11 12;simp [h0_3, h3_3, h10_3, h11_3, h12_3] at h0_4 h3_4 h6_4 h10_4 h11_4 h12_4;clear hσ;replace hH : H2 = H4 := Eq.symm hH;subst hH
   by_cases hs : least ≤ l[i]
   ·skip;have hFF0 := an4 h0_4 h3_4 h6_4 hs;refine stp_reg TT_ok (by rfl) fun K hK => ?_;simp [hFF0];(try refine And.intro (by first|omega|rfl) ?_);refine (hround _ _ _ (geL_split hlt hs) p2).mono ?_
    rintro r Hy ⟨b, rfl, hbt, hbf⟩
    simp [hFF0];(try refine And.intro (by first|omega|rfl) ?_);refine hK _ _ fun σ5 hσ H5 hH => ?_;clear hK K hFF0;obtain ⟨h0_5, h3_5, h10_5, h11_5, h12_5, h24_5⟩ := fs6 hσ 0 3 10 11 12 24;simp [h0_4, h3_4, h10_4, h11_4, h12_4] at h0_5 h3_5 h10_5 h11_5 h12_5 h24_5;clear hσ;subst hH;clear p2;refine awp_cond _ (by simp only [aeval_tmp]; exact h24_5) (fun hc24 => ?_) (fun hc24 => ?_)
    ·(try simp at hc24);refine awp_ret ?_;refine q_block_ret ?_;refine q_seq_ret ?_;refine q_loop_ret ?_;refine q_block_ret ?_;refine q_fin0r ?_;exact hbf (by simpa using hc24)
    ·(try simp at hc24);refine awp_skip ?_;refine q_block ?_;refine q_seq ?_;refine stp_regl TT_ok (by rfl) fun K hK => ?_;simp [h12_5, hs, wrap_ok (n := (i : Int) + 1) (by omega) (by omega)];(try refine And.intro (by first|omega|rfl) ?_);refine hK _ _ fun σ6 hσ H6 hH => ?_;clear hK K;obtain ⟨h0_6, h3_6, h10_6, h11_6, h12_6⟩ := fs5 hσ 0 3 10 11 12;simp [h0_5, h3_5, h10_5, h11_5] at h0_6 h3_6 h10_6 h11_6 h12_6;clear hσ;replace hH : H5 = H6 := Eq.symm hH;subst hH;refine ⟨_, ?_, i + 1, rfl, (h0_6.trans h0_1.symm), (h3_6.trans h3_1.symm), (h10_6.trans h10_1.symm), (h11_6.trans h11_1.symm), (by simp [h12_6]), ?_, ?_⟩
     ·subst hn1; omega
     ·first | omega | assumption | (simp; done)
     ·rw [geL_snoc hlt, if_pos hs]; exact hbt (by simpa using hc24)
   ·skip;refine stp_reg TT_ok (by rfl) fun K hK => ?_;simp [h0_4, h3_4, h6_4, hs];(try refine And.intro (by first|omega|rfl) ?_);refine hK _ _ fun σ7 hσ H7 hH => ?_;clear hK K;obtain ⟨h0_7, h3_7, h10_7, h11_7, h12_7, h24_7⟩ := fs6 hσ 0 3 10 11 12 24;simp [h0_4, h3_4, h10_4, h11_4, h12_4] at h0_7 h3_7 h10_7 h11_7 h12_7 h24_7;clear hσ;replace hH : H2 = H7 := Eq.symm hH;subst hH;refine stp_false (by simp [aeval_tmp, h24_7, hs]) ?_;refine awp_skip ?_;refine q_block ?_;refine q_seq ?_;refine stp_regl TT_ok (by rfl) fun K hK => ?_;simp [h12_7, hs, wrap_ok (n := (i : Int) + 1) (by omega) (by omega)];(try refine And.intro (by first|omega|rfl) ?_);refine hK _ _ fun σ8 hσ H8 hH => ?_;clear hK K;obtain ⟨h0_8, h3_8, h10_8, h11_8, h12_8⟩ := fs5 hσ 0 3 10 11 12;simp [h0_7, h3_7, h10_7, h11_7] at h0_8 h3_8 h10_8 h11_8 h12_8;clear hσ;replace hH : H2 = H8 := Eq.symm hH;subst hH;refine ⟨_, ?_, i + 1, rfl, (h0_8.trans h0_1.symm), (h3_8.trans h3_1.symm), (h10_8.trans h10_1.symm), (h11_8.trans h11_1.symm), (by simp [h12_8]), ?_, ?_⟩
    ·subst hn1; omega
    ·first | omega | assumption | (simp; done)
    ·rw [geL_snoc hlt, if_neg hs, List.append_nil]; exact p2
  ·(try simp at hc13);refine awp_exit ?_;refine q_seq_exit ?_;refine q_loop_exit ?_;refine q_block_hit ?_;refine q_fin0 ?_;have : i = l.length := by have := hc13; omega
   subst this;rw [List.take_length] at p2;exact hend _ p2
def rbQ (id : Nat) (busy rdy : Blk) (J' : AHeap → Prop) (σ : St) (Q : APost) : APost
 | .normal, _, H3 => H3.get id = some busy ∧ ∀ H4, H4 = H3.put id rdy → J' H4
 | e, _, H3 => H3.get id = some busy ∧ ∀ b H4, H4 = H3.put id b → Q e σ H4
def raQ (nt id : Nat) (busy rdy : Blk) (body : Code) (J' : AHeap → Prop) (σ : St) (Q : APost) : APost := fun e σ1 H1 =>
 e = .normal ∧ H1.get id = some rdy ∧ ∀ H2, H2 = H1.put id busy → AWP Try.prog true nt body σ1 H2 (rbQ id busy rdy J' σ Q)
theorem q_ra {nt id : Nat} {busy rdy : Blk} {body : Code} {J' : AHeap → Prop} {σ σ1 : St} {Q : APost} {H1 : AHeap} (h1 : H1.get id = some rdy) (h2 : ∀ H2, H2 = H1.put id busy → AWP Try.prog true nt body σ1 H2 (rbQ id busy rdy J' σ Q)) :
  raQ nt id busy rdy body J' σ Q .normal σ1 H1 := ⟨rfl, h1, h2⟩
theorem q_rb {id : Nat} {busy rdy : Blk} {J' : AHeap → Prop} {σ σ1 : St} {Q : APost} {H3 : AHeap} (h1 : H3.get id = some busy) (h2 : ∀ H4, H4 = H3.put id rdy → J' H4) : rbQ id busy rdy J' σ Q .normal σ1 H3 := ⟨h1, h2⟩
theorem q_rb_exit {k id : Nat} {busy rdy : Blk} {J' : AHeap → Prop} {σ σ1 : St} {Q : APost} {H3 : AHeap} (h1 : H3.get id = some busy) (h2 : ∀ b H4, H4 = H3.put id b → Q (.exit k) σ H4) : rbQ id busy rdy J' σ Q (.exit k) σ1 H3 := ⟨h1, h2⟩
theorem put_put (H : AHeap) (id : Nat) (a b : Blk) : (H.put id a).put id b = H.put id b := by
 simp only [AHeap.put, AHeap.mk.injEq, true_and]
 funext i; by_cases h : i = id <;> simp [h]
theorem stp_rangeOf {nt : Nat} {σ : St} {H : AHeap} {Q : APost} {g : Operand} {p : Tmp} {assign body : Code} (id : Nat) (hid : H.n = id) {ss : List (List Int)} {node least : Int} {l : List Int} (hg : aeval σ g = ofFn ss node least) (hp : p < nt) (h0 : 0 ≤ node)
  (hl : ss[node.toNat]? = some l) (hll : l.length ≤ 1000000) (J : List Int → AHeap → Prop) (hi : ∀ b H', H' = H.alloc b → J [] H')
  (hround : ∀ (busy rdy : Blk) (pre : List Int) (x : Int) (H' : AHeap), (∃ post, geL least l = pre ++ x :: post) → J pre H' → H'.get id = some rdy → ∀ σ', σ' = σ.put (some p) ((AV.int IntKind.i64) x) →
   AWP Try.prog true nt assign σ' H' (raQ nt id busy rdy body (J (pre ++ [x])) σ Q))
  (hend : ∀ (rdy b : Blk) (H' : AHeap), J (geL least l) H' → H'.get id = some rdy → ∀ H4, H4 = H'.put id b → Q .normal σ H4) : AWP Try.prog false nt (.rangeFunc g #[p] assign body) σ H Q := by
 subst hid
 obtain ⟨rdy, hrdy⟩ : ∃ b, b = Blk.lp σ nt [p] assign body .ready none := ⟨_, rfl⟩
 obtain ⟨busy, hbusy⟩ : ∃ b, b = Blk.lp σ nt [p] assign body .busy none := ⟨_, rfl⟩
 refine awp_rangeFunc (f := 64) (caps := [.rop [encS ss], .rop [(AV.int IntKind.i64) node], .rop [(AV.int IntKind.i64) least]]) hg ?_
 refine of1 ss node least l h0 hl hll H.n (fun pre H' => J pre H' ∧ H'.get H.n = some rdy) (fun H' => ∃ st x, H'.get H.n = some (.lp σ nt [p] assign body st (AX.jump x)) ∧ st ≠ .busy ∧ Q x σ (H'.put H.n (.lp σ nt [p] assign body .exhausted (AX.jump x)))) _ ?_ ?_ ?_
 ·exact ⟨hi _ _ rfl, by rw [hrdy]; simp [AHeap.alloc]⟩
 ·rintro pre x H' hpost ⟨hJ, hr⟩
  refine ⟨σ, nt, [p], assign, body, by rw [hr, hrdy], rfl, by simp [hp], (hround busy rdy pre x H' hpost hJ hr _ rfl).mono ?_⟩
  rintro e σ1 H1 ⟨h1, h2, h3⟩
  refine ⟨h1, by rw [h2, hrdy], (h3 _ (by rw [hbusy])).mono ?_⟩
  intro e σ3 H3 h4
  unfold yldQ
  cases e with
  | normal =>
   refine ⟨by rw [h4.1, hbusy], true, rfl, fun _ => ⟨h4.2 _ (by rw [hrdy]; rfl), ?_⟩, fun h => (by cases h)⟩
   rw [hrdy]; simp [AHeap.put, AX.jump]
  | ret =>
   refine ⟨by rw [h4.1, hbusy], false, rfl, fun h => (by cases h), fun _ => ⟨.done, .ret, by simp [AHeap.put, AX.jump], by simp, ?_⟩⟩
   rw [put_put]; exact h4.2 _ _ rfl
  | exit k =>
   refine ⟨by rw [h4.1, hbusy], false, rfl, fun h => (by cases h), fun _ => ⟨.done, .exit k, by simp [AHeap.put, AX.jump], by simp, ?_⟩⟩
   rw [put_put]; exact h4.2 _ _ rfl
 ·rintro H' ⟨hJ, hr⟩
  exact ⟨.ready, .normal, by rw [hr, hrdy]; rfl, by simp, hend rdy _ H' hJ hr _ rfl⟩
theorem geL_zero {l : List Int} (h : ∀ x ∈ l, 0 ≤ x) : geL 0 l = l := by
 rw [geL, List.filter_eq_self]; intro x hx; simpa using h x hx
theorem succs_get {g : Gr} {a : Int} (h : inR g.nodes.length a) : g.succs[a.toNat]? = some (g.succ a.toNat) := by simp [Gr.succs, in_toNat h]
structure Bfs (g : Gr) (ok : Int → Prop) (to : Int) (n : Nat) (d q : List Int) (op : Int → Int → Prop) : Prop where
 len : d.length = g.nodes.length
 val : ∀ (v : Nat) (x : Int), d[v]? = some x → x = -1 ∨ ∃ k : Nat, x = k ∧ g.Far ok to k v
 disc : ∀ (v k : Nat), v < g.nodes.length → k ≤ n → g.Far ok to k v → d[v]? = some (k : Int)
 qd : ∃ q0 q1, q = q0 ++ q1 ∧ (∀ x ∈ q0, d[x.toNat]? = some (n : Int)) ∧ ∀ x ∈ q1, d[x.toNat]? = some ((n + 1 : Nat) : Int)
 qr : ∀ x ∈ q, inR g.nodes.length x
 exp : ∀ v w, (v, w) ∈ g.edges → ok v → (∃ k : Nat, d[w.toNat]? = some (k : Int)) → w ∉ q → ¬ op v w → ∃ k : Nat, d[v.toNat]? = some (k : Int)
theorem toNat_cast {n : Nat} {x : Int} (h : inR n x) : (x.toNat : Int) = x := Int.toNat_of_nonneg h.1
theorem start_get {n : Nat} {to : Int} (ht : inR n to) (v : Nat) : ((List.replicate n (-1 : Int)).set to.toNat 0)[v]? = if v < n then (if to.toNat = v then some 0 else some (-1)) else none := by
 rw [List.getElem?_set]
 have := in_toNat ht
 by_cases hv : v < n
 ·by_cases he : to.toNat = v
  ·subst he; simp [hv]
  ·simp [hv, he, List.getElem?_replicate]
 ·rw [if_neg (by omega), if_neg hv, List.getElem?_replicate, if_neg hv]
theorem Bfs.start {g : Gr} (hv : g.valid = true) {ok : Int → Prop} {to : Int} (ht : inR g.nodes.length to) : Bfs g ok to 0 ((List.replicate g.nodes.length (-1)).set to.toNat 0) [to] (fun _ _ => False) := by
 have hd := start_get ht
 refine ⟨by simp, fun v x hx => ?_, fun v k hv hk hf => ?_, ⟨[to], [], rfl, fun x hx => ?_, by simp⟩, by simp [ht], fun v w he hok hw hq => ?_⟩
 ·rw [hd] at hx
  split at hx
  ·split at hx
   ·rename_i h; cases hx; right; exact ⟨0, rfl, by rw [← h, toNat_cast ht]; exact g.far_to _ _⟩
   ·cases hx; exact .inl rfl
  ·cases hx
 ·have : k = 0 := by omega
  subst this
  have e := hf.zero
  rw [hd, if_pos hv, if_pos (by rw [← e]; simp)]; rfl
 ·simp at hx; subst hx; rw [hd, if_pos (in_toNat ht), if_pos rfl]; rfl
 ·obtain ⟨k, hk⟩ := hw
  rw [hd] at hk
  have hw : inR g.nodes.length w := (valid_edge hv he).2
  split at hk
  ·split at hk
   ·rename_i h1 h2
    simp at hq
    exfalso
    refine hq ?_
    rw [← toNat_cast hw, ← toNat_cast ht, h2]
   ·have hk' := Option.some.inj hk; omega
  ·cases hk
theorem Bfs.pop {g : Gr} (hv : g.valid = true) {ok : Int → Prop} {to : Int} {n : Nat} {d q : List Int} {c : Int} (h : Bfs g ok to n d (c :: q) (fun _ _ => False)) :
  ∃ n', Bfs g ok to n' d q (fun v w => w = c ∧ v ∉ ([] : List Int)) ∧ d[c.toNat]? = some ((n' : Nat) : Int) := by
 obtain ⟨q0, q1, hq, h0, h1⟩ := h.qd
 have hexp : ∀ v w, (v, w) ∈ g.edges → ok v → (∃ k : Nat, d[w.toNat]? = some (k : Int)) → w ∉ q → ¬ (w = c ∧ v ∉ ([] : List Int)) → ∃ k : Nat, d[v.toNat]? = some (k : Int) := by
  intro v w he hok hw hwq hop
  refine h.exp v w he hok hw ?_ (fun h => h)
  simp only [List.mem_cons, not_or]
  exact ⟨fun e => hop ⟨e, by simp⟩, hwq⟩
 cases q0 with
 | cons a q0 =>
  simp only [List.cons_append, List.cons.injEq] at hq
  obtain ⟨rfl, rfl⟩ := hq
  exact ⟨n, ⟨h.len, h.val, h.disc, ⟨q0, q1, rfl, fun x hx => h0 x (by simp [hx]), h1⟩, fun x hx => h.qr x (by simp [hx]), hexp⟩, h0 c (by simp)⟩
 | nil =>
  simp only [List.nil_append] at hq
  subst hq
  refine ⟨n + 1, ⟨h.len, h.val, fun v k hvl hk hf => ?_, ⟨q, [], by simp, fun x hx => h1 x (by simp [hx]), by simp⟩, fun x hx => h.qr x (by simp [hx]), hexp⟩, h1 c (by simp)⟩
  rcases Nat.lt_or_ge k (n + 1) with hkn | hkn
  ·exact h.disc v k hvl (by omega) hf
  ·have : k = n + 1 := by omega
   subst this
   obtain ⟨w, he, hok, hfw⟩ := hf.pred
   have hwr := (valid_edge hv he).2
   have hw := h.disc w.toNat n (in_toNat hwr) (Nat.le_refl _) (by rw [toNat_cast hwr]; exact hfw)
   obtain ⟨j, hj⟩ := h.exp v w he hok ⟨n, hw⟩ (fun hin => by
    have := h1 w hin; rw [hw] at this; simp at this; omega) (fun h => h)
   simp only [Int.toNat_natCast] at hj
   rw [hj]
   rcases h.val v _ hj with q | ⟨j', q, hj'⟩
   ·omega
   ·have : j' = n + 1 := hj'.uniq hf
    subst this; rw [q]
theorem Bfs.skip {g : Gr} {ok : Int → Prop} {to : Int} {n : Nat} {d q pre : List Int} {c x : Int} (h : Bfs g ok to n d q (fun v w => w = c ∧ v ∉ pre)) (hx : inR g.nodes.length x) {y : Int} (hy : d[x.toNat]? = some y) (h0 : 0 ≤ y) :
  Bfs g ok to n d q (fun v w => w = c ∧ v ∉ pre ++ [x]) := by
 refine ⟨h.len, h.val, h.disc, h.qd, h.qr, fun v w he hok hw hwq hop => ?_⟩
 by_cases hvx : v = x
 ·subst hvx; exact ⟨y.toNat, by rw [hy, Int.toNat_of_nonneg h0]⟩
 ·refine h.exp v w he hok hw hwq fun hh => hop ⟨hh.1, fun hin => ?_⟩
  rcases List.mem_append.1 hin with h1 | h1
  ·exact hh.2 h1
  ·simp at h1; exact hvx h1
theorem Bfs.push {g : Gr} (hv : g.valid = true) {ok : Int → Prop} {to : Int} {n : Nat} {d q pre : List Int} {c x : Int} (h : Bfs g ok to n d q (fun v w => w = c ∧ v ∉ pre)) (hc : inR g.nodes.length c) (hdc : d[c.toNat]? = some (n : Int)) (hx : inR g.nodes.length x) (he : (x, c) ∈ g.edges) (hok : ok x) {y : Int} (hy : d[x.toNat]? = some y) (h0 : y < 0) :
  Bfs g ok to n (d.set x.toNat ((n + 1 : Nat) : Int)) (q ++ [x]) (fun v w => w = c ∧ v ∉ pre ++ [x]) ∧ d[x.toNat]? = some (-1) := by
 have hxl := in_toNat hx
 have hxd : x.toNat < d.length := by rw [h.len]; exact hxl
 have hm1 : y = -1 := by
  rcases h.val _ _ hy with q | ⟨k, q, _⟩
  ·exact q
  ·omega
 have hfc : g.Far ok to n c := by
  rcases h.val _ _ hdc with q | ⟨k, q, hk⟩
  ·omega
  ·rw [toNat_cast hc] at hk
   have : k = n := by omega
   subst this; exact hk
 have hfx : g.Far ok to (n + 1) x := by
  refine ⟨.cons he hok hfc.1, fun j hj hw => ?_⟩
  obtain ⟨i, hi, hf⟩ := hw.far
  have := h.disc x.toNat i hxl (by omega) (by rw [toNat_cast hx]; exact hf)
  rw [hy] at this; simp at this; omega
 have hset : ∀ v : Nat, (d.set x.toNat ((n + 1 : Nat) : Int))[v]? = if x.toNat = v then some ((n + 1 : Nat) : Int) else d[v]? := by
  intro v; rw [List.getElem?_set]
  by_cases e : x.toNat = v
  ·subst e; simp [hxd]
  ·simp [e]
 have hne : ∀ (z : Int) (k : Nat), d[z.toNat]? = some (k : Int) → (d.set x.toNat ((n + 1 : Nat) : Int))[z.toNat]? = some (k : Int) := by
  intro z k hz
  rw [hset, if_neg (fun e => by rw [e] at hy; rw [hy] at hz; simp at hz; omega)]; exact hz
 refine ⟨⟨by simpa using h.len, fun v z hz => ?_, fun v k hvl hk hf => ?_, ?_, fun z hz => ?_, fun v w hew hokv hw hwq hop => ?_⟩, by rw [hy, hm1]⟩
 ·rw [hset] at hz
  split at hz
  ·rename_i e; cases hz; right; exact ⟨n + 1, rfl, by rw [← e, toNat_cast hx]; exact hfx⟩
  ·exact h.val v z hz
 ·have hd := h.disc v k hvl hk hf
  rw [hset, if_neg (fun e => by rw [← e, hy] at hd; simp at hd; omega)]; exact hd
 ·obtain ⟨q0, q1, rfl, a0, a1⟩ := h.qd
  refine ⟨q0, q1 ++ [x], by simp, fun z hz => hne z n (a0 z hz), fun z hz => ?_⟩
  rcases List.mem_append.1 hz with hz | hz
  ·exact hne z (n + 1) (a1 z hz)
  ·simp at hz; subst hz; rw [hset, if_pos rfl]
 ·rcases List.mem_append.1 hz with hz | hz
  ·exact h.qr z hz
  ·simp at hz; subst hz; exact hx
 ·simp only [List.mem_append, List.mem_singleton, not_or] at hwq
  by_cases hvx : v.toNat = x.toNat
  ·exact ⟨n + 1, by rw [hset, if_pos hvx.symm]⟩
  ·rw [hset, if_neg (Ne.symm hvx)]
   refine h.exp v w hew hokv ?_ hwq.1 fun hh => hop ⟨hh.1, fun hin => ?_⟩
   ·obtain ⟨k, hk⟩ := hw
    have hwr : inR g.nodes.length w := (valid_edge hv hew).2
    rw [hset, if_neg (fun e => hwq.2 (by rw [← toNat_cast hwr, ← toNat_cast hx, e]))] at hk
    exact ⟨k, hk⟩
   ·rcases List.mem_append.1 hin with h1 | h1
    ·exact hh.2 h1
    ·simp at h1; exact hvx (by rw [h1])
theorem Bfs.close {g : Gr} {ok : Int → Prop} {to : Int} {n : Nat} {d q pre : List Int} {c : Int} (h : Bfs g ok to n d q (fun v w => w = c ∧ v ∉ pre)) (hall : ∀ v, (v, c) ∈ g.edges → ok v → v ∈ pre) :
  Bfs g ok to n d q (fun _ _ => False) :=
 ⟨h.len, h.val, h.disc, h.qd, h.qr, fun v w he hok hw hwq _ => h.exp v w he hok hw hwq fun hh => hh.2 (hall v (hh.1 ▸ he) hok)⟩
theorem Bfs.done {g : Gr} (hv : g.valid = true) {ok : Int → Prop} {to : Int} (ht : inR g.nodes.length to) {n : Nat} {d : List Int} (h : Bfs g ok to n d [] (fun _ _ => False)) : IsDist g ok to d := by
 have hto : ∃ k : Nat, d[to.toNat]? = some (k : Int) := ⟨0, h.disc to.toNat 0 (in_toNat ht) (Nat.zero_le _) (by rw [toNat_cast ht]; exact g.far_to _ _)⟩
 have hall : ∀ (k : Nat) (v : Int), g.Walk ok to k v → ∃ j : Nat, d[v.toNat]? = some (j : Int) := by
  intro k v hw
  induction hw with
  | nil => exact hto
  | cons he ha _ ih => exact h.exp _ _ he ha ih (by simp) (fun h => h)
 refine ⟨h.len, h.val, fun v k hvl hf => ?_⟩
 obtain ⟨j, hj⟩ := hall k v hf.1
 simp only [Int.toNat_natCast] at hj
 rcases h.val v _ hj with q | ⟨i, q, hi⟩
 ·omega
 ·rw [hj, q, hi.uniq hf]
theorem valid_mk {g : Gr} (h1 : g.nodes.length ≤ 1024) (h2 : g.edges.length ≤ 4096) (h3 : ∀ e ∈ g.edges, inR g.nodes.length e.1 ∧ inR g.nodes.length e.2) : g.valid = true := by
 simp only [Gr.valid, Bool.and_eq_true, decide_eq_true_eq, List.all_eq_true]
 exact ⟨⟨h1, h2⟩, fun e he => by obtain ⟨⟨a, b⟩, c, d⟩ := h3 e he; simp only [okE, decide_eq_true_eq]; exact ⟨a, b, c, d⟩⟩
theorem rev_valid {g : Gr} (hv : g.valid = true) : g.rev.valid = true := by
 obtain ⟨h1, h2⟩ := valid_nodes hv
 rw [rev_of hv]
 refine valid_mk h1 (by simpa using h2) fun e he => ?_
 obtain ⟨x, hx, rfl⟩ := List.mem_map.1 he
 exact ⟨(valid_edge hv hx).2, (valid_edge hv hx).1⟩
theorem rev_edge {g : Gr} (hv : g.valid = true) {a b : Int} : (a, b) ∈ g.rev.edges ↔ (b, a) ∈ g.edges := by
 rw [rev_of hv]
 simp only [List.mem_map, swapE]
 constructor
 ·rintro ⟨⟨x, y⟩, h, e⟩; cases e; exact h
 ·intro h; exact ⟨(b, a), h, rfl⟩
theorem rev_nodes {g : Gr} (hv : g.valid = true) : g.rev.nodes = g.nodes := by rw [rev_of hv]
def Gr.sub (g : Gr) (i : Int) : Gr := ⟨g.nodes, g.edges.filter fun e => decide (i ≤ e.1) && decide (i ≤ e.2)⟩
theorem sub_edge {g : Gr} {i a b : Int} : (a, b) ∈ (g.sub i).edges ↔ (a, b) ∈ g.edges ∧ i ≤ a ∧ i ≤ b := by simp [Gr.sub]
theorem sub_valid {g : Gr} (hv : g.valid = true) (i : Int) : (g.sub i).valid = true := by
 obtain ⟨h1, h2⟩ := valid_nodes hv
 exact valid_mk h1 (Nat.le_trans (List.length_filter_le _ _) h2) fun e he => valid_edge hv (List.mem_filter.1 he).1
theorem walk_sub {g : Gr} {i to : Int} (hi : i ≤ to) {k : Nat} {v : Int} : (g.sub i).Walk (fun _ => True) to k v ↔ g.Walk (fun x => i ≤ x) to k v := by
 have hge : ∀ {k : Nat} {v : Int}, g.Walk (fun x => i ≤ x) to k v → i ≤ v := by
  intro k v h
  cases h with
  | nil => exact hi
  | cons _ ha _ => exact ha
 constructor
 ·intro h
  induction h with
  | nil => exact .nil
  | cons he _ _ ih => obtain ⟨h1, h2, _⟩ := sub_edge.1 he; exact .cons h1 h2 ih
 ·intro h
  induction h with
  | nil => exact .nil
  | cons he ha hw ih => exact .cons (sub_edge.2 ⟨he, ha, hge hw⟩) trivial ih
theorem dist_sub {g : Gr} (hv : g.valid = true) {i to : Int} (hi : i ≤ to) (ht : inR g.nodes.length to) : IsDist g (fun x => i ≤ x) to ((g.sub i).dist to) := by
 have h := dist_is (sub_valid hv i) (to := to) ht
 have hf : ∀ {k : Nat} {v : Int}, (g.sub i).Far (fun _ => True) to k v ↔ g.Far (fun x => i ≤ x) to k v := by
  intro k v
  simp only [Gr.Far, walk_sub hi]
 refine ⟨h.len, fun v x hx => ?_, fun v k hvl hk => h.all v k hvl (hf.2 hk)⟩
 rcases h.val v x hx with q | ⟨k, q, hk⟩
 ·exact .inl q
 ·exact .inr ⟨k, q, hf.1 hk⟩
theorem sub_zero {g : Gr} (hv : g.valid = true) : g.sub 0 = g := by
 cases g with
 | mk n e =>
  simp only [Gr.sub, Gr.mk.injEq, true_and, List.filter_eq_self]
  intro x hx
  have := valid_edge hv hx
  simp [this.1.1, this.2.1]
def Qu (es : List AV) (off : Nat) (q : List Int) : Prop := ∃ pre post, es = pre ++ q.map (AV.int IntKind.i64) ++ post ∧ pre.length = off
theorem Qu.head {es : List AV} {off : Nat} {c : Int} {q : List Int} (h : Qu es off (c :: q)) : es[off]? = some ((AV.int IntKind.i64) c) ∧ Qu es (off + 1) q := by
 obtain ⟨pre, post, rfl, rfl⟩ := h;exact ⟨by simp, pre ++ [(AV.int IntKind.i64) c], post, by simp, by simp⟩
theorem Qu.take {es : List AV} {off : Nat} {q : List Int} (h : Qu es off q) : (es.drop off).take q.length = q.map (AV.int IntKind.i64) ∧ off + q.length ≤ es.length := by
 obtain ⟨pre, post, rfl, rfl⟩ := h;refine ⟨?_, by simp⟩;rw [List.append_assoc, List.drop_left, List.take_left' (by simp)]
theorem Qu.new (q : List Int) : Qu (q.map (AV.int IntKind.i64)) 0 q := ⟨[], [], by simp, rfl⟩
theorem ge_of_post {least x : Int} {l pre post : List Int} (h : geL least l = pre ++ x :: post) : x ∈ l ∧ least ≤ x := by
 have : x ∈ geL least l := by rw [h]; simp
 simpa [geL] using this
theorem count_set_m1 {d : List Int} {k : Nat} (h : d[k]? = some (-1)) (x : Int) (hx : 0 ≤ x) : (d.set k x).count (-1) + 1 = d.count (-1) := by
 induction d generalizing k with
 | nil => simp at h
 | cons b d ih =>
  cases k with
  | zero =>
   simp at h; subst h;have : (x == -1) = false := by rw [beq_eq_false_iff_ne]; omega
   simp [List.count_cons, this]
  | succ k =>
   simp at h;have := ih h;simp only [List.set_cons_succ, List.count_cons]
   omega
set_option maxHeartbeats 1000000 in
theorem distances0 (g : Gr) (hv : g.valid = true) (to least : Int) (ht : inR g.nodes.length to) : ACalls Try.prog 46 [encS g.rev.succs, (AV.int IntKind.i64) to, (AV.int IntKind.i64) least] AHeap.nil (fun r H => ∃ d, IsDist g (fun x => least ≤ x) to d ∧ RowOut 3 1 (d.map (AV.int IntKind.i64)) r H) := by
 refine acalls_body TT_ok Try.func46 rfl rfl (by simp [Try.ntmps46]) ?_;rw [Try.ntmps46];obtain ⟨σ, hσ⟩ : ∃ σ, σ = st0 [encS g.rev.succs, (AV.int IntKind.i64) to, (AV.int IntKind.i64) least] := ⟨_, rfl⟩;rw [← hσ];obtain ⟨h0_0, h1_0, h2_0⟩ := fs3 hσ 0 1 2;simp [st0] at h0_0 h1_0 h2_0;clear hσ;obtain ⟨H, hH⟩ : ∃ H, H = AHeap.nil := ⟨_, rfl⟩;rw [← hH];have hn_0 : H.n = 0 := by rw [hH]; rfl
 have hst_0 : H.st = 1 := by rw [hH]; rfl
 clear hH;refine stp_reg TT_ok (by rfl) fun K hK => ?_;simp [];(try refine And.intro (by first|omega|rfl) ?_);refine hK _ _ fun σ1 hσ H1 hH => ?_;clear hK K;obtain ⟨h0_1, h1_1, h2_1⟩ := fs3 hσ 0 1 2;simp [h0_0, h1_0, h2_0] at h0_1 h1_1 h2_1;clear hσ;replace hH : H = H1 := Eq.symm hH;subst hH;obtain ⟨hn1, hn2⟩ := valid_nodes hv;obtain ⟨ht1, ht2⟩ := ht;have ht3 : to.toNat < g.nodes.length := by omega
 have hsl : g.rev.succs.length = g.nodes.length := by simp [Gr.succs, rev_nodes hv]
 have hFF0 := an3 h0_1 hn_0 hst_0;refine stp_reg TT_ok (by rfl) fun K hK => ?_;simp [hFF0, encS, hsl];(try refine And.intro (by first|omega|rfl) ?_);refine FunRowW.at (repeat_w (-1) g.nodes.length (by omega)) ?hf ?_
 case hf => exact FrzL.cons (frz_ints (xs := [-1]) (by simp [hFF0, encS, hsl]; rfl) rfl) (FrzL.cons (.pure (pu_int _ _)) (FrzL.nil _))
 simp [hFF0, encS, hsl];(try refine And.intro (by first|omega|rfl) ?_);refine hK _ _ fun σ2 hσ H2 hH => ?_;clear hK K hFF0;obtain ⟨h0_2, h1_2, h2_2, h7_2⟩ := fs4 hσ 0 1 2 7;simp [h0_1, h1_1, h2_1] at h0_2 h1_2 h2_2 h7_2;clear hσ;have g0_2 := gt_of hH 0;have g1_2 := gt_of hH 1;have g2_2 := gt_of hH 2;simp [hn_0, hst_0] at g0_2 g1_2 g2_2;have hn_2 := congrArg AHeap.n hH;simp [hn_0, hst_0] at hn_2;have hst_2 := congrArg AHeap.st hH;simp [hn_0, hst_0] at hst_2;clear hH;refine stp_reg TT_ok (by rfl) fun K hK => ?_;simp [h1_2, h7_2, g0_2, g1_2, g2_2, ht1, ht2, ht3];(try refine And.intro (by first|omega|rfl) ?_);refine hK _ _ fun σ3 hσ H3 hH => ?_;clear hK K;obtain ⟨h0_3, h1_3, h2_3, h7_3⟩ := fs4 hσ 0 1 2 7;simp [h0_2, h1_2, h2_2, h7_2] at h0_3 h1_3 h2_3 h7_3;clear hσ;have g0_3 := gt_of hH 0;have g1_3 := gt_of hH 1;have g2_3 := gt_of hH 2;simp [g0_2, g1_2, g2_2, hn_2, hst_2] at g0_3 g1_3 g2_3;have hn_3 : H3.n = _ := (congrArg AHeap.n hH).trans hn_2;have hst_3 : H3.st = _ := (congrArg AHeap.st hH).trans hst_2;clear hH;refine stp_reg TT_ok (by rfl) fun K hK => ?_;simp [h1_3, g0_3, g1_3, g2_3, hn_3, hst_3];(try refine And.intro (by first|omega|rfl) ?_);refine hK _ _ fun σ4 hσ H4 hH => ?_;clear hK K;obtain ⟨h0_4, h2_4, h7_4, h8_4⟩ := fs4 hσ 0 2 7 8;simp [h0_3, h2_3, h7_3] at h0_4 h2_4 h7_4 h8_4;clear hσ;have g0_4 := gt_of hH 0;have g1_4 := gt_of hH 1;have g2_4 := gt_of hH 2;have g3_4 := gt_of hH 3;have g4_4 := gt_of hH 4;simp [g0_3, g1_3, g2_3, hn_3, hst_3] at g0_4 g1_4 g2_4 g3_4 g4_4
 have hn_4 := congrArg AHeap.n hH;simp [hn_3, hst_3] at hn_4;have hst_4 := congrArg AHeap.st hH;simp [hn_3, hst_3] at hst_4;clear hH;refine awp_seq ?_;refine awp_block ?_;refine awp_loopV (fun n σ' H' => ∃ (d : List Int) (q : List Int) (off : Nat) (gq : Nat) (es : List AV) (k : Nat), n = 2 * d.count (-1) + q.length ∧ σ' 0 = σ4 0 ∧ σ' 2 = σ4 2 ∧ σ' 7 = σ4 7 ∧ σ' 8 = σ4 8 ∧ H'.get 1 = some (.row 3 1 0 (d.map (AV.int IntKind.i64))) ∧ H'.get 2 = H4.get 2 ∧ H'.get 3 = some (.row 3 1 gq es) ∧ H'.get 4 = some (.row 26 1 0 [.sl 3 gq off q.length]) ∧ H'.st = H4.st ∧ (Bfs g (fun x => least ≤ x) to k d q (fun _ _ => False)) ∧ (Qu es off q) ∧ (2 * d.count (-1) + q.length ≤ 2 * g.nodes.length)) ?_ ?_
 ·refine ⟨_, (List.replicate g.nodes.length (-1)).set to.toNat 0, [to], 0, 0, [(AV.int IntKind.i64) to], 0, rfl, rfl, rfl, rfl, rfl, (by simp [g1_4]), rfl, (by simp [g3_4]), (by simp [g4_4]), rfl, ?_, ?_, ?_⟩
  ·exact Bfs.start hv ⟨ht1, ht2⟩
  ·exact Qu.new [to]
  ·have := count_set_m1 (d := List.replicate g.nodes.length (-1)) (k := to.toNat) (by rw [List.getElem?_replicate, if_pos ht3]) 0 (by omega);rw [List.count_replicate_self] at this; simp; omega
 ·rintro n1 σ5 H5 ⟨d, q, off, gq, es, k, hn1, q0_5, q2_5, q7_5, q8_5, g1_5, qg2_5, g3_5, g4_5, qst_5, p1, p2, p3⟩
  have h0_5 := q0_5.trans h0_4;have h2_5 := q2_5.trans h2_4;have h7_5 := q7_5.trans h7_4;have h8_5 := q8_5.trans h8_4;have g2_5 := qg2_5.trans g2_4;have hst_5 := qst_5.trans hst_4;refine awp_seq ?_;refine stp_reg TT_ok (by rfl) fun K hK => ?_;simp [h8_5, g1_5, g2_5, g3_5, g4_5];(try refine And.intro (by first|omega|rfl) ?_);refine hK _ _ fun σ6 hσ H6 hH => ?_;clear hK K;obtain ⟨h0_6, h2_6, h7_6, h8_6, h22_6⟩ := fs5 hσ 0 2 7 8 22;simp [h0_5, h2_5, h7_5, h8_5] at h0_6 h2_6 h7_6 h8_6 h22_6;clear hσ;replace hH : H5 = H6 := Eq.symm hH;subst hH;refine awp_cond _ (by simp only [aeval_tmp]; exact h22_6) (fun hc22 => ?_) (fun hc22 => ?_)
  ·(try simp at hc22)
   obtain ⟨c, q, rfl⟩ : ∃ c q', q = c :: q' := by
    cases q with
    | nil => simp at hc22
    | cons c q => exact ⟨c, q, rfl⟩
   obtain ⟨hes, hqu⟩ := p2.head;obtain ⟨c1, c2⟩ := p1.qr c (by simp);obtain ⟨k2, hb, hdc⟩ := p1.pop hv;have hqt := p2.take.2;rw [List.length_cons] at hqt p3;refine awp_skip ?_;refine q_seq ?_;refine awp_block ?_;refine awp_ok fun hok => ?_;obtain ⟨m7, hn_m7⟩ : ∃ m, H5.n = m := ⟨_, rfl⟩;have hf_m7_0 := hok.free 0;simp [hn_m7, hst_5] at hf_m7_0;have nx1 := ne_get hf_m7_0 g1_5;have nx2 := ne_get hf_m7_0 g2_5;have nx3 := ne_get hf_m7_0 g3_5;have nx4 := ne_get hf_m7_0 g4_5;refine stp_reg TT_ok (by rfl) fun K hK => ?_;simp [h8_6, g1_5, g2_5, g3_5, g4_5, hn_m7, hst_5, nx1, nx2, nx3, nx4, hes];(try refine And.intro (by first|omega|rfl) ?_);refine hK _ _ fun σ8 hσ H8 hH => ?_;clear hK K;obtain ⟨h0_8, h2_8, h7_8, h8_8, h9_8⟩ := fs5 hσ 0 2 7 8 9;simp [h0_6, h2_6, h7_6, h8_6] at h0_8 h2_8 h7_8 h8_8 h9_8;clear hσ;have g1_8 := gt_of hH 1;have g2_8 := gt_of hH 2;have g3_8 := gt_of hH 3;have g4_8 := gt_of hH 4;have gm7_8 := gt_of hH m7;simp [g1_5, g2_5, g3_5, g4_5, hn_m7, hst_5, nx1, nx2, nx3, nx4] at g1_8 g2_8 g3_8 g4_8 gm7_8;have hst_8 := congrArg AHeap.st hH;simp [hst_5] at hst_8;clear hH;refine stp_reg TT_ok (by rfl) fun K hK => ?_;simp [h8_8, g1_8, g2_8, g3_8, g4_8, gm7_8, nx1, nx2, nx3, nx4];(try refine And.intro (by first|omega|rfl) ?_);refine hK _ _ fun σ9 hσ H9 hH => ?_;clear hK K;obtain ⟨h0_9, h2_9, h7_9, h8_9, h9_9⟩ := fs5 hσ 0 2 7 8 9;simp [h0_8, h2_8, h7_8, h8_8, h9_8] at h0_9 h2_9 h7_9 h8_9 h9_9;clear hσ;have g1_9 := gt_of hH 1;have g2_9 := gt_of hH 2;have g3_9 := gt_of hH 3
   have g4_9 := gt_of hH 4;have gm7_9 := gt_of hH m7;simp [g1_8, g2_8, g3_8, g4_8, gm7_8, hst_8, nx1, nx2, nx3, nx4] at g1_9 g2_9 g3_9 g4_9 gm7_9;have hst_9 := congrArg AHeap.st hH;simp [hst_8] at hst_9;clear hH;have hFF0 := an12 h0_9 h2_9 h9_9 g1_9 g2_9 g3_9 g4_9 gm7_9 nx1 nx2 nx3 nx4;refine stp_reg TT_ok (by rfl) fun K hK => ?_;simp [hFF0];(try refine And.intro (by first|omega|rfl) ?_);refine stp_call (of_ok g.rev.succs c least) ?_;simp [hFF0];(try refine And.intro (by first|omega|rfl) ?_);refine hK _ _ fun σ10 hσ H10 hH => ?_;clear hK K hFF0;obtain ⟨h0_10, h2_10, h7_10, h8_10, h9_10, h31_10⟩ := fs6 hσ 0 2 7 8 9 31;simp [h0_9, h2_9, h7_9, h8_9, h9_9] at h0_10 h2_10 h7_10 h8_10 h9_10 h31_10;clear hσ;replace hH : H9 = H10 := Eq.symm hH;subst hH;refine awp_block ?_;refine awp_ok fun hok11 => ?_;obtain ⟨k11, hn_k11⟩ : ∃ m, H9.n = m := ⟨_, rfl⟩;have hf_k11 := hok11.now;rw [hn_k11] at hf_k11;have nx5 := ne_get hf_k11 g1_9;have nx6 := ne_get hf_k11 g2_9;have nx7 := ne_get hf_k11 g3_9;have nx8 := ne_get hf_k11 g4_9;have nx9 := ne_get hf_k11 gm7_9
   refine stp_rangeOf k11 hn_k11 (by rw [aeval_tmp]; exact h31_10) (by decide) c1 (succs_get (g := g.rev) (by rw [rev_nodes hv]; exact ⟨c1, c2⟩)) (Nat.le_trans (succ_len _ _) (by rw [rev_nodes hv]; omega)) (fun pre H' => ∃ (d2 : List Int) (q2 : List Int) (off2 : Nat) (gq2 : Nat) (es2 : List AV), H'.get 1 = some (.row 3 1 0 (d2.map (AV.int IntKind.i64))) ∧ H'.get 2 = H9.get 2 ∧ H'.get 3 = some (.row 3 1 gq2 es2) ∧ H'.get 4 = some (.row 26 1 0 [.sl 3 gq2 off2 q2.length]) ∧ H'.get m7 = H9.get m7 ∧ H'.st = H9.st ∧ (Bfs g (fun x => least ≤ x) to k2 d2 q2 (fun v w => w = c ∧ v ∉ pre)) ∧ (Qu es2 off2 q2) ∧ (2 * d2.count (-1) + q2.length ≤ 2 * d.count (-1) + q.length) ∧ (d2[c.toNat]? = some (k2 : Int))) ?_ ?_ ?_
   ·intro b11 H11 hH;have hkeep : ∀ j, H9.get j ≠ none → H11.get j = H9.get j := fun j hj => by rw [hH, alloc_get, if_neg (fun e => hj (by rw [e]; exact hok11.now))]
    refine ⟨d, q, off + 1, gq, es, (by rw [hH]; simp [g1_9, g2_9, g3_9, g4_9, gm7_9, hn_k11, hst_9, nx1, nx2, nx3, nx4, nx5, nx6, nx7, nx8, nx9]), (by rw [hH]; simp [g1_9, g2_9, g3_9, g4_9, gm7_9, hn_k11, hst_9, nx1, nx2, nx3, nx4, nx5, nx6, nx7, nx8, nx9]), (by rw [hH]; simp [g1_9, g2_9, g3_9, g4_9, gm7_9, hn_k11, hst_9, nx1, nx2, nx3, nx4, nx5, nx6, nx7, nx8, nx9]), (by rw [hH]; simp [g1_9, g2_9, g3_9, g4_9, gm7_9, hn_k11, hst_9, nx1, nx2, nx3, nx4, nx5, nx6, nx7, nx8, nx9]), (by rw [hH]; simp [g1_9, g2_9, g3_9, g4_9, gm7_9, hn_k11, hst_9, nx1, nx2, nx3, nx4, nx5, nx6, nx7, nx8, nx9]), (by rw [hH]; rfl), ?_, ?_, ?_, ?_⟩
    ·exact hb
    ·exact hqu
    ·first | omega | (simp; done) | assumption
    ·exact hdc
   ·rintro busy rdy pre x H11 ⟨post, hpost⟩ ⟨d2, q2, off2, gq2, es2, g1_11, qg2_11, g3_11, g4_11, qgm7_11, qst_11, r1, r2, r3, r4⟩ hrdy_11 σ11 hσ
    have g2_11 := qg2_11.trans g2_9;have gm7_11 := qgm7_11.trans gm7_9;have hst_11 := qst_11.trans hst_9;have h7_11 := congrFun hσ 7;simp [h7_10] at h7_11;have h8_11 := congrFun hσ 8;simp [h8_10] at h8_11;have h9_11 := congrFun hσ 9;simp [h9_10] at h9_11;have h32_11 := congrFun hσ 32;simp [] at h32_11;clear hσ;obtain ⟨hxs, hxl⟩ := ge_of_post hpost;have hxe : (x, c) ∈ g.edges := by rw [succ_mem (rev_valid hv), toNat_cast ⟨c1, c2⟩, rev_edge hv] at hxs; exact hxs
    obtain ⟨⟨x1, x2⟩, _⟩ := valid_edge hv hxe;simp only at x1 x2;have hd2l := r1.len;have x3 : x.toNat < d2.length := by omega
    have x4 : x.toNat < g.nodes.length := by omega
    have c3 : c.toNat < d2.length := by omega
    have c4 : c.toNat < g.nodes.length := by omega
    obtain ⟨_, hdc2⟩ := List.getElem?_eq_some_iff.1 r4;have hdx : d2[x.toNat]? = some d2[x.toNat] := List.getElem?_eq_getElem x3
    have hk2 : (k2 : Int) < g.nodes.length := by
     rcases r1.val _ _ r4 with h | ⟨j, h, hj⟩
     ·omega
     ·have := hj.lt hv ⟨by omega, by rw [toNat_cast ⟨c1, c2⟩]; exact c2⟩
      omega
    obtain ⟨hqt1, hqt2⟩ := r2.take
    have hql : q2.length ≤ 3000 := by
     omega
    refine stp_regl TT_ok (by rfl) fun K hK => ?_;simp [h32_11, g1_11, g2_11, g3_11, g4_11, gm7_11, hrdy_11, nx1, nx2, nx3, nx4, nx5, nx6, nx7, nx8, nx9];(try refine And.intro (by first|omega|rfl) ?_);refine hK _ _ fun σ12 hσ H12 hH => ?_;clear hK K;obtain ⟨h7_12, h8_12, h9_12, h10_12⟩ := fs4 hσ 7 8 9 10;simp [h7_11, h8_11, h9_11] at h7_12 h8_12 h9_12 h10_12;clear hσ;replace hH : H11 = H12 := Eq.symm hH;subst hH;refine q_ra hrdy_11 fun H13 hH => ?_;have hkeep : ∀ j, j ≠ k11 → H13.get j = H11.get j := fun j hj => by rw [hH, put_getH, if_neg hj]
    have g1_14 := gt_of hH 1;have g2_14 := gt_of hH 2;have g3_14 := gt_of hH 3;have g4_14 := gt_of hH 4;have gm7_14 := gt_of hH m7;have gk11_14 := gt_of hH k11;simp [g1_11, g2_11, g3_11, g4_11, gm7_11, hrdy_11, hst_11, nx1, nx2, nx3, nx4, nx5, nx6, nx7, nx8, nx9] at g1_14 g2_14 g3_14 g4_14 gm7_14 gk11_14;have hst_14 : H13.st = _ := (congrArg AHeap.st hH).trans hst_11;have hka := hkeep;clear hkeep hH;refine awp_block ?_;refine stp_reg TT_ok (by rfl) fun K hK => ?_;simp [h7_12, h10_12, g1_14, g2_14, g3_14, g4_14, gm7_14, gk11_14, nx1, nx2, nx3, nx4, nx5, nx6, nx7, nx8, nx9, x1, x2, x3, x4, hd2l];(try refine And.intro (by first|omega|rfl) ?_);refine hK _ _ fun σ15 hσ H15 hH => ?_;clear hK K;obtain ⟨h7_15, h8_15, h9_15, h10_15, h37_15⟩ := fs5 hσ 7 8 9 10 37;simp [h7_12, h8_12, h9_12, h10_12] at h7_15 h8_15 h9_15 h10_15 h37_15;clear hσ;replace hH : H13 = H15 := Eq.symm hH;subst hH;refine awp_cond _ (by simp only [aeval_tmp]; exact h37_15) (fun hc37 => ?_) (fun hc37 => ?_)
    ·(try simp at hc37);refine stp_lex false TT_ok mixed (by rfl) (by rfl) (by kernel_rfl) (by rfl) fun U hU K hK => ?_;simp [h7_15, h9_15, h10_15, g1_14, g2_14, g3_14, g4_14, gm7_14, gk11_14, nx1, nx2, nx3, nx4, nx5, nx6, nx7, nx8, nx9, x1, x2, x3, x4, hd2l, c1, c2, c3, c4, hdc2, wrap_ok (n := (k2 : Int) + 1) (by omega) (by omega)];(try refine And.intro (by first|omega|rfl) ?_);refine hK _ _ _ (by rw [hU.trans (by kernel_rfl : _ = [(0, 1), (0, 2), (1, 2), (0, 3), (1, 3), (2, 3), (0, 4), (1, 4), (0, 5), (1, 5), (0, 6), (1, 6)])]; simp [logOk, ftFree, h7_15, h9_15, h10_15, g1_14, g2_14, g3_14, g4_14, gm7_14, gk11_14, nx1, nx2, nx3, nx4, nx5, nx6, nx7, nx8, nx9, x1, x2, x3, x4, hd2l, c1, c2, c3, c4, hdc2, wrap_ok (n := (k2 : Int) + 1) (by omega) (by omega)]) fun σ16 hσ H16 hH => ?_;clear hK K hU U;obtain ⟨h8_16, h10_16⟩ := fs2 hσ 8 10;simp [h8_15, h10_15] at h8_16 h10_16;clear hσ;have g1_16 := gt_of hH 1;have g2_16 := gt_of hH 2;have g3_16 := gt_of hH 3;have g4_16 := gt_of hH 4;have gm7_16 := gt_of hH m7;have gk11_16 := gt_of hH k11;simp [g1_14, g2_14, g3_14, g4_14, gm7_14, gk11_14, hst_14, nx1, nx2, nx3, nx4, nx5, nx6, nx7, nx8, nx9] at g1_16 g2_16 g3_16 g4_16 gm7_16 gk11_16;have hst_16 := congrArg AHeap.st hH;simp [hst_14] at hst_16;clear hH;refine awp_ok fun hok => ?_;obtain ⟨m17, hn_m17⟩ : ∃ m, H16.n = m := ⟨_, rfl⟩;have hf_m17_0 := hok.free 0;simp [hn_m17, hst_16] at hf_m17_0;have nx10 := ne_get hf_m17_0 g1_16;have nx11 := ne_get hf_m17_0 g2_16
     have nx12 := ne_get hf_m17_0 g3_16;have nx13 := ne_get hf_m17_0 g4_16;have nx14 := ne_get hf_m17_0 gm7_16;have nx15 := ne_get hf_m17_0 gk11_16;refine stp_regl TT_ok (by rfl) fun K hK => ?_;simp [h8_16, h10_16, g1_16, g2_16, g3_16, g4_16, gm7_16, gk11_16, hn_m17, hst_16, nx1, nx2, nx3, nx4, nx5, nx6, nx7, nx8, nx9, nx10, nx11, nx12, nx13, nx14, nx15, hqt1, hqt2, show q2.length ≤ 9223372036854775806 by omega, show (q2.length + 1) * 8 ≤ 140737488355328 by omega];(try refine And.intro (by first|omega|rfl) ?_);refine hK _ _ fun σ18 hσ H18 hH => ?_;clear hK K;clear hσ;have g1_18 := gt_of hH 1;have g2_18 := gt_of hH 2;have g3_18 := gt_of hH 3;have g4_18 := gt_of hH 4;have gm7_18 := gt_of hH m7;have gk11_18 := gt_of hH k11;have gm17_18 := gt_of hH m17;simp [g1_16, g2_16, g3_16, g4_16, gm7_16, gk11_16, hn_m17, hst_16, nx1, nx2, nx3, nx4, nx5, nx6, nx7, nx8, nx9, nx10, nx11, nx12, nx13, nx14, nx15] at g1_18 g2_18 g3_18 g4_18 gm7_18 gk11_18 gm17_18;have hst_18 := congrArg AHeap.st hH;simp [hst_16] at hst_18;clear hH;refine q_block ?_;refine q_rb gk11_18 fun H19 hH => ?_;have hkeep : ∀ j, j ≠ k11 → H19.get j = H18.get j := fun j hj => by rw [hH, put_getH, if_neg hj]
     obtain ⟨hpu, hm1⟩ := r1.push hv ⟨c1, c2⟩ r4 ⟨x1, x2⟩ hxe hxl hdx (by simpa using hc37);have hcnt := count_set_m1 hm1 ((k2 + 1 : Nat) : Int) (by omega);have hcx : x.toNat ≠ c.toNat := fun e => by rw [e, r4] at hm1; simp at hm1
     refine ⟨d2.set x.toNat ((k2 + 1 : Nat) : Int), q2 ++ [x], 0, gq2 + 1, (q2 ++ [x]).map (AV.int IntKind.i64), (by rw [hH]; simp [g1_18, g2_18, g3_18, g4_18, gm7_18, gk11_18, gm17_18, hst_18, nx1, nx2, nx3, nx4, nx5, nx6, nx7, nx8, nx9, nx10, nx11, nx12, nx13, nx14, nx15]), (by rw [hH]; simp [g1_18, g2_18, g3_18, g4_18, gm7_18, gk11_18, gm17_18, hst_18, nx1, nx2, nx3, nx4, nx5, nx6, nx7, nx8, nx9, nx10, nx11, nx12, nx13, nx14, nx15, g2_9]), (by rw [hH]; simp [g1_18, g2_18, g3_18, g4_18, gm7_18, gk11_18, gm17_18, hst_18, nx1, nx2, nx3, nx4, nx5, nx6, nx7, nx8, nx9, nx10, nx11, nx12, nx13, nx14, nx15]), (by rw [hH]; simp [g1_18, g2_18, g3_18, g4_18, gm7_18, gk11_18, gm17_18, hst_18, nx1, nx2, nx3, nx4, nx5, nx6, nx7, nx8, nx9, nx10, nx11, nx12, nx13, nx14, nx15]), (by rw [hH]; simp [g1_18, g2_18, g3_18, g4_18, gm7_18, gk11_18, gm17_18, hst_18, nx1, nx2, nx3, nx4, nx5, nx6, nx7, nx8, nx9, nx10, nx11, nx12, nx13, nx14, nx15, gm7_9]), ((congrArg AHeap.st hH).trans (hst_18.trans hst_9.symm)), ?_, ?_, ?_, ?_⟩
     ·exact hpu
     ·exact Qu.new _
     ·rw [List.length_append, List.length_singleton]; omega
     ·rw [List.getElem?_set, if_neg hcx]; exact r4
    ·(try simp at hc37);refine awp_skip ?_;refine q_block ?_;refine q_rb gk11_14 fun H20 hH => ?_;have hkeep : ∀ j, j ≠ k11 → H20.get j = H13.get j := fun j hj => by rw [hH, put_getH, if_neg hj]
     refine ⟨d2, q2, off2, gq2, es2, (by rw [hH]; simp [g1_14, g2_14, g3_14, g4_14, gm7_14, gk11_14, hst_14, nx1, nx2, nx3, nx4, nx5, nx6, nx7, nx8, nx9]), (by rw [hH]; simp [g1_14, g2_14, g3_14, g4_14, gm7_14, gk11_14, hst_14, nx1, nx2, nx3, nx4, nx5, nx6, nx7, nx8, nx9, g2_9]), (by rw [hH]; simp [g1_14, g2_14, g3_14, g4_14, gm7_14, gk11_14, hst_14, nx1, nx2, nx3, nx4, nx5, nx6, nx7, nx8, nx9]), (by rw [hH]; simp [g1_14, g2_14, g3_14, g4_14, gm7_14, gk11_14, hst_14, nx1, nx2, nx3, nx4, nx5, nx6, nx7, nx8, nx9]), (by rw [hH]; simp [g1_14, g2_14, g3_14, g4_14, gm7_14, gk11_14, hst_14, nx1, nx2, nx3, nx4, nx5, nx6, nx7, nx8, nx9, gm7_9]), ((congrArg AHeap.st hH).trans (hst_14.trans hst_9.symm)), ?_, ?_, ?_, ?_⟩
     ·exact r1.skip ⟨x1, x2⟩ hdx (by simpa using hc37)
     ·exact r2
     ·exact r3
     ·exact r4
   ·rintro rdy b11 H11 ⟨d2, q2, off2, gq2, es2, g1_11, qg2_11, g3_11, g4_11, qgm7_11, qst_11, r1, r2, r3, r4⟩ hrdy_11 Hd11 hH
    have g2_11 := qg2_11.trans g2_9;have gm7_11 := qgm7_11.trans gm7_9;have hst_11 := qst_11.trans hst_9;have hkeep : ∀ j, j ≠ k11 → Hd11.get j = H11.get j := fun j hj => by rw [hH, put_getH, if_neg hj]
    have g1_21 := gt_of hH 1;have g2_21 := gt_of hH 2;have g3_21 := gt_of hH 3;have g4_21 := gt_of hH 4;have gm7_21 := gt_of hH m7;simp [g1_11, g2_11, g3_11, g4_11, gm7_11, hst_11, nx1, nx2, nx3, nx4, nx5, nx6, nx7, nx8, nx9] at g1_21 g2_21 g3_21 g4_21 gm7_21;have hst_21 : Hd11.st = _ := (congrArg AHeap.st hH).trans hst_11;clear hH;refine q_block ?_;refine q_block ?_;refine ⟨_, ?_, d2, q2, off2, gq2, es2, k2, rfl, (h0_10.trans h0_4.symm), (h2_10.trans h2_4.symm), (h7_10.trans h7_4.symm), (h8_10.trans h8_4.symm), (by simp [g1_21]), (g2_21.trans g2_4.symm), (by simp [g3_21]), (by simp [g4_21]), (hst_21.trans hst_4.symm), ?_, ?_, ?_⟩
    ·subst hn1; simp; omega
    ·refine r1.close fun v hve hok => ?_;rw [geL, List.mem_filter, succ_mem (rev_valid hv), toNat_cast ⟨c1, c2⟩, rev_edge hv];exact ⟨hve, by simpa using hok⟩
    ·exact r2
    ·first | omega | assumption | (simp; done)
  ·(try simp at hc22);refine awp_exit ?_;refine q_seq_exit ?_;refine q_loop_exit ?_;refine q_block_hit ?_;refine q_seq ?_;refine stp_reg TT_ok (by rfl) fun K hK => ?_;simp [h7_6, g1_5, g2_5, g3_5, g4_5];(try refine And.intro (by first|omega|rfl) ?_);refine hK _ _ fun σ22 hσ H22 hH => ?_;clear hK K;have h6_22 := congrFun hσ 6;simp [] at h6_22;clear hσ;replace hH : H5 = H22 := Eq.symm hH;subst hH;refine awp_ret ?_;obtain rfl : q = [] := by simpa using hc22
   refine q_fin1 h6_22 ?_;exact ⟨d, p1.done hv ⟨ht1, ht2⟩, 1, 0, by simp [p1.len], g1_5⟩
theorem distances_ok (g : Gr) (hv : g.valid = true) (to least : Int) (ht : inR g.nodes.length to) (hle : least ≤ to) : Fun1 Try.prog 46 [encS g.rev.succs, (AV.int IntKind.i64) to, (AV.int IntKind.i64) least] (.ro (((g.sub least).dist to).map (AV.int IntKind.i64))) := by
 have h : ACalls Try.prog 46 [encS g.rev.succs, (AV.int IntKind.i64) to, (AV.int IntKind.i64) least] AHeap.nil (RowOut 3 1 (((g.sub least).dist to).map (AV.int IntKind.i64))) := (distances0 g hv to least ht).mono fun r H ⟨d, hd, hr⟩ => by
  rw [← hd.uniq (dist_sub hv hle ht)]; exact hr
 exact fun1_row h (pu_cons (pu_encS _) (pu_cons (pu_int _ _) (pu_cons (pu_int _ _) pu_nil))) (fun _ => pu_of_ints) (fun _ => one_ints)
theorem onward_iff {g : Gr} {ok : Int → Prop} {to : Int} {d : List Int} (hd : IsDist g ok to d) {k : Nat} {a : Int} (ha : inR g.nodes.length a) (hf : g.Far ok to (k + 1) a) (i : Nat) : g.onward d a i = true ↔ d[i]?.getD 0 = (k : Int) ∧ (a, (i : Int)) ∈ g.edges := by
 have h2 := hd.all a.toNat (k + 1) (in_toNat ha) (by rw [toNat_cast ha]; exact hf)
 simp only [Gr.onward, Bool.and_eq_true, decide_eq_true_eq, hasEdge_iff, List.getD_eq_getElem?_getD, h2, Option.getD_some]
 constructor
 ·rintro ⟨q1, q2⟩; exact ⟨by omega, q2⟩
 ·rintro ⟨q1, q2⟩; exact ⟨by omega, q2⟩
theorem next_far' {g : Gr} (hv : g.valid = true) {ok : Int → Prop} {to : Int} {d : List Int} (hd : IsDist g ok to d) {k : Nat} {a : Int} (ha : inR g.nodes.length a) (hf : g.Far ok to (k + 1) a) :
  ∃ i : Nat, g.next d a = i ∧ i < g.nodes.length ∧ g.onward d a i = true ∧ (a, (i : Int)) ∈ g.edges ∧ g.Far ok to k i := by
 obtain ⟨w, he, _, hw⟩ := hf.pred
 have hwr : inR g.nodes.length w := (valid_edge hv he).2
 have h1 := hd.all w.toNat k (in_toNat hwr) (by rw [toNat_cast hwr]; exact hw)
 obtain ⟨i, q1, q2, q3, q4⟩ := nextFrom_some (g := g) (d := d) (a := a) (m := g.nodes.length) (j := 0) ⟨w.toNat, Nat.zero_le _, by have := in_toNat hwr; omega, (onward_iff hd ha hf _).2 ⟨by rw [h1]; rfl, by rw [toNat_cast hwr]; exact he⟩⟩
 obtain ⟨r1, r2⟩ := (onward_iff hd ha hf i).1 q4
 have hi : i < g.nodes.length := by omega
 refine ⟨i, q1, hi, q4, r2, ?_⟩
 have hi' : i < d.length := by rw [hd.len]; exact hi
 rw [List.getElem?_eq_getElem hi'] at r1
 simp only [Option.getD_some] at r1
 rcases hd.val i _ (List.getElem?_eq_getElem hi') with q | ⟨j, q, hj⟩
 ·omega
 ·have : j = k := by omega
  subst this; exact hj
theorem nextFrom_least {g : Gr} {d : List Int} {a : Int} : ∀ {m j x : Nat}, j ≤ x → x < j + m → g.onward d a x = true → (∀ i, j ≤ i → i < x → g.onward d a i = false) → g.nextFrom d a m j = (x : Int)
 | 0, j, x, h1, h2, _, _ => by omega
 | m + 1, j, x, h1, h2, h3, h4 => by
  simp only [Gr.nextFrom]
  by_cases he : j = x
  ·subst he; rw [if_pos h3]
  ·rw [if_neg (by rw [h4 j (Nat.le_refl _) (by omega)]; simp)]
   exact nextFrom_least (by omega) (by omega) h3 fun i hi hx => h4 i (by omega) hx
theorem next_of_split {g : Gr} (hv : g.valid = true) {d : List Int} {a x : Int} (ha : 0 ≤ a) {pre post : List Int} (hs : g.succ a.toNat = pre ++ x :: post) (hpre : ∀ y ∈ pre, g.onward d a y.toNat = false) (hx : g.onward d a x.toNat = true) : g.next d a = x := by
 have hxm : x ∈ g.succ a.toNat := by rw [hs]; simp
 have hxe := (succ_mem hv).1 hxm
 rw [Int.toNat_of_nonneg ha] at hxe
 have hxr : inR g.nodes.length x := (valid_edge hv hxe).2
 rw [← toNat_cast hxr]
 refine nextFrom_least (Nat.zero_le _) (by have := in_toNat hxr; omega) hx fun i _ hi => ?_
 cases hon : g.onward d a i with
 | false => rfl
 | true =>
  have he : (a, (i : Int)) ∈ g.edges := by
   simp only [Gr.onward, Bool.and_eq_true] at hon
   exact hasEdge_iff.1 hon.2
  have him : (i : Int) ∈ g.succ a.toNat := (succ_mem hv).2 (by rw [Int.toNat_of_nonneg ha]; exact he)
  have hst := succ_strict g a.toNat
  rw [hs] at him hst
  rcases List.mem_append.1 him with h | h
  ·have := hpre _ h; simp only [Int.toNat_natCast] at this; rw [hon] at this; cases this
  ·rcases List.mem_cons.1 h with h | h
   ·have := toNat_cast hxr; omega
   ·have := (List.pairwise_cons.1 (List.pairwise_append.1 hst).2.1).1 _ h
    have := toNat_cast hxr; omega
theorem geL0_succ {g : Gr} (hv : g.valid = true) (i : Nat) : geL 0 (g.succ i) = g.succ i :=
 geL_zero fun x hx => ((valid_edge hv ((succ_mem hv).1 hx)).2).1
set_option maxHeartbeats 1000000 in
theorem descend0 (g : Gr) (hv : g.valid = true) (ok : Int → Prop) (to a : Int) (d : List Int) (hD : IsDist g ok to d) (K0 : Nat) (ha : inR g.nodes.length a) (hF0 : g.Far ok to K0 a) : ACalls Try.prog 47 [encS g.succs, (AV.int IntKind.i64) a, .ro (d.map (AV.int IntKind.i64))] AHeap.nil (RowOut 3 1 ((g.way d K0 a).map (AV.int IntKind.i64))) := by
 refine acalls_body TT_ok Try.func47 rfl rfl (by simp [Try.ntmps47]) ?_;rw [Try.ntmps47];obtain ⟨σ, hσ⟩ : ∃ σ, σ = st0 [encS g.succs, (AV.int IntKind.i64) a, .ro (d.map (AV.int IntKind.i64))] := ⟨_, rfl⟩;rw [← hσ];obtain ⟨h0_0, h1_0, h2_0⟩ := fs3 hσ 0 1 2;simp [st0] at h0_0 h1_0 h2_0;clear hσ;obtain ⟨H, hH⟩ : ∃ H, H = AHeap.nil := ⟨_, rfl⟩;rw [← hH];have hn_0 : H.n = 0 := by rw [hH]; rfl
 have hst_0 : H.st = 1 := by rw [hH]; rfl
 clear hH;obtain ⟨hn1, hn2⟩ := valid_nodes hv;have hdl := hD.len;have hK1 := hF0.lt hv ha;refine stp_reg TT_ok (by rfl) fun K hK => ?_;simp [h2_0, hn_0, hst_0];(try refine And.intro (by first|omega|rfl) ?_);refine hK _ _ fun σ1 hσ H1 hH => ?_;clear hK K;obtain ⟨h0_1, h1_1, h5_1⟩ := fs3 hσ 0 1 5;simp [h0_0, h1_0] at h0_1 h1_1 h5_1;clear hσ;have g0_1 := gt_of hH 0;simp [hn_0, hst_0] at g0_1;have hn_1 := congrArg AHeap.n hH;simp [hn_0, hst_0] at hn_1;have hst_1 := congrArg AHeap.st hH;simp [hn_0, hst_0] at hst_1;clear hH;refine stp_reg TT_ok (by rfl) fun K hK => ?_;simp [h1_1, g0_1, hn_1, hst_1];(try refine And.intro (by first|omega|rfl) ?_);refine hK _ _ fun σ2 hσ H2 hH => ?_;clear hK K;obtain ⟨h0_2, h1_2, h5_2, h7_2⟩ := fs4 hσ 0 1 5 7;simp [h0_1, h1_1, h5_1] at h0_2 h1_2 h5_2 h7_2;clear hσ;have g0_2 := gt_of hH 0;have g1_2 := gt_of hH 1;have g2_2 := gt_of hH 2;simp [g0_1, hn_1, hst_1] at g0_2 g1_2 g2_2;have hn_2 := congrArg AHeap.n hH;simp [hn_1, hst_1] at hn_2;have hst_2 := congrArg AHeap.st hH;simp [hn_1, hst_1] at hst_2;clear hH;refine awp_seq ?_;refine stp_reg TT_ok (by rfl) fun K hK => ?_;simp [h1_2, g0_2, g1_2, g2_2, hn_2, hst_2];(try refine And.intro (by first|omega|rfl) ?_);refine hK _ _ fun σ3 hσ H3 hH => ?_;clear hK K;obtain ⟨h0_3, h5_3, h7_3, h8_3⟩ := fs4 hσ 0 5 7 8;simp [h0_2, h5_2, h7_2] at h0_3 h5_3 h7_3 h8_3;clear hσ;have g0_3 := gt_of hH 0;have g1_3 := gt_of hH 1;have g2_3 := gt_of hH 2;have g3_3 := gt_of hH 3
 simp [g0_2, g1_2, g2_2, hn_2, hst_2] at g0_3 g1_3 g2_3 g3_3;have hn_3 := congrArg AHeap.n hH;simp [hn_2, hst_2] at hn_3;have hst_3 := congrArg AHeap.st hH;simp [hn_2, hst_2] at hst_3;clear hH;refine awp_block ?_;refine awp_loopV (fun n σ' H' => ∃ (k : Nat) (at_ : Int) (es : List Int) (gn : Nat) (id8 : Nat), n = k ∧ σ' 0 = σ3 0 ∧ σ' 5 = σ3 5 ∧ σ' 7 = σ3 7 ∧ σ' 8 = .ptr id8 0 0 0 ∧ H'.get 0 = H3.get 0 ∧ H'.get 1 = some (.row 3 1 gn (es.map (AV.int IntKind.i64))) ∧ H'.get 2 = some (.row 26 1 0 [.sl 1 gn 0 es.length]) ∧ H'.st = H3.st ∧ (inR g.nodes.length at_) ∧ (g.Far ok to k at_) ∧ (es ++ (g.way d k at_).tail = g.way d K0 a) ∧ (es.length + k ≤ 1024) ∧ (H'.get id8 = some (.row 3 1 0 [(AV.int IntKind.i64) at_])) ∧ (3 ≤ id8)) ?_ ?_
 ·refine ⟨_, K0, a, [a], 0, 3, rfl, rfl, rfl, rfl, (by simp [h8_3]), rfl, (by simp [g1_3]), (by simp [g2_3]), rfl, ?_, ?_, ?_, ?_, ?_, ?_⟩
  ·exact ha
  ·exact hF0
  ·cases K0 <;> simp [Gr.way]
  ·simp; omega
  ·exact g3_3
  ·first | omega | (simp; done) | assumption
 ·rintro n1 σ4 H4 ⟨k, at_, es, gn, id8, hn1, q0_4, q5_4, q7_4, h8_4, qg0_4, g1_4, g2_4, qst_4, p1, p2, p3, p4, p5, p6⟩
  have h0_4 := q0_4.trans h0_3;have h5_4 := q5_4.trans h5_3;have h7_4 := q7_4.trans h7_3;have g0_4 := qg0_4.trans g0_3;have hst_4 := qst_4.trans hst_3;have nx1 : ¬ id8 = 0 ∧ ¬ 0 = id8 := by omega
  have nx2 : ¬ id8 = 1 ∧ ¬ 1 = id8 := by omega
  have nx3 : ¬ id8 = 2 ∧ ¬ 2 = id8 := by omega
  have hat := hD.all at_.toNat k (in_toNat p1) (by rw [toNat_cast p1]; exact p2);obtain ⟨t1, t2⟩ := p1;have tl : at_.toNat < d.length := by omega
  have tl2 : at_.toNat < g.nodes.length := by omega
  obtain ⟨_, hat2⟩ := List.getElem?_eq_some_iff.1 hat;refine awp_seq ?_;refine stp_reg TT_ok (by rfl) fun K hK => ?_;simp [h5_4, h8_4, g0_4, g1_4, g2_4, p5, nx1, nx2, nx3, t1, t2, tl, tl2, hdl, hat2];(try refine And.intro (by first|omega|rfl) ?_);refine hK _ _ fun σ5 hσ H5 hH => ?_;clear hK K;obtain ⟨h0_5, h5_5, h7_5, h8_5, h17_5⟩ := fs5 hσ 0 5 7 8 17;simp [h0_4, h5_4, h7_4, h8_4] at h0_5 h5_5 h7_5 h8_5 h17_5;clear hσ;replace hH : H4 = H5 := Eq.symm hH;subst hH;refine awp_cond _ (by simp only [aeval_tmp]; exact h17_5) (fun hc17 => ?_) (fun hc17 => ?_)
  ·(try simp at hc17)
   obtain ⟨k2, rfl⟩ : ∃ k2, k = k2 + 1 := by
    cases k with
    | zero => simp at hc17
    | succ k => exact ⟨k, rfl⟩
   obtain ⟨nx, u1, u2, u3, u4, u5⟩ := next_far' hv hD ⟨t1, t2⟩ p2;refine awp_skip ?_;refine q_seq ?_;refine awp_seq ?_;refine awp_block ?_;have hFF0 := an9 h0_5 h8_5 g0_4 g1_4 g2_4 p5 nx1 nx2 nx3;refine stp_reg TT_ok (by rfl) fun K hK => ?_;simp [hFF0];(try refine And.intro (by first|omega|rfl) ?_);refine stp_call (of_ok g.succs at_ 0) ?_;simp [hFF0];(try refine And.intro (by first|omega|rfl) ?_);refine hK _ _ fun σ6 hσ H6 hH => ?_;clear hK K hFF0;obtain ⟨h0_6, h5_6, h7_6, h8_6, h20_6⟩ := fs5 hσ 0 5 7 8 20;simp [h0_5, h5_5, h7_5, h8_5] at h0_6 h5_6 h7_6 h8_6 h20_6;clear hσ;replace hH : H4 = H6 := Eq.symm hH;subst hH;refine awp_block ?_;refine awp_ok fun hok7 => ?_;obtain ⟨k7, hn_k7⟩ : ∃ m, H4.n = m := ⟨_, rfl⟩;have hf_k7 := hok7.now;rw [hn_k7] at hf_k7;have nx4 := ne_get hf_k7 g0_4;have nx5 := ne_get hf_k7 g1_4;have nx6 := ne_get hf_k7 g2_4;have nx7 := ne_get hf_k7 p5;refine stp_rangeOf k7 hn_k7 (by rw [aeval_tmp]; exact h20_6) (by decide) t1 (succs_get ⟨t1, t2⟩) (Nat.le_trans (succ_len _ _) (by omega)) (fun pre H' => H'.get 0 = H4.get 0 ∧ H'.get 1 = H4.get 1 ∧ H'.get 2 = H4.get 2 ∧ H'.get id8 = H4.get id8 ∧ H'.st = H4.st ∧ (∀ y ∈ pre, g.onward d at_ y.toNat = false)) ?_ ?_ ?_
   ·intro b7 H7 hH;have hkeep : ∀ j, H4.get j ≠ none → H7.get j = H4.get j := fun j hj => by rw [hH, alloc_get, if_neg (fun e => hj (by rw [e]; exact hok7.now))]
    refine ⟨(by rw [hH]; simp [g0_4, g1_4, g2_4, p5, hn_k7, hst_4, nx1, nx2, nx3, nx4, nx5, nx6, nx7]), (by rw [hH]; simp [g0_4, g1_4, g2_4, p5, hn_k7, hst_4, nx1, nx2, nx3, nx4, nx5, nx6, nx7]), (by rw [hH]; simp [g0_4, g1_4, g2_4, p5, hn_k7, hst_4, nx1, nx2, nx3, nx4, nx5, nx6, nx7]), (by rw [hH]; simp [g0_4, g1_4, g2_4, p5, hn_k7, hst_4, nx1, nx2, nx3, nx4, nx5, nx6, nx7]), (by rw [hH]; rfl), ?_⟩
    ·simp
   ·rintro busy rdy pre x H7 ⟨post, hpost⟩ ⟨qg0_7, qg1_7, qg2_7, qgid8_7, qst_7, r1⟩ hrdy_7 σ7 hσ
    have g0_7 := qg0_7.trans g0_4;have g1_7 := qg1_7.trans g1_4;have g2_7 := qg2_7.trans g2_4;have gid8_7 := qgid8_7.trans p5;have hst_7 := qst_7.trans hst_4;have h5_7 := congrFun hσ 5;simp [h5_6] at h5_7;have h7_7 := congrFun hσ 7;simp [h7_6] at h7_7;have h8_7 := congrFun hσ 8;simp [h8_6] at h8_7;have h21_7 := congrFun hσ 21;simp [] at h21_7;clear hσ;rw [geL0_succ hv] at hpost;have hxs : x ∈ g.succ at_.toNat := by rw [hpost]; simp
    have hxe : (at_, x) ∈ g.edges := by rw [succ_mem hv, toNat_cast ⟨t1, t2⟩] at hxs; exact hxs
    obtain ⟨x1, x2⟩ : inR g.nodes.length x := (valid_edge hv hxe).2;have x3 : x.toNat < d.length := by omega
    have x4 : x.toNat < g.nodes.length := by omega
    refine stp_regl TT_ok (by rfl) fun K hK => ?_;simp [h21_7, g0_7, g1_7, g2_7, gid8_7, hrdy_7, nx1, nx2, nx3, nx4, nx5, nx6, nx7];(try refine And.intro (by first|omega|rfl) ?_);refine hK _ _ fun σ8 hσ H8 hH => ?_;clear hK K;obtain ⟨h5_8, h7_8, h8_8, h9_8⟩ := fs4 hσ 5 7 8 9;simp [h5_7, h7_7, h8_7] at h5_8 h7_8 h8_8 h9_8;clear hσ;replace hH : H7 = H8 := Eq.symm hH;subst hH;refine q_ra hrdy_7 fun H9 hH => ?_;have hkeep : ∀ j, j ≠ k7 → H9.get j = H7.get j := fun j hj => by rw [hH, put_getH, if_neg hj]
    have g0_10 := gt_of hH 0;have g1_10 := gt_of hH 1;have g2_10 := gt_of hH 2;have gid8_10 := gt_of hH id8;have gk7_10 := gt_of hH k7;simp [g0_7, g1_7, g2_7, gid8_7, hrdy_7, hst_7, nx1, nx2, nx3, nx4, nx5, nx6, nx7] at g0_10 g1_10 g2_10 gid8_10 gk7_10;have hst_10 : H9.st = _ := (congrArg AHeap.st hH).trans hst_7;have hka := hkeep;clear hkeep hH;refine awp_block ?_
    by_cases hj : d[x.toNat] = (k2 : Int)
    ·skip;refine stp_lex false TT_ok mixed (by rfl) (by rfl) (by kernel_rfl) (by rfl) fun U hU K hK => ?_;simp [h5_8, h8_8, h9_8, g0_10, g1_10, g2_10, gid8_10, gk7_10, nx1, nx2, nx3, nx4, nx5, nx6, nx7, hj, beq_iff_eq.2 hj, x1, x2, x3, x4, t1, t2, tl, tl2, hdl, hat2, wrap_ok (n := (k2 : Int)) (by omega) (by omega)];(try refine And.intro (by first|omega|rfl) ?_);refine hK _ _ _ (by subst hU; kernel_rfl) fun σ11 hσ H11 hH => ?_;clear hK K hU U;obtain ⟨h7_11, h8_11, h9_11, h31_11⟩ := fs4 hσ 7 8 9 31;simp [h7_8, h8_8, h9_8] at h7_11 h8_11 h9_11 h31_11;clear hσ;replace hH : H9 = H11 := Eq.symm hH;subst hH;refine stp_true (by simp [aeval_tmp, h31_11, nx1, nx2, nx3, nx4, nx5, nx6, nx7, hj, beq_iff_eq.2 hj]) ?_;refine stp_reg TT_ok (by rfl) fun K hK => ?_;simp [h8_11, h9_11, g0_10, g1_10, g2_10, gid8_10, gk7_10, nx1, nx2, nx3, nx4, nx5, nx6, nx7, hj, beq_iff_eq.2 hj];(try refine And.intro (by first|omega|rfl) ?_);refine hK _ _ fun σ12 hσ H12 hH => ?_;clear hK K;obtain ⟨h7_12, h9_12⟩ := fs2 hσ 7 9;simp [h7_11, h9_11] at h7_12 h9_12;clear hσ;have g0_12 := gt_of hH 0;have g1_12 := gt_of hH 1;have g2_12 := gt_of hH 2;have gid8_12 := gt_of hH id8;have gk7_12 := gt_of hH k7;simp [g0_10, g1_10, g2_10, gid8_10, gk7_10, hst_10, nx1, nx2, nx3, nx4, nx5, nx6, nx7, hj, beq_iff_eq.2 hj] at g0_12 g1_12 g2_12 gid8_12 gk7_12;have hst_12 := congrArg AHeap.st hH;simp [hst_10] at hst_12;clear hH;refine awp_ok fun hok => ?_;obtain ⟨m13, hn_m13⟩ : ∃ m, H12.n = m := ⟨_, rfl⟩;have hf_m13_0 := hok.free 0
     simp [hn_m13, hst_12] at hf_m13_0;have nx8 := ne_get hf_m13_0 g0_12;have nx9 := ne_get hf_m13_0 g1_12;have nx10 := ne_get hf_m13_0 g2_12;have nx11 := ne_get hf_m13_0 gid8_12;have nx12 := ne_get hf_m13_0 gk7_12;refine stp_reg TT_ok (by rfl) fun K hK => ?_;simp [h7_12, h9_12, g0_12, g1_12, g2_12, gid8_12, gk7_12, hn_m13, hst_12, nx1, nx2, nx3, nx4, nx5, nx6, nx7, hj, beq_iff_eq.2 hj, nx8, nx9, nx10, nx11, nx12, take_map_len, show (es.length + 1) * 8 ≤ 140737488355328 by omega, show es.length ≤ 9223372036854775806 by omega];(try refine And.intro (by first|omega|rfl) ?_);refine hK _ _ fun σ14 hσ H14 hH => ?_;clear hK K;clear hσ;have g0_14 := gt_of hH 0;have g1_14 := gt_of hH 1;have g2_14 := gt_of hH 2;have gid8_14 := gt_of hH id8;have gk7_14 := gt_of hH k7;have gm13_14 := gt_of hH m13;simp [g0_12, g1_12, g2_12, gid8_12, gk7_12, hn_m13, hst_12, nx1, nx2, nx3, nx4, nx5, nx6, nx7, hj, beq_iff_eq.2 hj, nx8, nx9, nx10, nx11, nx12] at g0_14 g1_14 g2_14 gid8_14 gk7_14 gm13_14;have hst_14 := congrArg AHeap.st hH;simp [hst_12] at hst_14;clear hH;refine awp_exit ?_;refine q_block_miss rfl ?_;refine q_rb_exit gk7_14 fun b15 H15 hH => ?_;have hkeep : ∀ j, j ≠ k7 → H15.get j = H14.get j := fun j hj => by rw [hH, put_getH, if_neg hj]
     have g0_16 := gt_of hH 0;have g1_16 := gt_of hH 1;have g2_16 := gt_of hH 2;have gid8_16 := gt_of hH id8;have gm13_16 := gt_of hH m13;simp [g0_14, g1_14, g2_14, gid8_14, gk7_14, gm13_14, hst_14, nx1, nx2, nx3, nx4, nx5, nx6, nx7, hj, beq_iff_eq.2 hj, nx8, nx9, nx10, nx11, nx12] at g0_16 g1_16 g2_16 gid8_16 gm13_16;have hst_16 : H15.st = _ := (congrArg AHeap.st hH).trans hst_14;have hon : g.onward d at_ x.toNat = true := (onward_iff hD ⟨t1, t2⟩ p2 _).2 ⟨by rw [List.getElem?_eq_getElem x3, hj]; rfl, by rw [toNat_cast ⟨x1, x2⟩]; exact hxe⟩;have hnx := next_of_split hv t1 hpost r1 hon;have hnx2 : (nx : Int) = x := by rw [← u1, hnx]
     clear hH;refine q_block_hit ?_;refine q_block ?_;refine q_seq ?_;refine stp_reg TT_ok (by rfl) fun K hK => ?_;simp [h8_6, g0_16, g1_16, g2_16, gid8_16, gm13_16, nx1, nx2, nx3, nx4, nx5, nx6, nx7, hj, beq_iff_eq.2 hj, nx8, nx9, nx10, nx11, nx12];(try refine And.intro (by first|omega|rfl) ?_);refine hK _ _ fun σ17 hσ H17 hH => ?_;clear hK K;obtain ⟨h0_17, h5_17, h7_17, h37_17⟩ := fs4 hσ 0 5 7 37;simp [h0_6, h5_6, h7_6] at h0_17 h5_17 h7_17 h37_17;clear hσ;replace hH : H15 = H17 := Eq.symm hH;subst hH;refine awp_ok fun hok => ?_;obtain ⟨m18, hn_m18⟩ : ∃ m, H15.n = m := ⟨_, rfl⟩;have hf_m18_0 := hok.free 0;simp [hn_m18, hst_16] at hf_m18_0;have nx13 := ne_get hf_m18_0 g0_16;have nx14 := ne_get hf_m18_0 g1_16;have nx15 := ne_get hf_m18_0 g2_16;have nx16 := ne_get hf_m18_0 gid8_16;have nx17 := ne_get hf_m18_0 gm13_16;refine stp_regl TT_ok (by rfl) fun K hK => ?_;simp [h37_17, g0_16, g1_16, g2_16, gid8_16, gm13_16, hn_m18, hst_16, nx1, nx2, nx3, nx4, nx5, nx6, nx7, hj, beq_iff_eq.2 hj, nx8, nx9, nx10, nx11, nx12, nx13, nx14, nx15, nx16, nx17];(try refine And.intro (by first|omega|rfl) ?_);refine hK _ _ fun σ19 hσ H19 hH => ?_;clear hK K;obtain ⟨h0_19, h5_19, h7_19, h8_19⟩ := fs4 hσ 0 5 7 8;simp [h0_17, h5_17, h7_17] at h0_19 h5_19 h7_19 h8_19;clear hσ;have g0_19 := gt_of hH 0;have g1_19 := gt_of hH 1;have g2_19 := gt_of hH 2;have gid8_19 := gt_of hH id8;have gm13_19 := gt_of hH m13;have gm18_19 := gt_of hH m18
     simp [g0_16, g1_16, g2_16, gid8_16, gm13_16, hn_m18, hst_16, nx1, nx2, nx3, nx4, nx5, nx6, nx7, hj, beq_iff_eq.2 hj, nx8, nx9, nx10, nx11, nx12, nx13, nx14, nx15, nx16, nx17] at g0_19 g1_19 g2_19 gid8_19 gm13_19 gm18_19;have hst_19 := congrArg AHeap.st hH;simp [hst_16] at hst_19;clear hH;refine ⟨_, ?_, k2, x, es ++ [x], gn + 1, m18, rfl, (h0_19.trans h0_3.symm), (h5_19.trans h5_3.symm), (h7_19.trans h7_3.symm), (by simp [h8_19]), (g0_19.trans g0_3.symm), (by simp [g1_19]), (by simp [g2_19]), (hst_19.trans hst_3.symm), ?_, ?_, ?_, ?_, ?_, ?_⟩
     ·omega
     ·exact ⟨x1, x2⟩
     ·rw [← hnx2]; exact u5
     ·rw [← p3]; simp only [Gr.way, List.tail_cons, hnx]; rw [List.append_assoc, List.singleton_append, ← way_head]
     ·simp; omega
     ·exact gm18_19
     ·omega
    ·skip;refine stp_lex false TT_ok mixed (by rfl) (by rfl) (by kernel_rfl) (by rfl) fun U hU K hK => ?_;simp [h5_8, h8_8, h9_8, g0_10, g1_10, g2_10, gid8_10, gk7_10, nx1, nx2, nx3, nx4, nx5, nx6, nx7, hj, beq_eq_false_iff_ne.2 hj, x1, x2, x3, x4, t1, t2, tl, tl2, hdl, hat2, wrap_ok (n := (k2 : Int)) (by omega) (by omega)];(try refine And.intro (by first|omega|rfl) ?_);refine hK _ _ _ (by subst hU; kernel_rfl) fun σ20 hσ H20 hH => ?_;clear hK K hU U;obtain ⟨h7_20, h8_20, h9_20, h31_20⟩ := fs4 hσ 7 8 9 31;simp [h7_8, h8_8, h9_8] at h7_20 h8_20 h9_20 h31_20;clear hσ;replace hH : H9 = H20 := Eq.symm hH;subst hH;refine stp_false (by simp [aeval_tmp, h31_20, nx1, nx2, nx3, nx4, nx5, nx6, nx7, hj, beq_eq_false_iff_ne.2 hj]) ?_;refine awp_skip ?_;refine q_block ?_;refine q_rb gk7_10 fun H21 hH => ?_;have hkeep : ∀ j, j ≠ k7 → H21.get j = H9.get j := fun j hj => by rw [hH, put_getH, if_neg hj]
     refine ⟨(by rw [hH]; simp [g0_10, g1_10, g2_10, gid8_10, gk7_10, hst_10, nx1, nx2, nx3, nx4, nx5, nx6, nx7, hj, beq_eq_false_iff_ne.2 hj, g0_4]), (by rw [hH]; simp [g0_10, g1_10, g2_10, gid8_10, gk7_10, hst_10, nx1, nx2, nx3, nx4, nx5, nx6, nx7, hj, beq_eq_false_iff_ne.2 hj, g1_4]), (by rw [hH]; simp [g0_10, g1_10, g2_10, gid8_10, gk7_10, hst_10, nx1, nx2, nx3, nx4, nx5, nx6, nx7, hj, beq_eq_false_iff_ne.2 hj, g2_4]), (by rw [hH]; simp [g0_10, g1_10, g2_10, gid8_10, gk7_10, hst_10, nx1, nx2, nx3, nx4, nx5, nx6, nx7, hj, beq_eq_false_iff_ne.2 hj, p5]), ((congrArg AHeap.st hH).trans (hst_10.trans hst_4.symm)), ?_⟩
     ·intro y hy;rcases List.mem_append.1 hy with h | h
      ·exact r1 y h
      ·simp at h; subst h;rw [Bool.eq_false_iff]; intro h;have := ((onward_iff hD ⟨t1, t2⟩ p2 _).1 h).1;simp [x3] at this; exact hj this
   ·rintro rdy b7 H7 ⟨qg0_7, qg1_7, qg2_7, qgid8_7, qst_7, r1⟩ hrdy_7 Hd7 hH
    have g0_7 := qg0_7.trans g0_4;have g1_7 := qg1_7.trans g1_4;have g2_7 := qg2_7.trans g2_4;have gid8_7 := qgid8_7.trans p5;have hst_7 := qst_7.trans hst_4;have hkeep : ∀ j, j ≠ k7 → Hd7.get j = H7.get j := fun j hj => by rw [hH, put_getH, if_neg hj]
    have g0_22 := gt_of hH 0;have g1_22 := gt_of hH 1;have g2_22 := gt_of hH 2;have gid8_22 := gt_of hH id8;simp [g0_7, g1_7, g2_7, gid8_7, hst_7, nx1, nx2, nx3, nx4, nx5, nx6, nx7] at g0_22 g1_22 g2_22 gid8_22;have hst_22 : Hd7.st = _ := (congrArg AHeap.st hH).trans hst_7
    exfalso
    have := r1 nx (by rw [geL0_succ hv]; exact (succ_mem hv).2 (by rw [toNat_cast ⟨t1, t2⟩]; exact u4));simp only [Int.toNat_natCast] at this;rw [u3] at this; cases this
  ·(try simp at hc17);obtain rfl : k = 0 := by omega
   refine awp_exit ?_;refine q_seq_exit ?_;refine q_loop_exit ?_;refine q_block_hit ?_;refine q_seq ?_;refine stp_reg TT_ok (by rfl) fun K hK => ?_;simp [h7_5, g0_4, g1_4, g2_4, p5, nx1, nx2, nx3];(try refine And.intro (by first|omega|rfl) ?_);refine hK _ _ fun σ23 hσ H23 hH => ?_;clear hK K;have h6_23 := congrFun hσ 6;simp [] at h6_23;clear hσ;replace hH : H4 = H23 := Eq.symm hH;subst hH;refine awp_ret ?_;refine q_fin1 h6_23 ?_;have e : g.way d K0 a = es := by rw [← p3]; simp [Gr.way]
   exact ⟨1, gn, by rw [e]; simp, by rw [g1_4, e]⟩
theorem descend_ok (g : Gr) (hv : g.valid = true) (ok : Int → Prop) (to a : Int) (d : List Int) (hD : IsDist g ok to d) (K0 : Nat) (ha : inR g.nodes.length a) (hF0 : g.Far ok to K0 a) :
  Fun1 Try.prog 47 [encS g.succs, (AV.int IntKind.i64) a, .ro (d.map (AV.int IntKind.i64))] (.ro ((g.way d K0 a).map (AV.int IntKind.i64))) :=
 fun1_row (descend0 g hv ok to a d hD K0 ha hF0) (pu_cons (pu_encS _) (pu_cons (pu_int _ _) (pu_cons (pu_ints _) pu_nil))) (fun _ => pu_of_ints) (fun _ => one_ints)
set_option maxHeartbeats 1000000 in
theorem gpath0 (g : Gr) (a b : Int) : ACalls Try.prog 15 [encG g, (AV.int IntKind.i64) a, (AV.int IntKind.i64) b] AHeap.nil (fun r H => Frz H r (.ro ((g.path a b).map (AV.int IntKind.i64)))) := by
 refine acalls_body TT_ok Try.func15 rfl rfl (by simp [Try.ntmps15]) ?_;rw [Try.ntmps15];obtain ⟨σ, hσ⟩ : ∃ σ, σ = st0 [encG g, (AV.int IntKind.i64) a, (AV.int IntKind.i64) b] := ⟨_, rfl⟩;rw [← hσ];obtain ⟨h0_0, h1_0, h2_0⟩ := fs3 hσ 0 1 2;simp [st0] at h0_0 h1_0 h2_0;clear hσ;obtain ⟨H, hH⟩ : ∃ H, H = AHeap.nil := ⟨_, rfl⟩;rw [← hH];have hn_0 : H.n = 0 := by rw [hH]; rfl
 have hst_0 : H.st = 1 := by rw [hH]; rfl
 clear hH;refine stp_reg TT_ok (by rfl) fun K hK => ?_;simp [h0_0, hn_0, hst_0, encG];(try refine And.intro (by first|omega|rfl) ?_);refine hK _ _ fun σ1 hσ H1 hH => ?_;clear hK K;obtain ⟨h1_1, h2_1, h3_1⟩ := fs3 hσ 1 2 3;simp [h1_0, h2_0] at h1_1 h2_1 h3_1;clear hσ;have g0_1 := gt_of hH 0;simp [hn_0, hst_0] at g0_1;have hn_1 := congrArg AHeap.n hH;simp [hn_0, hst_0] at hn_1;have hst_1 := congrArg AHeap.st hH;simp [hn_0, hst_0] at hst_1;clear hH;refine awp_seq ?_;have hFF0 := an6 h1_1 h2_1 h3_1 g0_1 hn_1 hst_1;refine stp_reg TT_ok (by rfl) fun K hK => ?_;simp [hFF0, encG];(try refine And.intro (by first|omega|rfl) ?_);refine FunW.at (exist_w g [a, b] (by simp)) ?hf ?_
 case hf => exact FrzL.cons (.pure (pu_graph g)) (FrzL.cons (frz_ints (xs := [a, b]) (by simp [hFF0, encG]; rfl) rfl) (FrzL.nil _))
 simp [hFF0, encG];(try refine And.intro (by first|omega|rfl) ?_);refine hK _ _ fun σ2 hσ H2 hH => ?_;clear hK K hFF0;obtain ⟨h1_2, h2_2, h3_2, h13_2⟩ := fs4 hσ 1 2 3 13;simp [h1_1, h2_1, h3_1] at h1_2 h2_2 h3_2 h13_2;clear hσ;have g0_2 := gt_of hH 0;have g1_2 := gt_of hH 1;simp [g0_1, hn_1, hst_1] at g0_2 g1_2;have hn_2 := congrArg AHeap.n hH;simp [hn_1, hst_1] at hn_2;have hst_2 := congrArg AHeap.st hH;simp [hn_1, hst_1] at hst_2;clear hH;refine awp_cond _ (by simp only [aeval_tmp]; exact h13_2) (fun hc13 => ?_) (fun hc13 => ?_)
 ·(try simp at hc13);refine stp_reg TT_ok (by rfl) fun K hK => ?_;simp [g0_2, g1_2, encG];(try refine And.intro (by first|omega|rfl) ?_);refine hK _ _ fun σ3 hσ H3 hH => ?_;clear hK K;have h6_3 := congrFun hσ 6;simp [] at h6_3;clear hσ;replace hH : H2 = H3 := Eq.symm hH;subst hH;refine awp_ret ?_;refine q_seq_ret ?_;refine q_fin1 h6_3 ?_;rw [show g.path a b = [] by simp [Gr.path, hc13]]; exact .nils
 ·(try simp at hc13);obtain ⟨hin, hv⟩ := exist_iff.1 hc13;obtain ⟨a1, a2⟩ := hin a (by simp);obtain ⟨b1, b2⟩ := hin b (by simp);have hD := dist_is hv (to := b) ⟨b1, b2⟩;obtain ⟨d, hd⟩ : ∃ d, d = g.dist b := ⟨_, rfl⟩;rw [← hd] at hD;have hdl := hD.len;have hal : a.toNat < d.length := by omega
  have hal2 : a.toNat < g.nodes.length := by omega
  have hds : (g.sub 0).dist b = d := by rw [sub_zero hv, hd]
  refine awp_skip ?_;refine q_seq ?_;have hFF0 := an4 h2_2 h3_2 g0_2 g1_2;refine stp_reg TT_ok (by rfl) fun K hK => ?_;simp [hFF0, encG];(try refine And.intro (by first|omega|rfl) ?_);refine stp_call (reverse_ok g) ?_;simp [hFF0, encG];(try refine And.intro (by first|omega|rfl) ?_);refine stp_call (succs_ok g.rev (rev_valid hv)) ?_;simp [hFF0, encG];(try refine And.intro (by first|omega|rfl) ?_);refine stp_call (distances_ok g hv b 0 ⟨b1, b2⟩ b1) ?_;simp [hFF0, encG];(try refine And.intro (by first|omega|rfl) ?_);refine hK _ _ fun σ4 hσ H4 hH => ?_;clear hK K hFF0;obtain ⟨h1_4, h3_4, h7_4⟩ := fs3 hσ 1 3 7;simp [h1_2, h3_2] at h1_4 h3_4 h7_4;clear hσ;replace hH : H2 = H4 := Eq.symm hH;subst hH;(try rw [hds] at h7_4);refine awp_seq ?_;refine stp_reg TT_ok (by rfl) fun K hK => ?_;simp [h1_4, h7_4, g0_2, g1_2, encG, a1, a2, hal, hal2, hdl];(try refine And.intro (by first|omega|rfl) ?_);refine hK _ _ fun σ5 hσ H5 hH => ?_;clear hK K;obtain ⟨h1_5, h3_5, h7_5, h23_5⟩ := fs4 hσ 1 3 7 23;simp [h1_4, h3_4, h7_4] at h1_5 h3_5 h7_5 h23_5;clear hσ;replace hH : H2 = H5 := Eq.symm hH;subst hH;refine awp_cond _ (by simp only [aeval_tmp]; exact h23_5) (fun hc23 => ?_) (fun hc23 => ?_)
  ·(try simp at hc23);refine stp_reg TT_ok (by rfl) fun K hK => ?_;simp [g0_2, g1_2, encG];(try refine And.intro (by first|omega|rfl) ?_);refine hK _ _ fun σ6 hσ H6 hH => ?_;clear hK K;have h6_6 := congrFun hσ 6;simp [] at h6_6;clear hσ;replace hH : H2 = H6 := Eq.symm hH;subst hH;refine awp_ret ?_;refine q_seq_ret ?_;refine q_fin1 h6_6 ?_;rw [show g.path a b = [] by simp [Gr.path, hc13, ← hd, hal, hc23]]; exact .nils
  ·(try simp at hc23)
   obtain ⟨K0, hK0, hF0⟩ : ∃ k : Nat, d[a.toNat] = k ∧ g.Far (fun _ => True) b k a := by
    rcases hD.val a.toNat _ (List.getElem?_eq_getElem hal) with q | ⟨k, q, hk⟩
    ·omega
    ·exact ⟨k, q, by rwa [Int.toNat_of_nonneg a1] at hk⟩
   refine awp_skip ?_;refine q_seq ?_;have hFF0 := an5 h1_5 h3_5 h7_5 g0_2 g1_2;refine stp_reg TT_ok (by rfl) fun K hK => ?_;simp [hFF0, encG];(try refine And.intro (by first|omega|rfl) ?_);refine stp_call (succs_ok g hv) ?_;simp [hFF0, encG];(try refine And.intro (by first|omega|rfl) ?_);refine stp_call (descend_ok g hv (fun _ => True) b a d hD K0 ⟨a1, a2⟩ hF0) ?_;simp [hFF0, encG];(try refine And.intro (by first|omega|rfl) ?_);refine hK _ _ fun σ7 hσ H7 hH => ?_;clear hK K hFF0;have h6_7 := congrFun hσ 6;simp [] at h6_7;clear hσ;replace hH : H2 = H7 := Eq.symm hH;subst hH;refine awp_ret ?_;refine q_fin1 h6_7 ?_;have hD0 : d.getD a.toNat 0 = K0 := by rw [List.getD_eq_getElem?_getD, List.getElem?_eq_getElem hal]; exact hK0
   have e : g.path a b = g.way d K0 a := by simp only [Gr.path, hc13, if_true, ← hd]; rw [hD0, if_neg (by omega), Int.toNat_natCast]
   rw [e]; exact .pure (pu_ints _)
theorem path_ok (g : Gr) (a b : Int) : Fun1 Try.prog 15 [encG g, (AV.int IntKind.i64) a, (AV.int IntKind.i64) b] (.ro ((g.path a b).map (AV.int IntKind.i64))) :=
 fun1_frz (gpath0 g a b) (pu_cons (pu_graph _) (pu_cons (pu_int _ _) (pu_cons (pu_int _ _) pu_nil))) (pu_ints _)
structure Dfs (g : Gr) (bs : List Bool) (xs : List Int) (bs' : List Bool) : Prop where
 len : bs'.length = bs.length
 mono : ∀ v : Nat, bs[v]? = some true → bs'[v]? = some true
 hit : ∀ x ∈ xs, bs'[x.toNat]? = some true
 sound : ∀ v : Nat, bs'[v]? = some true → bs[v]? = some true ∨ g.Reach xs v
 closed : ∀ v : Nat, bs'[v]? = some true → bs[v]? = some true ∨ ∀ w, ((v : Int), w) ∈ g.edges → bs'[w.toNat]? = some true
theorem Dfs.nil (g : Gr) (bs : List Bool) : Dfs g bs [] bs := ⟨rfl, fun _ h => h, fun _ h => by simp at h, fun _ h => .inl h, fun _ h => .inl h⟩
theorem Dfs.seen (g : Gr) {bs : List Bool} {x : Int} (h : bs[x.toNat]? = some true) : Dfs g bs [x] bs := ⟨rfl, fun _ h => h, fun y hy => by simp at hy; subst hy; exact h, fun _ h => .inl h, fun _ h => .inl h⟩
theorem Gr.Reach.mono {g : Gr} {l m : List Int} (h : ∀ x ∈ l, x ∈ m) {v : Int} (hv : g.Reach l v) : g.Reach m v := by
 induction hv with
 | base hx => exact .base (h _ hx)
 | step _ he ih => exact .step ih he
theorem Dfs.snoc {g : Gr} {bs bs2 bs3 : List Bool} {pre : List Int} {y : Int} (h : Dfs g bs pre bs2) (k : Dfs g bs2 [y] bs3) : Dfs g bs (pre ++ [y]) bs3 := by
 refine ⟨k.len.trans h.len, fun v hv => k.mono v (h.mono v hv), fun x hx => ?_, fun v hv => ?_, fun v hv => ?_⟩
 ·rcases List.mem_append.1 hx with hx | hx
  ·exact k.mono _ (h.hit x hx)
  ·exact k.hit x hx
 ·rcases k.sound v hv with h1 | h1
  ·rcases h.sound v h1 with h2 | h2
   ·exact .inl h2
   ·exact .inr (h2.mono fun x hx => List.mem_append.2 (.inl hx))
  ·exact .inr (h1.mono fun x hx => List.mem_append.2 (.inr hx))
 ·rcases k.closed v hv with h1 | h1
  ·rcases h.closed v h1 with h2 | h2
   ·exact .inl h2
   ·exact .inr fun w hw => k.mono _ (h2 w hw)
  ·exact .inr h1
theorem Gr.Reach.of_succ {g : Gr} {x : Int} {l : List Int} (hl : ∀ y ∈ l, (x, y) ∈ g.edges) {v : Int} (h : g.Reach l v) : g.Reach [x] v := by
 induction h with
 | base hx => exact .step (.base (by simp)) (hl _ hx)
 | step _ he ih => exact .step ih he
theorem Dfs.node {g : Gr} (hv : g.valid = true) {bs bs2 : List Bool} {x : Int} (hx : inR g.nodes.length x) (hl : bs.length = g.nodes.length) (h : Dfs g (bs.set x.toNat true) (g.succ x.toNat) bs2) : Dfs g bs [x] bs2 := by
 have hxl : x.toNat < bs.length := by rw [hl]; exact in_toNat hx
 have hset : ∀ v : Nat, (bs.set x.toNat true)[v]? = if x.toNat = v then some true else bs[v]? := fun v => by
  rw [List.getElem?_set]
  by_cases e : x.toNat = v
  ·subst e; simp [hxl]
  ·simp [e]
 have hm : ∀ y, y ∈ g.succ x.toNat ↔ (x, y) ∈ g.edges := fun y => by rw [succ_mem hv, toNat_cast hx]
 refine ⟨by simpa using h.len, fun v h1 => h.mono v (set_true_mono h1), fun y hy => ?_, fun v hv' => ?_, fun v hv' => ?_⟩
 ·simp at hy; subst hy
  exact h.mono _ (by rw [hset, if_pos rfl])
 ·rcases h.sound v hv' with h1 | h1
  ·rw [hset] at h1
   split at h1
   ·rename_i e; right; rw [← e, toNat_cast hx]; exact .base (by simp)
   ·exact .inl h1
  ·exact .inr (h1.of_succ fun y hy => (hm y).1 hy)
 ·rcases h.closed v hv' with h1 | h1
  ·rw [hset] at h1
   split at h1
   ·rename_i e; right
    intro w hw
    rw [← e, toNat_cast hx] at hw
    exact h.hit w ((hm w).2 hw)
   ·exact .inl h1
  ·exact .inr h1
theorem mono_count : ∀ {bs cs : List Bool}, cs.length = bs.length → (∀ v : Nat, bs[v]? = some true → cs[v]? = some true) → cs.count false ≤ bs.count false
 | [], [], _, _ => Nat.le_refl _
 | [], _ :: _, h, _ => by simp at h
 | _ :: _, [], h, _ => by simp at h
 | b :: bs, c :: cs, h, hm => by
  have ih := mono_count (bs := bs) (cs := cs) (by simpa using h) (fun v hv => by have := hm (v + 1) (by simpa using hv); simpa using this)
  have h0 := hm 0
  simp only [List.count_cons]
  cases b <;> cases c <;> simp at h0 ⊢ <;> omega
theorem Dfs.count {g : Gr} {bs bs' : List Bool} {xs : List Int} (h : Dfs g bs xs bs') : bs'.count false ≤ bs.count false := mono_count h.len h.mono
theorem Dfs.marks {g : Gr} (hv : g.valid = true) {l : List Int} (hl : ∀ x ∈ l, inR g.nodes.length x) {bs : List Bool} (h : Dfs g (List.replicate g.nodes.length false) l bs) : bs = g.marks l := by
 have hf : ∀ v : Nat, (List.replicate g.nodes.length false)[v]? ≠ some true := fun v => by rw [List.getElem?_replicate]; split <;> simp
 refine IsMarks.uniq (g := g) (l := l) ?_ (marks_is hv hl)
 refine isMarks_of hv hl ⟨by simpa using h.len, fun v hv' => (h.sound v hv').resolve_left (hf v)⟩ h.hit fun e he h1 => ?_
 have hr := (valid_edge hv he).1
 exact (h.closed e.1.toNat h1).resolve_left (hf _) e.2 (by rw [toNat_cast hr]; exact he)
set_option maxHeartbeats 1000000 in
theorem visit0 (g : Gr) (hv : g.valid = true) (i5 i6 i7 ir : Nat) (e5 e6 e7 : TypeId) (n5 : ¬ i5 = ir) (n6 : ¬ i6 = ir) (n7 : ¬ i7 = ir) : ∀ (n : Nat) (bs : List Bool) (x : Int) (H0 : AHeap), bs.count false = n → bs.length = g.nodes.length → inR g.nodes.length x → H0.st = 1 →
  H0.get i5 = some (.row e5 1 0 [encS g.succs]) → H0.get i6 = some (.row e6 1 0 [.sl ir 0 0 g.nodes.length]) → H0.get i7 = some (.row e7 1 0 [.fn 41 [.ptr i6 0 0 0, .ptr i5 0 0 0, .ptr i7 0 0 0]]) → H0.get ir = some (.row 4 1 0 (bs.map .bool)) →
  ACalls Try.prog 41 [(AV.int IntKind.i64) x, .ptr i6 0 0 0, .ptr i5 0 0 0, .ptr i7 0 0 0] H0 fun r H => r = .tup [] ∧ ∃ bs', Dfs g bs [x] bs' ∧ H.get ir = some (.row 4 1 0 (bs'.map .bool)) ∧ (∀ j, H0.get j ≠ none → j ≠ ir → H.get j = H0.get j) ∧ H.st = 1 := by
 intro n
 induction n using Nat.strongRecOn
 rename_i n ih
 intro bs x H0 hcnt hbl hx hst0 h5 h6 h7 hr;obtain ⟨hn1, hn2⟩ := valid_nodes hv;obtain ⟨x1, x2⟩ := hx;have x3 : x.toNat < bs.length := by omega
 have x4 : x.toNat < g.nodes.length := by omega
 have hbx : bs[x.toNat]? = some bs[x.toNat] := List.getElem?_eq_getElem x3;refine acalls_body TT_ok Try.func41 rfl rfl (by simp [Try.ntmps41]) ?_;rw [Try.ntmps41];obtain ⟨σ, hσ⟩ : ∃ σ, σ = st0 [(AV.int IntKind.i64) x, .ptr i6 0 0 0, .ptr i5 0 0 0, .ptr i7 0 0 0] := ⟨_, rfl⟩;rw [← hσ];obtain ⟨h0_0, h1_0, h2_0, h3_0⟩ := fs4 hσ 0 1 2 3;simp [st0] at h0_0 h1_0 h2_0 h3_0;clear hσ;refine awp_seq ?_;refine stp_reg TT_ok (by rfl) fun K hK => ?_;simp [h0_0, h1_0, h5, h6, h7, hr, n5, n6, n7, Ne.symm n5, Ne.symm n6, Ne.symm n7, x1, x2, x3, x4, hbl];(try refine And.intro (by first|omega|rfl) ?_);refine hK _ _ fun σ1 hσ H1 hH => ?_;clear hK K;obtain ⟨h0_1, h1_1, h2_1, h3_1, h9_1⟩ := fs5 hσ 0 1 2 3 9;simp [h0_0, h1_0, h2_0, h3_0] at h0_1 h1_1 h2_1 h3_1 h9_1;clear hσ;replace hH : H0 = H1 := Eq.symm hH;subst hH;refine awp_cond _ (by simp only [aeval_tmp]; exact h9_1) (fun hc9 => ?_) (fun hc9 => ?_)
 ·(try simp at hc9);refine awp_ret ?_;refine q_seq_ret ?_;refine q_fin0r ?_;exact ⟨rfl, bs, Dfs.seen g (by rw [hbx, hc9]), hr, fun _ _ _ => rfl, hst0⟩
 ·(try simp at hc9);refine awp_skip ?_;refine q_seq ?_;refine stp_reg TT_ok (by rfl) fun K hK => ?_;simp [h0_1, h1_1, h5, h6, h7, hr, n5, n6, n7, Ne.symm n5, Ne.symm n6, Ne.symm n7, x1, x2, x3, x4, hbl];(try refine And.intro (by first|omega|rfl) ?_);refine hK _ _ fun σ2 hσ H2 hH => ?_;clear hK K;obtain ⟨h0_2, h2_2, h3_2⟩ := fs3 hσ 0 2 3;simp [h0_1, h2_1, h3_1] at h0_2 h2_2 h3_2;clear hσ;have gi5_2 := gt_of hH i5;have gi6_2 := gt_of hH i6;have gi7_2 := gt_of hH i7;have gir_2 := gt_of hH ir;simp [h5, h6, h7, hr, hst0, n5, n6, n7, Ne.symm n5, Ne.symm n6, Ne.symm n7] at gi5_2 gi6_2 gi7_2 gir_2;have hst_2 := congrArg AHeap.st hH;simp [hst0] at hst_2;have k1 : ∀ j, H0.get j ≠ none → j ≠ ir → H2.get j = H0.get j := fun j _ h2 => by rw [hH]; simp [h2]
  clear hH;have hFF0 := an12 h0_2 h2_2 gi5_2 gi6_2 gi7_2 gir_2 n5 n6 n7 (Ne.symm n5) (Ne.symm n6) (Ne.symm n7);refine stp_reg TT_ok (by rfl) fun K hK => ?_;simp [hFF0, encS];(try refine And.intro (by first|omega|rfl) ?_);refine stp_call (of_ok g.succs x 0) ?_;simp [hFF0, encS];(try refine And.intro (by first|omega|rfl) ?_);refine hK _ _ fun σ3 hσ H3 hH => ?_;clear hK K hFF0;obtain ⟨h3_3, h15_3⟩ := fs2 hσ 3 15;simp [h3_2] at h3_3 h15_3;clear hσ;replace hH : H2 = H3 := Eq.symm hH;subst hH;refine awp_block ?_;refine awp_ok fun hok4 => ?_;obtain ⟨k4, hn_k4⟩ : ∃ m, H2.n = m := ⟨_, rfl⟩;have hf_k4 := hok4.now;rw [hn_k4] at hf_k4;have nx1 := ne_get hf_k4 gi5_2;have nx2 := ne_get hf_k4 gi6_2;have nx3 := ne_get hf_k4 gi7_2;have nx4 := ne_get hf_k4 gir_2;refine stp_rangeOf k4 hn_k4 (by rw [aeval_tmp]; exact h15_3) (by decide) x1 (succs_get ⟨x1, x2⟩) (Nat.le_trans (succ_len _ _) (by omega)) (fun pre H' => ∃ (b2 : List Bool), H'.get i5 = H2.get i5 ∧ H'.get i6 = H2.get i6 ∧ H'.get i7 = H2.get i7 ∧ H'.get ir = some (.row 4 1 0 (b2.map .bool)) ∧ H'.st = H2.st ∧ (Dfs g (bs.set x.toNat true) pre b2) ∧ (∀ j, H0.get j ≠ none → j ≠ ir → H'.get j = H0.get j)) ?_ ?_ ?_
  ·intro b4 H4 hH;have hkeep : ∀ j, H2.get j ≠ none → H4.get j = H2.get j := fun j hj => by rw [hH, alloc_get, if_neg (fun e => hj (by rw [e]; exact hok4.now))]
   refine ⟨bs.set x.toNat true, (by rw [hH]; simp [gi5_2, gi6_2, gi7_2, gir_2, hn_k4, hst_2, n5, n6, n7, Ne.symm n5, Ne.symm n6, Ne.symm n7, nx1, nx2, nx3, nx4]), (by rw [hH]; simp [gi5_2, gi6_2, gi7_2, gir_2, hn_k4, hst_2, n5, n6, n7, Ne.symm n5, Ne.symm n6, Ne.symm n7, nx1, nx2, nx3, nx4]), (by rw [hH]; simp [gi5_2, gi6_2, gi7_2, gir_2, hn_k4, hst_2, n5, n6, n7, Ne.symm n5, Ne.symm n6, Ne.symm n7, nx1, nx2, nx3, nx4]), (by rw [hH]; simp [gi5_2, gi6_2, gi7_2, gir_2, hn_k4, hst_2, n5, n6, n7, Ne.symm n5, Ne.symm n6, Ne.symm n7, nx1, nx2, nx3, nx4]), (by rw [hH]; rfl), ?_, ?_⟩
   ·exact Dfs.nil _ _
   ·exact fun j h1 h2 => (hkeep j (by rw [k1 j h1 h2]; exact h1)).trans (k1 j h1 h2)
  ·rintro busy rdy pre x_ H4 ⟨post, hpost⟩ ⟨b2, qgi5_4, qgi6_4, qgi7_4, gir_4, qst_4, d1, d2⟩ hrdy_4 σ4 hσ
   have gi5_4 := qgi5_4.trans gi5_2;have gi6_4 := qgi6_4.trans gi6_2;have gi7_4 := qgi7_4.trans gi7_2;have hst_4 := qst_4.trans hst_2;have h3_4 := congrFun hσ 3;simp [h3_3] at h3_4;have h16_4 := congrFun hσ 16;simp [] at h16_4;clear hσ;rw [geL0_succ hv] at hpost;have hxs : x_ ∈ g.succ x.toNat := by rw [hpost]; simp
   have hxe : (x, x_) ∈ g.edges := by rw [succ_mem hv, toNat_cast ⟨x1, x2⟩] at hxs; exact hxs
   have hxr : inR g.nodes.length x_ := (valid_edge hv hxe).2;have hb1 := count_set (bs := bs) (k := x.toNat) (by rw [hbx]; simpa using hc9);have hb2 := d1.count;have hb3 : b2.length = g.nodes.length := by rw [d1.len]; simpa using hbl
   refine stp_regl TT_ok (by rfl) fun K hK => ?_;simp [h16_4, gi5_4, gi6_4, gi7_4, gir_4, hrdy_4, n5, n6, n7, Ne.symm n5, Ne.symm n6, Ne.symm n7, nx1, nx2, nx3, nx4];(try refine And.intro (by first|omega|rfl) ?_);refine hK _ _ fun σ5 hσ H5 hH => ?_;clear hK K;obtain ⟨h3_5, h5_5⟩ := fs2 hσ 3 5;simp [h3_4] at h3_5 h5_5;clear hσ;replace hH : H4 = H5 := Eq.symm hH;subst hH;refine q_ra hrdy_4 fun H6 hH => ?_;have hkeep : ∀ j, j ≠ k4 → H6.get j = H4.get j := fun j hj => by rw [hH, put_getH, if_neg hj]
   have gi5_7 := gt_of hH i5;have gi6_7 := gt_of hH i6;have gi7_7 := gt_of hH i7;have gir_7 := gt_of hH ir;have gk4_7 := gt_of hH k4;simp [gi5_4, gi6_4, gi7_4, gir_4, hrdy_4, hst_4, n5, n6, n7, Ne.symm n5, Ne.symm n6, Ne.symm n7, nx1, nx2, nx3, nx4] at gi5_7 gi6_7 gi7_7 gir_7 gk4_7;have hst_7 : H6.st = _ := (congrArg AHeap.st hH).trans hst_4;have hka := hkeep;clear hkeep hH;refine awp_block ?_;have hFF0 := an17 h3_5 h5_5 gi5_7 gi6_7 gi7_7 gir_7 gk4_7 n5 n6 n7 (Ne.symm n5) (Ne.symm n6) (Ne.symm n7) nx1 nx2 nx3 nx4;refine stp_regl TT_ok (by rfl) fun K hK => ?_;simp [hFF0];(try refine And.intro (by first|omega|rfl) ?_);refine (ih (b2.count false) (by omega) b2 x_ H6 rfl hb3 hxr hst_7 gi5_7 gi6_7 gi7_7 gir_7).mono ?_
   rintro r Hy ⟨rfl, b3, hd3, hr3, hk3, hst3⟩
   simp [hFF0];(try refine And.intro (by first|omega|rfl) ?_);refine hK _ _ fun σ8 hσ H8 hH => ?_;clear hK K hFF0;clear hσ;subst hH;have gi5_8 := (hk3 i5 (by rw [gi5_7]; simp) (by first | assumption | omega | (intro h; omega))).trans gi5_7;have gi6_8 := (hk3 i6 (by rw [gi6_7]; simp) (by first | assumption | omega | (intro h; omega))).trans gi6_7;have gi7_8 := (hk3 i7 (by rw [gi7_7]; simp) (by first | assumption | omega | (intro h; omega))).trans gi7_7;have gir_8 := hr3;have gk4_8 := (hk3 k4 (by rw [gk4_7]; simp) (by first | assumption | omega | (intro h; omega))).trans gk4_7;have hst_8 := hst3;refine q_block ?_;refine q_rb gk4_8 fun H9 hH => ?_;have hkeep : ∀ j, j ≠ k4 → H9.get j = H8.get j := fun j hj => by rw [hH, put_getH, if_neg hj]
   have hjL : ∀ j, H0.get j ≠ none → j ≠ ir → j ≠ k4 := fun j h1 h2 e => by rw [← k1 j h1 h2, e, hf_k4] at h1; exact h1 rfl
   refine ⟨b3, (by rw [hH]; simp [gi5_8, gi6_8, gi7_8, gir_8, gk4_8, hst_8, n5, n6, n7, Ne.symm n5, Ne.symm n6, Ne.symm n7, nx1, nx2, nx3, nx4, gi5_2]), (by rw [hH]; simp [gi5_8, gi6_8, gi7_8, gir_8, gk4_8, hst_8, n5, n6, n7, Ne.symm n5, Ne.symm n6, Ne.symm n7, nx1, nx2, nx3, nx4, gi6_2]), (by rw [hH]; simp [gi5_8, gi6_8, gi7_8, gir_8, gk4_8, hst_8, n5, n6, n7, Ne.symm n5, Ne.symm n6, Ne.symm n7, nx1, nx2, nx3, nx4, gi7_2]), (by rw [hH]; simp [gi5_8, gi6_8, gi7_8, gir_8, gk4_8, hst_8, n5, n6, n7, Ne.symm n5, Ne.symm n6, Ne.symm n7, nx1, nx2, nx3, nx4]), ((congrArg AHeap.st hH).trans (hst_8.trans hst_2.symm)), ?_, ?_⟩
   ·exact d1.snoc hd3
   ·intro j h1 h2;have q1 := hka j (hjL j h1 h2);have q2 := d2 j h1 h2;exact (hkeep j (hjL j h1 h2)).trans ((hk3 j (by rw [q1, q2]; exact h1) h2).trans (q1.trans q2))
  ·rintro rdy b4 H4 ⟨b2, qgi5_4, qgi6_4, qgi7_4, gir_4, qst_4, d1, d2⟩ hrdy_4 Hd4 hH
   have gi5_4 := qgi5_4.trans gi5_2;have gi6_4 := qgi6_4.trans gi6_2;have gi7_4 := qgi7_4.trans gi7_2;have hst_4 := qst_4.trans hst_2;have hkeep : ∀ j, j ≠ k4 → Hd4.get j = H4.get j := fun j hj => by rw [hH, put_getH, if_neg hj]
   have gi5_10 := gt_of hH i5;have gi6_10 := gt_of hH i6;have gi7_10 := gt_of hH i7;have gir_10 := gt_of hH ir;simp [gi5_4, gi6_4, gi7_4, gir_4, hst_4, n5, n6, n7, Ne.symm n5, Ne.symm n6, Ne.symm n7, nx1, nx2, nx3, nx4] at gi5_10 gi6_10 gi7_10 gir_10;have hst_10 : Hd4.st = _ := (congrArg AHeap.st hH).trans hst_4;have hjL : ∀ j, H0.get j ≠ none → j ≠ ir → j ≠ k4 := fun j h1 h2 e => by rw [← k1 j h1 h2, e, hf_k4] at h1; exact h1 rfl
   have d3 : ∀ j, H0.get j ≠ none → j ≠ ir → Hd4.get j = H0.get j := fun j h1 h2 => (hkeep j (hjL j h1 h2)).trans (d2 j h1 h2);rw [geL0_succ hv] at d1;clear hH;refine q_block ?_;refine q_fin0 ?_;exact ⟨rfl, b2, d1.node hv ⟨x1, x2⟩ hbl, gir_10, d3, hst_10⟩
def Gr.reach (g : Gr) (l : List Int) : List Int := if g.exist l then listUpto (g.marks l) g.nodes.length else []
set_option maxHeartbeats 1000000 in
theorem greach0 (g : Gr) (l : List Int) (hll : l.length ≤ 1000) : ACalls Try.prog 13 [encG g, .ro (l.map (AV.int IntKind.i64))] AHeap.nil (fun r H => Own 3 1 5 ((g.reach l).map (AV.int IntKind.i64)) r H) := by
 refine acalls_body TT_ok Try.func13 rfl rfl (by simp [Try.ntmps13]) ?_;rw [Try.ntmps13];obtain ⟨σ, hσ⟩ : ∃ σ, σ = st0 [encG g, .ro (l.map (AV.int IntKind.i64))] := ⟨_, rfl⟩;rw [← hσ];obtain ⟨h0_0, h1_0⟩ := fs2 hσ 0 1;simp [st0] at h0_0 h1_0;clear hσ;obtain ⟨H, hH⟩ : ∃ H, H = AHeap.nil := ⟨_, rfl⟩;rw [← hH];have hn_0 : H.n = 0 := by rw [hH]; rfl
 have hst_0 : H.st = 1 := by rw [hH]; rfl
 clear hH;refine stp_reg TT_ok (by rfl) fun K hK => ?_;simp [h0_0, hn_0, hst_0, encG];(try refine And.intro (by first|omega|rfl) ?_);refine hK _ _ fun σ1 hσ H1 hH => ?_;clear hK K;obtain ⟨h1_1, h2_1⟩ := fs2 hσ 1 2;simp [h1_0] at h1_1 h2_1;clear hσ;have g0_1 := gt_of hH 0;simp [hn_0, hst_0] at g0_1;have hn_1 := congrArg AHeap.n hH;simp [hn_0, hst_0] at hn_1;have hst_1 := congrArg AHeap.st hH;simp [hn_0, hst_0] at hst_1;clear hH;refine awp_seq ?_;have hFF0 := an3 h1_1 h2_1 g0_1;refine stp_reg TT_ok (by rfl) fun K hK => ?_;simp [hFF0, encG];(try refine And.intro (by first|omega|rfl) ?_);refine stp_call (exist_ok g l (by omega)) ?_;simp [hFF0, encG];(try refine And.intro (by first|omega|rfl) ?_);refine hK _ _ fun σ2 hσ H2 hH => ?_;clear hK K hFF0;obtain ⟨h1_2, h2_2, h16_2⟩ := fs3 hσ 1 2 16;simp [h1_1, h2_1] at h1_2 h2_2 h16_2;clear hσ;replace hH : H1 = H2 := Eq.symm hH;subst hH;refine awp_cond _ (by simp only [aeval_tmp]; exact h16_2) (fun hc16 => ?_) (fun hc16 => ?_)
 ·(try simp at hc16);refine stp_reg TT_ok (by rfl) fun K hK => ?_;simp [g0_1, encG];(try refine And.intro (by first|omega|rfl) ?_);refine hK _ _ fun σ3 hσ H3 hH => ?_;clear hK K;have h4_3 := congrFun hσ 4;simp [] at h4_3;clear hσ;replace hH : H1 = H3 := Eq.symm hH;subst hH;refine awp_ret ?_;refine q_seq_ret ?_;refine q_fin1 h4_3 ?_;rw [show g.reach l = [] by simp [Gr.reach, hc16]]; exact .inl ⟨rfl, rfl⟩
 ·(try simp at hc16);obtain ⟨hin, hv⟩ := exist_iff.1 hc16;obtain ⟨hn1, hn2⟩ := valid_nodes hv;have hsl : g.succs.length = g.nodes.length := by simp [Gr.succs]
  refine awp_skip ?_;refine q_seq ?_;have hFF0 := an4 h2_2 g0_1 hn_1 hst_1;refine stp_reg TT_ok (by rfl) fun K hK => ?_;simp [hFF0, encG, encS];(try refine And.intro (by first|omega|rfl) ?_);refine stp_call (succs_ok g hv) ?_;simp [hFF0, encG, encS];(try refine And.intro (by first|omega|rfl) ?_);refine hK _ _ fun σ4 hσ H4 hH => ?_;clear hK K hFF0;obtain ⟨h1_4, h5_4⟩ := fs2 hσ 1 5;simp [h1_2] at h1_4 h5_4;clear hσ;have g0_4 := gt_of hH 0;have g1_4 := gt_of hH 1;simp [g0_1, hn_1, hst_1] at g0_4 g1_4;have hn_4 := congrArg AHeap.n hH;simp [hn_1, hst_1] at hn_4;have hst_4 := congrArg AHeap.st hH;simp [hn_1, hst_1] at hst_4;clear hH;refine stp_reg TT_ok (by rfl) fun K hK => ?_;simp [h5_4, g0_4, g1_4, hn_4, hst_4, encG, encS, hsl, show (g.nodes.length : Int) ≤ 281474976710656 by omega];(try refine And.intro (by first|omega|rfl) ?_);refine hK _ _ fun σ5 hσ H5 hH => ?_;clear hK K;obtain ⟨h1_5, h5_5, h6_5⟩ := fs3 hσ 1 5 6;simp [h1_4, h5_4] at h1_5 h5_5 h6_5;clear hσ;have g0_5 := gt_of hH 0;have g1_5 := gt_of hH 1;have g2_5 := gt_of hH 2;have g3_5 := gt_of hH 3;simp [g0_4, g1_4, hn_4, hst_4] at g0_5 g1_5 g2_5 g3_5;have hn_5 := congrArg AHeap.n hH;simp [hn_4, hst_4] at hn_5;have hst_5 := congrArg AHeap.st hH;simp [hn_4, hst_4] at hst_5;clear hH;refine stp_reg TT_ok (by rfl) fun K hK => ?_;simp [g0_5, g1_5, g2_5, g3_5, hn_5, hst_5, encG];(try refine And.intro (by first|omega|rfl) ?_);refine hK _ _ fun σ6 hσ H6 hH => ?_;clear hK K;obtain ⟨h1_6, h5_6, h6_6, h7_6⟩ := fs4 hσ 1 5 6 7
  simp [h1_5, h5_5, h6_5] at h1_6 h5_6 h6_6 h7_6;clear hσ;have g0_6 := gt_of hH 0;have g1_6 := gt_of hH 1;have g2_6 := gt_of hH 2;have g3_6 := gt_of hH 3;have g4_6 := gt_of hH 4;simp [g0_5, g1_5, g2_5, g3_5, hn_5, hst_5] at g0_6 g1_6 g2_6 g3_6 g4_6;have hn_6 := congrArg AHeap.n hH;simp [hn_5, hst_5] at hn_6;have hst_6 := congrArg AHeap.st hH;simp [hn_5, hst_5] at hst_6;clear hH;refine stp_reg TT_ok (by rfl) fun K hK => ?_;simp [h5_6, h6_6, h7_6, g0_6, g1_6, g2_6, g3_6, g4_6, encG];(try refine And.intro (by first|omega|rfl) ?_);refine hK _ _ fun σ7 hσ H7 hH => ?_;clear hK K;obtain ⟨h1_7, h6_7, h7_7⟩ := fs3 hσ 1 6 7;simp [h1_6, h6_6, h7_6] at h1_7 h6_7 h7_7;clear hσ;have g0_7 := gt_of hH 0;have g1_7 := gt_of hH 1;have g2_7 := gt_of hH 2;have g3_7 := gt_of hH 3;have g4_7 := gt_of hH 4;simp [g0_6, g1_6, g2_6, g3_6, g4_6, hn_6, hst_6] at g0_7 g1_7 g2_7 g3_7 g4_7;have hn_7 : H7.n = _ := (congrArg AHeap.n hH).trans hn_6;have hst_7 : H7.st = _ := (congrArg AHeap.st hH).trans hst_6;clear hH;refine awp_seq ?_;refine stp_reg TT_ok (by rfl) fun K hK => ?_;simp [h1_7, g0_7, g1_7, g2_7, g3_7, g4_7, encG];(try refine And.intro (by first|omega|rfl) ?_);refine hK _ _ fun σ8 hσ H8 hH => ?_;clear hK K;obtain ⟨h6_8, h7_8, h23_8, h24_8, h25_8⟩ := fs5 hσ 6 7 23 24 25;simp [h6_7, h7_7] at h6_8 h7_8 h23_8 h24_8 h25_8;clear hσ;replace hH : H7 = H8 := Eq.symm hH;subst hH;refine awp_block ?_
  refine awp_loopV (fun n σ' H' => ∃ (i : Nat) (bs : List Bool), n = l.length - i ∧ σ' 6 = σ8 6 ∧ σ' 7 = σ8 7 ∧ σ' 23 = σ8 23 ∧ σ' 24 = σ8 24 ∧ σ' 25 = (AV.int IntKind.i64) i ∧ H'.get 1 = H7.get 1 ∧ H'.get 2 = some (.row 4 1 0 (bs.map .bool)) ∧ H'.get 3 = H7.get 3 ∧ H'.get 4 = H7.get 4 ∧ H'.st = H7.st ∧ (i ≤ l.length) ∧ (Dfs g (List.replicate g.nodes.length false) (l.take i) bs)) ?_ ?_
  ·refine ⟨_, 0, List.replicate g.nodes.length false, rfl, rfl, rfl, rfl, rfl, (by simp [h25_8]), rfl, (by simp [g2_7]), rfl, rfl, rfl, ?_, ?_⟩
   ·first | omega | (simp; done) | assumption
   ·exact Dfs.nil _ _
  ·rintro n1 σ9 H9 ⟨i, bs, hn1, q6_9, q7_9, q23_9, q24_9, h25_9, qg1_9, g2_9, qg3_9, qg4_9, qst_9, p1, p2⟩
   have h6_9 := q6_9.trans h6_8;have h7_9 := q7_9.trans h7_8;have h23_9 := q23_9.trans h23_8;have h24_9 := q24_9.trans h24_8;have g1_9 := qg1_9.trans g1_7;have g3_9 := qg3_9.trans g3_7;have g4_9 := qg4_9.trans g4_7;have hst_9 := qst_9.trans hst_7;have hbl : bs.length = g.nodes.length := by rw [p2.len]; simp
   refine stp_reg TT_ok (by rfl) fun K hK => ?_;simp [h24_9, h25_9, g1_9, g2_9, g3_9, g4_9, encG];(try refine And.intro (by first|omega|rfl) ?_);refine hK _ _ fun σ10 hσ H10 hH => ?_;clear hK K;obtain ⟨h6_10, h7_10, h23_10, h24_10, h25_10, h26_10⟩ := fs6 hσ 6 7 23 24 25 26;simp [h6_9, h7_9, h23_9, h24_9, h25_9] at h6_10 h7_10 h23_10 h24_10 h25_10 h26_10;clear hσ;replace hH : H9 = H10 := Eq.symm hH;subst hH;refine awp_seq ?_;refine awp_cond _ (by simp only [aeval_tmp]; exact h26_10) (fun hc26 => ?_) (fun hc26 => ?_)
   ·(try simp at hc26);have hlt : i < l.length := by simpa using hc26
    have hxr := hin _ (List.getElem_mem hlt);refine awp_skip ?_;refine q_seq ?_;refine awp_seq ?_;refine awp_block ?_;refine stp_reg TT_ok (by rfl) fun K hK => ?_;simp [h23_10, h25_10, g1_9, g2_9, g3_9, g4_9, encG, hlt];(try refine And.intro (by first|omega|rfl) ?_);refine hK _ _ fun σ11 hσ H11 hH => ?_;clear hK K;obtain ⟨h6_11, h7_11, h9_11, h23_11, h24_11, h25_11⟩ := fs6 hσ 6 7 9 23 24 25;simp [h6_10, h7_10, h23_10, h24_10, h25_10] at h6_11 h7_11 h9_11 h23_11 h24_11 h25_11;clear hσ;replace hH : H9 = H11 := Eq.symm hH;subst hH;have hFF0 := an6 h7_11 h9_11 g1_9 g2_9 g3_9 g4_9;refine stp_regl TT_ok (by rfl) fun K hK => ?_;simp [hFF0, encG];(try refine And.intro (by first|omega|rfl) ?_);refine (visit0 g hv 1 3 4 2 _ _ _ (by omega) (by omega) (by omega) _ bs l[i] H9 rfl hbl hxr hst_9 g1_9 g3_9 g4_9 g2_9).mono ?_
    rintro r Hy ⟨rfl, b3, hd3, hr3, hk3, hst3⟩
    simp [hFF0, encG];(try refine And.intro (by first|omega|rfl) ?_);refine hK _ _ fun σ12 hσ H12 hH => ?_;clear hK K hFF0;obtain ⟨h6_12, h7_12, h23_12, h24_12, h25_12⟩ := fs5 hσ 6 7 23 24 25;simp [h6_11, h7_11, h23_11, h24_11, h25_11] at h6_12 h7_12 h23_12 h24_12 h25_12;clear hσ;subst hH;have g1_12 := (hk3 1 (by rw [g1_9]; simp) (by first | assumption | omega | (intro h; omega))).trans g1_9;have g2_12 := hr3;have g3_12 := (hk3 3 (by rw [g3_9]; simp) (by first | assumption | omega | (intro h; omega))).trans g3_9;have g4_12 := (hk3 4 (by rw [g4_9]; simp) (by first | assumption | omega | (intro h; omega))).trans g4_9;have hst_12 := hst3;refine q_block ?_;refine q_seq ?_;refine stp_regl TT_ok (by rfl) fun K hK => ?_;simp [h25_12, g1_12, g2_12, g3_12, g4_12, encG, wrap_ok (n := (i : Int) + 1) (by omega) (by omega)];(try refine And.intro (by first|omega|rfl) ?_);refine hK _ _ fun σ13 hσ H13 hH => ?_;clear hK K;obtain ⟨h6_13, h7_13, h23_13, h24_13, h25_13⟩ := fs5 hσ 6 7 23 24 25;simp [h6_12, h7_12, h23_12, h24_12] at h6_13 h7_13 h23_13 h24_13 h25_13;clear hσ;replace hH : H12 = H13 := Eq.symm hH;subst hH;refine ⟨_, ?_, i + 1, b3, rfl, (h6_13.trans h6_8.symm), (h7_13.trans h7_8.symm), (h23_13.trans h23_8.symm), (h24_13.trans h24_8.symm), (by simp [h25_13]), (g1_12.trans g1_7.symm), (by simp [g2_12]), (g3_12.trans g3_7.symm), (g4_12.trans g4_7.symm), (hst_12.trans hst_7.symm), ?_, ?_⟩
    ·subst hn1; omega
    ·first | omega | assumption | (simp; done)
    ·rw [List.take_succ_eq_append_getElem hlt]; exact p2.snoc hd3
   ·(try simp at hc26);have hil : i = l.length := by have := hc26; omega
    subst hil;rw [List.take_length] at p2;have hbm := p2.marks hv hin;refine awp_exit ?_;refine q_seq_exit ?_;refine q_loop_exit ?_;refine q_block_hit ?_;refine q_seq ?_;refine stp_reg TT_ok (by rfl) fun K hK => ?_;simp [g1_9, g2_9, g3_9, g4_9, encG];(try refine And.intro (by first|omega|rfl) ?_);refine hK _ _ fun σ14 hσ H14 hH => ?_;clear hK K;obtain ⟨h6_14, h10_14⟩ := fs2 hσ 6 10;simp [h6_10] at h6_14 h10_14;clear hσ;replace hH : H9 = H14 := Eq.symm hH;subst hH;refine awp_seq ?_;refine stp_reg TT_ok (by rfl) fun K hK => ?_;simp [h6_14, g1_9, g2_9, g3_9, g4_9, encG];(try refine And.intro (by first|omega|rfl) ?_);refine hK _ _ fun σ15 hσ H15 hH => ?_;clear hK K;obtain ⟨h10_15, h33_15, h34_15, h35_15⟩ := fs4 hσ 10 33 34 35;simp [h10_14] at h10_15 h33_15 h34_15 h35_15;clear hσ;replace hH : H9 = H15 := Eq.symm hH;subst hH;refine awp_block ?_;refine awp_loopV (fun n σ' H' => ∃ (k : Nat) (v : AV), n = g.nodes.length - k ∧ σ' 10 = v ∧ σ' 33 = σ15 33 ∧ σ' 34 = σ15 34 ∧ σ' 35 = (AV.int IntKind.i64) k ∧ H'.get 1 = H9.get 1 ∧ H'.get 2 = H9.get 2 ∧ H'.get 3 = H9.get 3 ∧ H'.get 4 = H9.get 4 ∧ H'.st = H9.st ∧ (k ≤ g.nodes.length) ∧ (Own 3 1 5 ((listUpto bs k).map (AV.int IntKind.i64)) v H')) ?_ ?_
    ·refine ⟨_, 0, .nils, rfl, (by simp [h10_15]), rfl, rfl, (by simp [h35_15]), rfl, rfl, rfl, rfl, rfl, ?_, ?_⟩
     ·first | omega | (simp; done) | assumption
     ·exact .inl ⟨rfl, rfl⟩
    ·rintro n2 σ16 H16 ⟨k, v, hn2, h10_16, q33_16, q34_16, h35_16, qg1_16, qg2_16, qg3_16, qg4_16, qst_16, r1, r2⟩
     have h33_16 := q33_16.trans h33_15;have h34_16 := q34_16.trans h34_15;have g1_16 := qg1_16.trans g1_9;have g2_16 := qg2_16.trans g2_9;have g3_16 := qg3_16.trans g3_9;have g4_16 := qg4_16.trans g4_9;have hst_16 := qst_16.trans hst_9;have hkl := listUpto_len bs k;refine stp_reg TT_ok (by rfl) fun K hK => ?_;simp [h34_16, h35_16, g1_16, g2_16, g3_16, g4_16, encG];(try refine And.intro (by first|omega|rfl) ?_);refine hK _ _ fun σ17 hσ H17 hH => ?_;clear hK K;obtain ⟨h10_17, h33_17, h34_17, h35_17, h36_17⟩ := fs5 hσ 10 33 34 35 36;simp [h10_16, h33_16, h34_16, h35_16] at h10_17 h33_17 h34_17 h35_17 h36_17;clear hσ;replace hH : H16 = H17 := Eq.symm hH;subst hH;refine awp_seq ?_;refine awp_cond _ (by simp only [aeval_tmp]; exact h36_17) (fun hc36 => ?_) (fun hc36 => ?_)
     ·(try simp at hc36);have hlt2 : k < g.nodes.length := by simpa using hc36
      have hlt3 : k < bs.length := by omega
      refine awp_skip ?_;refine q_seq ?_;refine awp_seq ?_;refine awp_block ?_;refine stp_reg TT_ok (by rfl) fun K hK => ?_;simp [h33_17, h35_17, g1_16, g2_16, g3_16, g4_16, encG, hlt2, hlt3, hbl];(try refine And.intro (by first|omega|rfl) ?_);refine hK _ _ fun σ18 hσ H18 hH => ?_;clear hK K;obtain ⟨h10_18, h11_18, h12_18, h33_18, h34_18, h35_18⟩ := fs6 hσ 10 11 12 33 34 35;simp [h10_17, h33_17, h34_17, h35_17] at h10_18 h11_18 h12_18 h33_18 h34_18 h35_18;clear hσ;replace hH : H16 = H18 := Eq.symm hH;subst hH;refine stp_reg TT_ok (by rfl) fun K hK => ?_;simp [h12_18, g1_16, g2_16, g3_16, g4_16, encG];(try refine And.intro (by first|omega|rfl) ?_);refine hK _ _ fun σ19 hσ H19 hH => ?_;clear hK K;obtain ⟨h10_19, h11_19, h33_19, h34_19, h35_19, h40_19⟩ := fs6 hσ 10 11 33 34 35 40;simp [h10_18, h11_18, h33_18, h34_18, h35_18] at h10_19 h11_19 h33_19 h34_19 h35_19 h40_19;clear hσ;replace hH : H16 = H19 := Eq.symm hH;subst hH;refine awp_cond _ (by simp only [aeval_tmp]; exact h40_19) (fun hc40 => ?_) (fun hc40 => ?_)
      ·(try simp at hc40);rcases r2 with ⟨rfl, hnil⟩ | ⟨id, gn, rfl, hb, hid⟩
       ·skip;refine awp_ok fun hok => ?_;obtain ⟨m20, hn_m20⟩ : ∃ m, H16.n = m := ⟨_, rfl⟩;have hf_m20_0 := hok.free 0;simp [hn_m20, hst_16] at hf_m20_0;have nx1 := ne_get hf_m20_0 g1_16;have nx2 := ne_get hf_m20_0 g2_16;have nx3 := ne_get hf_m20_0 g3_16;have nx4 := ne_get hf_m20_0 g4_16;have hf_m20_1 := hok.free 1;simp [hn_m20, hst_16] at hf_m20_1;have nx5 := ne_get hf_m20_1 g1_16;have nx6 : ¬ m20 = 0 ∧ ¬ 0 = m20 := by omega
        have nx7 := ne_get hf_m20_1 g2_16;have nx8 : ¬ m20 = 1 ∧ ¬ 1 = m20 := by omega
        have nx9 := ne_get hf_m20_1 g3_16;have nx10 : ¬ m20 = 2 ∧ ¬ 2 = m20 := by omega
        have nx11 := ne_get hf_m20_1 g4_16;have nx12 : ¬ m20 = 3 ∧ ¬ 3 = m20 := by omega
        refine stp_regl TT_ok (by rfl) fun K hK => ?_;simp [h10_19, h11_19, g1_16, g2_16, g3_16, g4_16, hn_m20, hst_16, nx1, nx2, nx3, nx4, nx5, nx6, nx7, nx8, nx9, nx10, nx11, nx12, encG];(try refine And.intro (by first|omega|rfl) ?_);refine hK _ _ fun σ21 hσ H21 hH => ?_;clear hK K;obtain ⟨h10_21, h33_21, h34_21, h35_21⟩ := fs4 hσ 10 33 34 35;simp [h33_19, h34_19, h35_19] at h10_21 h33_21 h34_21 h35_21;clear hσ;have g1_21 := gt_of hH 1;have g2_21 := gt_of hH 2;have g3_21 := gt_of hH 3;have g4_21 := gt_of hH 4;have gm20_21 := gt_of hH m20;have g_m20_1__21 := gt_of hH (m20 + 1);simp [g1_16, g2_16, g3_16, g4_16, hn_m20, hst_16, nx1, nx2, nx3, nx4, nx5, nx6, nx7, nx8, nx9, nx10, nx11, nx12] at g1_21 g2_21 g3_21 g4_21 gm20_21 g_m20_1__21;have hst_21 := congrArg AHeap.st hH;simp [hst_16] at hst_21;clear hH;refine q_block ?_;refine q_seq ?_;refine stp_regl TT_ok (by rfl) fun K hK => ?_;simp [h35_21, g1_21, g2_21, g3_21, g4_21, gm20_21, g_m20_1__21, nx1, nx2, nx3, nx4, nx5, nx6, nx7, nx8, nx9, nx10, nx11, nx12, encG, wrap_ok (n := (k : Int) + 1) (by omega) (by omega)];(try refine And.intro (by first|omega|rfl) ?_);refine hK _ _ fun σ22 hσ H22 hH => ?_;clear hK K;obtain ⟨h10_22, h33_22, h34_22, h35_22⟩ := fs4 hσ 10 33 34 35;simp [h10_21, h33_21, h34_21] at h10_22 h33_22 h34_22 h35_22;clear hσ;replace hH : H21 = H22 := Eq.symm hH;subst hH
        refine ⟨_, ?_, k + 1, .sl (m20 + 1) 0 0 1, rfl, (by simp [h10_22]), (h33_22.trans h33_15.symm), (h34_22.trans h34_15.symm), (by simp [h35_22]), (g1_21.trans g1_9.symm), (g2_21.trans g2_9.symm), (g3_21.trans g3_9.symm), (g4_21.trans g4_9.symm), (hst_21.trans hst_9.symm), ?_, ?_⟩
        ·subst hn2; omega
        ·first | omega | assumption | (simp; done)
        ·rw [listUpto_t hlt3 hc40]; exact Own.mk g_m20_1__21 (by simp [List.map_eq_nil_iff.1 hnil]) (by simp [List.map_eq_nil_iff.1 hnil]) (by omega)
       ·skip;have nx13 : ¬ id = 1 ∧ ¬ 1 = id := by omega
        have nx14 : ¬ id = 2 ∧ ¬ 2 = id := by omega
        have nx15 : ¬ id = 3 ∧ ¬ 3 = id := by omega
        have nx16 : ¬ id = 4 ∧ ¬ 4 = id := by omega
        refine awp_ok fun hok => ?_;obtain ⟨m23, hn_m23⟩ : ∃ m, H16.n = m := ⟨_, rfl⟩;have hf_m23_0 := hok.free 0;simp [hn_m23, hst_16] at hf_m23_0;have nx17 := ne_get hf_m23_0 g1_16;have nx18 := ne_get hf_m23_0 g2_16;have nx19 := ne_get hf_m23_0 g3_16;have nx20 := ne_get hf_m23_0 g4_16;have nx21 := ne_get hf_m23_0 hb;refine stp_regl TT_ok (by rfl) fun K hK => ?_;simp [h10_19, h11_19, g1_16, g2_16, g3_16, g4_16, hb, hn_m23, hst_16, nx13, nx14, nx15, nx16, nx17, nx18, nx19, nx20, nx21, encG, take_map_len, show (listUpto bs k).length ≤ 9223372036854775806 by omega, show ((listUpto bs k).length + 1) * 8 ≤ 140737488355328 by omega];(try refine And.intro (by first|omega|rfl) ?_);refine hK _ _ fun σ24 hσ H24 hH => ?_;clear hK K;obtain ⟨h10_24, h33_24, h34_24, h35_24⟩ := fs4 hσ 10 33 34 35;simp [h33_19, h34_19, h35_19] at h10_24 h33_24 h34_24 h35_24;clear hσ;have g1_24 := gt_of hH 1;have g2_24 := gt_of hH 2;have g3_24 := gt_of hH 3;have g4_24 := gt_of hH 4;have gid_24 := gt_of hH id;have gm23_24 := gt_of hH m23;simp [g1_16, g2_16, g3_16, g4_16, hb, hn_m23, hst_16, nx13, nx14, nx15, nx16, nx17, nx18, nx19, nx20, nx21] at g1_24 g2_24 g3_24 g4_24 gid_24 gm23_24;have hst_24 := congrArg AHeap.st hH;simp [hst_16] at hst_24;clear hH;refine q_block ?_;refine q_seq ?_;refine stp_regl TT_ok (by rfl) fun K hK => ?_;simp [h35_24, g1_24, g2_24, g3_24, g4_24, gid_24, gm23_24, nx13, nx14, nx15, nx16, nx17, nx18, nx19, nx20, nx21, encG, wrap_ok (n := (k : Int) + 1) (by omega) (by omega)]
        (try refine And.intro (by first|omega|rfl) ?_);refine hK _ _ fun σ25 hσ H25 hH => ?_;clear hK K;obtain ⟨h10_25, h33_25, h34_25, h35_25⟩ := fs4 hσ 10 33 34 35;simp [h10_24, h33_24, h34_24] at h10_25 h33_25 h34_25 h35_25;clear hσ;replace hH : H24 = H25 := Eq.symm hH;subst hH;refine ⟨_, ?_, k + 1, .sl id (gn + 1) 0 ((listUpto bs k).length + 1), rfl, (by simp [h10_25]), (h33_25.trans h33_15.symm), (h34_25.trans h34_15.symm), (by simp [h35_25]), (g1_24.trans g1_9.symm), (g2_24.trans g2_9.symm), (g3_24.trans g3_9.symm), (g4_24.trans g4_9.symm), (hst_24.trans hst_9.symm), ?_, ?_⟩
        ·subst hn2; omega
        ·first | omega | assumption | (simp; done)
        ·rw [listUpto_t hlt3 hc40]; exact Own.mk gid_24 (by simp) (by simp) (by omega)
      ·(try simp at hc40);refine awp_skip ?_;refine q_block ?_;refine q_seq ?_;refine stp_regl TT_ok (by rfl) fun K hK => ?_;simp [h35_19, g1_16, g2_16, g3_16, g4_16, encG, wrap_ok (n := (k : Int) + 1) (by omega) (by omega)];(try refine And.intro (by first|omega|rfl) ?_);refine hK _ _ fun σ26 hσ H26 hH => ?_;clear hK K;obtain ⟨h10_26, h33_26, h34_26, h35_26⟩ := fs4 hσ 10 33 34 35;simp [h10_19, h33_19, h34_19] at h10_26 h33_26 h34_26 h35_26;clear hσ;replace hH : H16 = H26 := Eq.symm hH;subst hH;refine ⟨_, ?_, k + 1, v, rfl, (by simp [h10_26]), (h33_26.trans h33_15.symm), (h34_26.trans h34_15.symm), (by simp [h35_26]), (g1_16.trans g1_9.symm), (g2_16.trans g2_9.symm), (g3_16.trans g3_9.symm), (g4_16.trans g4_9.symm), (hst_16.trans hst_9.symm), ?_, ?_⟩
       ·subst hn2; omega
       ·first | omega | assumption | (simp; done)
       ·rw [listUpto_f hlt3 hc40]; exact r2
     ·(try simp at hc36);refine awp_exit ?_;refine q_seq_exit ?_;refine q_loop_exit ?_;refine q_block_hit ?_;refine q_seq ?_;refine stp_reg TT_ok (by rfl) fun K hK => ?_;simp [h10_17, g1_16, g2_16, g3_16, g4_16, encG];(try refine And.intro (by first|omega|rfl) ?_);refine hK _ _ fun σ27 hσ H27 hH => ?_;clear hK K;have h4_27 := congrFun hσ 4;simp [] at h4_27;clear hσ;replace hH : H16 = H27 := Eq.symm hH;subst hH;refine awp_ret ?_;have hke : k = g.nodes.length := by have := hc36; omega
      subst hke;refine q_fin1 h4_27 ?_;rw [show g.reach l = listUpto bs g.nodes.length by simp [Gr.reach, hc16, hbm]]; exact r2
theorem reach_w (g : Gr) (l : List Int) (hll : l.length ≤ 1000) : FunW Try.prog 13 [encG g, .ro (l.map (AV.int IntKind.i64))] (.ro ((g.reach l).map (AV.int IntKind.i64))) :=
 funW_frw ((greach0 g l hll).mono fun r H h => h.frw (fun _ => scal_ints) (fun _ => one_ints)) (pu_cons (pu_graph _) (pu_cons (pu_ints _) pu_nil)) (pu_ints _)
def gt (l : List Int) (v : Int) : Int := l.getD v.toNat 0
theorem gt_set {l : List Int} {k v x : Int} (hk : inR l.length k) (hv : inR l.length v) : gt (l.set k.toNat x) v = if v = k then x else gt l v := by
 simp only [gt, List.getD_eq_getElem?_getD, List.getElem?_set]
 by_cases h : v = k
 ·subst h; simp [in_toNat hv]
 ·have : k.toNat ≠ v.toNat := fun e => h (by rw [← toNat_cast hk, ← toNat_cast hv, e])
  simp [this, h]
theorem gt_get {l : List Int} {v : Int} (hv : inR l.length v) : l[v.toNat]? = some (gt l v) := by
 have := in_toNat hv
 simp [gt, List.getD_eq_getElem?_getD, this]
def Gr.R (g : Gr) (a b : Int) : Prop := g.Reach [a] b
theorem Gr.R.refl (g : Gr) (a : Int) : g.R a a := .base (by simp)
theorem Gr.R.edge {g : Gr} {a b : Int} (h : (a, b) ∈ g.edges) : g.R a b := .step (.base (by simp)) h
theorem Gr.R.trans {g : Gr} {a b c : Int} (h : g.R a b) (k : g.R b c) : g.R a c := by
 induction k with
 | base hx => simp at hx; subst hx; exact h
 | step _ he ih => exact .step ih he
theorem Gr.R.closed {g : Gr} {S : Int → Prop} (hS : ∀ v w, S v → (v, w) ∈ g.edges → S w) {a b : Int} (ha : S a) (h : g.R a b) : S b := by
 induction h with
 | base hx => simp at hx; subst hx; exact ha
 | step _ he ih => exact hS _ _ ih he
structure TS where
 idx : List Int
 low : List Int
 cmp : List Int
 stk : List Int
 nxt : Int
 cnt : Int
structure TI (g : Gr) (s : TS) (gray : List Int) : Prop where
 il : s.idx.length = g.nodes.length
 ll : s.low.length = g.nodes.length
 cl : s.cmp.length = g.nodes.length
 zero : (s.idx.count 0 : Int) + s.nxt = g.nodes.length + 1
 cn0 : 0 ≤ s.cnt
 cn : s.cnt + gray.length + 1 ≤ s.nxt
 rng : ∀ v, inR g.nodes.length v → 0 ≤ gt s.idx v ∧ gt s.idx v < s.nxt
 inj : ∀ u v, inR g.nodes.length u → inR g.nodes.length v → gt s.idx u = gt s.idx v → gt s.idx u ≠ 0 → u = v
 stk : ∀ v, v ∈ s.stk ↔ inR g.nodes.length v ∧ gt s.idx v ≠ 0 ∧ gt s.cmp v < 0
 sorted : s.stk.Pairwise (fun u v => gt s.idx u < gt s.idx v)
 gin : ∀ v ∈ gray, v ∈ s.stk
 black : ∀ v w, inR g.nodes.length v → gt s.idx v ≠ 0 → v ∉ gray → (v, w) ∈ g.edges → gt s.idx w ≠ 0
 dn : ∀ v, inR g.nodes.length v → 0 ≤ gt s.cmp v → gt s.idx v ≠ 0 ∧ gt s.cmp v < s.cnt
 dcl : ∀ v w, inR g.nodes.length v → 0 ≤ gt s.cmp v → (v, w) ∈ g.edges → 0 ≤ gt s.cmp w
 same : ∀ u v, inR g.nodes.length u → inR g.nodes.length v → 0 ≤ gt s.cmp u → 0 ≤ gt s.cmp v → (gt s.cmp u = gt s.cmp v ↔ g.R u v ∧ g.R v u)
 fwd : ∀ x y, x ∈ s.stk → y ∈ s.stk → gt s.idx x ≤ gt s.idx y → g.R x y
 back : ∀ y ∈ s.stk, ∃ x ∈ gray, gt s.idx x ≤ gt s.idx y ∧ g.R y x
structure TP (g : Gr) (s s' : TS) (gray : List Int) (n : Int) : Prop where
 inv : TI g s' gray
 vis : gt s'.idx n ≠ 0
 ki : ∀ v, inR g.nodes.length v → gt s.idx v ≠ 0 → gt s'.idx v = gt s.idx v
 kl : ∀ v, inR g.nodes.length v → gt s.idx v ≠ 0 → gt s'.low v = gt s.low v
 kc : ∀ v, inR g.nodes.length v → 0 ≤ gt s.cmp v → gt s'.cmp v = gt s.cmp v
 seg : ∃ seg, s'.stk = s.stk ++ seg ∧ (∀ y ∈ seg, gt s.idx y = 0) ∧ ∀ y ∈ seg, ∀ z ∈ s.stk, (y, z) ∈ g.edges → gt s'.low n ≤ gt s.idx z
 low : gt s'.low n ≤ gt s'.idx n ∧ ((0 ≤ gt s'.cmp n ∧ gt s'.low n = gt s'.idx n) ∨ ∃ z ∈ s'.stk, gt s'.idx z = gt s'.low n ∧ g.R n z)
 less : s'.idx.count 0 < s.idx.count 0
 new : ∀ v, inR g.nodes.length v → gt s.idx v = 0 → gt s'.idx v ≠ 0 → s.nxt ≤ gt s'.idx v
structure TL (g : Gr) (s : TS) (gray : List Int) (n : Int) (pre : List Int) (s2 : TS) : Prop where
 inv : TI g s2 (gray ++ [n])
 hn : gt s2.idx n = s.nxt
 ki : ∀ v, inR g.nodes.length v → gt s.idx v ≠ 0 → gt s2.idx v = gt s.idx v
 kl : ∀ v, inR g.nodes.length v → gt s.idx v ≠ 0 → gt s2.low v = gt s.low v
 kc : ∀ v, inR g.nodes.length v → 0 ≤ gt s.cmp v → gt s2.cmp v = gt s.cmp v
 seg : ∃ seg, s2.stk = s.stk ++ n :: seg ∧ (∀ y ∈ seg, gt s.idx y = 0) ∧ ∀ y ∈ seg, ∀ z ∈ s.stk, (y, z) ∈ g.edges → gt s2.low n ≤ gt s.idx z
 pre : ∀ k ∈ pre, inR g.nodes.length k ∧ gt s2.idx k ≠ 0 ∧ (k ∈ s.stk → gt s2.low n ≤ gt s.idx k)
 low : gt s2.low n ≤ s.nxt ∧ ∃ z ∈ s2.stk, gt s2.idx z = gt s2.low n ∧ g.R n z
 less : s2.idx.count 0 < s.idx.count 0
 new : ∀ v, inR g.nodes.length v → gt s.idx v = 0 → gt s2.idx v ≠ 0 → s.nxt ≤ gt s2.idx v
theorem count_set_0 {d : List Int} {k : Nat} (h : d[k]? = some 0) {x : Int} (hx : x ≠ 0) : (d.set k x).count 0 + 1 = d.count 0 := by
 induction d generalizing k with
 | nil => simp at h
 | cons b d ih =>
  cases k with
  | zero =>
   simp at h; subst h
   simp [List.count_cons, hx]
  | succ k =>
   simp at h
   have := ih h
   simp only [List.set_cons_succ, List.count_cons]
   omega
section
variable {g : Gr}
theorem TI.up (hval : g.valid = true) {s : TS} {gray : List Int} (h : TI g s gray) {n : Int} (hn : inR g.nodes.length n) (h0 : gt s.idx n = 0) (hg : ∀ x ∈ gray, g.R x n) :
  TL g s gray n [] ⟨s.idx.set n.toNat s.nxt, s.low.set n.toNat s.nxt, s.cmp, s.stk ++ [n], s.nxt + 1, s.cnt⟩ := by
 have hni : inR s.idx.length n := by rw [h.il]; exact hn
 have hnl : inR s.low.length n := by rw [h.ll]; exact hn
 have hnx : 1 ≤ s.nxt := by have := h.cn; have := h.cn0; omega
 have hI : ∀ v, inR g.nodes.length v → gt (s.idx.set n.toNat s.nxt) v = if v = n then s.nxt else gt s.idx v := fun v hv => gt_set hni (by rw [h.il]; exact hv)
 have hL : ∀ v, inR g.nodes.length v → gt (s.low.set n.toNat s.nxt) v = if v = n then s.nxt else gt s.low v := fun v hv => gt_set hnl (by rw [h.ll]; exact hv)
 have hns : n ∉ s.stk := fun hin => ((h.stk n).1 hin).2.1 h0
 have hnc : gt s.cmp n < 0 := by
  rcases Int.lt_or_le (gt s.cmp n) 0 with h1 | h1
  ·exact h1
  ·exact absurd h0 (h.dn n hn h1).1
 have hcnt := count_set_0 (d := s.idx) (k := n.toNat) (by rw [gt_get hni, h0]) (x := s.nxt) (by omega)
 have hne : ∀ v ∈ s.stk, v ≠ n := fun v hv e => hns (e ▸ hv)
 have hst : ∀ v ∈ s.stk, inR g.nodes.length v := fun v hv => ((h.stk v).1 hv).1
 have hlt : ∀ v ∈ s.stk, gt s.idx v < s.nxt := fun v hv => (h.rng v (hst v hv)).2
 have hr : ∀ v ∈ s.stk, g.R v n := fun v hv => by
  obtain ⟨x, hx, _, hR⟩ := h.back v hv
  exact hR.trans (hg x hx)
 refine ⟨⟨by simpa using h.il, by simpa using h.ll, h.cl, ?_, h.cn0, ?_, ?_, ?_, ?_, ?_, ?_, ?_, ?_, h.dcl, h.same, ?_, ?_⟩, by rw [hI n hn, if_pos rfl], ?_, ?_, fun _ _ _ => rfl, ⟨[], rfl, by simp, by simp⟩, by simp, ⟨by rw [hL n hn, if_pos rfl]; exact Int.le_refl _, n, by simp, by rw [hI n hn, hL n hn, if_pos rfl, if_pos rfl], .refl g n⟩, by simp only; omega, ?_⟩
 ·have := h.zero; simp only; omega
 ·have := h.cn; simp only [List.length_append, List.length_singleton]; omega
 ·intro v hv
  simp only [hI v hv]
  have := h.rng v hv
  split <;> omega
 ·intro u v hu hv he h1
  simp only [hI u hu, hI v hv] at he h1
  have := (h.rng u hu).2; have := (h.rng v hv).2
  split at he
  ·split at he
   ·rename_i a b; rw [a, b]
   ·omega
  ·rename_i hune
   split at he
   ·omega
   ·rw [if_neg hune] at h1; exact h.inj u v hu hv he h1
 ·intro v
  simp only [List.mem_append, List.mem_singleton, h.stk]
  constructor
  ·rintro (⟨a, b, c⟩ | rfl)
   ·refine ⟨a, ?_, c⟩; rw [hI v a]; split <;> omega
   ·refine ⟨hn, ?_, hnc⟩; rw [hI v hn, if_pos rfl]; omega
  ·rintro ⟨a, b, c⟩
   by_cases e : v = n
   ·exact .inr e
   ·rw [hI v a, if_neg e] at b; exact .inl ⟨a, b, c⟩
 ·simp only
  rw [List.pairwise_append]
  refine ⟨?_, by simp, ?_⟩
  ·exact h.sorted.imp_of_mem fun {u v} hu hv huv => by rw [hI u (hst u hu), hI v (hst v hv), if_neg (hne u hu), if_neg (hne v hv)]; exact huv
  ·intro u hu v hv
   simp at hv; subst hv
   rw [hI u (hst u hu), if_neg (hne u hu), hI _ hn, if_pos rfl]
   exact hlt u hu
 ·intro v hv
  rcases List.mem_append.1 hv with hv | hv
  ·exact List.mem_append.2 (.inl (h.gin v hv))
  ·exact List.mem_append.2 (.inr hv)
 ·intro v w hv h1 hng he
  simp only [List.mem_append, List.mem_singleton, not_or] at hng
  simp only [hI v hv, if_neg hng.2] at h1
  have hb := h.black v w hv h1 hng.1 he
  have hw : inR g.nodes.length w := (valid_edge hval he).2
  simp only [hI w hw]
  split
  ·omega
  ·exact hb
 ·intro v hv hc
  have := h.dn v hv hc
  simp only
  refine ⟨?_, this.2⟩
  rw [hI v hv]; split
  ·omega
  ·exact this.1
 ·intro x y hx hy hxy
  simp only [List.mem_append, List.mem_singleton] at hx hy
  rcases hx with hx | rfl
  ·rcases hy with hy | rfl
   ·rw [hI x (hst x hx), hI y (hst y hy), if_neg (hne x hx), if_neg (hne y hy)] at hxy
    exact h.fwd x y hx hy hxy
   ·exact hr x hx
  ·rcases hy with hy | rfl
   ·rw [hI x hn, if_pos rfl, hI y (hst y hy), if_neg (hne y hy)] at hxy
    have := hlt y hy; omega
   ·exact .refl g _
 ·intro y hy
  simp only [List.mem_append, List.mem_singleton] at hy
  rcases hy with hy | rfl
  ·obtain ⟨x, hx, hxi, hR⟩ := h.back y hy
   have hxs := h.gin x hx
   exact ⟨x, List.mem_append.2 (.inl hx), by rw [hI x (hst x hxs), hI y (hst y hy), if_neg (hne x hxs), if_neg (hne y hy)]; exact hxi, hR⟩
  ·exact ⟨y, by simp, Int.le_refl _, .refl g _⟩
 ·intro v hv hv0
  rw [hI v hv, if_neg (fun e => hv0 (by rw [e]; exact h0))]
 ·intro v hv hv0
  rw [hL v hv, if_neg (fun e => hv0 (by rw [e]; exact h0))]
 ·intro v hv hv0 hv1
  simp only [hI v hv] at hv1 ⊢
  split
  ·omega
  ·rename_i e; rw [if_neg e] at hv1; exact absurd hv0 hv1
theorem TI.setLow {s : TS} {gray : List Int} (h : TI g s gray) (n : Nat) (x : Int) : TI g { s with low := s.low.set n x } gray :=
 ⟨h.il, by simpa using h.ll, h.cl, h.zero, h.cn0, h.cn, h.rng, h.inj, h.stk, h.sorted, h.gin, h.black, h.dn, h.dcl, h.same, h.fwd, h.back⟩
theorem TL.lower {s s2 : TS} {gray pre : List Int} {n k x : Int} (h : TL g s gray n pre s2) (hn : inR g.nodes.length n) (hn0 : gt s.idx n = 0) (hk : inR g.nodes.length k) (hk0 : gt s2.idx k ≠ 0) (hx : x ≤ gt s2.low n)
  (hz : ∃ z ∈ s2.stk, gt s2.idx z = x ∧ g.R n z) (hks : k ∈ s.stk → x ≤ gt s.idx k) : TL g s gray n (pre ++ [k]) { s2 with low := s2.low.set n.toNat x } := by
 have hnl : inR s2.low.length n := by rw [h.inv.ll]; exact hn
 have hL : ∀ v, inR g.nodes.length v → gt (s2.low.set n.toNat x) v = if v = n then x else gt s2.low v := fun v hv => gt_set hnl (by rw [h.inv.ll]; exact hv)
 have hLn : gt (s2.low.set n.toNat x) n = x := by rw [hL n hn, if_pos rfl]
 obtain ⟨seg, h1, h2, h3⟩ := h.seg
 refine ⟨h.inv.setLow _ _, h.hn, h.ki, fun v hv hv0 => ?_, h.kc, ⟨seg, h1, h2, fun y hy z hz' he => ?_⟩, fun j hj => ?_, ⟨?_, ?_⟩, h.less, h.new⟩
 ·simp only; rw [hL v hv, if_neg (fun e => hv0 (by rw [e]; exact hn0))]; exact h.kl v hv hv0
 ·simp only; rw [hLn]; exact Int.le_trans hx (h3 y hy z hz' he)
 ·simp only; rw [hLn]
  rcases List.mem_append.1 hj with hj | hj
  ·exact ⟨(h.pre j hj).1, (h.pre j hj).2.1, fun hs => Int.le_trans hx ((h.pre j hj).2.2 hs)⟩
  ·simp at hj; subst hj; exact ⟨hk, hk0, hks⟩
 ·simp only; rw [hLn]; exact Int.le_trans hx h.low.1
 ·simp only; rw [hLn]; exact hz
theorem TL.keep {s s2 : TS} {gray pre : List Int} {n k : Int} (h : TL g s gray n pre s2) (hk : inR g.nodes.length k) (hk0 : gt s2.idx k ≠ 0) (hks : k ∈ s.stk → gt s2.low n ≤ gt s.idx k) : TL g s gray n (pre ++ [k]) s2 :=
 ⟨h.inv, h.hn, h.ki, h.kl, h.kc, h.seg, fun j hj => by
  rcases List.mem_append.1 hj with hj | hj
  ·exact h.pre j hj
  ·simp at hj; subst hj; exact ⟨hk, hk0, hks⟩, h.low, h.less, h.new⟩
theorem TL.onstk {s s2 : TS} {gray pre : List Int} {n : Int} (h : TL g s gray n pre s2) {z : Int} (hz : z ∈ s.stk) : z ∈ s2.stk := by
 obtain ⟨seg, h1, _⟩ := h.seg
 rw [h1]; exact List.mem_append.2 (.inl hz)
theorem TL.nstk {s s2 : TS} {gray pre : List Int} {n : Int} (h : TL g s gray n pre s2) : n ∈ s2.stk := by
 obtain ⟨seg, h1, _⟩ := h.seg
 rw [h1]; simp
theorem TL.cross {s s2 : TS} {gray pre : List Int} {n k : Int} (h : TL g s gray n pre s2) (hs : TI g s gray) (hn : inR g.nodes.length n) (hn0 : gt s.idx n = 0) (hk : inR g.nodes.length k) (he : (n, k) ∈ g.edges) (hk0 : gt s2.idx k ≠ 0) (hkc : gt s2.cmp k < 0) :
  TL g s gray n (pre ++ [k]) { s2 with low := s2.low.set n.toNat (min (gt s2.low n) (gt s2.idx k)) } := by
 have hks : k ∈ s2.stk := (h.inv.stk k).2 ⟨hk, hk0, hkc⟩
 refine h.lower hn hn0 hk hk0 (Int.min_le_left _ _) ?_ fun hin => ?_
 ·rcases Int.le_total (gt s2.low n) (gt s2.idx k) with h1 | h1
  ·rw [Int.min_eq_left h1]; exact h.low.2
  ·rw [Int.min_eq_right h1]; exact ⟨k, hks, rfl, .edge he⟩
 ·rw [h.ki k hk ((hs.stk k).1 hin).2.1]; exact Int.min_le_right _ _
theorem TL.done {s s2 : TS} {gray pre : List Int} {n k : Int} (h : TL g s gray n pre s2) (hk : inR g.nodes.length k) (hk0 : gt s2.idx k ≠ 0) (hkc : 0 ≤ gt s2.cmp k) : TL g s gray n (pre ++ [k]) s2 :=
 h.keep hk hk0 fun hin => by have := ((h.inv.stk k).1 (h.onstk hin)).2.2; omega
theorem TL.child {s s2 s3 : TS} {gray pre : List Int} {n k : Int} (h : TL g s gray n pre s2) (hs : TI g s gray) (hn : inR g.nodes.length n) (hn0 : gt s.idx n = 0) (hk : inR g.nodes.length k) (he : (n, k) ∈ g.edges) (hk0 : gt s2.idx k = 0)
  (hp : TP g s2 s3 (gray ++ [n]) k) : TL g s gray n (pre ++ [k]) { s3 with low := s3.low.set n.toNat (min (gt s3.low n) (gt s3.low k)) } := by
 obtain ⟨sg, q1, q2, q3⟩ := h.seg
 obtain ⟨sg', r1, r2, r3⟩ := hp.seg
 have hnx : 1 ≤ s.nxt := by have := hs.cn; have := hs.cn0; omega
 have hn2 : gt s2.idx n ≠ 0 := by rw [h.hn]; omega
 have hzs : ∀ z ∈ s.stk, inR g.nodes.length z ∧ gt s.idx z ≠ 0 := fun z hz => ⟨((hs.stk z).1 hz).1, ((hs.stk z).1 hz).2.1⟩
 have hv2 : ∀ v, inR g.nodes.length v → gt s.idx v ≠ 0 → gt s2.idx v ≠ 0 := fun v hv hv0 => by rw [h.ki v hv hv0]; exact hv0
 have hlow3 : gt s3.low n = gt s2.low n := hp.kl n hn hn2
 have hmono : ∀ z ∈ s2.stk, z ∈ s3.stk ∧ gt s3.idx z = gt s2.idx z := fun z hz =>
  ⟨by rw [r1]; exact List.mem_append.2 (.inl hz), hp.ki z ((h.inv.stk z).1 hz).1 ((h.inv.stk z).1 hz).2.1⟩
 have hks : k ∉ s.stk := fun hin => hv2 k hk (hzs k hin).2 hk0
 have hn3 : inR s3.low.length n := by rw [hp.inv.ll]; exact hn
 obtain ⟨m, hm⟩ : ∃ m, m = min (gt s3.low n) (gt s3.low k) := ⟨_, rfl⟩
 have hm1 : m ≤ gt s2.low n := by rw [hm, hlow3]; exact Int.min_le_left _ _
 have hm2 : m ≤ gt s3.low k := by rw [hm]; exact Int.min_le_right _ _
 rw [← hm]
 have hL : ∀ v, inR g.nodes.length v → gt (s3.low.set n.toNat m) v = if v = n then m else gt s3.low v := fun v hv => gt_set hn3 (by rw [hp.inv.ll]; exact hv)
 have hLn : gt (s3.low.set n.toNat m) n = m := by rw [hL n hn, if_pos rfl]
 refine ⟨hp.inv.setLow _ _, by rw [hp.ki n hn hn2, h.hn], fun v hv hv0 => ?_, fun v hv hv0 => ?_, fun v hv hc => ?_, ⟨sg ++ sg', by rw [r1, q1]; simp, fun y hy => ?_, fun y hy z hz hyz => ?_⟩, fun j hj => ?_, ⟨?_, ?_⟩, Nat.lt_trans hp.less h.less, fun v hv hv0 hv1 => ?_⟩
 ·simp only; rw [hp.ki v hv (hv2 v hv hv0), h.ki v hv hv0]
 ·simp only; rw [hL v hv, if_neg (fun e => hv0 (by rw [e]; exact hn0)), hp.kl v hv (hv2 v hv hv0), h.kl v hv hv0]
 ·simp only
  have e := h.kc v hv hc
  rw [hp.kc v hv (by rw [e]; exact hc), e]
 ·rcases List.mem_append.1 hy with hy | hy
  ·exact q2 y hy
  ·have h0 := r2 y hy
   by_cases hz : gt s.idx y = 0
   ·exact hz
   ·have hyr : inR g.nodes.length y := ((hp.inv.stk y).1 (by rw [r1]; exact List.mem_append.2 (.inr hy))).1
    exact absurd h0 (hv2 y hyr hz)
 ·simp only; rw [hLn]
  rcases List.mem_append.1 hy with hy | hy
  ·exact Int.le_trans hm1 (q3 y hy z hz hyz)
  ·have := r3 y hy z (h.onstk hz) hyz
   rw [h.ki z (hzs z hz).1 (hzs z hz).2] at this
   exact Int.le_trans hm2 this
 ·simp only; rw [hLn]
  rcases List.mem_append.1 hj with hj | hj
  ·have := h.pre j hj
   exact ⟨this.1, by rw [hp.ki j this.1 this.2.1]; exact this.2.1, fun hs => Int.le_trans hm1 (this.2.2 hs)⟩
  ·simp at hj; subst hj; exact ⟨hk, hp.vis, fun hin => absurd hin hks⟩
 ·simp only; rw [hLn]; exact Int.le_trans hm1 h.low.1
 ·simp only; rw [hLn]
  rcases Int.le_total (gt s3.low n) (gt s3.low k) with h1 | h1
  ·rw [Int.min_eq_left h1, hlow3] at hm
   obtain ⟨z, hz, e1, e2⟩ := h.low.2
   exact ⟨z, (hmono z hz).1, by rw [(hmono z hz).2, hm, e1], e2⟩
  ·rw [Int.min_eq_right h1] at hm
   rcases hp.low.2 with ⟨d1, d2⟩ | ⟨z, hz, e1, e2⟩
   ·exfalso
    have hki : s2.nxt ≤ gt s3.idx k := hp.new k hk hk0 hp.vis
    have hkn : gt s2.low n ≤ s.nxt := h.low.1
    have := (h.inv.rng n hn).2
    rw [h.hn] at this
    rw [hlow3, d2] at h1
    omega
   ·exact ⟨z, hz, by rw [hm, e1], (Gr.R.edge he).trans e2⟩
 ·by_cases hz : gt s2.idx v = 0
  ·have := hp.new v hv hz hv1
   have := h.inv.zero; have := hs.zero; have := h.less
   simp only; omega
  ·simp only; rw [hp.ki v hv hz]; exact h.new v hv hv0 hz
theorem TL.ret (hval : g.valid = true) {s s2 : TS} {gray pre : List Int} {n : Int} (h : TL g s gray n pre s2) (hs : TI g s gray) (hn : inR g.nodes.length n) (hn0 : gt s.idx n = 0) (hng : n ∉ gray) (hall : ∀ w, (n, w) ∈ g.edges → w ∈ pre) (hlt : gt s2.low n < gt s2.idx n) : TP g s s2 gray n := by
 obtain ⟨sg, q1, q2, q3⟩ := h.seg
 have hnx : 1 ≤ s.nxt := by have := hs.cn; have := hs.cn0; omega
 obtain ⟨z, hz, e1, e2⟩ := h.low.2
 have I := h.inv
 refine ⟨⟨I.il, I.ll, I.cl, I.zero, I.cn0, ?_, I.rng, I.inj, I.stk, I.sorted, fun v hv => I.gin v (List.mem_append.2 (.inl hv)), fun v w hv hv0 hvg he => ?_, I.dn, I.dcl, I.same, I.fwd, fun y hy => ?_⟩, by rw [h.hn]; omega, h.ki, h.kl, h.kc, ⟨n :: sg, q1, fun y hy => ?_, fun y hy z' hz' he => ?_⟩, ⟨Int.le_of_lt hlt, .inr ⟨z, hz, e1, e2⟩⟩, h.less, h.new⟩
 ·have := I.cn; simp only [List.length_append, List.length_singleton] at this; omega
 ·by_cases e : v = n
  ·subst e; exact (h.pre w (hall w he)).2.1
  ·exact I.black v w hv hv0 (by simp [hvg, e]) he
 ·obtain ⟨x, hx, hxi, hR⟩ := I.back y hy
  rcases List.mem_append.1 hx with hx | hx
  ·exact ⟨x, hx, hxi, hR⟩
  ·simp at hx; subst hx
   obtain ⟨x', hx', hxi', hR'⟩ := I.back z hz
   rcases List.mem_append.1 hx' with hx' | hx'
   ·exact ⟨x', hx', by omega, hR.trans (e2.trans hR')⟩
   ·simp at hx'; subst hx'; omega
 ·rcases List.mem_cons.1 hy with hy | hy
  ·subst hy; exact hn0
  ·exact q2 y hy
 ·rcases List.mem_cons.1 hy with hy | hy
  ·subst hy; exact (h.pre z' (hall z' he)).2.2 hz'
  ·exact q3 y hy z' hz' he
theorem TL.close (hval : g.valid = true) {s s2 : TS} {gray pre seg cmp : List Int} {n : Int} (h : TL g s gray n pre s2) (hs : TI g s gray) (hn : inR g.nodes.length n) (hn0 : gt s.idx n = 0) (hng : n ∉ gray) (hall : ∀ w, (n, w) ∈ g.edges → w ∈ pre) (hge : gt s2.idx n ≤ gt s2.low n)
  (hseg : s2.stk = s.stk ++ n :: seg) (hcl : cmp.length = g.nodes.length) (hcmp : ∀ v, inR g.nodes.length v → gt cmp v = if v ∈ n :: seg then s2.cnt else gt s2.cmp v) :
  TP g s { s2 with cmp := cmp, stk := s.stk, cnt := s2.cnt + 1 } gray n := by
 obtain ⟨sg, q1, q2, q3⟩ := h.seg
 have : sg = seg := by
  rw [hseg] at q1
  have := List.append_cancel_left q1
  simpa using this.symm
 subst this
 have I := h.inv
 have hnx : 1 ≤ s.nxt := by have := hs.cn; have := hs.cn0; omega
 have hlow : gt s2.low n = gt s2.idx n := by have := h.low.1; rw [h.hn] at hge ⊢; omega
 have hc0 := I.cn0
 have hsegin : ∀ y ∈ n :: sg, y ∈ s2.stk := fun y hy => by rw [hseg]; exact List.mem_append.2 (.inr hy)
 have hsegr : ∀ y ∈ n :: sg, inR g.nodes.length y ∧ gt s2.idx y ≠ 0 ∧ gt s2.cmp y < 0 := fun y hy => (I.stk y).1 (hsegin y hy)
 have hord : ∀ z ∈ s.stk, ∀ y ∈ n :: sg, gt s2.idx z < gt s2.idx y := fun z hz y hy => by
  have := I.sorted; rw [hseg] at this
  exact (List.pairwise_append.1 this).2.2 z hz y hy
 have hdisj : ∀ y ∈ n :: sg, y ∉ s.stk := fun y hy hin => by have := hord y hin y hy; omega
 have hnle : ∀ y ∈ n :: sg, gt s2.idx n ≤ gt s2.idx y := fun y hy => by
  rcases List.mem_cons.1 hy with hy | hy
  ·subst hy; exact Int.le_refl _
  ·have := I.sorted; rw [hseg] at this
   exact Int.le_of_lt ((List.pairwise_cons.1 (List.pairwise_append.1 this).2.1).1 y hy)
 have hto : ∀ y ∈ n :: sg, g.R n y := fun y hy => I.fwd n y h.nstk (hsegin y hy) (hnle y hy)
 have hfrom : ∀ y ∈ n :: sg, g.R y n := fun y hy => by
  obtain ⟨x, hx, hxi, hR⟩ := I.back y (hsegin y hy)
  rcases List.mem_append.1 hx with hx' | hx'
  ·have hxs : x ∈ s.stk := hs.gin x hx'
   exact hR.trans (I.fwd x n (h.onstk hxs) h.nstk (Int.le_of_lt (hord x hxs n (by simp))))
  ·simp at hx'; subst hx'; exact hR
 have hout : ∀ y w, y ∈ n :: sg → (y, w) ∈ g.edges → w ∈ n :: sg ∨ 0 ≤ gt s2.cmp w := by
  intro y w hy he
  have hw : inR g.nodes.length w := (valid_edge hval he).2
  have hw0 : gt s2.idx w ≠ 0 := by
   rcases List.mem_cons.1 hy with hy' | hy'
   ·subst hy'; exact (h.pre w (hall w he)).2.1
   ·refine I.black y w (hsegr y hy).1 (hsegr y hy).2.1 (fun hg => ?_) he
    rcases List.mem_append.1 hg with hg | hg
    ·exact hdisj y hy (hs.gin y hg)
    ·simp at hg; subst hg
     have := I.sorted; rw [hseg] at this
     have := (List.pairwise_cons.1 (List.pairwise_append.1 this).2.1).1 y hy'
     omega
  by_cases hwc : 0 ≤ gt s2.cmp w
  ·exact .inr hwc
  ·have hws : w ∈ s2.stk := (I.stk w).2 ⟨hw, hw0, by omega⟩
   rw [hseg] at hws
   rcases List.mem_append.1 hws with hwo | hwo
   ·exfalso
    have hwi : gt s2.idx w = gt s.idx w := h.ki w hw ((hs.stk w).1 hwo).2.1
    have h1 := hord w hwo n (by simp)
    rcases List.mem_cons.1 hy with hy' | hy'
    ·subst hy'
     have := (h.pre w (hall w he)).2.2 hwo
     omega
    ·have := q3 y hy' w hwo he
     omega
   ·exact .inl hwo
 have hdone : ∀ v, inR g.nodes.length v → (0 ≤ gt cmp v ↔ v ∈ n :: sg ∨ 0 ≤ gt s2.cmp v) := fun v hv => by
  rw [hcmp v hv]
  split
  ·rename_i hin; exact ⟨fun _ => .inl hin, fun _ => hc0⟩
  ·rename_i hin; exact ⟨.inr, fun hh => hh.resolve_left hin⟩
 have hclosed : ∀ v w, inR g.nodes.length v → 0 ≤ gt cmp v → (v, w) ∈ g.edges → 0 ≤ gt cmp w := fun v w hv hc he => by
  have hw : inR g.nodes.length w := (valid_edge hval he).2
  rw [hdone w hw]
  rcases (hdone v hv).1 hc with h1 | h1
  ·exact hout v w h1 he
  ·exact .inr (I.dcl v w hv h1 he)
 have hold : ∀ {a b : Int}, inR g.nodes.length a → 0 ≤ gt s2.cmp a → g.R a b → inR g.nodes.length b ∧ 0 ≤ gt s2.cmp b := fun {a b} ha hc hR =>
  hR.closed (S := fun v => inR g.nodes.length v ∧ 0 ≤ gt s2.cmp v) (fun v w hvw he => ⟨(valid_edge hval he).2, I.dcl v w hvw.1 hvw.2 he⟩) ⟨ha, hc⟩
 refine ⟨⟨I.il, I.ll, hcl, I.zero, by simp only; omega, ?_, I.rng, I.inj, fun v => ?_, ?_, fun v hv => hs.gin v hv, fun v w hv hv0 hvg he => ?_, fun v hv hc => ?_, fun v w hv hc he => hclosed v w hv hc he, fun u v hu hv hcu hcv => ?_, fun x y hx hy => I.fwd x y (h.onstk hx) (h.onstk hy), fun y hy => ?_⟩,
  by simp only; rw [h.hn]; omega, h.ki, h.kl, fun v hv hc => ?_, ⟨[], by simp, by simp, by simp⟩, ⟨Int.le_of_eq hlow, .inl ⟨?_, hlow⟩⟩, h.less, h.new⟩
 ·have := I.cn; simp only [List.length_append, List.length_singleton] at this; simp only; omega
 ·simp only
  constructor
  ·intro hin
   have hv := (I.stk v).1 (h.onstk hin)
   refine ⟨hv.1, hv.2.1, ?_⟩
   rw [hcmp v hv.1, if_neg (fun hh => hdisj v hh hin)]; exact hv.2.2
  ·rintro ⟨hv, hv0, hc⟩
   have hns : v ∉ n :: sg := fun hh => by rw [hcmp v hv, if_pos hh] at hc; omega
   rw [hcmp v hv, if_neg hns] at hc
   have := (I.stk v).2 ⟨hv, hv0, hc⟩
   rw [hseg] at this
   exact (List.mem_append.1 this).resolve_right hns
 ·have := I.sorted; rw [hseg] at this
  exact (List.pairwise_append.1 this).1
 ·by_cases e : v = n
  ·subst e; exact (h.pre w (hall w he)).2.1
  ·exact I.black v w hv hv0 (by simp [hvg, e]) he
 ·simp only
  rcases (hdone v hv).1 hc with h1 | h1
  ·refine ⟨(hsegr v h1).2.1, ?_⟩; rw [hcmp v hv, if_pos h1]; omega
  ·have := I.dn v hv h1
   refine ⟨this.1, ?_⟩
   rw [hcmp v hv]; split <;> omega
 ·simp only at hcu hcv ⊢
  rcases (hdone u hu).1 hcu with h1 | h1
  ·rcases (hdone v hv).1 hcv with h2 | h2
   ·rw [hcmp u hu, hcmp v hv, if_pos h1, if_pos h2]
    exact ⟨fun _ => ⟨(hfrom u h1).trans (hto v h2), (hfrom v h2).trans (hto u h1)⟩, fun _ => rfl⟩
   ·by_cases h3 : v ∈ n :: sg
    ·have := (hsegr v h3).2.2; omega
    ·rw [hcmp u hu, hcmp v hv, if_pos h1, if_neg h3]
     have := (I.dn v hv h2).2
     refine ⟨fun e => by omega, fun ⟨_, hR⟩ => ?_⟩
     have := (hold hv h2 hR).2; have := (hsegr u h1).2.2; omega
  ·by_cases h3 : u ∈ n :: sg
   ·have := (hsegr u h3).2.2; omega
   ·rcases (hdone v hv).1 hcv with h2 | h2
    ·rw [hcmp u hu, hcmp v hv, if_neg h3, if_pos h2]
     have := (I.dn u hu h1).2
     refine ⟨fun e => by omega, fun ⟨hR, _⟩ => ?_⟩
     have := (hold hu h1 hR).2; have := (hsegr v h2).2.2; omega
    ·by_cases h4 : v ∈ n :: sg
     ·have := (hsegr v h4).2.2; omega
     ·rw [hcmp u hu, hcmp v hv, if_neg h3, if_neg h4]
      exact I.same u v hu hv h1 h2
 ·obtain ⟨x, hx, hxi, hR⟩ := I.back y (h.onstk hy)
  rcases List.mem_append.1 hx with hx | hx
  ·exact ⟨x, hx, hxi, hR⟩
  ·simp at hx; subst hx
   have := hord y hy x (by simp); omega
 ·simp only
  have e := h.kc v hv hc
  rw [hcmp v hv, if_neg (fun hh => by have := (hsegr v hh).2.2; omega), e]
 ·simp only; rw [hcmp n hn, if_pos (by simp)]; exact hc0
theorem TI.start (hval : g.valid = true) : TI g ⟨List.replicate g.nodes.length 0, List.replicate g.nodes.length 0, List.replicate g.nodes.length (-1), [], 1, 0⟩ [] := by
 have h0 : ∀ v, gt (List.replicate g.nodes.length 0) v = 0 := fun v => by simp only [gt, List.getD_eq_getElem?_getD, List.getElem?_replicate]; split <;> rfl
 have h1 : ∀ v, inR g.nodes.length v → gt (List.replicate g.nodes.length (-1)) v = -1 := fun v hv => by simp [gt, List.getD_eq_getElem?_getD, List.getElem?_replicate, in_toNat hv]
 refine ⟨by simp, by simp, by simp, by simp, by simp, by simp, fun v _ => ?_, fun u v _ _ _ hh => absurd (h0 u) hh, fun v => ?_, by simp, by simp, fun v w _ hh => absurd (h0 v) hh, fun v hv hc => ?_, fun v w hv hc => ?_, fun u v hu _ hc => ?_, by simp, by simp⟩
 ·simp only [h0]; omega
 ·simp [h0]
 ·simp only [h1 v hv] at hc; omega
 ·simp only [h1 v hv] at hc; omega
 ·simp only [h1 u hu] at hc; omega
structure IsNum (g : Gr) (cmp : List Int) (cnt : Int) : Prop where
 len : cmp.length = g.nodes.length
 rng : ∀ v, inR g.nodes.length v → 0 ≤ gt cmp v ∧ gt cmp v < cnt
 same : ∀ u v, inR g.nodes.length u → inR g.nodes.length v → (gt cmp u = gt cmp v ↔ g.R u v ∧ g.R v u)
 cnt : 0 ≤ cnt ∧ cnt ≤ g.nodes.length
theorem TI.end {s : TS} (h : TI g s []) (hall : ∀ v, inR g.nodes.length v → gt s.idx v ≠ 0) : IsNum g s.cmp s.cnt := by
 have hd : ∀ v, inR g.nodes.length v → 0 ≤ gt s.cmp v := fun v hv => by
  rcases Int.lt_or_le (gt s.cmp v) 0 with h1 | h1
  ·obtain ⟨x, hx, _⟩ := h.back v ((h.stk v).2 ⟨hv, hall v hv, h1⟩)
   simp at hx
  ·exact h1
 have hc := h.cn; have hz := h.zero
 simp only [List.length_nil] at hc
 exact ⟨h.cl, fun v hv => ⟨hd v hv, (h.dn v hv (hd v hv)).2⟩, fun u v hu hv => h.same u v hu hv (hd u hu) (hd v hv), h.cn0, by omega⟩
theorem strict_len : ∀ {l : List Int} {lo hi : Int}, l.Pairwise (· < ·) → (∀ x ∈ l, lo ≤ x ∧ x < hi) → lo ≤ hi → (l.length : Int) ≤ hi - lo
 | [], lo, hi, _, _, h => by simp; omega
 | a :: l, lo, hi, hp, hb, h => by
  have hp' := List.pairwise_cons.1 hp
  have ha := hb a (by simp)
  have := strict_len (l := l) (lo := a + 1) (hi := hi) hp'.2 (fun x hx => ⟨by have := hp'.1 x hx; omega, (hb x (by simp [hx])).2⟩) (by omega)
  simp only [List.length_cons]; omega
theorem TI.stkLen {s : TS} {gray : List Int} (h : TI g s gray) : s.stk.length ≤ g.nodes.length := by
 have hz := h.zero; have hc := h.cn; have h0 := h.cn0
 have := strict_len (l := s.stk.map (gt s.idx)) (lo := 1) (hi := s.nxt) (by rw [List.pairwise_map]; exact h.sorted) (fun x hx => by
  obtain ⟨v, hv, rfl⟩ := List.mem_map.1 hx
  have hh := (h.stk v).1 hv
  have := h.rng v hh.1
  exact ⟨by have := hh.2.1; omega, this.2⟩) (by omega)
 rw [List.length_map] at this
 omega
end
end Go.Proofs.Yteifhcohmipdcaa
