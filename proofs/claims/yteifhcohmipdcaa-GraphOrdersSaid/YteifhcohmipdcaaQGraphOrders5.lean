/-
  What the functions that the law calls answer, whatever they are handed: part 5. Conditions: none.
-/
import Derived.Test.YteifhcohmipdcaaQGraphOrders4
import Derived.OpenShut
import Derived.SizedLaws
import Derived.JoinedOf
import Derived.Test.YteifhcohmipdcaaRows
import Derived.ProofKit
namespace Go.Proofs.Yteifhcohmipdcaa
open Go.Abs
set_option linter.unusedSimpArgs false
set_option linter.unusedVariables false
set_option maxHeartbeats 1000000 in
theorem levels0 (g : Gr) : ACalls Try.prog 30 [encG g] AHeap.nil (fun r H => Frz H r (encS g.glevels)) := by
 refine acalls_body TT_ok Try.func30 rfl rfl (by simp [Try.ntmps30]) ?_;rw [Try.ntmps30];obtain ⟨σ, hσ⟩ : ∃ σ, σ = st0 [encG g] := ⟨_, rfl⟩;rw [← hσ];have h0_0 := congrFun hσ 0;simp [st0] at h0_0;clear hσ;obtain ⟨H, hH⟩ : ∃ H, H = AHeap.nil := ⟨_, rfl⟩;rw [← hH];have hn_0 : H.n = 0 := by rw [hH]; rfl
 have hst_0 : H.st = 1 := by rw [hH]; rfl
 clear hH;refine stp_reg TT_ok (by rfl) fun K hK => ?_;simp [h0_0, hn_0, hst_0, encG];(try refine And.intro (by first|omega|rfl) ?_);refine hK _ _ fun σ1 hσ H1 hH => ?_;clear hK K;have h1_1 := congrFun hσ 1;simp [] at h1_1;clear hσ;have g0_1 := gt_of hH 0;simp [hn_0, hst_0] at g0_1;have hn_1 := congrArg AHeap.n hH;simp [hn_0, hst_0] at hn_1;have hst_1 := congrArg AHeap.st hH;simp [hn_0, hst_0] at hst_1;clear hH;refine awp_seq ?_;refine stp_reg TT_ok (by rfl) fun K hK => ?_;simp [h1_1, g0_1, encG];(try refine And.intro (by first|omega|rfl) ?_);refine stp_call (valid_ok g) ?_;simp [h1_1, g0_1, encG];(try refine And.intro (by first|omega|rfl) ?_);refine hK _ _ fun σ2 hσ H2 hH => ?_;clear hK K;obtain ⟨h1_2, h14_2⟩ := fs2 hσ 1 14;simp [h1_1] at h1_2 h14_2;clear hσ;replace hH : H1 = H2 := Eq.symm hH;subst hH;refine awp_cond _ (by simp only [aeval_tmp]; exact h14_2) (fun hc14 => ?_) (fun hc14 => ?_)
 ·(try simp at hc14);refine stp_reg TT_ok (by rfl) fun K hK => ?_;simp [g0_1, encG];(try refine And.intro (by first|omega|rfl) ?_);refine hK _ _ fun σ3 hσ H3 hH => ?_;clear hK K;have h2_3 := congrFun hσ 2;simp [] at h2_3;clear hσ;replace hH : H1 = H3 := Eq.symm hH;subst hH;refine awp_ret ?_;refine q_seq_ret ?_;refine q_fin1 h2_3 ?_;rw [show g.glevels = [] by simp [Gr.glevels, hc14]]; exact .nils
 ·(try simp at hc14);have hv : g.valid = true := by simpa using hc14
  obtain ⟨hb1, hb2⟩ := valid_nodes hv;have hcf := comps_few hv;have hcc : g.cedges.length = g.comps.length := by rw [cedges_len, comps_len]
  have hol := order_len g;refine awp_skip ?_;refine q_seq ?_;refine stp_reg TT_ok (by rfl) fun K hK => ?_;simp [h1_2, g0_1, encG];(try refine And.intro (by first|omega|rfl) ?_);refine stp_call (condensed_ok g hv) ?_;simp [h1_2, g0_1, encG];(try refine And.intro (by first|omega|rfl) ?_);refine hK _ _ fun σ4 hσ H4 hH => ?_;clear hK K;obtain ⟨h3_4, h4_4⟩ := fs2 hσ 3 4;simp [] at h3_4 h4_4;clear hσ;replace hH : H1 = H4 := Eq.symm hH;subst hH;refine stp_reg TT_ok (by rfl) fun K hK => ?_;simp [h4_4, g0_1, hn_1, hst_1, encG, encS, show (g.cedges.length : Int) ≤ 281474976710656 by omega, show (8 : Int) * (g.cedges.length : Int) ≤ 281474976710656 by omega];(try refine And.intro (by first|omega|rfl) ?_);refine hK _ _ fun σ5 hσ H5 hH => ?_;clear hK K;obtain ⟨h3_5, h4_5, h5_5⟩ := fs3 hσ 3 4 5;simp [h3_4, h4_4] at h3_5 h4_5 h5_5;clear hσ;have g0_5 := gt_of hH 0;have g1_5 := gt_of hH 1;simp [g0_1, hn_1, hst_1] at g0_5 g1_5;have hn_5 := congrArg AHeap.n hH;simp [hn_1, hst_1] at hn_5;have hst_5 := congrArg AHeap.st hH;simp [hn_1, hst_1] at hst_5;clear hH;refine stp_reg TT_ok (by rfl) fun K hK => ?_;simp [g0_5, g1_5, encG];(try refine And.intro (by first|omega|rfl) ?_);refine hK _ _ fun σ6 hσ H6 hH => ?_;clear hK K;obtain ⟨h3_6, h4_6, h5_6, h6_6⟩ := fs4 hσ 3 4 5 6;simp [h3_5, h4_5, h5_5] at h3_6 h4_6 h5_6 h6_6;clear hσ;replace hH : H5 = H6 := Eq.symm hH;subst hH;refine awp_seq ?_;have hFF0 := an3 h4_6 g0_5 g1_5;refine stp_reg TT_ok (by rfl) fun K hK => ?_
  simp [hFF0, encG, show listedL g.cedges g.cedges.length = g.order from rfl];(try refine And.intro (by first|omega|rfl) ?_);refine stp_call (listed_ok g.cedges (by omega) (cedges_ok hv)) ?_;simp [hFF0, encG, show listedL g.cedges g.cedges.length = g.order from rfl];(try refine And.intro (by first|omega|rfl) ?_);refine hK _ _ fun σ7 hσ H7 hH => ?_;clear hK K hFF0;obtain ⟨h3_7, h4_7, h5_7, h6_7, h24_7, h25_7, h26_7⟩ := fs7 hσ 3 4 5 6 24 25 26;simp [h3_6, h4_6, h5_6, h6_6] at h3_7 h4_7 h5_7 h6_7 h24_7 h25_7 h26_7;clear hσ;replace hH : H5 = H7 := Eq.symm hH;subst hH;refine awp_block ?_;refine awp_loopV (fun n σ' H' => ∃ (i : Nat) (v : AV) (vs : List AV) (lev : List Int) (ou : List (List Int)), n = g.order.length - i ∧ σ' 3 = σ7 3 ∧ σ' 4 = σ7 4 ∧ σ' 5 = σ7 5 ∧ σ' 6 = v ∧ σ' 24 = σ7 24 ∧ σ' 25 = σ7 25 ∧ σ' 26 = (AV.int IntKind.i64) i ∧ H'.get 1 = some (.row 3 1 0 (lev.map (AV.int IntKind.i64))) ∧ H'.st = H5.st ∧ (i ≤ g.order.length) ∧ (lv2 g.cedges g.comps (g.order.take i) = (lev, ou)) ∧ (LvB g.cedges.length (100000 * i) lev) ∧ (∀ l ∈ ou, l.length ≤ 1024 * i) ∧ (RowsV 2 v vs ou H') ∧ (ou.length ≤ 100000 * i + 1)) ?_ ?_
  ·refine ⟨_, 0, .nils, [], List.replicate g.cedges.length 0, [], rfl, rfl, rfl, rfl, (by simp [h6_7]), rfl, rfl, (by simp [h26_7]), (by simp [g1_5]), rfl, ?_, ?_, ?_, ?_, ?_, ?_⟩
   ·first | omega | (simp; done) | assumption
   ·rfl
   ·exact ⟨by simp, fun x hx => by have := in_toNat hx; simp [gt, List.getElem?_replicate, this]⟩
   ·simp
   ·exact ⟨⟨by rfl, fun i v l h => by simp at h, fun i j id g n g' n' h => by simp at h⟩, .inl ⟨rfl, rfl⟩⟩
   ·simp
  ·rintro n1 σ8 H8 ⟨i, v, vs, lev, ou, hn1, q3_8, q4_8, q5_8, h6_8, q24_8, q25_8, h26_8, g1_8, qst_8, p1, p2, p3, p4, p5, p6⟩
   have h3_8 := q3_8.trans h3_7;have h4_8 := q4_8.trans h4_7;have h5_8 := q5_8.trans h5_7;have h24_8 := q24_8.trans h24_7;have h25_8 := q25_8.trans h25_7;have hst_8 := qst_8.trans hst_5;refine stp_reg TT_ok (by rfl) fun K hK => ?_;simp [h25_8, h26_8, g1_8, encG];(try refine And.intro (by first|omega|rfl) ?_);refine hK _ _ fun σ9 hσ H9 hH => ?_;clear hK K;obtain ⟨h3_9, h4_9, h5_9, h6_9, h24_9, h25_9, h26_9, h27_9⟩ := fs8 hσ 3 4 5 6 24 25 26 27;simp [h3_8, h4_8, h5_8, h6_8, h24_8, h25_8, h26_8] at h3_9 h4_9 h5_9 h6_9 h24_9 h25_9 h26_9 h27_9;clear hσ;replace hH : H8 = H9 := Eq.symm hH;subst hH;refine awp_seq ?_;refine awp_cond _ (by simp only [aeval_tmp]; exact h27_9) (fun hc27 => ?_) (fun hc27 => ?_)
   ·(try simp at hc27);have hlt : i < g.order.length := by simpa using hc27
    obtain ⟨k, hk⟩ : ∃ k, g.order[i] = k := ⟨_, rfl⟩;have hkr := order_in g k (by rw [← hk]; exact List.getElem_mem hlt);have hkr2 : inR g.cedges.length k := by rw [hcc]; exact hkr
    obtain ⟨k1, k2⟩ := hkr;have k3 : k.toNat < g.comps.length := by omega
    have k4 : k.toNat < g.cedges.length := by omega
    have k5 : k < g.cedges.length := by omega
    obtain ⟨lk, hlk⟩ : ∃ lk, g.comps[k.toNat] = lk := ⟨_, rfl⟩;obtain ⟨xs, hxs⟩ : ∃ xs, g.cedges[k.toNat] = xs := ⟨_, rfl⟩;obtain ⟨hx1, hx2⟩ := cedges_ok hv xs (by rw [← hxs]; exact List.getElem_mem k4);have hlv1 := p3.1;refine awp_skip ?_;refine q_seq ?_;refine awp_seq ?_;refine awp_block ?_;refine stp_reg TT_ok (by rfl) fun K hK => ?_;simp [h24_9, h26_9, g1_8, encG, hlt, hk];(try refine And.intro (by first|omega|rfl) ?_);refine hK _ _ fun σ10 hσ H10 hH => ?_;clear hK K;obtain ⟨h3_10, h4_10, h5_10, h6_10, h8_10, h24_10, h25_10, h26_10⟩ := fs8 hσ 3 4 5 6 8 24 25 26;simp [h3_9, h4_9, h5_9, h6_9, h24_9, h25_9, h26_9] at h3_10 h4_10 h5_10 h6_10 h8_10 h24_10 h25_10 h26_10;clear hσ;replace hH : H8 = H10 := Eq.symm hH;subst hH;refine awp_seq ?_;refine stp_reg TT_ok (by rfl) fun K hK => ?_;simp [h4_10, h8_10, g1_8, encG, encS, k1, k5, k4, hxs];(try refine And.intro (by first|omega|rfl) ?_);refine hK _ _ fun σ11 hσ H11 hH => ?_;clear hK K;obtain ⟨h3_11, h4_11, h5_11, h6_11, h8_11, h24_11, h25_11, h26_11, h33_11, h34_11, h35_11⟩ := fs11 hσ 3 4 5 6 8 24 25 26 33 34 35;simp [h3_10, h4_10, h5_10, h6_10, h8_10, h24_10, h25_10, h26_10] at h3_11 h4_11 h5_11 h6_11 h8_11 h24_11 h25_11 h26_11 h33_11 h34_11 h35_11;clear hσ;replace hH : H8 = H11 := Eq.symm hH;subst hH;refine awp_block ?_
    refine awp_loopV (fun n σ' H' => ∃ (j : Nat) (lev2 : List Int), n = xs.length - j ∧ σ' 3 = σ11 3 ∧ σ' 4 = σ11 4 ∧ σ' 5 = σ11 5 ∧ σ' 6 = σ11 6 ∧ σ' 8 = σ11 8 ∧ σ' 24 = σ11 24 ∧ σ' 25 = σ11 25 ∧ σ' 26 = σ11 26 ∧ σ' 33 = σ11 33 ∧ σ' 34 = σ11 34 ∧ σ' 35 = (AV.int IntKind.i64) j ∧ H'.get 1 = some (.row 3 1 0 (lev2.map (AV.int IntKind.i64))) ∧ H'.st = H8.st ∧ (j ≤ xs.length) ∧ (lev2 = lvIn lev k (xs.take j)) ∧ (LvB g.cedges.length (100000 * i + j) lev2) ∧ (RowsV 2 v vs ou H')) ?_ ?_
    ·refine ⟨_, 0, lev, rfl, rfl, rfl, rfl, rfl, rfl, rfl, rfl, rfl, rfl, rfl, (by simp [h35_11]), (by simp [g1_8]), rfl, ?_, ?_, ?_, ?_⟩
     ·first | omega | (simp; done) | assumption
     ·rfl
     ·exact p3
     ·exact p5
    ·rintro n2 σ12 H12 ⟨j, lev2, hn2, q3_12, q4_12, q5_12, q6_12, q8_12, q24_12, q25_12, q26_12, q33_12, q34_12, h35_12, g1_12, qst_12, q1, q2, q3, q4⟩
     have h3_12 := q3_12.trans h3_11;have h4_12 := q4_12.trans h4_11;have h5_12 := q5_12.trans h5_11;have h6_12 := q6_12.trans h6_11;have h8_12 := q8_12.trans h8_11;have h24_12 := q24_12.trans h24_11;have h25_12 := q25_12.trans h25_11;have h26_12 := q26_12.trans h26_11;have h33_12 := q33_12.trans h33_11;have h34_12 := q34_12.trans h34_11;have hst_12 := qst_12.trans hst_8;have hl2 := q3.1;refine stp_reg TT_ok (by rfl) fun K hK => ?_;simp [h34_12, h35_12, g1_12, encG];(try refine And.intro (by first|omega|rfl) ?_);refine hK _ _ fun σ13 hσ H13 hH => ?_;clear hK K;obtain ⟨h3_13, h4_13, h5_13, h6_13, h8_13, h24_13, h25_13, h26_13, h33_13, h34_13, h35_13, h36_13⟩ := fs12 hσ 3 4 5 6 8 24 25 26 33 34 35 36;simp [h3_12, h4_12, h5_12, h6_12, h8_12, h24_12, h25_12, h26_12, h33_12, h34_12, h35_12] at h3_13 h4_13 h5_13 h6_13 h8_13 h24_13 h25_13 h26_13 h33_13 h34_13 h35_13 h36_13;clear hσ;replace hH : H12 = H13 := Eq.symm hH;subst hH;refine awp_seq ?_;refine awp_cond _ (by simp only [aeval_tmp]; exact h36_13) (fun hc36 => ?_) (fun hc36 => ?_)
     ·(try simp at hc36);have hlt2 : j < xs.length := by simpa using hc36
      obtain ⟨x, hx⟩ : ∃ x, xs[j] = x := ⟨_, rfl⟩;have hxr := hx2 x (by rw [← hx]; exact List.getElem_mem hlt2);obtain ⟨x1, x2⟩ := hxr;have x3 : x.toNat < lev2.length := by omega
      have x4 : k.toNat < lev2.length := by omega
      obtain ⟨b1, b2⟩ := q3.2 x ⟨x1, x2⟩;have hset := q3.set hkr2 ⟨x1, x2⟩;refine awp_skip ?_;refine q_seq ?_;refine awp_seq ?_;refine awp_block ?_;refine stp_reg TT_ok (by rfl) fun K hK => ?_;simp [h33_13, h35_13, g1_12, encG, hlt2, hx];(try refine And.intro (by first|omega|rfl) ?_);refine hK _ _ fun σ14 hσ H14 hH => ?_;clear hK K;obtain ⟨h3_14, h4_14, h5_14, h6_14, h8_14, h10_14, h24_14, h25_14, h26_14, h33_14, h34_14, h35_14⟩ := fs12 hσ 3 4 5 6 8 10 24 25 26 33 34 35;simp [h3_13, h4_13, h5_13, h6_13, h8_13, h24_13, h25_13, h26_13, h33_13, h34_13, h35_13] at h3_14 h4_14 h5_14 h6_14 h8_14 h10_14 h24_14 h25_14 h26_14 h33_14 h34_14 h35_14;clear hσ;replace hH : H12 = H14 := Eq.symm hH;subst hH;refine stp_lexl false TT_ok mixed (by rfl) (by rfl) (by kernel_rfl) (by rfl) fun U hU K hK => ?_;simp [h5_14, h8_14, h10_14, g1_12, encG, k1, k5, k4, x1, x2, hl2, gt_elem x3, gt_elem x4, show x.toNat < g.cedges.length by omega, wrap_ok (n := gt lev2 x + 1) (by omega) (by omega)];(try refine And.intro (by first|omega|rfl) ?_);refine hK _ _ _ (by subst hU; kernel_rfl) fun σ15 hσ H15 hH => ?_;clear hK K hU U;obtain ⟨h3_15, h4_15, h5_15, h6_15, h8_15, h24_15, h25_15, h26_15, h33_15, h34_15, h35_15⟩ := fs11 hσ 3 4 5 6 8 24 25 26 33 34 35;simp [h3_14, h4_14, h5_14, h6_14, h8_14, h24_14, h25_14, h26_14, h33_14, h34_14, h35_14] at h3_15 h4_15 h5_15 h6_15 h8_15 h24_15 h25_15 h26_15 h33_15 h34_15 h35_15;clear hσ;have g1_15 := gt_of hH 1;simp [g1_12, hst_12] at g1_15
      have hst_15 := congrArg AHeap.st hH;simp [hst_12] at hst_15;have ka : ∀ j, j ≠ 1 → H15.get j = H12.get j := fun j h1 => by rw [hH]; simp [h1]
      clear hH;refine q_block ?_;refine q_seq ?_;refine stp_regl TT_ok (by rfl) fun K hK => ?_;simp [h35_15, g1_15, encG, wrap_ok (n := (j : Int) + 1) (by omega) (by omega)];(try refine And.intro (by first|omega|rfl) ?_);refine hK _ _ fun σ16 hσ H16 hH => ?_;clear hK K;obtain ⟨h3_16, h4_16, h5_16, h6_16, h8_16, h24_16, h25_16, h26_16, h33_16, h34_16, h35_16⟩ := fs11 hσ 3 4 5 6 8 24 25 26 33 34 35;simp [h3_15, h4_15, h5_15, h6_15, h8_15, h24_15, h25_15, h26_15, h33_15, h34_15] at h3_16 h4_16 h5_16 h6_16 h8_16 h24_16 h25_16 h26_16 h33_16 h34_16 h35_16;clear hσ;replace hH : H15 = H16 := Eq.symm hH;subst hH;refine ⟨_, ?_, j + 1, lev2.set k.toNat (max (gt lev2 k) (gt lev2 x + 1)), rfl, (h3_16.trans h3_11.symm), (h4_16.trans h4_11.symm), (h5_16.trans h5_11.symm), (h6_16.trans h6_11.symm), (h8_16.trans h8_11.symm), (h24_16.trans h24_11.symm), (h25_16.trans h25_11.symm), (h26_16.trans h26_11.symm), (h33_16.trans h33_11.symm), (h34_16.trans h34_11.symm), (by simp [h35_16, ite_max]), (by simp [g1_15, ite_max]), (hst_15.trans hst_8.symm), ?_, ?_, ?_, ?_⟩
      ·subst hn2; omega
      ·first | omega | assumption | (simp; done)
      ·rw [lvIn_succ hlt2, ← q2, hx]
      ·exact hset
      ·exact q4.keepL fun id h1 _ => ka id (by omega)
     ·(try simp at hc36);have hje : j = xs.length := by have := hc36; omega
      subst hje;rw [List.take_length] at q2;obtain ⟨b1, b2⟩ := q3.2 k hkr2;obtain ⟨d, hd⟩ : ∃ d : Nat, gt lev2 k = d := ⟨(gt lev2 k).toNat, by omega⟩;rw [hd] at b1 b2;have x4 : k.toNat < lev2.length := by omega
      have hge : lev2[k.toNat] = (d : Int) := by rw [gt_elem x4, hd]
      refine awp_exit ?_;refine q_seq_exit ?_;refine q_loop_exit ?_;refine q_block_hit ?_;refine q_seq ?_;refine awp_seq ?_;refine awp_block ?_;refine awp_loopV (fun n σ' H' => ∃ (m : Nat) (v3 : AV) (vs3 : List AV), n = d + 1 - (ou.length + m) ∧ σ' 3 = σ13 3 ∧ σ' 4 = σ13 4 ∧ σ' 5 = σ13 5 ∧ σ' 6 = v3 ∧ σ' 8 = σ13 8 ∧ σ' 24 = σ13 24 ∧ σ' 25 = σ13 25 ∧ σ' 26 = σ13 26 ∧ H'.get 1 = H12.get 1 ∧ H'.st = H12.st ∧ (m = 0 ∨ ou.length + m ≤ d + 1) ∧ (RowsV 2 v3 vs3 (padL ou m) H')) ?_ ?_
      ·refine ⟨_, 0, v, vs, rfl, rfl, rfl, rfl, (by simp [h6_13]), rfl, rfl, rfl, rfl, rfl, rfl, ?_, ?_⟩
       ·first | omega | (simp; done) | assumption
       ·simpa [padL] using q4
      ·rintro n3 σ17 H17 ⟨m, v3, vs3, hn3, q3_17, q4_17, q5_17, h6_17, q8_17, q24_17, q25_17, q26_17, qg1_17, qst_17, r1, r2⟩
       have h3_17 := q3_17.trans h3_13;have h4_17 := q4_17.trans h4_13;have h5_17 := q5_17.trans h5_13;have h8_17 := q8_17.trans h8_13;have h24_17 := q24_17.trans h24_13;have h25_17 := q25_17.trans h25_13;have h26_17 := q26_17.trans h26_13;have g1_17 := qg1_17.trans g1_12;have hst_17 := qst_17.trans hst_12;have hvl : vs3.length = ou.length + m := by rw [r2.rows.len, padL_len]
       refine awp_seq ?_;refine stp_cut (fun σ' H' => σ' 3 = σ17 3 ∧ σ' 4 = σ17 4 ∧ σ' 5 = σ17 5 ∧ σ' 6 = σ17 6 ∧ σ' 8 = σ17 8 ∧ σ' 24 = σ17 24 ∧ σ' 25 = σ17 25 ∧ σ' 26 = σ17 26 ∧ σ' 59 = .bool (decide (vs3.length ≤ d)) ∧ H' = H17) ?_ ?_
       ·skip;rcases r2.top with ⟨rfl, hvs⟩ | ⟨iv, gv, rfl, hb, hlo, hne⟩
        ·skip;refine stp_regl TT_ok (by rfl) fun K hK => ?_;simp [h5_17, h6_17, h8_17, g1_17, encG, k1, k5, k4, hl2, hge];(try refine And.intro (by first|omega|rfl) ?_);refine hK _ _ fun σ19 hσ H19 hH => ?_;clear hK K;obtain ⟨h3_19, h4_19, h5_19, h6_19, h8_19, h24_19, h25_19, h26_19, h59_19⟩ := fs9 hσ 3 4 5 6 8 24 25 26 59;simp [h3_17, h4_17, h5_17, h6_17, h8_17, h24_17, h25_17, h26_17] at h3_19 h4_19 h5_19 h6_19 h8_19 h24_19 h25_19 h26_19 h59_19;clear hσ;replace hH : H17 = H19 := Eq.symm hH;subst hH;refine ⟨rfl, (h3_19.trans h3_17.symm), (h4_19.trans h4_17.symm), (h5_19.trans h5_17.symm), (h6_19.trans h6_17.symm), (h8_19.trans h8_17.symm), (h24_19.trans h24_17.symm), (h25_19.trans h25_17.symm), (h26_19.trans h26_17.symm), (by simp [h59_19, hvs]), rfl⟩
        ·skip;have nx1 : ¬ iv = 1 ∧ ¬ 1 = iv := by omega
         refine stp_regl TT_ok (by rfl) fun K hK => ?_;simp [h5_17, h6_17, h8_17, g1_17, hb, nx1, encG, k1, k5, k4, hl2, hge];(try refine And.intro (by first|omega|rfl) ?_);refine hK _ _ fun σ20 hσ H20 hH => ?_;clear hK K;obtain ⟨h3_20, h4_20, h5_20, h6_20, h8_20, h24_20, h25_20, h26_20, h59_20⟩ := fs9 hσ 3 4 5 6 8 24 25 26 59;simp [h3_17, h4_17, h5_17, h6_17, h8_17, h24_17, h25_17, h26_17] at h3_20 h4_20 h5_20 h6_20 h8_20 h24_20 h25_20 h26_20 h59_20;clear hσ;replace hH : H17 = H20 := Eq.symm hH;subst hH;refine ⟨rfl, (h3_20.trans h3_17.symm), (h4_20.trans h4_17.symm), (h5_20.trans h5_17.symm), (h6_20.trans h6_17.symm), (h8_20.trans h8_17.symm), (h24_20.trans h24_17.symm), (h25_20.trans h25_17.symm), (h26_20.trans h26_17.symm), (by simp [h59_20]), rfl⟩
       ·rintro σ18 H18 ⟨q3_18, q4_18, q5_18, q6_18, q8_18, q24_18, q25_18, q26_18, h59_18, hHq⟩
        replace hHq := hHq.symm;subst hHq;have h3_18 := q3_18.trans h3_17;have h4_18 := q4_18.trans h4_17;have h5_18 := q5_18.trans h5_17;have h6_18 := q6_18.trans h6_17;have h8_18 := q8_18.trans h8_17;have h24_18 := q24_18.trans h24_17;have h25_18 := q25_18.trans h25_17;have h26_18 := q26_18.trans h26_17;refine awp_cond _ (by simp only [aeval_tmp]; exact h59_18) (fun hc59 => ?_) (fun hc59 => ?_)
        ·(try simp at hc59);have hlt3 : vs3.length ≤ d := by simpa using hc59
         refine awp_skip ?_;refine q_seq ?_;refine awp_block ?_;rcases r2.top with ⟨rfl, hvs⟩ | ⟨iv, gv, rfl, hb, hlo, hne⟩
         ·skip;refine awp_ok fun hok => ?_;obtain ⟨m21, hn_m21⟩ : ∃ m, H17.n = m := ⟨_, rfl⟩;have hf_m21_0 := hok.free 0;simp [hn_m21, hst_17] at hf_m21_0;have nx2 := ne_get hf_m21_0 g1_17;have hf_m21_1 := hok.free 1;simp [hn_m21, hst_17] at hf_m21_1;have nx3 := ne_get hf_m21_1 g1_17;have nx4 : ¬ m21 = 0 ∧ ¬ 0 = m21 := by omega
          refine stp_regl TT_ok (by rfl) fun K hK => ?_;simp [h6_18, g1_17, hn_m21, hst_17, nx2, nx3, nx4, encG];(try refine And.intro (by first|omega|rfl) ?_);refine hK _ _ fun σ22 hσ H22 hH => ?_;clear hK K;obtain ⟨h3_22, h4_22, h5_22, h6_22, h8_22, h24_22, h25_22, h26_22⟩ := fs8 hσ 3 4 5 6 8 24 25 26;simp [h3_18, h4_18, h5_18, h8_18, h24_18, h25_18, h26_18] at h3_22 h4_22 h5_22 h6_22 h8_22 h24_22 h25_22 h26_22;clear hσ;have g1_22 := gt_of hH 1;have gm21_22 := gt_of hH m21;have g_m21_1__22 := gt_of hH (m21 + 1);simp [g1_17, hn_m21, hst_17, nx2, nx3, nx4] at g1_22 gm21_22 g_m21_1__22;have hst_22 := congrArg AHeap.st hH;simp [hst_17] at hst_22
          have kb : ∀ j, H17.get j ≠ none → H22.get j = H17.get j := fun j hj => by
           rw [hH]; have hjm : ¬ j = m21 := by { intro e; rw [e, hf_m21_0] at hj; exact hj rfl }
           have hjn : ¬ j = (m21 + 1) := by { intro e; rw [e, hf_m21_1] at hj; exact hj rfl }
           simp [hn_m21, hst_17, hjm, hjn]
          clear hH;refine q_block ?_;refine ⟨_, ?_, m + 1, .sl (m21 + 1) 0 0 1, [.nils], rfl, (h3_22.trans h3_13.symm), (h4_22.trans h4_13.symm), (h5_22.trans h5_13.symm), (by simp [h6_22]), (h8_22.trans h8_13.symm), (h24_22.trans h24_13.symm), (h25_22.trans h25_13.symm), (h26_22.trans h26_13.symm), (g1_22.trans g1_12.symm), (hst_22.trans hst_12.symm), ?_, ?_⟩
          ·subst hn3; omega
          ·first | omega | assumption | (simp; done)
          ·subst hvs;rw [padL_succ];exact r2.pushed (by rw [g_m21_1__22]; rfl) (by omega) (.inr rfl) fun j h5 hj h1 => kb j hj
         ·skip;have nx5 : ¬ iv = 1 ∧ ¬ 1 = iv := by omega
          refine awp_ok fun hok => ?_;obtain ⟨m23, hn_m23⟩ : ∃ m, H17.n = m := ⟨_, rfl⟩;have hf_m23_0 := hok.free 0;simp [hn_m23, hst_17] at hf_m23_0;have nx6 := ne_get hf_m23_0 g1_17;have nx7 := ne_get hf_m23_0 hb;refine stp_regl TT_ok (by rfl) fun K hK => ?_;simp [h6_18, g1_17, hb, hn_m23, hst_17, nx5, nx6, nx7, encG, show vs3.length ≤ 9223372036854775806 by omega, show (vs3.length + 1) * 24 ≤ 140737488355328 by omega];(try refine And.intro (by first|omega|rfl) ?_);refine hK _ _ fun σ24 hσ H24 hH => ?_;clear hK K;obtain ⟨h3_24, h4_24, h5_24, h6_24, h8_24, h24_24, h25_24, h26_24⟩ := fs8 hσ 3 4 5 6 8 24 25 26;simp [h3_18, h4_18, h5_18, h8_18, h24_18, h25_18, h26_18] at h3_24 h4_24 h5_24 h6_24 h8_24 h24_24 h25_24 h26_24;clear hσ;have g1_24 := gt_of hH 1;have giv_24 := gt_of hH iv;have gm23_24 := gt_of hH m23;simp [g1_17, hb, hn_m23, hst_17, nx5, nx6, nx7] at g1_24 giv_24 gm23_24;have hst_24 := congrArg AHeap.st hH;simp [hst_17] at hst_24
          have kb : ∀ j, H17.get j ≠ none → j ≠ iv → H24.get j = H17.get j := fun j hj h1 => by
           rw [hH]; have hjm : ¬ j = m23 := by { intro e; rw [e, hf_m23_0] at hj; exact hj rfl }
           simp [hn_m23, hjm, h1]
          clear hH;refine q_block ?_;refine ⟨_, ?_, m + 1, .sl iv (gv + 1) 0 (vs3.length + 1), vs3 ++ [.nils], rfl, (h3_24.trans h3_13.symm), (h4_24.trans h4_13.symm), (h5_24.trans h5_13.symm), (by simp [h6_24]), (h8_24.trans h8_13.symm), (h24_24.trans h24_13.symm), (h25_24.trans h25_13.symm), (h26_24.trans h26_13.symm), (g1_24.trans g1_12.symm), (hst_24.trans hst_12.symm), ?_, ?_⟩
          ·subst hn3; omega
          ·first | omega | assumption | (simp; done)
          ·rw [padL_succ];exact r2.pushed (by rw [giv_24]) hlo (.inl ⟨_, rfl⟩) fun j h5 hj h1 => kb j hj h1
        ·(try simp at hc59);refine awp_exit ?_;refine q_seq_exit ?_;refine q_loop_exit ?_;refine q_block_hit ?_;refine q_seq ?_;have hlt4 : d < vs3.length := by have := hc59; omega
         have hme : m = d + 1 - ou.length := by omega
         have hlo_ : lv2 g.cedges g.comps (g.order.take (i + 1)) = (lev2, (padL ou m).set d ((padL ou m).getD d [] ++ lk)) := by
          rw [lv2_succ hlt, p2, hk, lvStep];have e1 : g.cedges.getD k.toNat [] = xs := by rw [List.getD_eq_getElem?_getD, List.getElem?_eq_getElem k4, hxs]; rfl
          have e2 : g.comps.getD k.toNat [] = lk := by rw [List.getD_eq_getElem?_getD, List.getElem?_eq_getElem k3, hlk]; rfl
          simp only [e1, ← q2, hd, Int.toNat_natCast, stepOut, e2, ← hme]
         have hlk1 : lk ≠ [] := comps_ne lk (by rw [← hlk]; exact List.getElem_mem k3);have hlk2 : lk.length ≤ 1024 := Nat.le_trans (comps_l lk (by rw [← hlk]; exact List.getElem_mem k3)) hb1;have hpd : d < (padL ou m).length := by rw [padL_len]; omega
         obtain ⟨old, hold⟩ : ∃ old, (padL ou m)[d] = old := ⟨_, rfl⟩;have hold2 : (padL ou m)[d]? = some old := by rw [List.getElem?_eq_getElem hpd, hold]
         rw [show (padL ou m).getD d [] = old by rw [List.getD_eq_getElem?_getD, hold2]; rfl] at hlo_
         have hol2 : old.length ≤ 1024 * i := by
          rcases padL_mem (List.mem_of_getElem? hold2) with h | h
          ·exact p4 old h
          ·rw [h]; simp
         have hvk : vs3[d]? = some vs3[d] := List.getElem?_eq_getElem hlt4;have hok := r2.rows.own _ _ _ hvk hold2;obtain ⟨iv, gv, rfl, htop, hlo, hne⟩ := r2.own (by omega)
         obtain ⟨lk0, lkr, hlk3⟩ : ∃ a b, lk = a :: b := by
          cases lk with
          | nil => exact absurd rfl hlk1
          | cons a b => exact ⟨a, b, rfl⟩
         have hlkl := congrArg List.length hlk3;rw [List.length_cons] at hlkl;rcases hok with ⟨hvn, hnil⟩ | ⟨id, gn, rest, hvn, hb, hid⟩
         ·skip;have nx8 : ¬ iv = 1 ∧ ¬ 1 = iv := by omega
          refine awp_ok fun hok => ?_;obtain ⟨m25, hn_m25⟩ : ∃ m, H17.n = m := ⟨_, rfl⟩;have hf_m25_16 := hok.free 16;simp [hn_m25, hst_17] at hf_m25_16;have nx9 := ne_get hf_m25_16 g1_17;have nx10 := ne_get hf_m25_16 htop;refine stp_lexl true TT_ok mixed (by rfl) (by rfl) (by kernel_rfl) (by rfl) fun U hU K hK => ?_;simp [h3_18, h5_18, h6_18, h8_18, g1_17, htop, hn_m25, hst_17, nx8, nx9, nx10, encG, k1, k5, k4, k2, k3, hl2, hge, hlk, hlt4, hvn, encS, hlk1, show lk.length * 8 ≤ 140737488355328 by omega, show lk.length ≤ 9223372036854775807 by omega];(try refine And.intro (by first|omega|rfl) ?_)
          refine hK _ _ _ (by rw [hU.trans (by kernel_rfl : _ = [(0, 1), (0, 2), (1, 2), (0, 3), (0, 4), (0, 5), (1, 5), (2, 5), (3, 5), (4, 5), (0, 6), (1, 6), (2, 6), (3, 6), (4, 6), (5, 6), (0, 7), (1, 7), (2, 7), (3, 7), (4, 7), (5, 7), (6, 7), (0, 8), (1, 8), (2, 8), (3, 8), (4, 8), (5, 8), (0, 9), (1, 9), (2, 9), (3, 9), (4, 9), (5, 9), (0, 10), (1, 10), (2, 10), (3, 10), (4, 10), (0, 11), (1, 11), (2, 11), (3, 11), (4, 11), (0, 12), (1, 12), (2, 12), (3, 12), (4, 12), (5, 12), (6, 12), (7, 12), (8, 12), (9, 12), (10, 12), (11, 12), (0, 13), (1, 13), (2, 13), (3, 13), (4, 13), (5, 13), (6, 13), (7, 13), (8, 13), (9, 13), (10, 13), (11, 13), (12, 13), (0, 14), (1, 14), (2, 14), (3, 14), (4, 14), (5, 14), (6, 14), (7, 14), (8, 14), (9, 14), (10, 14), (11, 14), (0, 15), (1, 15), (2, 15), (3, 15), (4, 15), (5, 15), (6, 15), (7, 15), (8, 15), (9, 15), (10, 15), (11, 15), (0, 16), (1, 16), (2, 16), (3, 16), (4, 16)])]; simp [logOk, ftFree, h3_18, h5_18, h6_18, h8_18, g1_17, htop, hn_m25, hst_17, nx8, nx9, nx10, encG, k1, k5, k4, k2, k3, hl2, hge, hlk, hlt4, hvn, encS, hlk1, show lk.length * 8 ≤ 140737488355328 by omega, show lk.length ≤ 9223372036854775807 by omega]) fun σ26 hσ H26 hH => ?_;clear hK K hU U;obtain ⟨h3_26, h4_26, h5_26, h6_26, h24_26, h25_26, h26_26⟩ := fs7 hσ 3 4 5 6 24 25 26;simp [h3_18, h4_18, h5_18, h6_18, h24_18, h25_18, h26_18] at h3_26 h4_26 h5_26 h6_26 h24_26 h25_26 h26_26;clear hσ;have g1_26 := gt_of hH 1;have giv_26 := gt_of hH iv
          have g_m25_16__26 := gt_of hH (m25 + 16);simp [g1_17, htop, hn_m25, hst_17, nx8, nx9, nx10] at g1_26 giv_26 g_m25_16__26;have hst_26 := congrArg AHeap.st hH;simp [hst_17] at hst_26
          have kb : ∀ j, H17.get j ≠ none → j ≠ iv → H26.get j = H17.get j := fun j hj h1 => by
           rw [hH]; have hjn : ¬ j = (m25 + 16) := by { intro e; rw [e, hf_m25_16] at hj; exact hj rfl }
           simp [hn_m25, hjn, h1]
          clear hH;refine q_block ?_;refine q_seq ?_;refine stp_regl TT_ok (by rfl) fun K hK => ?_;simp [h26_26, g1_26, giv_26, g_m25_16__26, nx8, nx9, nx10, encG, wrap_ok (n := (i : Int) + 1) (by omega) (by omega)];(try refine And.intro (by first|omega|rfl) ?_);refine hK _ _ fun σ27 hσ H27 hH => ?_;clear hK K;obtain ⟨h3_27, h4_27, h5_27, h6_27, h24_27, h25_27, h26_27⟩ := fs7 hσ 3 4 5 6 24 25 26;simp [h3_26, h4_26, h5_26, h6_26, h24_26, h25_26] at h3_27 h4_27 h5_27 h6_27 h24_27 h25_27 h26_27;clear hσ;replace hH : H26 = H27 := Eq.symm hH;subst hH;have hdl : ((padL ou m).set d (old ++ lk)).length ≤ 100000 * (i + 1) + 1 := by rw [List.length_set, padL_len]; omega
          have hdm : ∀ l ∈ (padL ou m).set d (old ++ lk), l.length ≤ 1024 * (i + 1) := fun l hl => by
           rcases List.mem_or_eq_of_mem_set hl with h | h
           ·rcases padL_mem h with h | h
            ·have := p4 l h; omega
            ·rw [h]; simp
           ·rw [h, List.length_append]; omega
          have hlb : LvB g.cedges.length (100000 * (i + 1)) lev2 := ⟨q3.1, fun y hy => by have := q3.2 y hy; omega⟩;refine ⟨_, ?_, i + 1, .sl iv gv 0 vs3.length, vs3.set d (.sl (m25 + 16) 0 0 lk.length), lev2, (padL ou m).set d (old ++ lk), rfl, (h3_27.trans h3_7.symm), (h4_27.trans h4_7.symm), (h5_27.trans h5_7.symm), (by simp [h6_27]), (h24_27.trans h24_7.symm), (h25_27.trans h25_7.symm), (by simp [h26_27]), (by simp [g1_26]), (hst_26.trans hst_5.symm), ?_, ?_, ?_, ?_, ?_, ?_⟩
          ·subst hn1; omega
          ·first | omega | assumption | (simp; done)
          ·exact hlo_
          ·exact hlb
          ·exact hdm
          ·have hnil2 : old = [] := List.map_eq_nil_iff.1 hnil;refine r2.setR (by rw [giv_26]) (OwnR.mk (rest := []) g_m25_16__26 (by simp [hnil2]) (by simp [hnil2]) (by omega)) (fun g' n' e => by cases e; omega) fun j id g' n' hj hvj => ?_;obtain ⟨u1, u2⟩ := r2.rows.used hvj;refine ⟨kb id u1 (hne _ _ _ _ hvj), fun g'' n'' e => ?_⟩;cases e; exact u1 hf_m25_16
          ·exact hdl
         ·skip;rw [hvn] at hvk;have hiv : ¬ id = iv := hne _ _ _ _ hvk;have nx11 : ¬ iv = 1 ∧ ¬ 1 = iv := by omega
          have nx12 : ¬ id = 1 ∧ ¬ 1 = id := by omega
          refine stp_lexl true TT_ok mixed (by rfl) (by rfl) (by kernel_rfl) (by rfl) fun U hU K hK => ?_;simp [h3_18, h5_18, h6_18, h8_18, g1_17, htop, hb, hst_17, hiv, Ne.symm hiv, nx11, nx12, encG, k1, k5, k4, k2, k3, hl2, hge, hlk, hlt4, hvn, encS, hlk1, show (old.length + lk.length) * 8 ≤ 140737488355328 by omega, show old.length + lk.length ≤ 9223372036854775807 by omega, take_map_len];(try refine And.intro (by first|omega|rfl) ?_)
          refine hK _ _ _ (by rw [hU.trans (by kernel_rfl : _ = [(0, 1), (0, 2), (1, 2), (0, 3), (0, 4), (0, 5), (1, 5), (2, 5), (3, 5), (4, 5), (0, 6), (1, 6), (2, 6), (3, 6), (4, 6), (5, 6), (0, 7), (1, 7), (2, 7), (3, 7), (4, 7), (5, 7), (6, 7), (0, 8), (1, 8), (2, 8), (3, 8), (4, 8), (5, 8), (0, 9), (1, 9), (2, 9), (3, 9), (4, 9), (5, 9), (0, 10), (1, 10), (2, 10), (3, 10), (4, 10), (0, 11), (1, 11), (2, 11), (3, 11), (4, 11), (0, 12), (1, 12), (2, 12), (3, 12), (4, 12), (5, 12), (6, 12), (7, 12), (8, 12), (9, 12), (10, 12), (11, 12), (0, 13), (1, 13), (2, 13), (3, 13), (4, 13), (5, 13), (6, 13), (7, 13), (8, 13), (9, 13), (10, 13), (11, 13), (12, 13), (0, 14), (1, 14), (2, 14), (3, 14), (4, 14), (5, 14), (6, 14), (7, 14), (8, 14), (9, 14), (10, 14), (11, 14), (0, 15), (1, 15), (2, 15), (3, 15), (4, 15), (5, 15), (6, 15), (7, 15), (8, 15), (9, 15), (10, 15), (11, 15), (0, 16), (1, 16), (2, 16), (3, 16), (4, 16)])]; simp [logOk, ftFree, h3_18, h5_18, h6_18, h8_18, g1_17, htop, hb, hst_17, hiv, Ne.symm hiv, nx11, nx12, encG, k1, k5, k4, k2, k3, hl2, hge, hlk, hlt4, hvn, encS, hlk1, show (old.length + lk.length) * 8 ≤ 140737488355328 by omega, show old.length + lk.length ≤ 9223372036854775807 by omega, take_map_len]) fun σ28 hσ H28 hH => ?_;clear hK K hU U;obtain ⟨h3_28, h4_28, h5_28, h6_28, h24_28, h25_28, h26_28⟩ := fs7 hσ 3 4 5 6 24 25 26;simp [h3_18, h4_18, h5_18, h6_18, h24_18, h25_18, h26_18] at h3_28 h4_28 h5_28 h6_28 h24_28 h25_28 h26_28;clear hσ
          have g1_28 := gt_of hH 1;have giv_28 := gt_of hH iv;have gid_28 := gt_of hH id;simp [g1_17, htop, hb, hst_17, hiv, Ne.symm hiv, nx11, nx12] at g1_28 giv_28 gid_28;have hst_28 := congrArg AHeap.st hH;simp [hst_17] at hst_28
          have kb : ∀ j, H17.get j ≠ none → j ≠ iv → j ≠ id → H28.get j = H17.get j := fun j hj h1 h2 => by
           rw [hH]; simp [h1, h2]
          clear hH;refine q_block ?_;refine q_seq ?_;refine stp_regl TT_ok (by rfl) fun K hK => ?_;simp [h26_28, g1_28, giv_28, gid_28, hiv, Ne.symm hiv, nx11, nx12, encG, wrap_ok (n := (i : Int) + 1) (by omega) (by omega)];(try refine And.intro (by first|omega|rfl) ?_);refine hK _ _ fun σ29 hσ H29 hH => ?_;clear hK K;obtain ⟨h3_29, h4_29, h5_29, h6_29, h24_29, h25_29, h26_29⟩ := fs7 hσ 3 4 5 6 24 25 26;simp [h3_28, h4_28, h5_28, h6_28, h24_28, h25_28] at h3_29 h4_29 h5_29 h6_29 h24_29 h25_29 h26_29;clear hσ;replace hH : H28 = H29 := Eq.symm hH;subst hH;have hdl : ((padL ou m).set d (old ++ lk)).length ≤ 100000 * (i + 1) + 1 := by rw [List.length_set, padL_len]; omega
          have hdm : ∀ l ∈ (padL ou m).set d (old ++ lk), l.length ≤ 1024 * (i + 1) := fun l hl => by
           rcases List.mem_or_eq_of_mem_set hl with h | h
           ·rcases padL_mem h with h | h
            ·have := p4 l h; omega
            ·rw [h]; simp
           ·rw [h, List.length_append]; omega
          have hlb : LvB g.cedges.length (100000 * (i + 1)) lev2 := ⟨q3.1, fun y hy => by have := q3.2 y hy; omega⟩;refine ⟨_, ?_, i + 1, .sl iv gv 0 vs3.length, vs3.set d (.sl id (gn + 1) 0 (old.length + lk.length)), lev2, (padL ou m).set d (old ++ lk), rfl, (h3_29.trans h3_7.symm), (h4_29.trans h4_7.symm), (h5_29.trans h5_7.symm), (by simp [h6_29]), (h24_29.trans h24_7.symm), (h25_29.trans h25_7.symm), (by simp [h26_29]), (by simp [g1_28]), (hst_28.trans hst_5.symm), ?_, ?_, ?_, ?_, ?_, ?_⟩
          ·subst hn1; omega
          ·first | omega | assumption | (simp; done)
          ·exact hlo_
          ·exact hlb
          ·exact hdm
          ·refine r2.setR (by rw [giv_28]) (OwnR.mk (rest := []) gid_28 (by simp) (by simp) (by omega)) (fun g' n' e => by cases e; exact hiv rfl) fun j id' g' n' hj hvj => ?_;obtain ⟨u1, u2⟩ := r2.rows.used hvj;have u4 : id' ≠ id := fun e => hj (by subst e; exact r2.rows.ne _ _ _ _ _ _ _ hvj hvk);refine ⟨kb id' u1 (hne _ _ _ _ hvj) u4, fun g'' n'' e => ?_⟩;cases e; exact u4 rfl
          ·exact hdl
   ·(try simp at hc27);have hie : i = g.order.length := by have := hc27; omega
    subst hie;rw [List.take_length] at p2;have hgl : g.glevels = ou.map sortI := by simp only [Gr.glevels, hv, if_true, p2]
    have hvl : vs.length = ou.length := p5.rows.len;refine awp_exit ?_;refine q_seq_exit ?_;refine q_loop_exit ?_;refine q_block_hit ?_;refine q_seq ?_;refine awp_seq ?_;refine stp_cut (fun σ' H' => σ' 6 = σ9 6 ∧ σ' 83 = (AV.int IntKind.i64) vs.length ∧ σ' 84 = (AV.int IntKind.i64) 0 ∧ H' = H8) ?_ ?_
    ·skip;rcases p5.top with ⟨rfl, hvs⟩ | ⟨iv, gv, rfl, hb, hlo, hne⟩
     ·skip;refine stp_regl TT_ok (by rfl) fun K hK => ?_;simp [h6_9, g1_8, encG];(try refine And.intro (by first|omega|rfl) ?_);refine hK _ _ fun σ31 hσ H31 hH => ?_;clear hK K;obtain ⟨h6_31, h83_31, h84_31⟩ := fs3 hσ 6 83 84;simp [h6_9] at h6_31 h83_31 h84_31;clear hσ;replace hH : H8 = H31 := Eq.symm hH;subst hH;refine ⟨rfl, (h6_31.trans h6_9.symm), (by simp [h83_31, hvs]), (by simp [h84_31, hvs]), rfl⟩
     ·skip;have nx13 : ¬ iv = 1 ∧ ¬ 1 = iv := by omega
      refine stp_regl TT_ok (by rfl) fun K hK => ?_;simp [h6_9, g1_8, hb, nx13, encG];(try refine And.intro (by first|omega|rfl) ?_);refine hK _ _ fun σ32 hσ H32 hH => ?_;clear hK K;obtain ⟨h6_32, h83_32, h84_32⟩ := fs3 hσ 6 83 84;simp [h6_9] at h6_32 h83_32 h84_32;clear hσ;replace hH : H8 = H32 := Eq.symm hH;subst hH;refine ⟨rfl, (h6_32.trans h6_9.symm), (by simp [h83_32]), (by simp [h84_32]), rfl⟩
    ·rintro σ30 H30 ⟨q6_30, h83_30, h84_30, hHq⟩
     replace hHq := hHq.symm;subst hHq;have h6_30 := q6_30.trans h6_9;refine awp_block ?_;refine awp_loopV (fun n σ' H' => ∃ (t : Nat) (ws : List AV), n = ou.length - t ∧ σ' 6 = σ30 6 ∧ σ' 83 = σ30 83 ∧ σ' 84 = (AV.int IntKind.i64) t ∧ H'.get 1 = H8.get 1 ∧ H'.st = H8.st ∧ (t ≤ ou.length) ∧ (RowsV 2 v ws (srt ou t) H')) ?_ ?_
     ·refine ⟨_, 0, vs, rfl, rfl, rfl, (by simp [h84_30]), rfl, rfl, ?_, ?_⟩
      ·first | omega | (simp; done) | assumption
      ·simpa [srt] using p5
     ·rintro n4 σ33 H33 ⟨t, ws, hn4, q6_33, q83_33, h84_33, qg1_33, qst_33, s1, s2⟩
      have h6_33 := q6_33.trans h6_30;have h83_33 := q83_33.trans h83_30;have g1_33 := qg1_33.trans g1_8;have hst_33 := qst_33.trans hst_8;have hwl : ws.length = ou.length := by rw [s2.rows.len, srt_len]
      refine stp_reg TT_ok (by rfl) fun K hK => ?_;simp [h83_33, h84_33, g1_33, encG];(try refine And.intro (by first|omega|rfl) ?_);refine hK _ _ fun σ34 hσ H34 hH => ?_;clear hK K;obtain ⟨h6_34, h83_34, h84_34, h85_34⟩ := fs4 hσ 6 83 84 85;simp [h6_33, h83_33, h84_33] at h6_34 h83_34 h84_34 h85_34;clear hσ;replace hH : H33 = H34 := Eq.symm hH;subst hH;refine awp_seq ?_;refine awp_cond _ (by simp only [aeval_tmp]; exact h85_34) (fun hc85 => ?_) (fun hc85 => ?_)
      ·(try simp at hc85);have hlt : t < ou.length := by rw [← hvl]; simpa using hc85
       obtain ⟨row, hrow⟩ : ∃ row, ou[t] = row := ⟨_, rfl⟩;have hrl := p4 row (by rw [← hrow]; exact List.getElem_mem hlt);have hog := order_len g;have hlt2 : t < ws.length := by omega
       have hwk : ws[t]? = some ws[t] := List.getElem?_eq_getElem hlt2;have hok := s2.rows.own _ _ _ hwk (srt_get hlt);rw [hrow] at hok;have hss := srt_succ hlt;rw [hrow] at hss;refine awp_skip ?_;refine q_seq ?_;refine awp_seq ?_;refine awp_block ?_;refine stp_reg TT_ok (by rfl) fun K hK => ?_;simp [h84_34, g1_33, encG];(try refine And.intro (by first|omega|rfl) ?_);refine hK _ _ fun σ35 hσ H35 hH => ?_;clear hK K;obtain ⟨h6_35, h11_35, h83_35, h84_35⟩ := fs4 hσ 6 11 83 84;simp [h6_34, h83_34, h84_34] at h6_35 h11_35 h83_35 h84_35;clear hσ;replace hH : H33 = H35 := Eq.symm hH;subst hH;obtain ⟨iv, gv, rfl, htop, hlo, hne⟩ := s2.own (by omega);rcases hok with ⟨hwn, hnil⟩ | ⟨id, gn, rest, hwn, hb, hid⟩
       ·skip;rw [List.map_eq_nil_iff] at hnil;have nx14 : ¬ iv = 1 ∧ ¬ 1 = iv := by omega
        have hFF0 := an5 h6_35 h11_35 g1_33 htop nx14;refine stp_regl TT_ok (by rfl) fun K hK => ?_;simp [hFF0, encG, hwn, hlt2];(try refine And.intro (by first|omega|rfl) ?_);refine stp_call (sortNil_ok) ?_;simp [hFF0, encG, hwn, hlt2];(try refine And.intro (by first|omega|rfl) ?_);refine hK _ _ fun σ36 hσ H36 hH => ?_;clear hK K hFF0;obtain ⟨h6_36, h83_36, h84_36⟩ := fs3 hσ 6 83 84;simp [h6_35, h83_35, h84_35] at h6_36 h83_36 h84_36;clear hσ;replace hH : H33 = H36 := Eq.symm hH;subst hH;refine q_block ?_;refine q_seq ?_;refine stp_regl TT_ok (by rfl) fun K hK => ?_;simp [h84_36, g1_33, htop, nx14, encG, wrap_ok (n := (t : Int) + 1) (by omega) (by omega)];(try refine And.intro (by first|omega|rfl) ?_);refine hK _ _ fun σ37 hσ H37 hH => ?_;clear hK K;obtain ⟨h6_37, h83_37, h84_37⟩ := fs3 hσ 6 83 84;simp [h6_36, h83_36] at h6_37 h83_37 h84_37;clear hσ;replace hH : H33 = H37 := Eq.symm hH;subst hH;refine ⟨_, ?_, t + 1, ws.set t .nils, rfl, (h6_37.trans h6_30.symm), (h83_37.trans h83_30.symm), (by simp [h84_37]), (g1_33.trans g1_8.symm), (hst_33.trans hst_8.symm), ?_, ?_⟩
        ·subst hn4; omega
        ·first | omega | assumption | (simp; done)
        ·rw [hss, hnil, show sortI [] = [] by simp [sortI]];have e : ws.set t .nils = ws := by rw [← hwn]; exact List.set_getElem_self hlt2
         exact s2.setR (by rw [e]; exact htop) (.inl ⟨rfl, rfl⟩) (fun g' n' e2 => by cases e2) fun j id' g' n' hj hvj => ⟨rfl, fun _ _ e2 => by cases e2⟩
       ·skip;rw [hwn] at hwk;rw [List.length_map] at hwn;have hiv : ¬ id = iv := hne _ _ _ _ hwk;have nx15 : ¬ iv = 1 ∧ ¬ 1 = iv := by omega
        have nx16 : ¬ id = 1 ∧ ¬ 1 = id := by omega
        have hFF0 := an9 h6_35 h11_35 g1_33 htop hb hiv (Ne.symm hiv) nx15 nx16;refine stp_regl TT_ok (by rfl) fun K hK => ?_;simp [hFF0, encG, hwn, hlt2];(try refine And.intro (by first|omega|rfl) ?_);refine sort_row2 (l := row) (by omega) hb rfl ?_;simp [hFF0, encG, hwn, hlt2];(try refine And.intro (by first|omega|rfl) ?_);refine hK _ _ fun σ38 hσ H38 hH => ?_;clear hK K hFF0;obtain ⟨h6_38, h83_38, h84_38⟩ := fs3 hσ 6 83 84;simp [h6_35, h83_35, h84_35] at h6_38 h83_38 h84_38;clear hσ;have g1_38 := gt_of hH 1;have giv_38 := gt_of hH iv;have gid_38 := gt_of hH id;simp [g1_33, htop, hb, hst_33, hiv, Ne.symm hiv, nx15, nx16] at g1_38 giv_38 gid_38;have hst_38 := congrArg AHeap.st hH;simp [hst_33] at hst_38;have ka : ∀ j, j ≠ id → H38.get j = H33.get j := fun j h1 => by rw [hH]; simp [h1]
        clear hH;refine q_block ?_;refine q_seq ?_;refine stp_regl TT_ok (by rfl) fun K hK => ?_;simp [h84_38, g1_38, giv_38, gid_38, hiv, Ne.symm hiv, nx15, nx16, encG, wrap_ok (n := (t : Int) + 1) (by omega) (by omega)];(try refine And.intro (by first|omega|rfl) ?_);refine hK _ _ fun σ39 hσ H39 hH => ?_;clear hK K;obtain ⟨h6_39, h83_39, h84_39⟩ := fs3 hσ 6 83 84;simp [h6_38, h83_38] at h6_39 h83_39 h84_39;clear hσ;replace hH : H38 = H39 := Eq.symm hH;subst hH;refine ⟨_, ?_, t + 1, ws.set t (.sl id gn 0 row.length), rfl, (h6_39.trans h6_30.symm), (h83_39.trans h83_30.symm), (by simp [h84_39]), (g1_38.trans g1_8.symm), (hst_38.trans hst_8.symm), ?_, ?_⟩
        ·subst hn4; omega
        ·first | omega | assumption | (simp; done)
        ·rw [hss];have e : ws.set t (.sl id gn 0 row.length) = ws := by rw [← hwn]; exact List.set_getElem_self hlt2
         refine s2.setR (by rw [e]; exact giv_38) (OwnR.mk (rest := rest) gid_38 rfl (by simp [sortI_len]) hid) (fun g' n' e2 => by cases e2; exact hiv rfl) fun j id' g' n' hj hvj => ?_;have u4 : id' ≠ id := fun e2 => hj (by subst e2; exact s2.rows.ne _ _ _ _ _ _ _ hvj hwk);exact ⟨ka id' u4, fun g'' n'' e2 => by cases e2; exact u4 rfl⟩
      ·(try simp at hc85);refine awp_exit ?_;refine q_seq_exit ?_;refine q_loop_exit ?_;refine q_block_hit ?_;refine q_seq ?_;refine stp_reg TT_ok (by rfl) fun K hK => ?_;simp [h6_34, g1_33, encG];(try refine And.intro (by first|omega|rfl) ?_);refine hK _ _ fun σ40 hσ H40 hH => ?_;clear hK K;have h2_40 := congrFun hσ 2;simp [] at h2_40;clear hσ;replace hH : H33 = H40 := Eq.symm hH;subst hH;refine awp_ret ?_;have hte : t = ou.length := by have := hc85; omega
       rw [hte, srt_all, ← hgl] at s2;refine q_fin1 h2_40 ?_;exact s2.frz
theorem levels_ok (g : Gr) : Fun1 Try.prog 30 [encG g] (encS g.glevels) := fun1_frz (levels0 g) (pu_cons (pu_graph g) pu_nil) (pu_encS _)
def pstep (far : List Int) (s : Int × Int) (k : Int) : Int × Int := if 0 ≤ gt far k ∧ (s.1 < 0 ∨ gt far k < s.2) then (k, gt far k) else s
def pickC (far ks : List Int) : Int × Int := ks.foldl (pstep far) (-1, 0)
theorem pickC_snoc (far ks : List Int) (k : Int) : pickC far (ks ++ [k]) = pstep far (pickC far ks) k := by rw [pickC, List.foldl_append]; rfl
theorem pickC_ok (far ks : List Int) : pickC far ks = (-1, 0) ∨ ((pickC far ks).1 ∈ ks ∧ (pickC far ks).2 = gt far (pickC far ks).1 ∧ 0 ≤ (pickC far ks).2) := by
 suffices h : ∀ (ks pre : List Int) (s : Int × Int), (s = (-1, 0) ∨ (s.1 ∈ pre ∧ s.2 = gt far s.1 ∧ 0 ≤ s.2)) → (ks.foldl (pstep far) s = (-1, 0) ∨ ((ks.foldl (pstep far) s).1 ∈ pre ++ ks ∧ (ks.foldl (pstep far) s).2 = gt far (ks.foldl (pstep far) s).1 ∧ 0 ≤ (ks.foldl (pstep far) s).2)) by
  have := h ks [] (-1, 0) (.inl rfl)
  simpa [pickC] using this
 intro ks
 induction ks with
 | nil => intro pre s h; simpa using h
 | cons k ks ih =>
  intro pre s h
  have h2 : pstep far s k = (-1, 0) ∨ ((pstep far s k).1 ∈ pre ++ [k] ∧ (pstep far s k).2 = gt far (pstep far s k).1 ∧ 0 ≤ (pstep far s k).2) := by
   rw [pstep]
   split
   ·rename_i hc; exact .inr ⟨by simp, rfl, hc.1⟩
   ·rcases h with h | ⟨h1, h2, h3⟩
    ·exact .inl h
    ·exact .inr ⟨List.mem_append.2 (.inl h1), h2, h3⟩
  have := ih (pre ++ [k]) _ h2
  simpa using this
def Gr.cstep (g : Gr) (best : List Int) (f : Nat) : List Int :=
 if (pickC ((g.sub f).dist f) (geL f (g.succ f))).1 < 0 ∨ (best ≠ [] ∧ (pickC ((g.sub f).dist f) (geL f (g.succ f))).2 + 1 ≥ best.length) then best
 else (f : Int) :: (g.way ((g.sub f).dist f) (pickC ((g.sub f).dist f) (geL f (g.succ f))).2.toNat (pickC ((g.sub f).dist f) (geL f (g.succ f))).1).dropLast
def Gr.pcyc (g : Gr) (i : Nat) : List Int := (List.range i).foldl g.cstep []
def Gr.pcycle (g : Gr) : List Int := if g.valid = true then g.pcyc g.nodes.length else []
theorem pcyc_succ (g : Gr) (i : Nat) : g.pcyc (i + 1) = g.cstep (g.pcyc i) i := by rw [Gr.pcyc, List.range_succ, List.foldl_append]; rfl
theorem way_len (g : Gr) (d : List Int) : ∀ (k : Nat) (a : Int), (g.way d k a).length = k + 1
 | 0, a => rfl
 | k + 1, a => by rw [Gr.way, List.length_cons, way_len g d k]
def BestV (lo : Nat) (best : List Int) (v : AV) (H : AHeap) : Prop := (v = AV.nils ∧ best = []) ∨ (best ≠ [] ∧ ∃ id gn rest, v = AV.sl id gn 0 best.length ∧ H.get id = some (.row 3 1 gn (best.map (AV.int IntKind.i64) ++ rest)) ∧ lo ≤ id)
theorem BestV.keep {lo : Nat} {best : List Int} {v : AV} {H H' : AHeap} (h : BestV lo best v H) (hk : ∀ j, H.get j ≠ none → H'.get j = H.get j) : BestV lo best v H' := by
 rcases h with h | ⟨h0, id, gn, rest, h1, h2, h3⟩
 ·exact .inl h
 ·exact .inr ⟨h0, id, gn, rest, h1, by rw [hk id (by rw [h2]; simp)]; exact h2, h3⟩
theorem BestV.frz {lo : Nat} {best : List Int} {v : AV} {H : AHeap} (h : BestV lo best v H) : Frz H v (.ro (best.map (AV.int IntKind.i64))) := by
 refine OwnR.frz (e := 3) (sz := 1) (lo := lo) ?_ (fun _ => pu_of_ints) (fun _ => one_ints)
 rcases h with ⟨h1, h2⟩ | ⟨_, id, gn, rest, h1, h2, h3⟩
 ·exact .inl ⟨h1, by rw [h2]; rfl⟩
 ·exact .inr ⟨id, gn, rest, by rw [h1]; simp, h2, h3⟩
set_option maxHeartbeats 1000000 in
theorem cycle0 (g : Gr) : ACalls Try.prog 21 [encG g] AHeap.nil (fun r H => BestV 0 g.pcycle r H) := by
 refine acalls_body TT_ok Try.func21 rfl rfl (by simp [Try.ntmps21]) ?_;rw [Try.ntmps21];obtain ⟨σ, hσ⟩ : ∃ σ, σ = st0 [encG g] := ⟨_, rfl⟩;rw [← hσ];have h0_0 := congrFun hσ 0;simp [st0] at h0_0;clear hσ;obtain ⟨H, hH⟩ : ∃ H, H = AHeap.nil := ⟨_, rfl⟩;rw [← hH];have hn_0 : H.n = 0 := by rw [hH]; rfl
 have hst_0 : H.st = 1 := by rw [hH]; rfl
 clear hH;refine stp_reg TT_ok (by rfl) fun K hK => ?_;simp [h0_0, hn_0, hst_0, encG];(try refine And.intro (by first|omega|rfl) ?_);refine hK _ _ fun σ1 hσ H1 hH => ?_;clear hK K;have h1_1 := congrFun hσ 1;simp [] at h1_1;clear hσ;have g0_1 := gt_of hH 0;simp [hn_0, hst_0] at g0_1;have hn_1 := congrArg AHeap.n hH;simp [hn_0, hst_0] at hn_1;have hst_1 := congrArg AHeap.st hH;simp [hn_0, hst_0] at hst_1;clear hH;refine awp_seq ?_;refine stp_reg TT_ok (by rfl) fun K hK => ?_;simp [h1_1, g0_1, encG];(try refine And.intro (by first|omega|rfl) ?_);refine stp_call (valid_ok g) ?_;simp [h1_1, g0_1, encG];(try refine And.intro (by first|omega|rfl) ?_);refine hK _ _ fun σ2 hσ H2 hH => ?_;clear hK K;obtain ⟨h1_2, h14_2⟩ := fs2 hσ 1 14;simp [h1_1] at h1_2 h14_2;clear hσ;replace hH : H1 = H2 := Eq.symm hH;subst hH;refine awp_cond _ (by simp only [aeval_tmp]; exact h14_2) (fun hc14 => ?_) (fun hc14 => ?_)
 ·(try simp at hc14);refine stp_reg TT_ok (by rfl) fun K hK => ?_;simp [g0_1, encG];(try refine And.intro (by first|omega|rfl) ?_);refine hK _ _ fun σ3 hσ H3 hH => ?_;clear hK K;have h2_3 := congrFun hσ 2;simp [] at h2_3;clear hσ;replace hH : H1 = H3 := Eq.symm hH;subst hH;refine awp_ret ?_;refine q_seq_ret ?_;refine q_fin1 h2_3 ?_;exact .inl ⟨rfl, by simp [Gr.pcycle, hc14]⟩
 ·(try simp at hc14);have hv : g.valid = true := by simpa using hc14
  obtain ⟨hb1, hb2⟩ := valid_nodes hv;have hsl : g.succs.length = g.nodes.length := by simp [Gr.succs]
  refine awp_skip ?_;refine q_seq ?_;refine stp_lex false TT_ok mixed (by rfl) (by rfl) (by kernel_rfl) (by rfl) fun U hU K hK => ?_;simp [h1_2, g0_1, encG];(try refine And.intro (by first|omega|rfl) ?_);refine lex_call (succs_ok g hv) ?_;simp [h1_2, g0_1, encG];(try refine And.intro (by first|omega|rfl) ?_);refine lex_call (reverse_ok g) ?_;simp [h1_2, g0_1, encG];(try refine And.intro (by first|omega|rfl) ?_);refine lex_call (succs_ok g.rev (rev_valid hv)) ?_;simp [h1_2, g0_1, encG];(try refine And.intro (by first|omega|rfl) ?_);refine hK _ _ _ (by subst hU; kernel_rfl) fun σ4 hσ H4 hH => ?_;clear hK K hU U;obtain ⟨h3_4, h4_4⟩ := fs2 hσ 3 4;simp [] at h3_4 h4_4;clear hσ;replace hH : H1 = H4 := Eq.symm hH;subst hH;refine stp_reg TT_ok (by rfl) fun K hK => ?_;simp [g0_1, encG];(try refine And.intro (by first|omega|rfl) ?_);refine hK _ _ fun σ5 hσ H5 hH => ?_;clear hK K;obtain ⟨h3_5, h4_5, h5_5⟩ := fs3 hσ 3 4 5;simp [h3_4, h4_4] at h3_5 h4_5 h5_5;clear hσ;replace hH : H1 = H5 := Eq.symm hH;subst hH;refine awp_seq ?_;refine stp_reg TT_ok (by rfl) fun K hK => ?_;simp [h3_5, g0_1, encG, encS, hsl];(try refine And.intro (by first|omega|rfl) ?_);refine hK _ _ fun σ6 hσ H6 hH => ?_;clear hK K;obtain ⟨h3_6, h4_6, h5_6, h21_6, h22_6⟩ := fs5 hσ 3 4 5 21 22;simp [h3_5, h4_5, h5_5] at h3_6 h4_6 h5_6 h21_6 h22_6;clear hσ;replace hH : H1 = H6 := Eq.symm hH;subst hH;refine awp_block ?_
  refine awp_loopV (fun n σ' H' => ∃ (f : Nat) (v : AV), n = g.nodes.length - f ∧ σ' 3 = σ6 3 ∧ σ' 4 = σ6 4 ∧ σ' 5 = v ∧ σ' 21 = σ6 21 ∧ σ' 22 = (AV.int IntKind.i64) f ∧ H'.st = H1.st ∧ (f ≤ g.nodes.length) ∧ (BestV 0 (g.pcyc f) v H')) ?_ ?_
  ·refine ⟨_, 0, .nils, rfl, rfl, rfl, (by simp [h5_6]), rfl, (by simp [h22_6]), rfl, ?_, ?_⟩
   ·first | omega | (simp; done) | assumption
   ·exact .inl ⟨rfl, rfl⟩
  ·rintro n1 σ7 H7 ⟨f, v, hn1, q3_7, q4_7, h5_7, q21_7, h22_7, qst_7, p1, p2⟩
   have h3_7 := q3_7.trans h3_6;have h4_7 := q4_7.trans h4_6;have h21_7 := q21_7.trans h21_6;have hst_7 := qst_7.trans hst_1;refine stp_reg TT_ok (by rfl) fun K hK => ?_;simp [h21_7, h22_7, encG];(try refine And.intro (by first|omega|rfl) ?_);refine hK _ _ fun σ8 hσ H8 hH => ?_;clear hK K;obtain ⟨h3_8, h4_8, h5_8, h21_8, h22_8, h23_8⟩ := fs6 hσ 3 4 5 21 22 23;simp [h3_7, h4_7, h5_7, h21_7, h22_7] at h3_8 h4_8 h5_8 h21_8 h22_8 h23_8;clear hσ;replace hH : H7 = H8 := Eq.symm hH;subst hH;refine awp_seq ?_;refine awp_cond _ (by simp only [aeval_tmp]; exact h23_8) (fun hc23 => ?_) (fun hc23 => ?_)
   ·(try simp at hc23);have hlt : f < g.nodes.length := by simpa using hc23
    have hfr : inR g.nodes.length (f : Int) := ⟨by omega, by omega⟩;obtain ⟨Hc, hHc⟩ : ∃ Hc, Hc = H7 := ⟨_, rfl⟩;have p2c := p2;rw [← hHc] at p2c;have k0 : ∀ j, Hc.get j ≠ none → H7.get j = Hc.get j := fun j _ => by rw [hHc]
    obtain ⟨best, hbest⟩ : ∃ best, g.pcyc f = best := ⟨_, rfl⟩;rw [hbest] at p2c;obtain ⟨far, hfar⟩ : ∃ far, (g.sub f).dist f = far := ⟨_, rfl⟩;have hD := dist_sub hv (Int.le_refl (f : Int)) hfr;rw [hfar] at hD;have hdl := hD.len;refine awp_skip ?_;refine q_seq ?_;refine awp_seq ?_;refine awp_block ?_;refine stp_reg TT_ok (by rfl) fun K hK => ?_;simp [h22_8, encG];(try refine And.intro (by first|omega|rfl) ?_);refine hK _ _ fun σ9 hσ H9 hH => ?_;clear hK K;obtain ⟨h3_9, h4_9, h5_9, h6_9, h21_9, h22_9⟩ := fs6 hσ 3 4 5 6 21 22;simp [h3_8, h4_8, h5_8, h21_8, h22_8] at h3_9 h4_9 h5_9 h6_9 h21_9 h22_9;clear hσ;replace hH : H7 = H9 := Eq.symm hH;subst hH;refine awp_ok fun hok => ?_;obtain ⟨m10, hn_m10⟩ : ∃ m, H7.n = m := ⟨_, rfl⟩;have hf_m10_0 := hok.free 0;simp [hn_m10, hst_7] at hf_m10_0;have hFF0 := an4 h4_9 h6_9 hn_m10 hst_7;refine stp_reg TT_ok (by rfl) fun K hK => ?_;simp [hFF0, encG, hfar];(try refine And.intro (by first|omega|rfl) ?_);refine stp_call (distances_ok g hv f f hfr (Int.le_refl _)) ?_;simp [hFF0, encG, hfar];(try refine And.intro (by first|omega|rfl) ?_);refine hK _ _ fun σ11 hσ H11 hH => ?_;clear hK K hFF0;obtain ⟨h3_11, h4_11, h5_11, h6_11, h7_11, h21_11, h22_11⟩ := fs7 hσ 3 4 5 6 7 21 22;simp [h3_9, h4_9, h5_9, h6_9, h21_9, h22_9] at h3_11 h4_11 h5_11 h6_11 h7_11 h21_11 h22_11;clear hσ;have gm10_11 := gt_of hH m10;simp [hn_m10, hst_7] at gm10_11;have hst_11 := congrArg AHeap.st hH;simp [hst_7] at hst_11
    have k1 : ∀ j, Hc.get j ≠ none → H11.get j = Hc.get j := fun j hj => by
     have hq := k0 j hj;have hj0 : ¬ j = m10 := by { intro e; rw [← hq, e, hf_m10_0] at hj; exact hj rfl }
     rw [hH]; simp [hn_m10, hst_7, hj0]; exact hq
    have hz_k1_0 : Hc.get m10 = none := by
     cases hq : Hc.get m10 with
     | none => rfl
     | some b => have h5 := k0 m10 (by rw [hq]; simp); rw [hf_m10_0, hq] at h5; cases h5
    clear hH;refine awp_ok fun hok => ?_;obtain ⟨m12, hn_m12⟩ : ∃ m, H11.n = m := ⟨_, rfl⟩;have hf_m12_0 := hok.free 0;simp [hn_m12, hst_11] at hf_m12_0;have nx1 := ne_get hf_m12_0 gm10_11;have hf_m12_1 := hok.free 1;simp [hn_m12, hst_11] at hf_m12_1;have nx2 := ne_get hf_m12_1 gm10_11;refine stp_reg TT_ok (by rfl) fun K hK => ?_;simp [gm10_11, hn_m12, hst_11, nx1, nx2, encG];(try refine And.intro (by first|omega|rfl) ?_);refine hK _ _ fun σ13 hσ H13 hH => ?_;clear hK K;obtain ⟨h3_13, h4_13, h5_13, h6_13, h7_13, h8_13, h9_13, h21_13, h22_13⟩ := fs9 hσ 3 4 5 6 7 8 9 21 22;simp [h3_11, h4_11, h5_11, h6_11, h7_11, h21_11, h22_11] at h3_13 h4_13 h5_13 h6_13 h7_13 h8_13 h9_13 h21_13 h22_13;clear hσ;have gm10_13 := gt_of hH m10;have gm12_13 := gt_of hH m12;have g_m12_1__13 := gt_of hH (m12 + 1);simp [gm10_11, hn_m12, hst_11, nx1, nx2] at gm10_13 gm12_13 g_m12_1__13;have hst_13 := congrArg AHeap.st hH;simp [hst_11] at hst_13
    have k2 : ∀ j, Hc.get j ≠ none → H13.get j = Hc.get j := fun j hj => by
     have hq := k1 j hj;have hj0 : ¬ j = m12 := by { intro e; rw [← hq, e, hf_m12_0] at hj; exact hj rfl }
     have hj1 : ¬ j = (m12 + 1) := by { intro e; rw [← hq, e, hf_m12_1] at hj; exact hj rfl }
     rw [hH]; simp [hn_m12, hst_11, hj0, hj1]; exact hq
    have hz_k2_0 : Hc.get m12 = none := by
     cases hq : Hc.get m12 with
     | none => rfl
     | some b => have h5 := k1 m12 (by rw [hq]; simp); rw [hf_m12_0, hq] at h5; cases h5
    have hz_k2_1 : Hc.get (m12 + 1) = none := by
     cases hq : Hc.get (m12 + 1) with
     | none => rfl
     | some b => have h5 := k1 (m12 + 1) (by rw [hq]; simp); rw [hf_m12_1, hq] at h5; cases h5
    clear hH;refine awp_seq ?_;have hFF0 := an7 h3_13 h6_13 gm10_13 gm12_13 g_m12_1__13 nx1 nx2;refine stp_reg TT_ok (by rfl) fun K hK => ?_;simp [hFF0, encG];(try refine And.intro (by first|omega|rfl) ?_);refine stp_call (of_ok g.succs f f) ?_;simp [hFF0, encG];(try refine And.intro (by first|omega|rfl) ?_);refine hK _ _ fun σ14 hσ H14 hH => ?_;clear hK K hFF0;obtain ⟨h3_14, h4_14, h5_14, h6_14, h7_14, h8_14, h9_14, h21_14, h22_14, h32_14⟩ := fs10 hσ 3 4 5 6 7 8 9 21 22 32;simp [h3_13, h4_13, h5_13, h6_13, h7_13, h8_13, h9_13, h21_13, h22_13] at h3_14 h4_14 h5_14 h6_14 h7_14 h8_14 h9_14 h21_14 h22_14 h32_14;clear hσ;replace hH : H13 = H14 := Eq.symm hH;subst hH;refine awp_block ?_;refine awp_ok fun hok15 => ?_;obtain ⟨k15, hn_k15⟩ : ∃ m, H13.n = m := ⟨_, rfl⟩;have hf_k15 := hok15.now;rw [hn_k15] at hf_k15;have nx3 := ne_get hf_k15 gm10_13;have nx4 := ne_get hf_k15 gm12_13;have nx5 := ne_get hf_k15 g_m12_1__13;refine stp_rangeOf k15 hn_k15 (by rw [aeval_tmp]; exact h32_14) (by decide) hfr.1 (show g.succs[((f : Nat) : Int).toNat]? = some (g.succ f) from succs_get hfr) (Nat.le_trans (succ_len _ _) (by omega)) (fun pre H' => ∃ (nx : Int) (ln : Int), H'.get m10 = H13.get m10 ∧ H'.get m12 = some (.row 3 1 0 [(AV.int IntKind.i64) nx]) ∧ H'.get (m12 + 1) = some (.row 3 1 0 [(AV.int IntKind.i64) ln]) ∧ H'.st = H13.st ∧ (pickC far pre = (nx, ln)) ∧ (∀ j, Hc.get j ≠ none → H'.get j = Hc.get j)) ?_ ?_ ?_
    ·intro b15 H15 hH;have hkeep : ∀ j, H13.get j ≠ none → H15.get j = H13.get j := fun j hj => by rw [hH, alloc_get, if_neg (fun e => hj (by rw [e]; exact hok15.now))]
     refine ⟨-1, 0, (by rw [hH]; simp [gm10_13, gm12_13, g_m12_1__13, hn_k15, hst_13, nx1, nx2, nx3, nx4, nx5]), (by rw [hH]; simp [gm10_13, gm12_13, g_m12_1__13, hn_k15, hst_13, nx1, nx2, nx3, nx4, nx5]), (by rw [hH]; simp [gm10_13, gm12_13, g_m12_1__13, hn_k15, hst_13, nx1, nx2, nx3, nx4, nx5]), (by rw [hH]; rfl), ?_, ?_⟩
     ·rfl
     ·exact fun j hj => by rw [hkeep j (by rw [k2 j hj]; exact hj), k2 j hj]
    ·rintro busy rdy pre x H15 ⟨post, hpost⟩ ⟨nx, ln, qgm10_15, gm12_15, g_m12_1__15, qst_15, u1, u2⟩ hrdy_15 σ15 hσ
     have gm10_15 := qgm10_15.trans gm10_13;have hst_15 := qst_15.trans hst_13;have h7_15 := congrFun hσ 7;simp [h7_14] at h7_15;have h8_15 := congrFun hσ 8;simp [h8_14] at h8_15;have h9_15 := congrFun hσ 9;simp [h9_14] at h9_15;have h33_15 := congrFun hσ 33;simp [] at h33_15;clear hσ;have hxm : x ∈ geL f (g.succ f) := by rw [hpost]; simp
     have hxs : x ∈ g.succ f ∧ (f : Int) ≤ x := by simpa [geL] using hxm
     obtain ⟨x1, x2⟩ := succ_in hv hxs.1;have x3 : x.toNat < far.length := by omega
     have x4 : x.toNat < g.nodes.length := by omega
     have hcL : Hc.get k15 = none := by
      cases hq : Hc.get k15 with
      | none => rfl
      | some b => have := k2 k15 (by rw [hq]; simp); rw [hf_k15, hq] at this; cases this
     refine stp_regl TT_ok (by rfl) fun K hK => ?_;simp [h33_15, gm10_15, gm12_15, g_m12_1__15, hrdy_15, nx1, nx2, nx3, nx4, nx5, encG];(try refine And.intro (by first|omega|rfl) ?_);refine hK _ _ fun σ16 hσ H16 hH => ?_;clear hK K;obtain ⟨h7_16, h8_16, h9_16, h10_16⟩ := fs4 hσ 7 8 9 10;simp [h7_15, h8_15, h9_15] at h7_16 h8_16 h9_16 h10_16;clear hσ;replace hH : H15 = H16 := Eq.symm hH;subst hH;refine q_ra hrdy_15 fun H17 hH => ?_;have hkeep : ∀ j, j ≠ k15 → H17.get j = H15.get j := fun j hj => by rw [hH, put_getH, if_neg hj]
     have gm10_18 := gt_of hH m10;have gm12_18 := gt_of hH m12;have g_m12_1__18 := gt_of hH (m12 + 1);have gk15_18 := gt_of hH k15;simp [gm10_15, gm12_15, g_m12_1__15, hrdy_15, hst_15, nx1, nx2, nx3, nx4, nx5] at gm10_18 gm12_18 g_m12_1__18 gk15_18;have hst_18 : H17.st = _ := (congrArg AHeap.st hH).trans hst_15;have hka := hkeep;clear hkeep hH;refine awp_block ?_
     by_cases c1 : 0 ≤ gt far x
     ·skip
      by_cases c2 : nx < 0
      ·skip;refine stp_lex false TT_ok mixed (by rfl) (by rfl) (by kernel_rfl) (by rfl) fun U hU K hK => ?_;simp [h7_16, h8_16, h9_16, h10_16, gm10_18, gm12_18, g_m12_1__18, gk15_18, nx1, nx2, nx3, nx4, nx5, c1, c2, encG, x1, x2, x3, x4, hdl, gt_elem x3];(try refine And.intro (by first|omega|rfl) ?_);refine hK _ _ _ (by subst hU; kernel_rfl) fun σ19 hσ H19 hH => ?_;clear hK K hU U;obtain ⟨h7_19, h8_19, h9_19, h10_19, h50_19⟩ := fs5 hσ 7 8 9 10 50;simp [h7_16, h8_16, h9_16, h10_16] at h7_19 h8_19 h9_19 h10_19 h50_19;clear hσ;replace hH : H17 = H19 := Eq.symm hH;subst hH;refine stp_true (by simp [aeval_tmp, h50_19, nx1, nx2, nx3, nx4, nx5, c1, c2, encG]) ?_;refine stp_lexl false TT_ok mixed (by rfl) (by rfl) (by kernel_rfl) (by rfl) fun U hU K hK => ?_;simp [h7_19, h8_19, h9_19, h10_19, gm10_18, gm12_18, g_m12_1__18, gk15_18, nx1, nx2, nx3, nx4, nx5, c1, c2, encG, x1, x2, x3, x4, hdl, gt_elem x3];(try refine And.intro (by first|omega|rfl) ?_);refine hK _ _ _ (by rw [hU.trans (by kernel_rfl : _ = [(0, 1), (0, 2), (1, 2), (0, 3), (0, 4), (1, 5), (2, 5), (3, 5), (4, 5)])]; simp [logOk, ftFree, h7_19, h8_19, h9_19, h10_19, gm10_18, gm12_18, g_m12_1__18, gk15_18, nx1, nx2, nx3, nx4, nx5, c1, c2, encG, x1, x2, x3, x4, hdl, gt_elem x3]) fun σ20 hσ H20 hH => ?_;clear hK K hU U;clear hσ;have gm10_20 := gt_of hH m10;have gm12_20 := gt_of hH m12;have g_m12_1__20 := gt_of hH (m12 + 1);have gk15_20 := gt_of hH k15
       simp [gm10_18, gm12_18, g_m12_1__18, gk15_18, hst_18, nx1, nx2, nx3, nx4, nx5, c1, c2] at gm10_20 gm12_20 g_m12_1__20 gk15_20;have hst_20 := congrArg AHeap.st hH;simp [hst_18] at hst_20;have kb : ∀ j, j ≠ m12 → j ≠ m12 + 1 → H20.get j = H17.get j := fun j h1 h2 => by rw [hH]; simp [h1, h2]
       clear hH;refine q_block ?_;refine q_rb gk15_20 fun H21 hH => ?_;have hkeep : ∀ j, j ≠ k15 → H21.get j = H20.get j := fun j hj => by rw [hH, put_getH, if_neg hj]
       refine ⟨x, gt far x, (by rw [hH]; simp [gm10_20, gm12_20, g_m12_1__20, gk15_20, hst_20, nx1, nx2, nx3, nx4, nx5, c1, c2, gm10_13]), (by rw [hH]; simp [gm10_20, gm12_20, g_m12_1__20, gk15_20, hst_20, nx1, nx2, nx3, nx4, nx5, c1, c2]), (by rw [hH]; simp [gm10_20, gm12_20, g_m12_1__20, gk15_20, hst_20, nx1, nx2, nx3, nx4, nx5, c1, c2]), ((congrArg AHeap.st hH).trans (hst_20.trans hst_13.symm)), ?_, ?_⟩
       ·rw [pickC_snoc, u1, pstep, if_pos ⟨by assumption, by first | exact .inl ‹_› | exact .inr ‹_›⟩]
       ·exact fun j hj => by
         have hjl : j ≠ k15 := fun e => by subst e; exact hj hcL
         have h1 : j ≠ m12 := fun e => by subst e; exact hj hz_k2_0
         have h2 : j ≠ m12 + 1 := fun e => by subst e; exact hj hz_k2_1
         rw [hkeep j hjl, kb j h1 h2, hka j hjl, u2 j hj]
      ·skip
       by_cases c3 : gt far x < ln
       ·skip;refine stp_lex false TT_ok mixed (by rfl) (by rfl) (by kernel_rfl) (by rfl) fun U hU K hK => ?_;simp [h7_16, h8_16, h9_16, h10_16, gm10_18, gm12_18, g_m12_1__18, gk15_18, nx1, nx2, nx3, nx4, nx5, c1, c2, c3, encG, x1, x2, x3, x4, hdl, gt_elem x3];(try refine And.intro (by first|omega|rfl) ?_);refine hK _ _ _ (by subst hU; kernel_rfl) fun σ22 hσ H22 hH => ?_;clear hK K hU U;obtain ⟨h7_22, h8_22, h9_22, h10_22, h50_22⟩ := fs5 hσ 7 8 9 10 50;simp [h7_16, h8_16, h9_16, h10_16] at h7_22 h8_22 h9_22 h10_22 h50_22;clear hσ;replace hH : H17 = H22 := Eq.symm hH;subst hH;refine stp_true (by simp [aeval_tmp, h50_22, nx1, nx2, nx3, nx4, nx5, c1, c2, c3, encG]) ?_;refine stp_lexl false TT_ok mixed (by rfl) (by rfl) (by kernel_rfl) (by rfl) fun U hU K hK => ?_;simp [h7_22, h8_22, h9_22, h10_22, gm10_18, gm12_18, g_m12_1__18, gk15_18, nx1, nx2, nx3, nx4, nx5, c1, c2, c3, encG, x1, x2, x3, x4, hdl, gt_elem x3];(try refine And.intro (by first|omega|rfl) ?_);refine hK _ _ _ (by rw [hU.trans (by kernel_rfl : _ = [(0, 1), (0, 2), (1, 2), (0, 3), (0, 4), (1, 5), (2, 5), (3, 5), (4, 5)])]; simp [logOk, ftFree, h7_22, h8_22, h9_22, h10_22, gm10_18, gm12_18, g_m12_1__18, gk15_18, nx1, nx2, nx3, nx4, nx5, c1, c2, c3, encG, x1, x2, x3, x4, hdl, gt_elem x3]) fun σ23 hσ H23 hH => ?_;clear hK K hU U;clear hσ;have gm10_23 := gt_of hH m10;have gm12_23 := gt_of hH m12;have g_m12_1__23 := gt_of hH (m12 + 1);have gk15_23 := gt_of hH k15
        simp [gm10_18, gm12_18, g_m12_1__18, gk15_18, hst_18, nx1, nx2, nx3, nx4, nx5, c1, c2, c3] at gm10_23 gm12_23 g_m12_1__23 gk15_23;have hst_23 := congrArg AHeap.st hH;simp [hst_18] at hst_23;have kb : ∀ j, j ≠ m12 → j ≠ m12 + 1 → H23.get j = H17.get j := fun j h1 h2 => by rw [hH]; simp [h1, h2]
        clear hH;refine q_block ?_;refine q_rb gk15_23 fun H24 hH => ?_;have hkeep : ∀ j, j ≠ k15 → H24.get j = H23.get j := fun j hj => by rw [hH, put_getH, if_neg hj]
        refine ⟨x, gt far x, (by rw [hH]; simp [gm10_23, gm12_23, g_m12_1__23, gk15_23, hst_23, nx1, nx2, nx3, nx4, nx5, c1, c2, c3, gm10_13]), (by rw [hH]; simp [gm10_23, gm12_23, g_m12_1__23, gk15_23, hst_23, nx1, nx2, nx3, nx4, nx5, c1, c2, c3]), (by rw [hH]; simp [gm10_23, gm12_23, g_m12_1__23, gk15_23, hst_23, nx1, nx2, nx3, nx4, nx5, c1, c2, c3]), ((congrArg AHeap.st hH).trans (hst_23.trans hst_13.symm)), ?_, ?_⟩
        ·rw [pickC_snoc, u1, pstep, if_pos ⟨by assumption, by first | exact .inl ‹_› | exact .inr ‹_›⟩]
        ·exact fun j hj => by
          have hjl : j ≠ k15 := fun e => by subst e; exact hj hcL
          have h1 : j ≠ m12 := fun e => by subst e; exact hj hz_k2_0
          have h2 : j ≠ m12 + 1 := fun e => by subst e; exact hj hz_k2_1
          rw [hkeep j hjl, kb j h1 h2, hka j hjl, u2 j hj]
       ·skip;refine stp_lex false TT_ok mixed (by rfl) (by rfl) (by kernel_rfl) (by rfl) fun U hU K hK => ?_;simp [h7_16, h8_16, h9_16, h10_16, gm10_18, gm12_18, g_m12_1__18, gk15_18, nx1, nx2, nx3, nx4, nx5, c1, c2, c3, encG, x1, x2, x3, x4, hdl, gt_elem x3];(try refine And.intro (by first|omega|rfl) ?_);refine hK _ _ _ (by subst hU; kernel_rfl) fun σ25 hσ H25 hH => ?_;clear hK K hU U;obtain ⟨h7_25, h8_25, h9_25, h10_25, h50_25⟩ := fs5 hσ 7 8 9 10 50;simp [h7_16, h8_16, h9_16, h10_16] at h7_25 h8_25 h9_25 h10_25 h50_25;clear hσ;replace hH : H17 = H25 := Eq.symm hH;subst hH;refine stp_false (by simp [aeval_tmp, h50_25, nx1, nx2, nx3, nx4, nx5, c1, c2, c3, encG]) ?_;refine awp_skip ?_;refine q_block ?_;refine q_rb gk15_18 fun H26 hH => ?_;have hkeep : ∀ j, j ≠ k15 → H26.get j = H17.get j := fun j hj => by rw [hH, put_getH, if_neg hj]
        refine ⟨nx, ln, (by rw [hH]; simp [gm10_18, gm12_18, g_m12_1__18, gk15_18, hst_18, nx1, nx2, nx3, nx4, nx5, c1, c2, c3, gm10_13]), (by rw [hH]; simp [gm10_18, gm12_18, g_m12_1__18, gk15_18, hst_18, nx1, nx2, nx3, nx4, nx5, c1, c2, c3]), (by rw [hH]; simp [gm10_18, gm12_18, g_m12_1__18, gk15_18, hst_18, nx1, nx2, nx3, nx4, nx5, c1, c2, c3]), ((congrArg AHeap.st hH).trans (hst_18.trans hst_13.symm)), ?_, ?_⟩
        ·rw [pickC_snoc, u1, pstep, if_neg (by simp only [not_and, not_or]; intros; first | contradiction | exact ⟨by assumption, by assumption⟩ | omega)]
        ·exact fun j hj => by
          have hjl : j ≠ k15 := fun e => by subst e; exact hj hcL
          rw [hkeep j hjl, hka j hjl, u2 j hj]
     ·skip;refine stp_lex false TT_ok mixed (by rfl) (by rfl) (by kernel_rfl) (by rfl) fun U hU K hK => ?_;simp [h7_16, h8_16, h9_16, h10_16, gm10_18, gm12_18, g_m12_1__18, gk15_18, nx1, nx2, nx3, nx4, nx5, c1, encG, x1, x2, x3, x4, hdl, gt_elem x3];(try refine And.intro (by first|omega|rfl) ?_);refine hK _ _ _ (by subst hU; kernel_rfl) fun σ27 hσ H27 hH => ?_;clear hK K hU U;obtain ⟨h7_27, h8_27, h9_27, h10_27, h50_27⟩ := fs5 hσ 7 8 9 10 50;simp [h7_16, h8_16, h9_16, h10_16] at h7_27 h8_27 h9_27 h10_27 h50_27;clear hσ;replace hH : H17 = H27 := Eq.symm hH;subst hH;refine stp_false (by simp [aeval_tmp, h50_27, nx1, nx2, nx3, nx4, nx5, c1, encG]) ?_;refine awp_skip ?_;refine q_block ?_;refine q_rb gk15_18 fun H28 hH => ?_;have hkeep : ∀ j, j ≠ k15 → H28.get j = H17.get j := fun j hj => by rw [hH, put_getH, if_neg hj]
      refine ⟨nx, ln, (by rw [hH]; simp [gm10_18, gm12_18, g_m12_1__18, gk15_18, hst_18, nx1, nx2, nx3, nx4, nx5, c1, gm10_13]), (by rw [hH]; simp [gm10_18, gm12_18, g_m12_1__18, gk15_18, hst_18, nx1, nx2, nx3, nx4, nx5, c1]), (by rw [hH]; simp [gm10_18, gm12_18, g_m12_1__18, gk15_18, hst_18, nx1, nx2, nx3, nx4, nx5, c1]), ((congrArg AHeap.st hH).trans (hst_18.trans hst_13.symm)), ?_, ?_⟩
      ·rw [pickC_snoc, u1, pstep, if_neg (by simp only [not_and, not_or]; intros; first | contradiction | exact ⟨by assumption, by assumption⟩ | omega)]
      ·exact fun j hj => by
        have hjl : j ≠ k15 := fun e => by subst e; exact hj hcL
        rw [hkeep j hjl, hka j hjl, u2 j hj]
    ·rintro rdy b15 H15 ⟨nx, ln, qgm10_15, gm12_15, g_m12_1__15, qst_15, u1, u2⟩ hrdy_15 Hd15 hH
     have gm10_15 := qgm10_15.trans gm10_13;have hst_15 := qst_15.trans hst_13;have hkeep : ∀ j, j ≠ k15 → Hd15.get j = H15.get j := fun j hj => by rw [hH, put_getH, if_neg hj]
     have gm10_29 := gt_of hH m10;have gm12_29 := gt_of hH m12;have g_m12_1__29 := gt_of hH (m12 + 1);simp [gm10_15, gm12_15, g_m12_1__15, hst_15, nx1, nx2, nx3, nx4, nx5] at gm10_29 gm12_29 g_m12_1__29;have hst_29 : Hd15.st = _ := (congrArg AHeap.st hH).trans hst_15
     have hcL : Hc.get k15 = none := by
      cases hq : Hc.get k15 with
      | none => rfl
      | some b => have := k2 k15 (by rw [hq]; simp); rw [hf_k15, hq] at this; cases this
     have u3 : ∀ j, Hc.get j ≠ none → Hd15.get j = Hc.get j := fun j hj => by
      have hjl : j ≠ k15 := fun e => by subst e; exact hj hcL
      rw [hkeep j hjl, u2 j hj]
     have p2d := p2c.keep u3;have hpk := pickC_ok far (geL f (g.succ f));rw [u1] at hpk
     have hcs : g.pcyc (f + 1) = if nx < 0 ∨ (best ≠ [] ∧ ln + 1 ≥ best.length) then best else (f : Int) :: (g.way far ln.toNat nx).dropLast := by
      rw [pcyc_succ, Gr.cstep, hfar, u1, hbest]
     clear hH;refine q_block ?_;refine q_seq ?_;refine awp_seq ?_
     by_cases c4 : nx < 0
     ·skip;rcases p2d with ⟨rfl, hbn⟩ | ⟨hbn, id, gn, rest, rfl, hb, hid⟩
      ·skip;refine stp_reg TT_ok (by rfl) fun K hK => ?_;simp [h5_14, h8_14, h9_14, gm10_29, gm12_29, g_m12_1__29, nx1, nx2, nx3, nx4, nx5, c4, encG];(try refine And.intro (by first|omega|rfl) ?_);refine hK _ _ fun σ30 hσ H30 hH => ?_;clear hK K;obtain ⟨h3_30, h4_30, h5_30, h6_30, h7_30, h8_30, h21_30, h22_30, h68_30⟩ := fs9 hσ 3 4 5 6 7 8 21 22 68;simp [h3_14, h4_14, h5_14, h6_14, h7_14, h8_14, h21_14, h22_14] at h3_30 h4_30 h5_30 h6_30 h7_30 h8_30 h21_30 h22_30 h68_30;clear hσ;replace hH : Hd15 = H30 := Eq.symm hH;subst hH;refine stp_true (by simp [aeval_tmp, h68_30, nx1, nx2, nx3, nx4, nx5, c4, encG]) ?_;refine awp_exit ?_;refine q_seq_exit ?_;refine q_block_hit ?_;refine q_seq ?_;refine stp_regl TT_ok (by rfl) fun K hK => ?_;simp [h22_30, gm10_29, gm12_29, g_m12_1__29, nx1, nx2, nx3, nx4, nx5, c4, encG, wrap_ok (n := (f : Int) + 1) (by omega) (by omega)];(try refine And.intro (by first|omega|rfl) ?_);refine hK _ _ fun σ31 hσ H31 hH => ?_;clear hK K;obtain ⟨h3_31, h4_31, h5_31, h21_31, h22_31⟩ := fs5 hσ 3 4 5 21 22;simp [h3_30, h4_30, h5_30, h21_30] at h3_31 h4_31 h5_31 h21_31 h22_31;clear hσ;replace hH : Hd15 = H31 := Eq.symm hH;subst hH;refine ⟨_, ?_, f + 1, .nils, rfl, (h3_31.trans h3_6.symm), (h4_31.trans h4_6.symm), (by simp [h5_31]), (h21_31.trans h21_6.symm), (by simp [h22_31]), (hst_29.trans hst_1.symm), ?_, ?_⟩
       ·subst hn1; omega
       ·first | omega | assumption | (simp; done)
       ·rw [hcs, if_pos (.inl c4)]; exact .inl ⟨rfl, hbn⟩
      ·skip;refine stp_reg TT_ok (by rfl) fun K hK => ?_;simp [h5_14, h8_14, h9_14, gm10_29, gm12_29, g_m12_1__29, nx1, nx2, nx3, nx4, nx5, c4, encG];(try refine And.intro (by first|omega|rfl) ?_);refine hK _ _ fun σ32 hσ H32 hH => ?_;clear hK K;obtain ⟨h3_32, h4_32, h5_32, h6_32, h7_32, h8_32, h21_32, h22_32, h68_32⟩ := fs9 hσ 3 4 5 6 7 8 21 22 68;simp [h3_14, h4_14, h5_14, h6_14, h7_14, h8_14, h21_14, h22_14] at h3_32 h4_32 h5_32 h6_32 h7_32 h8_32 h21_32 h22_32 h68_32;clear hσ;replace hH : Hd15 = H32 := Eq.symm hH;subst hH;refine stp_true (by simp [aeval_tmp, h68_32, nx1, nx2, nx3, nx4, nx5, c4, encG]) ?_;refine awp_exit ?_;refine q_seq_exit ?_;refine q_block_hit ?_;refine q_seq ?_;refine stp_regl TT_ok (by rfl) fun K hK => ?_;simp [h22_32, gm10_29, gm12_29, g_m12_1__29, nx1, nx2, nx3, nx4, nx5, c4, encG, wrap_ok (n := (f : Int) + 1) (by omega) (by omega)];(try refine And.intro (by first|omega|rfl) ?_);refine hK _ _ fun σ33 hσ H33 hH => ?_;clear hK K;obtain ⟨h3_33, h4_33, h5_33, h21_33, h22_33⟩ := fs5 hσ 3 4 5 21 22;simp [h3_32, h4_32, h5_32, h21_32] at h3_33 h4_33 h5_33 h21_33 h22_33;clear hσ;replace hH : Hd15 = H33 := Eq.symm hH;subst hH;refine ⟨_, ?_, f + 1, .sl id gn 0 best.length, rfl, (h3_33.trans h3_6.symm), (h4_33.trans h4_6.symm), (by simp [h5_33]), (h21_33.trans h21_6.symm), (by simp [h22_33]), (hst_29.trans hst_1.symm), ?_, ?_⟩
       ·subst hn1; omega
       ·first | omega | assumption | (simp; done)
       ·rw [hcs, if_pos (.inl c4)]; exact .inr ⟨hbn, id, gn, rest, rfl, hb, hid⟩
     ·skip
      have hnk : nx ∈ geL f (g.succ f) ∧ ln = gt far nx ∧ 0 ≤ ln := by
       rcases hpk with h | h
       ·exfalso; have := congrArg Prod.fst h; simp at this; omega
       ·exact h
      obtain ⟨hnm, hln, hln0⟩ := hnk;have hns : nx ∈ g.succ f ∧ (f : Int) ≤ nx := by simpa [geL] using hnm
      obtain ⟨n1_, n2_⟩ := succ_in hv hns.1;have n3 : nx.toNat < far.length := by omega
      have hnl := hD.val nx.toNat _ (List.getElem?_eq_getElem n3);rw [gt_elem n3, ← hln] at hnl
      obtain ⟨K0, hK0, hF0⟩ : ∃ k : Nat, ln = k ∧ g.Far (fun x => (f : Int) ≤ x) f k nx := by
       rcases hnl with q | ⟨k, q, hk⟩
       ·omega
       ·exact ⟨k, q, by rwa [Int.toNat_of_nonneg n1_] at hk⟩
      have hKl := hF0.lt hv ⟨n1_, n2_⟩;have hwl := way_len g far K0 nx;rcases p2d with ⟨rfl, hbn⟩ | ⟨hbn, id, gn, rest, rfl, hb, hid⟩
      ·skip;refine stp_reg TT_ok (by rfl) fun K hK => ?_;simp [h5_14, h8_14, h9_14, gm10_29, gm12_29, g_m12_1__29, nx1, nx2, nx3, nx4, nx5, c4, encG];(try refine And.intro (by first|omega|rfl) ?_);refine hK _ _ fun σ34 hσ H34 hH => ?_;clear hK K;obtain ⟨h3_34, h4_34, h5_34, h6_34, h7_34, h8_34, h21_34, h22_34, h68_34⟩ := fs9 hσ 3 4 5 6 7 8 21 22 68;simp [h3_14, h4_14, h5_14, h6_14, h7_14, h8_14, h21_14, h22_14] at h3_34 h4_34 h5_34 h6_34 h7_34 h8_34 h21_34 h22_34 h68_34;clear hσ;replace hH : Hd15 = H34 := Eq.symm hH;subst hH;refine stp_false (by simp [aeval_tmp, h68_34, nx1, nx2, nx3, nx4, nx5, c4, encG]) ?_;refine awp_skip ?_;refine q_seq ?_
       have hcs2 : g.pcyc (f + 1) = (f : Int) :: (g.way far K0 nx).dropLast := by
        rw [hcs, if_neg (by simp only [not_or, not_and]; exact ⟨c4, fun h => by first | exact absurd hbn h | exact c5⟩), hK0, Int.toNat_natCast]
       refine awp_ok fun hok => ?_;obtain ⟨m35, hn_m35⟩ : ∃ m, Hd15.n = m := ⟨_, rfl⟩;have hf_m35_0 := hok.free 0;simp [hn_m35, hst_29] at hf_m35_0;have nx6 := ne_get hf_m35_0 gm10_29;have nx7 := ne_get hf_m35_0 gm12_29;have nx8 := ne_get hf_m35_0 g_m12_1__29;refine stp_reg TT_ok (by rfl) fun K hK => ?_;simp [h6_34, gm10_29, gm12_29, g_m12_1__29, hn_m35, hst_29, nx1, nx2, nx3, nx4, nx5, c4, nx6, nx7, nx8, encG];(try refine And.intro (by first|omega|rfl) ?_);refine hK _ _ fun σ36 hσ H36 hH => ?_;clear hK K;obtain ⟨h3_36, h4_36, h5_36, h6_36, h7_36, h8_36, h21_36, h22_36⟩ := fs8 hσ 3 4 5 6 7 8 21 22;simp [h3_34, h4_34, h6_34, h7_34, h8_34, h21_34, h22_34] at h3_36 h4_36 h5_36 h6_36 h7_36 h8_36 h21_36 h22_36;clear hσ;have gm10_36 := gt_of hH m10;have gm12_36 := gt_of hH m12;have g_m12_1__36 := gt_of hH (m12 + 1);have gm35_36 := gt_of hH m35;simp [gm10_29, gm12_29, g_m12_1__29, hn_m35, hst_29, nx1, nx2, nx3, nx4, nx5, c4, nx6, nx7, nx8] at gm10_36 gm12_36 g_m12_1__36 gm35_36;have hst_36 := congrArg AHeap.st hH;simp [hst_29] at hst_36;clear hH
       by_cases c6 : nx = (f : Int)
       ·skip;refine stp_reg TT_ok (by rfl) fun K hK => ?_;simp [h6_36, h8_36, gm10_36, gm12_36, g_m12_1__36, gm35_36, nx1, nx2, nx3, nx4, nx5, c4, nx6, nx7, nx8, c6, beq_iff_eq.2 c6, encG];(try refine And.intro (by first|omega|rfl) ?_);refine hK _ _ fun σ37 hσ H37 hH => ?_;clear hK K;obtain ⟨h3_37, h4_37, h5_37, h7_37, h8_37, h21_37, h22_37, h73_37⟩ := fs8 hσ 3 4 5 7 8 21 22 73;simp [h3_36, h4_36, h5_36, h7_36, h8_36, h21_36, h22_36] at h3_37 h4_37 h5_37 h7_37 h8_37 h21_37 h22_37 h73_37;clear hσ;replace hH : H36 = H37 := Eq.symm hH;subst hH;refine stp_false (by simp [aeval_tmp, h73_37, nx1, nx2, nx3, nx4, nx5, c4, nx6, nx7, nx8, c6, beq_iff_eq.2 c6, encG]) ?_;refine awp_skip ?_;refine q_block ?_;refine q_seq ?_;refine stp_regl TT_ok (by rfl) fun K hK => ?_;simp [h22_37, gm10_36, gm12_36, g_m12_1__36, gm35_36, nx1, nx2, nx3, nx4, nx5, c4, nx6, nx7, nx8, c6, beq_iff_eq.2 c6, encG, wrap_ok (n := (f : Int) + 1) (by omega) (by omega)];(try refine And.intro (by first|omega|rfl) ?_);refine hK _ _ fun σ38 hσ H38 hH => ?_;clear hK K;obtain ⟨h3_38, h4_38, h5_38, h21_38, h22_38⟩ := fs5 hσ 3 4 5 21 22;simp [h3_37, h4_37, h5_37, h21_37] at h3_38 h4_38 h5_38 h21_38 h22_38;clear hσ;replace hH : H36 = H38 := Eq.symm hH;subst hH;refine ⟨_, ?_, f + 1, .sl m35 0 0 1, rfl, (h3_38.trans h3_6.symm), (h4_38.trans h4_6.symm), (by simp [h5_38]), (h21_38.trans h21_6.symm), (by simp [h22_38]), (hst_36.trans hst_1.symm), ?_, ?_⟩
        ·subst hn1; omega
        ·first | omega | assumption | (simp; done)
        ·have hK1 : K0 = 0 := by
          subst c6; exact hF0.uniq (Gr.far_to g _ _)
         rw [hcs2, hK1];exact .inr ⟨by simp, m35, 0, [], by simp [Gr.way], by rw [gm35_36]; simp [Gr.way], by omega⟩
       ·skip;refine stp_reg TT_ok (by rfl) fun K hK => ?_;simp [h6_36, h8_36, gm10_36, gm12_36, g_m12_1__36, gm35_36, nx1, nx2, nx3, nx4, nx5, c4, nx6, nx7, nx8, c6, beq_eq_false_iff_ne.2 c6, encG];(try refine And.intro (by first|omega|rfl) ?_);refine hK _ _ fun σ39 hσ H39 hH => ?_;clear hK K;obtain ⟨h3_39, h4_39, h5_39, h7_39, h8_39, h21_39, h22_39, h73_39⟩ := fs8 hσ 3 4 5 7 8 21 22 73;simp [h3_36, h4_36, h5_36, h7_36, h8_36, h21_36, h22_36] at h3_39 h4_39 h5_39 h7_39 h8_39 h21_39 h22_39 h73_39;clear hσ;replace hH : H36 = H39 := Eq.symm hH;subst hH;refine stp_true (by simp [aeval_tmp, h73_39, nx1, nx2, nx3, nx4, nx5, c4, nx6, nx7, nx8, c6, beq_eq_false_iff_ne.2 c6, encG]) ?_
        have hK1 : 0 < K0 := by
         rcases Nat.eq_zero_or_pos K0 with h | h
         ·subst h; exact absurd hF0.zero c6
         ·exact h
        obtain ⟨wy, hwy⟩ : ∃ wy, g.way far K0 nx = wy := ⟨_, rfl⟩;rw [hwy] at hwl hcs2;have hFF0 := an18 h3_39 h7_39 h8_39 gm10_36 gm12_36 g_m12_1__36 gm35_36 nx1 nx2 nx3 nx4 nx5 c4 nx6 nx7 nx8 c6 (beq_eq_false_iff_ne.2 c6);refine stp_reg TT_ok (by rfl) fun K hK => ?_;simp [hFF0, encG];(try refine And.intro (by first|omega|rfl) ?_);refine stp_call (descend_ok g hv (fun x => (f : Int) ≤ x) f nx far hD K0 ⟨n1_, n2_⟩ hF0) ?_;simp [hFF0, encG];(try refine And.intro (by first|omega|rfl) ?_);refine hK _ _ fun σ40 hσ H40 hH => ?_;clear hK K hFF0;obtain ⟨h3_40, h4_40, h5_40, h11_40, h21_40, h22_40⟩ := fs6 hσ 3 4 5 11 21 22;simp [h3_39, h4_39, h5_39, h21_39, h22_39] at h3_40 h4_40 h5_40 h11_40 h21_40 h22_40;clear hσ;replace hH : H36 = H40 := Eq.symm hH;subst hH;have hFF0 := an18 h5_40 h11_40 gm10_36 gm12_36 g_m12_1__36 gm35_36 hst_36 nx1 nx2 nx3 nx4 nx5 c4 nx6 nx7 nx8 c6 (beq_eq_false_iff_ne.2 c6);refine stp_regl TT_ok (by rfl) fun K hK => ?_;simp [hFF0, encG, hwl, hwy, show (K0 : Int) + 1 - 1 = K0 by omega, wrap_ok (n := (K0 : Int)) (by omega) (by omega)];(try refine And.intro (by first|omega|rfl) ?_);refine ⟨fun x hx => ?_, ⟨by omega, by omega⟩, ?_⟩
        ·obtain ⟨y, _, rfl⟩ := List.mem_map.1 (List.mem_of_mem_take hx); rfl
        (try refine And.intro (by first|omega|rfl) ?_);refine hK _ _ fun σ41 hσ H41 hH => ?_;clear hK K hFF0;obtain ⟨h3_41, h4_41, h5_41, h21_41, h22_41⟩ := fs5 hσ 3 4 5 21 22;simp [h3_40, h4_40, h21_40, h22_40] at h3_41 h4_41 h5_41 h21_41 h22_41;clear hσ;have gm10_41 := gt_of hH m10;have gm12_41 := gt_of hH m12;have g_m12_1__41 := gt_of hH (m12 + 1);have gm35_41 := gt_of hH m35;simp [gm10_36, gm12_36, g_m12_1__36, gm35_36, hst_36, nx1, nx2, nx3, nx4, nx5, c4, nx6, nx7, nx8, c6, beq_eq_false_iff_ne.2 c6] at gm10_41 gm12_41 g_m12_1__41 gm35_41;have hst_41 := congrArg AHeap.st hH;simp [hst_36] at hst_41;clear hH;refine q_block ?_;refine q_seq ?_;refine stp_regl TT_ok (by rfl) fun K hK => ?_;simp [h22_41, gm10_41, gm12_41, g_m12_1__41, gm35_41, nx1, nx2, nx3, nx4, nx5, c4, nx6, nx7, nx8, c6, beq_eq_false_iff_ne.2 c6, encG, wrap_ok (n := (f : Int) + 1) (by omega) (by omega)];(try refine And.intro (by first|omega|rfl) ?_);refine hK _ _ fun σ42 hσ H42 hH => ?_;clear hK K;obtain ⟨h3_42, h4_42, h5_42, h21_42, h22_42⟩ := fs5 hσ 3 4 5 21 22;simp [h3_41, h4_41, h5_41, h21_41] at h3_42 h4_42 h5_42 h21_42 h22_42;clear hσ;replace hH : H41 = H42 := Eq.symm hH;subst hH;refine ⟨_, ?_, f + 1, .sl m35 1 0 (1 + K0), rfl, (h3_42.trans h3_6.symm), (h4_42.trans h4_6.symm), (by simp [h5_42]), (h21_42.trans h21_6.symm), (by simp [h22_42]), (hst_41.trans hst_1.symm), ?_, ?_⟩
        ·subst hn1; omega
        ·first | omega | assumption | (simp; done)
        ·have hdl2 : wy.dropLast = wy.take K0 := by rw [List.dropLast_eq_take, hwl]; rfl
         rw [hcs2, hdl2];exact .inr ⟨by simp, m35, 1, [], by simp [hwl]; omega, by rw [gm35_41]; simp [List.map_take], by omega⟩
      ·skip
       by_cases c5 : (best.length : Int) ≤ ln + 1
       ·skip;refine stp_reg TT_ok (by rfl) fun K hK => ?_;simp [h5_14, h8_14, h9_14, gm10_29, gm12_29, g_m12_1__29, hb, nx1, nx2, nx3, nx4, nx5, c4, c5, encG];(try refine And.intro (by first|omega|rfl) ?_);refine hK _ _ fun σ43 hσ H43 hH => ?_;clear hK K;obtain ⟨h3_43, h4_43, h5_43, h6_43, h7_43, h8_43, h21_43, h22_43, h68_43⟩ := fs9 hσ 3 4 5 6 7 8 21 22 68;simp [h3_14, h4_14, h5_14, h6_14, h7_14, h8_14, h21_14, h22_14] at h3_43 h4_43 h5_43 h6_43 h7_43 h8_43 h21_43 h22_43 h68_43;clear hσ;replace hH : Hd15 = H43 := Eq.symm hH;subst hH;refine stp_true (by simp [aeval_tmp, h68_43, nx1, nx2, nx3, nx4, nx5, c4, c5, encG, wrap_ok (n := ln + 1) (by omega) (by omega)]) ?_;refine awp_exit ?_;refine q_seq_exit ?_;refine q_block_hit ?_;refine q_seq ?_;refine stp_regl TT_ok (by rfl) fun K hK => ?_;simp [h22_43, gm10_29, gm12_29, g_m12_1__29, hb, nx1, nx2, nx3, nx4, nx5, c4, c5, encG, wrap_ok (n := (f : Int) + 1) (by omega) (by omega)];(try refine And.intro (by first|omega|rfl) ?_);refine hK _ _ fun σ44 hσ H44 hH => ?_;clear hK K;obtain ⟨h3_44, h4_44, h5_44, h21_44, h22_44⟩ := fs5 hσ 3 4 5 21 22;simp [h3_43, h4_43, h5_43, h21_43] at h3_44 h4_44 h5_44 h21_44 h22_44;clear hσ;replace hH : Hd15 = H44 := Eq.symm hH;subst hH;refine ⟨_, ?_, f + 1, .sl id gn 0 best.length, rfl, (h3_44.trans h3_6.symm), (h4_44.trans h4_6.symm), (by simp [h5_44]), (h21_44.trans h21_6.symm), (by simp [h22_44]), (hst_29.trans hst_1.symm), ?_, ?_⟩
        ·subst hn1; omega
        ·first | omega | assumption | (simp; done)
        ·rw [hcs, if_pos (.inr ⟨hbn, c5⟩)]; exact .inr ⟨hbn, id, gn, rest, rfl, hb, hid⟩
       ·skip;refine stp_reg TT_ok (by rfl) fun K hK => ?_;simp [h5_14, h8_14, h9_14, gm10_29, gm12_29, g_m12_1__29, hb, nx1, nx2, nx3, nx4, nx5, c4, c5, encG];(try refine And.intro (by first|omega|rfl) ?_);refine hK _ _ fun σ45 hσ H45 hH => ?_;clear hK K;obtain ⟨h3_45, h4_45, h5_45, h6_45, h7_45, h8_45, h21_45, h22_45, h68_45⟩ := fs9 hσ 3 4 5 6 7 8 21 22 68;simp [h3_14, h4_14, h5_14, h6_14, h7_14, h8_14, h21_14, h22_14] at h3_45 h4_45 h5_45 h6_45 h7_45 h8_45 h21_45 h22_45 h68_45;clear hσ;replace hH : Hd15 = H45 := Eq.symm hH;subst hH;refine stp_false (by simp [aeval_tmp, h68_45, nx1, nx2, nx3, nx4, nx5, c4, c5, encG, wrap_ok (n := ln + 1) (by omega) (by omega)]) ?_;refine awp_skip ?_;refine q_seq ?_
        have hcs2 : g.pcyc (f + 1) = (f : Int) :: (g.way far K0 nx).dropLast := by
         rw [hcs, if_neg (by simp only [not_or, not_and]; exact ⟨c4, fun h => by first | exact absurd hbn h | exact c5⟩), hK0, Int.toNat_natCast]
        refine awp_ok fun hok => ?_;obtain ⟨m46, hn_m46⟩ : ∃ m, Hd15.n = m := ⟨_, rfl⟩;have hf_m46_0 := hok.free 0;simp [hn_m46, hst_29] at hf_m46_0;have nx9 := ne_get hf_m46_0 gm10_29;have nx10 := ne_get hf_m46_0 gm12_29;have nx11 := ne_get hf_m46_0 g_m12_1__29;have nx12 := ne_get hf_m46_0 hb;refine stp_reg TT_ok (by rfl) fun K hK => ?_;simp [h6_45, gm10_29, gm12_29, g_m12_1__29, hb, hn_m46, hst_29, nx1, nx2, nx3, nx4, nx5, c4, c5, nx9, nx10, nx11, nx12, encG];(try refine And.intro (by first|omega|rfl) ?_);refine hK _ _ fun σ47 hσ H47 hH => ?_;clear hK K;obtain ⟨h3_47, h4_47, h5_47, h6_47, h7_47, h8_47, h21_47, h22_47⟩ := fs8 hσ 3 4 5 6 7 8 21 22;simp [h3_45, h4_45, h6_45, h7_45, h8_45, h21_45, h22_45] at h3_47 h4_47 h5_47 h6_47 h7_47 h8_47 h21_47 h22_47;clear hσ;have gm10_47 := gt_of hH m10;have gm12_47 := gt_of hH m12;have g_m12_1__47 := gt_of hH (m12 + 1);have gid_47 := gt_of hH id;have gm46_47 := gt_of hH m46;simp [gm10_29, gm12_29, g_m12_1__29, hb, hn_m46, hst_29, nx1, nx2, nx3, nx4, nx5, c4, c5, nx9, nx10, nx11, nx12] at gm10_47 gm12_47 g_m12_1__47 gid_47 gm46_47;have hst_47 := congrArg AHeap.st hH;simp [hst_29] at hst_47;clear hH
        by_cases c6 : nx = (f : Int)
        ·skip;refine stp_reg TT_ok (by rfl) fun K hK => ?_;simp [h6_47, h8_47, gm10_47, gm12_47, g_m12_1__47, gid_47, gm46_47, nx1, nx2, nx3, nx4, nx5, c4, c5, nx9, nx10, nx11, nx12, c6, beq_iff_eq.2 c6, encG];(try refine And.intro (by first|omega|rfl) ?_);refine hK _ _ fun σ48 hσ H48 hH => ?_;clear hK K;obtain ⟨h3_48, h4_48, h5_48, h7_48, h8_48, h21_48, h22_48, h73_48⟩ := fs8 hσ 3 4 5 7 8 21 22 73;simp [h3_47, h4_47, h5_47, h7_47, h8_47, h21_47, h22_47] at h3_48 h4_48 h5_48 h7_48 h8_48 h21_48 h22_48 h73_48;clear hσ;replace hH : H47 = H48 := Eq.symm hH;subst hH;refine stp_false (by simp [aeval_tmp, h73_48, nx1, nx2, nx3, nx4, nx5, c4, c5, nx9, nx10, nx11, nx12, c6, beq_iff_eq.2 c6, encG]) ?_;refine awp_skip ?_;refine q_block ?_;refine q_seq ?_;refine stp_regl TT_ok (by rfl) fun K hK => ?_;simp [h22_48, gm10_47, gm12_47, g_m12_1__47, gid_47, gm46_47, nx1, nx2, nx3, nx4, nx5, c4, c5, nx9, nx10, nx11, nx12, c6, beq_iff_eq.2 c6, encG, wrap_ok (n := (f : Int) + 1) (by omega) (by omega)];(try refine And.intro (by first|omega|rfl) ?_);refine hK _ _ fun σ49 hσ H49 hH => ?_;clear hK K;obtain ⟨h3_49, h4_49, h5_49, h21_49, h22_49⟩ := fs5 hσ 3 4 5 21 22;simp [h3_48, h4_48, h5_48, h21_48] at h3_49 h4_49 h5_49 h21_49 h22_49;clear hσ;replace hH : H47 = H49 := Eq.symm hH;subst hH;refine ⟨_, ?_, f + 1, .sl m46 0 0 1, rfl, (h3_49.trans h3_6.symm), (h4_49.trans h4_6.symm), (by simp [h5_49]), (h21_49.trans h21_6.symm), (by simp [h22_49]), (hst_47.trans hst_1.symm), ?_, ?_⟩
         ·subst hn1; omega
         ·first | omega | assumption | (simp; done)
         ·have hK1 : K0 = 0 := by
           subst c6; exact hF0.uniq (Gr.far_to g _ _)
          rw [hcs2, hK1];exact .inr ⟨by simp, m46, 0, [], by simp [Gr.way], by rw [gm46_47]; simp [Gr.way], by omega⟩
        ·skip;refine stp_reg TT_ok (by rfl) fun K hK => ?_;simp [h6_47, h8_47, gm10_47, gm12_47, g_m12_1__47, gid_47, gm46_47, nx1, nx2, nx3, nx4, nx5, c4, c5, nx9, nx10, nx11, nx12, c6, beq_eq_false_iff_ne.2 c6, encG];(try refine And.intro (by first|omega|rfl) ?_);refine hK _ _ fun σ50 hσ H50 hH => ?_;clear hK K;obtain ⟨h3_50, h4_50, h5_50, h7_50, h8_50, h21_50, h22_50, h73_50⟩ := fs8 hσ 3 4 5 7 8 21 22 73;simp [h3_47, h4_47, h5_47, h7_47, h8_47, h21_47, h22_47] at h3_50 h4_50 h5_50 h7_50 h8_50 h21_50 h22_50 h73_50;clear hσ;replace hH : H47 = H50 := Eq.symm hH;subst hH;refine stp_true (by simp [aeval_tmp, h73_50, nx1, nx2, nx3, nx4, nx5, c4, c5, nx9, nx10, nx11, nx12, c6, beq_eq_false_iff_ne.2 c6, encG]) ?_
         have hK1 : 0 < K0 := by
          rcases Nat.eq_zero_or_pos K0 with h | h
          ·subst h; exact absurd hF0.zero c6
          ·exact h
         obtain ⟨wy, hwy⟩ : ∃ wy, g.way far K0 nx = wy := ⟨_, rfl⟩;rw [hwy] at hwl hcs2;have hFF0 := an21 h3_50 h7_50 h8_50 gm10_47 gm12_47 g_m12_1__47 gid_47 gm46_47 nx1 nx2 nx3 nx4 nx5 c4 c5 nx9 nx10 nx11 nx12 c6 (beq_eq_false_iff_ne.2 c6);refine stp_reg TT_ok (by rfl) fun K hK => ?_;simp [hFF0, encG];(try refine And.intro (by first|omega|rfl) ?_);refine stp_call (descend_ok g hv (fun x => (f : Int) ≤ x) f nx far hD K0 ⟨n1_, n2_⟩ hF0) ?_;simp [hFF0, encG];(try refine And.intro (by first|omega|rfl) ?_);refine hK _ _ fun σ51 hσ H51 hH => ?_;clear hK K hFF0;obtain ⟨h3_51, h4_51, h5_51, h11_51, h21_51, h22_51⟩ := fs6 hσ 3 4 5 11 21 22;simp [h3_50, h4_50, h5_50, h21_50, h22_50] at h3_51 h4_51 h5_51 h11_51 h21_51 h22_51;clear hσ;replace hH : H47 = H51 := Eq.symm hH;subst hH;have hFF0 := an21 h5_51 h11_51 gm10_47 gm12_47 g_m12_1__47 gid_47 gm46_47 hst_47 nx1 nx2 nx3 nx4 nx5 c4 c5 nx9 nx10 nx11 nx12 c6 (beq_eq_false_iff_ne.2 c6);refine stp_regl TT_ok (by rfl) fun K hK => ?_;simp [hFF0, encG, hwl, hwy, show (K0 : Int) + 1 - 1 = K0 by omega, wrap_ok (n := (K0 : Int)) (by omega) (by omega)];(try refine And.intro (by first|omega|rfl) ?_);refine ⟨fun x hx => ?_, ⟨by omega, by omega⟩, ?_⟩
         ·obtain ⟨y, _, rfl⟩ := List.mem_map.1 (List.mem_of_mem_take hx); rfl
         (try refine And.intro (by first|omega|rfl) ?_);refine hK _ _ fun σ52 hσ H52 hH => ?_;clear hK K hFF0;obtain ⟨h3_52, h4_52, h5_52, h21_52, h22_52⟩ := fs5 hσ 3 4 5 21 22;simp [h3_51, h4_51, h21_51, h22_51] at h3_52 h4_52 h5_52 h21_52 h22_52;clear hσ;have gm10_52 := gt_of hH m10;have gm12_52 := gt_of hH m12;have g_m12_1__52 := gt_of hH (m12 + 1);have gid_52 := gt_of hH id;have gm46_52 := gt_of hH m46;simp [gm10_47, gm12_47, g_m12_1__47, gid_47, gm46_47, hst_47, nx1, nx2, nx3, nx4, nx5, c4, c5, nx9, nx10, nx11, nx12, c6, beq_eq_false_iff_ne.2 c6] at gm10_52 gm12_52 g_m12_1__52 gid_52 gm46_52;have hst_52 := congrArg AHeap.st hH;simp [hst_47] at hst_52;clear hH;refine q_block ?_;refine q_seq ?_;refine stp_regl TT_ok (by rfl) fun K hK => ?_;simp [h22_52, gm10_52, gm12_52, g_m12_1__52, gid_52, gm46_52, nx1, nx2, nx3, nx4, nx5, c4, c5, nx9, nx10, nx11, nx12, c6, beq_eq_false_iff_ne.2 c6, encG, wrap_ok (n := (f : Int) + 1) (by omega) (by omega)];(try refine And.intro (by first|omega|rfl) ?_);refine hK _ _ fun σ53 hσ H53 hH => ?_;clear hK K;obtain ⟨h3_53, h4_53, h5_53, h21_53, h22_53⟩ := fs5 hσ 3 4 5 21 22;simp [h3_52, h4_52, h5_52, h21_52] at h3_53 h4_53 h5_53 h21_53 h22_53;clear hσ;replace hH : H52 = H53 := Eq.symm hH;subst hH;refine ⟨_, ?_, f + 1, .sl m46 1 0 (1 + K0), rfl, (h3_53.trans h3_6.symm), (h4_53.trans h4_6.symm), (by simp [h5_53]), (h21_53.trans h21_6.symm), (by simp [h22_53]), (hst_52.trans hst_1.symm), ?_, ?_⟩
         ·subst hn1; omega
         ·first | omega | assumption | (simp; done)
         ·have hdl2 : wy.dropLast = wy.take K0 := by rw [List.dropLast_eq_take, hwl]; rfl
          rw [hcs2, hdl2];exact .inr ⟨by simp, m46, 1, [], by simp [hwl]; omega, by rw [gm46_52]; simp [List.map_take], by omega⟩
   ·(try simp at hc23);refine awp_exit ?_;refine q_seq_exit ?_;refine q_loop_exit ?_;refine q_block_hit ?_;refine q_seq ?_;refine stp_reg TT_ok (by rfl) fun K hK => ?_;simp [h5_8, encG];(try refine And.intro (by first|omega|rfl) ?_);refine hK _ _ fun σ54 hσ H54 hH => ?_;clear hK K;have h2_54 := congrFun hσ 2;simp [] at h2_54;clear hσ;replace hH : H7 = H54 := Eq.symm hH;subst hH;refine awp_ret ?_;have hfe : f = g.nodes.length := by have := hc23; omega
    rw [hfe] at p2;refine q_fin1 h2_54 ?_;have e : g.pcycle = g.pcyc g.nodes.length := by simp [Gr.pcycle, hv]
    rw [e]; exact p2
theorem cycle_ok (g : Gr) : Fun1 Try.prog 21 [encG g] (.ro (g.pcycle.map (AV.int IntKind.i64))) := fun1_frz ((cycle0 g).mono fun r H h => h.frz) (pu_cons (pu_graph g) pu_nil) (pu_ints _)
def roN (l : List Int) : AV := if l = [] then .nils else .ro (l.map (AV.int IntKind.i64))
theorem pu_roN (l : List Int) : Pu (roN l) := by
 rw [roN]; split
 ·exact .nils
 ·exact pu_ints _
theorem BestV.frzN {lo : Nat} {best : List Int} {v : AV} {H : AHeap} (h : BestV lo best v H) : Frz H v (roN best) := by
 rcases h with ⟨h1, h2⟩ | ⟨h0, h2⟩
 ·subst h1; rw [roN, if_pos h2]; exact .pure .nils
 ·rw [roN, if_neg h0]; exact BestV.frz (lo := lo) (.inr ⟨h0, h2⟩)
theorem cycleN_ok (g : Gr) : Fun1 Try.prog 21 [encG g] (roN g.pcycle) := fun1_frz ((cycle0 g).mono fun r H h => h.frzN) (pu_cons (pu_graph g) pu_nil) (pu_roN _)
theorem succs_ok2 {g : Gr} (hv : g.valid = true) : g.succs.length ≤ 100000 ∧ ∀ l ∈ g.succs, l.length ≤ 100000 ∧ ∀ x ∈ l, inR g.succs.length x := by
 obtain ⟨hb1, hb2⟩ := valid_nodes hv;have hl : g.succs.length = g.nodes.length := by simp [Gr.succs]
 refine ⟨by omega, fun l hl2 => ?_⟩;obtain ⟨i, hi, rfl⟩ := List.mem_map.1 hl2;exact ⟨Nat.le_trans (succ_len g i) (by omega), fun x hx => by rw [hl]; exact succ_in hv hx⟩
def Gr.porder (g : Gr) : List Int × Bool := if g.valid = true ∧ g.pcycle = [] then (listedL g.succs g.succs.length, true) else ([], false)
set_option maxHeartbeats 1000000 in
theorem order0 (g : Gr) : ACalls Try.prog 25 [encG g] AHeap.nil (fun r H => Frz H r (.tup [.ro (g.porder.1.map (AV.int IntKind.i64)), .bool g.porder.2])) := by
 refine acalls_body TT_ok Try.func25 rfl rfl (by simp [Try.ntmps25]) ?_;rw [Try.ntmps25];obtain ⟨σ, hσ⟩ : ∃ σ, σ = st0 [encG g] := ⟨_, rfl⟩;rw [← hσ];have h0_0 := congrFun hσ 0;simp [st0] at h0_0;clear hσ;obtain ⟨H, hH⟩ : ∃ H, H = AHeap.nil := ⟨_, rfl⟩;rw [← hH];have hn_0 : H.n = 0 := by rw [hH]; rfl
 have hst_0 : H.st = 1 := by rw [hH]; rfl
 clear hH;refine stp_reg TT_ok (by rfl) fun K hK => ?_;simp [h0_0, hn_0, hst_0, encG];(try refine And.intro (by first|omega|rfl) ?_);refine hK _ _ fun σ1 hσ H1 hH => ?_;clear hK K;have h1_1 := congrFun hσ 1;simp [] at h1_1;clear hσ;have g0_1 := gt_of hH 0;simp [hn_0, hst_0] at g0_1;have hn_1 := congrArg AHeap.n hH;simp [hn_0, hst_0] at hn_1;have hst_1 := congrArg AHeap.st hH;simp [hn_0, hst_0] at hst_1;clear hH;refine awp_seq ?_
 by_cases hv : g.valid = true
 ·skip
  by_cases hc : g.pcycle = []
  ·skip;have hFF0 := an6 h1_1 g0_1 hv (beq_iff_eq.2 hv) hc (beq_iff_eq.2 hc);refine stp_reg TT_ok (by rfl) fun K hK => ?_;simp [hFF0, encG, roN];(try refine And.intro (by first|omega|rfl) ?_);refine stp_call (valid_ok g) ?_;simp [hFF0, encG, roN];(try refine And.intro (by first|omega|rfl) ?_);refine stp_call (cycleN_ok g) ?_;simp [hFF0, encG, roN];(try refine And.intro (by first|omega|rfl) ?_);refine hK _ _ fun σ2 hσ H2 hH => ?_;clear hK K hFF0;obtain ⟨h1_2, h11_2⟩ := fs2 hσ 1 11;simp [h1_1] at h1_2 h11_2;clear hσ;replace hH : H1 = H2 := Eq.symm hH;subst hH;refine stp_false (by simp [aeval_tmp, h11_2, hv, beq_iff_eq.2 hv, hc, beq_iff_eq.2 hc, encG]) ?_;refine awp_skip ?_;refine q_seq ?_;have hFF0 := an6 h1_2 g0_1 hv (beq_iff_eq.2 hv) hc (beq_iff_eq.2 hc);refine stp_reg TT_ok (by rfl) fun K hK => ?_;simp [hFF0, encG];(try refine And.intro (by first|omega|rfl) ?_);refine stp_call (succs_ok g hv) ?_;simp [hFF0, encG];(try refine And.intro (by first|omega|rfl) ?_);refine stp_call (listed_ok g.succs (succs_ok2 hv).1 (succs_ok2 hv).2) ?_;simp [hFF0, encG];(try refine And.intro (by first|omega|rfl) ?_);refine hK _ _ fun σ3 hσ H3 hH => ?_;clear hK K hFF0;obtain ⟨h2_3, h3_3⟩ := fs2 hσ 2 3;simp [] at h2_3 h3_3;clear hσ;replace hH : H1 = H3 := Eq.symm hH;subst hH;refine awp_ret ?_;refine q_fin2 h2_3 h3_3 ?_;have e : g.porder = (listedL g.succs g.succs.length, true) := by rw [Gr.porder, if_pos ⟨hv, hc⟩]
   rw [e];exact .pure (.tup (pu_cons (pu_ints _) (pu_cons (.bool _) pu_nil)))
  ·skip
   obtain ⟨c0, cs, hcc⟩ : ∃ c0 cs, g.pcycle = c0 :: cs := by
    cases hp : g.pcycle with
    | nil => exact absurd hp hc
    | cons a b => exact ⟨a, b, rfl⟩
   have hFF0 := an6 h1_1 g0_1 hv (beq_iff_eq.2 hv) hc (beq_eq_false_iff_ne.2 hc);refine stp_reg TT_ok (by rfl) fun K hK => ?_;simp [hFF0, encG, roN, hcc];(try refine And.intro (by first|omega|rfl) ?_);refine stp_call (valid_ok g) ?_;simp [hFF0, encG, roN, hcc];(try refine And.intro (by first|omega|rfl) ?_);refine stp_call (cycleN_ok g) ?_;simp [hFF0, encG, roN, hcc];(try refine And.intro (by first|omega|rfl) ?_);refine hK _ _ fun σ4 hσ H4 hH => ?_;clear hK K hFF0;obtain ⟨h1_4, h11_4⟩ := fs2 hσ 1 11;simp [h1_1] at h1_4 h11_4;clear hσ;replace hH : H1 = H4 := Eq.symm hH;subst hH;refine stp_true (by simp [aeval_tmp, h11_4, hv, beq_iff_eq.2 hv, hc, beq_eq_false_iff_ne.2 hc, encG]) ?_;refine stp_reg TT_ok (by rfl) fun K hK => ?_;simp [g0_1, hv, beq_iff_eq.2 hv, hc, beq_eq_false_iff_ne.2 hc, encG];(try refine And.intro (by first|omega|rfl) ?_);refine hK _ _ fun σ5 hσ H5 hH => ?_;clear hK K;obtain ⟨h2_5, h3_5⟩ := fs2 hσ 2 3;simp [] at h2_5 h3_5;clear hσ;replace hH : H1 = H5 := Eq.symm hH;subst hH;refine awp_ret ?_;refine q_seq_ret ?_;refine q_fin2 h2_5 h3_5 ?_;have e : g.porder = ([], false) := by rw [Gr.porder, if_neg (fun h => by first | exact hc h.2 | exact hv h.1)]
   rw [e]
   exact .tup rfl fun j x y hx hy => by
    match j, hx, hy with
    | 0, hx, hy => simp at hx hy; subst hx; subst hy; exact .nils
    | 1, hx, hy => simp at hx hy; subst hx; subst hy; exact .pure (.bool _)
 ·skip;have hFF0 := an4 h1_1 g0_1 hv (beq_eq_false_iff_ne.2 hv);refine stp_reg TT_ok (by rfl) fun K hK => ?_;simp [hFF0, encG];(try refine And.intro (by first|omega|rfl) ?_);refine stp_call (valid_ok g) ?_;simp [hFF0, encG];(try refine And.intro (by first|omega|rfl) ?_);refine hK _ _ fun σ6 hσ H6 hH => ?_;clear hK K hFF0;obtain ⟨h1_6, h11_6⟩ := fs2 hσ 1 11;simp [h1_1] at h1_6 h11_6;clear hσ;replace hH : H1 = H6 := Eq.symm hH;subst hH;refine stp_true (by simp [aeval_tmp, h11_6, hv, beq_eq_false_iff_ne.2 hv, encG]) ?_;refine stp_reg TT_ok (by rfl) fun K hK => ?_;simp [g0_1, hv, beq_eq_false_iff_ne.2 hv, encG];(try refine And.intro (by first|omega|rfl) ?_);refine hK _ _ fun σ7 hσ H7 hH => ?_;clear hK K;obtain ⟨h2_7, h3_7⟩ := fs2 hσ 2 3;simp [] at h2_7 h3_7;clear hσ;replace hH : H1 = H7 := Eq.symm hH;subst hH;refine awp_ret ?_;refine q_seq_ret ?_;refine q_fin2 h2_7 h3_7 ?_;have e : g.porder = ([], false) := by rw [Gr.porder, if_neg (fun h => by first | exact hc h.2 | exact hv h.1)]
  rw [e]
  exact .tup rfl fun j x y hx hy => by
   match j, hx, hy with
   | 0, hx, hy => simp at hx hy; subst hx; subst hy; exact .nils
   | 1, hx, hy => simp at hx hy; subst hx; subst hy; exact .pure (.bool _)
theorem order_ok (g : Gr) : Fun1 Try.prog 25 [encG g] (.tup [.ro (g.porder.1.map (AV.int IntKind.i64)), .bool g.porder.2]) := fun1_frz (order0 g) (pu_cons (pu_graph g) pu_nil) (.tup (pu_cons (pu_ints _) (pu_cons (.bool _) pu_nil)))
def lexL : List Int → List Int → Bool
 | x :: xs, y :: ys => if x = y then lexL xs ys else decide (x < y)
 | _, _ => false
def lessL (a b : List Int) : Bool := if a.length = b.length then lexL a b else decide (a.length < b.length)
theorem lexL_drop {a b : List Int} (h : a.length = b.length) {i : Nat} (hi : i < a.length) : lexL (a.drop i) (b.drop i) = if a[i] = b[i]'(by omega) then lexL (a.drop (i + 1)) (b.drop (i + 1)) else decide (a[i] < b[i]'(by omega)) := by
 rw [List.drop_eq_getElem_cons hi, List.drop_eq_getElem_cons (l := b) (by omega), lexL]
set_option maxHeartbeats 1000000 in
theorem less0 (a b : List Int) (ha : a.length ≤ 1000000) (hb : b.length ≤ 1000000) : ACalls Try.prog 53 [.ro (a.map (AV.int IntKind.i64)), .ro (b.map (AV.int IntKind.i64))] AHeap.nil (fun r _ => r = .bool (lessL a b)) := by
 refine acalls_body TT_ok Try.func53 rfl rfl (by simp [Try.ntmps53]) ?_;rw [Try.ntmps53];obtain ⟨σ, hσ⟩ : ∃ σ, σ = st0 [.ro (a.map (AV.int IntKind.i64)), .ro (b.map (AV.int IntKind.i64))] := ⟨_, rfl⟩;rw [← hσ];obtain ⟨h0_0, h1_0⟩ := fs2 hσ 0 1;simp [st0] at h0_0 h1_0;clear hσ;obtain ⟨H, hH⟩ : ∃ H, H = AHeap.nil := ⟨_, rfl⟩;rw [← hH];have hn_0 : H.n = 0 := by rw [hH]; rfl
 have hst_0 : H.st = 1 := by rw [hH]; rfl
 clear hH;refine stp_reg TT_ok (by rfl) fun K hK => ?_;simp [];(try refine And.intro (by first|omega|rfl) ?_);refine hK _ _ fun σ1 hσ H1 hH => ?_;clear hK K;obtain ⟨h0_1, h1_1⟩ := fs2 hσ 0 1;simp [h0_0, h1_0] at h0_1 h1_1;clear hσ;replace hH : H = H1 := Eq.symm hH;subst hH;refine awp_seq ?_
 by_cases hl : (a.length : Int) = b.length
 ·skip;refine stp_reg TT_ok (by rfl) fun K hK => ?_;simp [h0_1, h1_1, hl, beq_iff_eq.2 hl];(try refine And.intro (by first|omega|rfl) ?_);refine hK _ _ fun σ2 hσ H2 hH => ?_;clear hK K;obtain ⟨h0_2, h1_2, h10_2⟩ := fs3 hσ 0 1 10;simp [h0_1, h1_1] at h0_2 h1_2 h10_2;clear hσ;replace hH : H = H2 := Eq.symm hH;subst hH;refine stp_false (by simp [aeval_tmp, h10_2, hl, beq_iff_eq.2 hl]) ?_;refine awp_skip ?_;refine q_seq ?_;refine awp_seq ?_;refine stp_reg TT_ok (by rfl) fun K hK => ?_;simp [hl, beq_iff_eq.2 hl];(try refine And.intro (by first|omega|rfl) ?_);refine hK _ _ fun σ3 hσ H3 hH => ?_;clear hK K;obtain ⟨h0_3, h1_3, h5_3⟩ := fs3 hσ 0 1 5;simp [h0_2, h1_2] at h0_3 h1_3 h5_3;clear hσ;replace hH : H = H3 := Eq.symm hH;subst hH;refine awp_block ?_;have hl2 : a.length = b.length := by omega
  refine awp_loopV (fun n σ' H' => ∃ (i : Nat), n = a.length - i ∧ σ' 0 = σ3 0 ∧ σ' 1 = σ3 1 ∧ σ' 5 = (AV.int IntKind.i64) i ∧ H' = H ∧ (i ≤ a.length) ∧ (lessL a b = lexL (a.drop i) (b.drop i))) ?_ ?_
  ·refine ⟨_, 0, rfl, rfl, rfl, (by simp [h5_3]), rfl, ?_, ?_⟩
   ·first | omega | (simp; done) | assumption
   ·rw [lessL, if_pos hl2]; rfl
  ·rintro n1 σ4 H4 ⟨i, hn1, q0_4, q1_4, h5_4, hHq, p1, p2⟩
   have h0_4 := q0_4.trans h0_3;have h1_4 := q1_4.trans h1_3;replace hHq := hHq.symm;subst hHq;refine awp_seq ?_;refine stp_reg TT_ok (by rfl) fun K hK => ?_;simp [h0_4, h5_4, hl, beq_iff_eq.2 hl];(try refine And.intro (by first|omega|rfl) ?_);refine hK _ _ fun σ5 hσ H5 hH => ?_;clear hK K;obtain ⟨h0_5, h1_5, h5_5, h19_5⟩ := fs4 hσ 0 1 5 19;simp [h0_4, h1_4, h5_4] at h0_5 h1_5 h5_5 h19_5;clear hσ;replace hH : H = H5 := Eq.symm hH;subst hH;refine awp_cond _ (by simp only [aeval_tmp]; exact h19_5) (fun hc19 => ?_) (fun hc19 => ?_)
   ·(try simp at hc19);have hlt : i < a.length := by have := hc19; omega
    have hlt2 : i < b.length := by omega
    have hst := lexL_drop hl2 hlt;refine awp_skip ?_;refine q_seq ?_;refine awp_seq ?_;refine awp_block ?_
    by_cases he : a[i] = b[i]
    ·skip;refine stp_lex false TT_ok mixed (by rfl) (by rfl) (by kernel_rfl) (by rfl) fun U hU K hK => ?_;simp [h0_5, h1_5, h5_5, hl, beq_iff_eq.2 hl, he, beq_iff_eq.2 he, hlt, hlt2];(try refine And.intro (by first|omega|rfl) ?_);refine hK _ _ _ (by subst hU; kernel_rfl) fun σ6 hσ H6 hH => ?_;clear hK K hU U;obtain ⟨h0_6, h1_6, h5_6, h30_6⟩ := fs4 hσ 0 1 5 30;simp [h0_5, h1_5, h5_5] at h0_6 h1_6 h5_6 h30_6;clear hσ;replace hH : H = H6 := Eq.symm hH;subst hH;refine stp_false (by simp [aeval_tmp, h30_6, hl, beq_iff_eq.2 hl, he, beq_iff_eq.2 he]) ?_;refine awp_skip ?_;refine q_block ?_;refine q_seq ?_;refine stp_regl TT_ok (by rfl) fun K hK => ?_;simp [h5_6, hl, beq_iff_eq.2 hl, he, beq_iff_eq.2 he, wrap_ok (n := (i : Int) + 1) (by omega) (by omega)];(try refine And.intro (by first|omega|rfl) ?_);refine hK _ _ fun σ7 hσ H7 hH => ?_;clear hK K;obtain ⟨h0_7, h1_7, h5_7⟩ := fs3 hσ 0 1 5;simp [h0_6, h1_6] at h0_7 h1_7 h5_7;clear hσ;replace hH : H = H7 := Eq.symm hH;subst hH;refine ⟨_, ?_, i + 1, rfl, (h0_7.trans h0_3.symm), (h1_7.trans h1_3.symm), (by simp [h5_7]), rfl, ?_, ?_⟩
     ·subst hn1; omega
     ·first | omega | assumption | (simp; done)
     ·rw [p2, hst, if_pos he]
    ·skip;refine stp_lex false TT_ok mixed (by rfl) (by rfl) (by kernel_rfl) (by rfl) fun U hU K hK => ?_;simp [h0_5, h1_5, h5_5, hl, beq_iff_eq.2 hl, he, beq_eq_false_iff_ne.2 he, hlt, hlt2];(try refine And.intro (by first|omega|rfl) ?_);refine hK _ _ _ (by subst hU; kernel_rfl) fun σ8 hσ H8 hH => ?_;clear hK K hU U;obtain ⟨h0_8, h1_8, h5_8, h30_8⟩ := fs4 hσ 0 1 5 30;simp [h0_5, h1_5, h5_5] at h0_8 h1_8 h5_8 h30_8;clear hσ;replace hH : H = H8 := Eq.symm hH;subst hH;refine stp_true (by simp [aeval_tmp, h30_8, hl, beq_iff_eq.2 hl, he, beq_eq_false_iff_ne.2 he]) ?_;refine stp_lex false TT_ok mixed (by rfl) (by rfl) (by kernel_rfl) (by rfl) fun U hU K hK => ?_;simp [h0_8, h1_8, h5_8, hl, beq_iff_eq.2 hl, he, beq_eq_false_iff_ne.2 he, hlt, hlt2];(try refine And.intro (by first|omega|rfl) ?_);refine hK _ _ _ (by subst hU; kernel_rfl) fun σ9 hσ H9 hH => ?_;clear hK K hU U;have h4_9 := congrFun hσ 4;simp [] at h4_9;clear hσ;replace hH : H = H9 := Eq.symm hH;subst hH;refine awp_ret ?_;refine q_block_ret ?_;refine q_seq_ret ?_;refine q_loop_ret ?_;refine q_block_ret ?_;refine q_seq_ret ?_;refine q_fin1 h4_9 ?_;rw [p2, hst, if_neg he]
   ·(try simp at hc19);refine awp_exit ?_;refine q_seq_exit ?_;refine q_loop_exit ?_;refine q_block_hit ?_;refine q_seq ?_;refine stp_reg TT_ok (by rfl) fun K hK => ?_;simp [hl, beq_iff_eq.2 hl];(try refine And.intro (by first|omega|rfl) ?_);refine hK _ _ fun σ10 hσ H10 hH => ?_;clear hK K;have h4_10 := congrFun hσ 4;simp [] at h4_10;clear hσ;replace hH : H = H10 := Eq.symm hH;subst hH;refine awp_ret ?_;refine q_fin1 h4_10 ?_;have hie : i = a.length := by have := hc19; omega
    rw [p2, hie, List.drop_length] <;> simp [lexL]
 ·skip;refine stp_reg TT_ok (by rfl) fun K hK => ?_;simp [h0_1, h1_1, hl, beq_eq_false_iff_ne.2 hl];(try refine And.intro (by first|omega|rfl) ?_);refine hK _ _ fun σ11 hσ H11 hH => ?_;clear hK K;obtain ⟨h0_11, h1_11, h10_11⟩ := fs3 hσ 0 1 10;simp [h0_1, h1_1] at h0_11 h1_11 h10_11;clear hσ;replace hH : H = H11 := Eq.symm hH;subst hH;refine stp_true (by simp [aeval_tmp, h10_11, hl, beq_eq_false_iff_ne.2 hl]) ?_;refine stp_reg TT_ok (by rfl) fun K hK => ?_;simp [h0_11, h1_11, hl, beq_eq_false_iff_ne.2 hl];(try refine And.intro (by first|omega|rfl) ?_);refine hK _ _ fun σ12 hσ H12 hH => ?_;clear hK K;have h4_12 := congrFun hσ 4;simp [] at h4_12;clear hσ;replace hH : H = H12 := Eq.symm hH;subst hH;refine awp_ret ?_;refine q_seq_ret ?_;refine q_fin1 h4_12 ?_;rw [lessL, if_neg (by omega)] <;> simp
theorem ext_take {α : Type} {a b : List α} {i : Nat} (ha : i < a.length) (hb : i < b.length) (h : a.take i = b.take i) : a.take (i + 1) = b.take (i + 1) ↔ a[i] = b[i] := by
 rw [List.take_succ_eq_append_getElem ha, List.take_succ_eq_append_getElem hb, h]
 constructor
 ·intro e; have := List.append_cancel_left e; simpa using this
 ·intro e; rw [e]
set_option maxHeartbeats 1000000 in
theorem same0 (a b : List (List Int)) (ha : a.length ≤ 1000000) (hb : ∀ l ∈ a, l.length ≤ 1000000) : ACalls Try.prog 27 [encS a, encS b] AHeap.nil (fun r _ => r = .bool (decide (a = b))) := by
 refine acalls_body TT_ok Try.func27 rfl rfl (by simp [Try.ntmps27]) ?_;rw [Try.ntmps27];obtain ⟨σ, hσ⟩ : ∃ σ, σ = st0 [encS a, encS b] := ⟨_, rfl⟩;rw [← hσ];obtain ⟨h0_0, h1_0⟩ := fs2 hσ 0 1;simp [st0] at h0_0 h1_0;clear hσ;obtain ⟨H, hH⟩ : ∃ H, H = AHeap.nil := ⟨_, rfl⟩;rw [← hH];have hn_0 : H.n = 0 := by rw [hH]; rfl
 have hst_0 : H.st = 1 := by rw [hH]; rfl
 clear hH;refine stp_reg TT_ok (by rfl) fun K hK => ?_;simp [encS];(try refine And.intro (by first|omega|rfl) ?_);refine hK _ _ fun σ1 hσ H1 hH => ?_;clear hK K;obtain ⟨h0_1, h1_1⟩ := fs2 hσ 0 1;simp [h0_0, h1_0] at h0_1 h1_1;clear hσ;replace hH : H = H1 := Eq.symm hH;subst hH;refine awp_seq ?_
 by_cases hl : (a.length : Int) = b.length
 ·skip;refine stp_reg TT_ok (by rfl) fun K hK => ?_;simp [h0_1, h1_1, hl, beq_iff_eq.2 hl, encS];(try refine And.intro (by first|omega|rfl) ?_);refine hK _ _ fun σ2 hσ H2 hH => ?_;clear hK K;obtain ⟨h0_2, h1_2, h11_2⟩ := fs3 hσ 0 1 11;simp [h0_1, h1_1] at h0_2 h1_2 h11_2;clear hσ;replace hH : H = H2 := Eq.symm hH;subst hH;refine stp_false (by simp [aeval_tmp, h11_2, hl, beq_iff_eq.2 hl, encS]) ?_;refine awp_skip ?_;refine q_seq ?_;refine awp_seq ?_;refine stp_reg TT_ok (by rfl) fun K hK => ?_;simp [hl, beq_iff_eq.2 hl, encS];(try refine And.intro (by first|omega|rfl) ?_);refine hK _ _ fun σ3 hσ H3 hH => ?_;clear hK K;obtain ⟨h0_3, h1_3, h5_3⟩ := fs3 hσ 0 1 5;simp [h0_2, h1_2] at h0_3 h1_3 h5_3;clear hσ;replace hH : H = H3 := Eq.symm hH;subst hH;refine awp_block ?_;have hl2 : a.length = b.length := by omega
  refine awp_loopV (fun n σ' H' => ∃ (i : Nat), n = a.length - i ∧ σ' 0 = σ3 0 ∧ σ' 1 = σ3 1 ∧ σ' 5 = (AV.int IntKind.i64) i ∧ H' = H ∧ (i ≤ a.length) ∧ (a.take i = b.take i)) ?_ ?_
  ·refine ⟨_, 0, rfl, rfl, rfl, (by simp [h5_3]), rfl, ?_, ?_⟩
   ·first | omega | (simp; done) | assumption
   ·rfl
  ·rintro n1 σ4 H4 ⟨i, hn1, q0_4, q1_4, h5_4, hHq, p1, p2⟩
   have h0_4 := q0_4.trans h0_3;have h1_4 := q1_4.trans h1_3;replace hHq := hHq.symm;subst hHq;refine awp_seq ?_;refine stp_reg TT_ok (by rfl) fun K hK => ?_;simp [h0_4, h5_4, hl, beq_iff_eq.2 hl, encS];(try refine And.intro (by first|omega|rfl) ?_);refine hK _ _ fun σ5 hσ H5 hH => ?_;clear hK K;obtain ⟨h0_5, h1_5, h5_5, h15_5⟩ := fs4 hσ 0 1 5 15;simp [h0_4, h1_4, h5_4] at h0_5 h1_5 h5_5 h15_5;clear hσ;replace hH : H = H5 := Eq.symm hH;subst hH;refine awp_cond _ (by simp only [aeval_tmp]; exact h15_5) (fun hc15 => ?_) (fun hc15 => ?_)
   ·(try simp at hc15);have hlt : i < a.length := by have := hc15; omega
    have hlt2 : i < b.length := by omega
    obtain ⟨x, hx⟩ : ∃ x, a[i] = x := ⟨_, rfl⟩;obtain ⟨y, hy⟩ : ∃ y, b[i] = y := ⟨_, rfl⟩;have hxl := hb x (by rw [← hx]; exact List.getElem_mem hlt);have hxy := ext_take hlt hlt2 p2;rw [hx, hy] at hxy;have hno : ¬ x = y → ¬ a = b := fun h e => h (by subst e; exact hx.symm.trans hy);refine awp_skip ?_;refine q_seq ?_;refine awp_seq ?_;refine awp_block ?_;refine awp_seq ?_
    by_cases hm : (x.length : Int) = y.length
    ·skip;refine stp_lex false TT_ok mixed (by rfl) (by rfl) (by kernel_rfl) (by rfl) fun U hU K hK => ?_;simp [h0_5, h1_5, h5_5, hl, beq_iff_eq.2 hl, hm, beq_iff_eq.2 hm, encS, hlt, hlt2, hx, hy];(try refine And.intro (by first|omega|rfl) ?_);refine hK _ _ _ (by subst hU; kernel_rfl) fun σ6 hσ H6 hH => ?_;clear hK K hU U;obtain ⟨h0_6, h1_6, h5_6, h28_6⟩ := fs4 hσ 0 1 5 28;simp [h0_5, h1_5, h5_5] at h0_6 h1_6 h5_6 h28_6;clear hσ;replace hH : H = H6 := Eq.symm hH;subst hH;refine stp_false (by simp [aeval_tmp, h28_6, hl, beq_iff_eq.2 hl, hm, beq_iff_eq.2 hm, encS]) ?_;refine awp_skip ?_;refine q_seq ?_;refine stp_reg TT_ok (by rfl) fun K hK => ?_;simp [hl, beq_iff_eq.2 hl, hm, beq_iff_eq.2 hm, encS];(try refine And.intro (by first|omega|rfl) ?_);refine hK _ _ fun σ7 hσ H7 hH => ?_;clear hK K;obtain ⟨h0_7, h1_7, h5_7, h6_7⟩ := fs4 hσ 0 1 5 6;simp [h0_6, h1_6, h5_6] at h0_7 h1_7 h5_7 h6_7;clear hσ;replace hH : H = H7 := Eq.symm hH;subst hH;refine awp_block ?_;have hm2 : x.length = y.length := by omega
     refine awp_loopV (fun n σ' H' => ∃ (k : Nat), n = x.length - k ∧ σ' 0 = σ7 0 ∧ σ' 1 = σ7 1 ∧ σ' 5 = σ7 5 ∧ σ' 6 = (AV.int IntKind.i64) k ∧ H' = H ∧ (k ≤ x.length) ∧ (x.take k = y.take k)) ?_ ?_
     ·refine ⟨_, 0, rfl, rfl, rfl, rfl, (by simp [h6_7]), rfl, ?_, ?_⟩
      ·first | omega | (simp; done) | assumption
      ·rfl
     ·rintro n2 σ8 H8 ⟨k, hn2, q0_8, q1_8, q5_8, h6_8, hHq, q1, q2⟩
      have h0_8 := q0_8.trans h0_7;have h1_8 := q1_8.trans h1_7;have h5_8 := q5_8.trans h5_7;replace hHq := hHq.symm;subst hHq;refine awp_seq ?_;refine stp_reg TT_ok (by rfl) fun K hK => ?_;simp [h0_8, h5_8, h6_8, hl, beq_iff_eq.2 hl, hm, beq_iff_eq.2 hm, encS, hlt, hlt2, hx, hy];(try refine And.intro (by first|omega|rfl) ?_);refine hK _ _ fun σ9 hσ H9 hH => ?_;clear hK K;obtain ⟨h0_9, h1_9, h5_9, h6_9, h35_9⟩ := fs5 hσ 0 1 5 6 35;simp [h0_8, h1_8, h5_8, h6_8] at h0_9 h1_9 h5_9 h6_9 h35_9;clear hσ;replace hH : H = H9 := Eq.symm hH;subst hH;refine awp_cond _ (by simp only [aeval_tmp]; exact h35_9) (fun hc35 => ?_) (fun hc35 => ?_)
      ·(try simp at hc35);have hkt : k < x.length := by have := hc35; omega
       have hkt2 : k < y.length := by omega
       have hkk := ext_take hkt hkt2 q2;refine awp_skip ?_;refine q_seq ?_;refine awp_seq ?_;refine awp_block ?_
       by_cases he : x[k] = y[k]
       ·skip;refine stp_lex false TT_ok mixed (by rfl) (by rfl) (by kernel_rfl) (by rfl) fun U hU K hK => ?_;simp [h0_9, h1_9, h5_9, h6_9, hl, beq_iff_eq.2 hl, hm, beq_iff_eq.2 hm, he, beq_iff_eq.2 he, encS, hlt, hlt2, hx, hy, hkt, hkt2];(try refine And.intro (by first|omega|rfl) ?_);refine hK _ _ _ (by subst hU; kernel_rfl) fun σ10 hσ H10 hH => ?_;clear hK K hU U;obtain ⟨h0_10, h1_10, h5_10, h6_10, h52_10⟩ := fs5 hσ 0 1 5 6 52;simp [h0_9, h1_9, h5_9, h6_9] at h0_10 h1_10 h5_10 h6_10 h52_10;clear hσ;replace hH : H = H10 := Eq.symm hH;subst hH;refine stp_false (by simp [aeval_tmp, h52_10, hl, beq_iff_eq.2 hl, hm, beq_iff_eq.2 hm, he, beq_iff_eq.2 he, encS]) ?_;refine awp_skip ?_;refine q_block ?_;refine q_seq ?_;refine stp_regl TT_ok (by rfl) fun K hK => ?_;simp [h6_10, hl, beq_iff_eq.2 hl, hm, beq_iff_eq.2 hm, he, beq_iff_eq.2 he, encS, wrap_ok (n := (k : Int) + 1) (by omega) (by omega)];(try refine And.intro (by first|omega|rfl) ?_);refine hK _ _ fun σ11 hσ H11 hH => ?_;clear hK K;obtain ⟨h0_11, h1_11, h5_11, h6_11⟩ := fs4 hσ 0 1 5 6;simp [h0_10, h1_10, h5_10] at h0_11 h1_11 h5_11 h6_11;clear hσ;replace hH : H = H11 := Eq.symm hH;subst hH;refine ⟨_, ?_, k + 1, rfl, (h0_11.trans h0_7.symm), (h1_11.trans h1_7.symm), (h5_11.trans h5_7.symm), (by simp [h6_11]), rfl, ?_, ?_⟩
        ·subst hn2; omega
        ·first | omega | assumption | (simp; done)
        ·exact hkk.2 he
       ·skip;refine stp_lex false TT_ok mixed (by rfl) (by rfl) (by kernel_rfl) (by rfl) fun U hU K hK => ?_;simp [h0_9, h1_9, h5_9, h6_9, hl, beq_iff_eq.2 hl, hm, beq_iff_eq.2 hm, he, beq_eq_false_iff_ne.2 he, encS, hlt, hlt2, hx, hy, hkt, hkt2];(try refine And.intro (by first|omega|rfl) ?_);refine hK _ _ _ (by subst hU; kernel_rfl) fun σ12 hσ H12 hH => ?_;clear hK K hU U;obtain ⟨h0_12, h1_12, h5_12, h6_12, h52_12⟩ := fs5 hσ 0 1 5 6 52;simp [h0_9, h1_9, h5_9, h6_9] at h0_12 h1_12 h5_12 h6_12 h52_12;clear hσ;replace hH : H = H12 := Eq.symm hH;subst hH;refine stp_true (by simp [aeval_tmp, h52_12, hl, beq_iff_eq.2 hl, hm, beq_iff_eq.2 hm, he, beq_eq_false_iff_ne.2 he, encS]) ?_;refine stp_reg TT_ok (by rfl) fun K hK => ?_;simp [hl, beq_iff_eq.2 hl, hm, beq_iff_eq.2 hm, he, beq_eq_false_iff_ne.2 he, encS];(try refine And.intro (by first|omega|rfl) ?_);refine hK _ _ fun σ13 hσ H13 hH => ?_;clear hK K;have h4_13 := congrFun hσ 4;simp [] at h4_13;clear hσ;replace hH : H = H13 := Eq.symm hH;subst hH;refine awp_ret ?_;refine q_block_ret ?_;refine q_seq_ret ?_;refine q_loop_ret ?_;refine q_block_ret ?_;refine q_block_ret ?_;refine q_seq_ret ?_;refine q_loop_ret ?_;refine q_block_ret ?_;refine q_seq_ret ?_;refine q_fin1 h4_13 ?_;have : ¬ a = b := hno fun e => he (by subst e; rfl);simp [this]
      ·(try simp at hc35);have hke : k = x.length := by have := hc35; omega
       have hxe : x = y := by rw [hke, List.take_length] at q2; rw [hm2, List.take_length] at q2; exact q2
       refine awp_exit ?_;refine q_seq_exit ?_;refine q_loop_exit ?_;refine q_block_hit ?_;refine q_block ?_;refine q_seq ?_;refine stp_regl TT_ok (by rfl) fun K hK => ?_;simp [h5_9, hl, beq_iff_eq.2 hl, hm, beq_iff_eq.2 hm, encS, wrap_ok (n := (i : Int) + 1) (by omega) (by omega)];(try refine And.intro (by first|omega|rfl) ?_);refine hK _ _ fun σ14 hσ H14 hH => ?_;clear hK K;obtain ⟨h0_14, h1_14, h5_14⟩ := fs3 hσ 0 1 5;simp [h0_9, h1_9] at h0_14 h1_14 h5_14;clear hσ;replace hH : H = H14 := Eq.symm hH;subst hH;refine ⟨_, ?_, i + 1, rfl, (h0_14.trans h0_3.symm), (h1_14.trans h1_3.symm), (by simp [h5_14]), rfl, ?_, ?_⟩
       ·subst hn1; omega
       ·first | omega | assumption | (simp; done)
       ·exact hxy.2 hxe
    ·skip;refine stp_lex false TT_ok mixed (by rfl) (by rfl) (by kernel_rfl) (by rfl) fun U hU K hK => ?_;simp [h0_5, h1_5, h5_5, hl, beq_iff_eq.2 hl, hm, beq_eq_false_iff_ne.2 hm, encS, hlt, hlt2, hx, hy];(try refine And.intro (by first|omega|rfl) ?_);refine hK _ _ _ (by subst hU; kernel_rfl) fun σ15 hσ H15 hH => ?_;clear hK K hU U;obtain ⟨h0_15, h1_15, h5_15, h28_15⟩ := fs4 hσ 0 1 5 28;simp [h0_5, h1_5, h5_5] at h0_15 h1_15 h5_15 h28_15;clear hσ;replace hH : H = H15 := Eq.symm hH;subst hH;refine stp_true (by simp [aeval_tmp, h28_15, hl, beq_iff_eq.2 hl, hm, beq_eq_false_iff_ne.2 hm, encS]) ?_;refine stp_reg TT_ok (by rfl) fun K hK => ?_;simp [hl, beq_iff_eq.2 hl, hm, beq_eq_false_iff_ne.2 hm, encS];(try refine And.intro (by first|omega|rfl) ?_);refine hK _ _ fun σ16 hσ H16 hH => ?_;clear hK K;have h4_16 := congrFun hσ 4;simp [] at h4_16;clear hσ;replace hH : H = H16 := Eq.symm hH;subst hH;refine awp_ret ?_;refine q_seq_ret ?_;refine q_block_ret ?_;refine q_seq_ret ?_;refine q_loop_ret ?_;refine q_block_ret ?_;refine q_seq_ret ?_;refine q_fin1 h4_16 ?_;have : ¬ a = b := hno fun e => hm (by rw [e]);simp [this]
   ·(try simp at hc15);refine awp_exit ?_;refine q_seq_exit ?_;refine q_loop_exit ?_;refine q_block_hit ?_;refine q_seq ?_;refine stp_reg TT_ok (by rfl) fun K hK => ?_;simp [hl, beq_iff_eq.2 hl, encS];(try refine And.intro (by first|omega|rfl) ?_);refine hK _ _ fun σ17 hσ H17 hH => ?_;clear hK K;have h4_17 := congrFun hσ 4;simp [] at h4_17;clear hσ;replace hH : H = H17 := Eq.symm hH;subst hH;refine awp_ret ?_;refine q_fin1 h4_17 ?_;have hie : i = a.length := by have := hc15; omega
    have : a = b := by rw [hie, List.take_length] at p2; rw [hl2, List.take_length] at p2; exact p2
    simp [this]
 ·skip;refine stp_reg TT_ok (by rfl) fun K hK => ?_;simp [h0_1, h1_1, hl, beq_eq_false_iff_ne.2 hl, encS];(try refine And.intro (by first|omega|rfl) ?_);refine hK _ _ fun σ18 hσ H18 hH => ?_;clear hK K;obtain ⟨h0_18, h1_18, h11_18⟩ := fs3 hσ 0 1 11;simp [h0_1, h1_1] at h0_18 h1_18 h11_18;clear hσ;replace hH : H = H18 := Eq.symm hH;subst hH;refine stp_true (by simp [aeval_tmp, h11_18, hl, beq_eq_false_iff_ne.2 hl, encS]) ?_;refine stp_reg TT_ok (by rfl) fun K hK => ?_;simp [hl, beq_eq_false_iff_ne.2 hl, encS];(try refine And.intro (by first|omega|rfl) ?_);refine hK _ _ fun σ19 hσ H19 hH => ?_;clear hK K;have h4_19 := congrFun hσ 4;simp [] at h4_19;clear hσ;replace hH : H = H19 := Eq.symm hH;subst hH;refine awp_ret ?_;refine q_seq_ret ?_;refine q_fin1 h4_19 ?_;have : ¬ a = b := fun e => hl (by rw [e]);simp [this]
theorem same_w (a b : List (List Int)) (ha : a.length ≤ 1000000) (hb : ∀ l ∈ a, l.length ≤ 1000000) : FunW Try.prog 27 [encS a, encS b] (.bool (decide (a = b))) :=
 funW_pure (same0 a b ha hb) (pu_cons (pu_encS _) (pu_cons (pu_encS _) pu_nil)) (.bool _) (.bool _)
theorem same_ok (a b : List (List Int)) (ha : a.length ≤ 1000000) (hb : ∀ l ∈ a, l.length ≤ 1000000) : Fun1 Try.prog 27 [encS a, encS b] (.bool (decide (a = b))) :=
 fun1_pure (same0 a b ha hb) (pu_cons (pu_encS _) (pu_cons (pu_encS _) pu_nil)) (.bool _)
set_option maxHeartbeats 1000000 in
theorem refRev0 (g : Gr) : ACalls Try.prog 18 [encG g] AHeap.nil (fun r H => Frz H r (encG g.rev)) := by
 refine acalls_body TT_ok Try.func18 rfl rfl (by simp [Try.ntmps18]) ?_;rw [Try.ntmps18];obtain ⟨σ, hσ⟩ : ∃ σ, σ = st0 [encG g] := ⟨_, rfl⟩;rw [← hσ];have h0_0 := congrFun hσ 0;simp [st0] at h0_0;clear hσ;obtain ⟨H, hH⟩ : ∃ H, H = AHeap.nil := ⟨_, rfl⟩;rw [← hH];have hn_0 : H.n = 0 := by rw [hH]; rfl
 have hst_0 : H.st = 1 := by rw [hH]; rfl
 clear hH;refine stp_reg TT_ok (by rfl) fun K hK => ?_;simp [h0_0, hn_0, hst_0, encG];(try refine And.intro (by first|omega|rfl) ?_);refine hK _ _ fun σ1 hσ H1 hH => ?_;clear hK K;obtain ⟨h1_1, h2_1⟩ := fs2 hσ 1 2;simp [] at h1_1 h2_1;clear hσ;have g0_1 := gt_of hH 0;have g1_1 := gt_of hH 1;simp [hn_0, hst_0] at g0_1 g1_1;have hn_1 := congrArg AHeap.n hH;simp [hn_0, hst_0] at hn_1;have hst_1 := congrArg AHeap.st hH;simp [hn_0, hst_0] at hst_1;clear hH;refine awp_seq ?_;have hFF0 := an3 h1_1 g0_1 g1_1;refine stp_reg TT_ok (by rfl) fun K hK => ?_;simp [hFF0, encG];(try refine And.intro (by first|omega|rfl) ?_);refine stp_call (refValid_ok g) ?_;simp [hFF0, encG];(try refine And.intro (by first|omega|rfl) ?_);refine hK _ _ fun σ2 hσ H2 hH => ?_;clear hK K hFF0;obtain ⟨h1_2, h2_2, h7_2⟩ := fs3 hσ 1 2 7;simp [h1_1, h2_1] at h1_2 h2_2 h7_2;clear hσ;replace hH : H1 = H2 := Eq.symm hH;subst hH;refine awp_cond _ (by simp only [aeval_tmp]; exact h7_2) (fun hc7 => ?_) (fun hc7 => ?_)
 ·(try simp at hc7);refine stp_reg TT_ok (by rfl) fun K hK => ?_;simp [h2_2, g0_1, g1_1, encG];(try refine And.intro (by first|omega|rfl) ?_);refine hK _ _ fun σ3 hσ H3 hH => ?_;clear hK K;have h2_3 := congrFun hσ 2;simp [h2_2] at h2_3;clear hσ;have g0_3 := gt_of hH 0;have g1_3 := gt_of hH 1;simp [g0_1, g1_1, hn_1, hst_1] at g0_3 g1_3;have hn_3 : H3.n = _ := (congrArg AHeap.n hH).trans hn_1;have hst_3 : H3.st = _ := (congrArg AHeap.st hH).trans hst_1;clear hH;refine awp_ret ?_;refine q_seq_ret ?_;refine q_finC (H' := H3) (v := .agg [.nils, .nils]) (by rfl) (by simp [h2_3, g0_3, g1_3]) ?_;rw [show g.rev = ⟨[], []⟩ by simp only [Gr.rev, hc7]; rfl]; exact frz_graph .nils .nils
 ·(try simp at hc7);obtain ⟨hn1, hn2⟩ := valid_nodes hc7;refine awp_skip ?_;refine q_seq ?_;refine stp_reg TT_ok (by rfl) fun K hK => ?_;simp [h1_2, g0_1, g1_1, hn_1, hst_1, encG, show g.nodes.length * 16 ≤ 140737488355328 by omega, show g.nodes.length ≤ 9223372036854775807 by omega];(try refine And.intro (by first|omega|rfl) ?_);refine hK _ _ fun σ4 hσ H4 hH => ?_;clear hK K;obtain ⟨h1_4, h2_4, h3_4⟩ := fs3 hσ 1 2 3;simp [h1_2, h2_2] at h1_4 h2_4 h3_4;clear hσ;have g0_4 := gt_of hH 0;have g1_4 := gt_of hH 1;have g2_4 := gt_of hH 2;have g3_4 := gt_of hH 3;simp [g0_1, g1_1, hn_1, hst_1] at g0_4 g1_4 g2_4 g3_4;have hn_4 := congrArg AHeap.n hH;simp [hn_1, hst_1] at hn_4;have hst_4 := congrArg AHeap.st hH;simp [hn_1, hst_1] at hst_4;clear hH;refine awp_seq ?_;refine stp_reg TT_ok (by rfl) fun K hK => ?_;simp [g0_4, g1_4, g2_4, g3_4, encG];(try refine And.intro (by first|omega|rfl) ?_);refine hK _ _ fun σ5 hσ H5 hH => ?_;clear hK K;obtain ⟨h1_5, h2_5, h3_5, h4_5⟩ := fs4 hσ 1 2 3 4;simp [h1_4, h2_4, h3_4] at h1_5 h2_5 h3_5 h4_5;clear hσ;replace hH : H4 = H5 := Eq.symm hH;subst hH;refine awp_block ?_
  refine awp_loopV (fun n σ' H' => ∃ (i : Nat) (v : AV), n = g.edges.length - i ∧ σ' 1 = σ5 1 ∧ σ' 2 = σ5 2 ∧ σ' 3 = σ5 3 ∧ σ' 4 = (AV.int IntKind.i64) i ∧ H'.get 0 = H4.get 0 ∧ H'.get 1 = H4.get 1 ∧ H'.get 2 = H4.get 2 ∧ H'.get 3 = some (.row 25 2 0 [.agg [.sl 2 1 0 g.nodes.length, v]]) ∧ H'.st = H4.st ∧ (i ≤ g.edges.length) ∧ (Own 39 2 4 (((g.edges.take i).map swapE).map encE) v H')) ?_ ?_
  ·refine ⟨_, 0, .nils, rfl, rfl, rfl, rfl, (by simp [h4_5]), rfl, rfl, rfl, (by simp [g3_4]), rfl, ?_, ?_⟩
   ·first | omega | (simp; done) | assumption
   ·exact .inl ⟨rfl, by simp⟩
  ·rintro n1 σ6 H6 ⟨i, v, hn1, q1_6, q2_6, q3_6, h4_6, qg0_6, qg1_6, qg2_6, g3_6, qst_6, p1, p2⟩
   have h1_6 := q1_6.trans h1_5;have h2_6 := q2_6.trans h2_5;have h3_6 := q3_6.trans h3_5;have g0_6 := qg0_6.trans g0_4;have g1_6 := qg1_6.trans g1_4;have g2_6 := qg2_6.trans g2_4;have hst_6 := qst_6.trans hst_4;refine awp_seq ?_;refine stp_reg TT_ok (by rfl) fun K hK => ?_;simp [h1_6, h4_6, g0_6, g1_6, g2_6, g3_6, encG];(try refine And.intro (by first|omega|rfl) ?_);refine hK _ _ fun σ7 hσ H7 hH => ?_;clear hK K;obtain ⟨h1_7, h2_7, h3_7, h4_7, h18_7⟩ := fs5 hσ 1 2 3 4 18;simp [h1_6, h2_6, h3_6, h4_6] at h1_7 h2_7 h3_7 h4_7 h18_7;clear hσ;replace hH : H6 = H7 := Eq.symm hH;subst hH;refine awp_cond _ (by simp only [aeval_tmp]; exact h18_7) (fun hc18 => ?_) (fun hc18 => ?_)
   ·(try simp at hc18);have hlt : i < g.edges.length := by simpa using hc18
    have hge : (g.edges.map encE)[i]? = some (encE g.edges[i]) := by simp [hlt]
    have hsn := map_take_succ (f := swapE) hlt;have hln : (((g.edges.take i).map swapE).map encE).length = i := by simp; omega
    have hln2 : min i g.edges.length = i := by omega
    refine awp_skip ?_;refine q_seq ?_;refine awp_seq ?_;refine awp_block ?_;rcases p2 with ⟨rfl, hnil⟩ | ⟨id, gn, rfl, hb, hid⟩
    ·skip;have hi0 : i = 0 := by rw [hnil] at hln; simpa using hln.symm
     refine awp_ok fun hok => ?_;obtain ⟨m8, hn_m8⟩ : ∃ m, H6.n = m := ⟨_, rfl⟩;have hf_m8_15 := hok.free 15;simp [hn_m8, hst_6] at hf_m8_15;have nx1 := ne_get hf_m8_15 g0_6;have nx2 := ne_get hf_m8_15 g1_6;have nx3 := ne_get hf_m8_15 g2_6;have nx4 := ne_get hf_m8_15 g3_6;have hf_m8_16 := hok.free 16;simp [hn_m8, hst_6] at hf_m8_16;have nx5 := ne_get hf_m8_16 g0_6;have nx6 := ne_get hf_m8_16 g1_6;have nx7 := ne_get hf_m8_16 g2_6;have nx8 := ne_get hf_m8_16 g3_6;refine stp_lexl true TT_ok mixed (by rfl) (by rfl) (by kernel_rfl) (by rfl) fun U hU K hK => ?_;simp [h1_7, h3_7, h4_7, g0_6, g1_6, g2_6, g3_6, hn_m8, hst_6, nx1, nx2, nx3, nx4, nx5, nx6, nx7, nx8, encG, hge, hlt, encE];(try refine And.intro (by first|omega|rfl) ?_)
     refine hK _ _ _ (by rw [hU.trans (by kernel_rfl : _ = [(0, 2), (1, 2), (0, 3), (1, 3), (0, 4), (1, 4), (2, 4), (3, 4), (0, 5), (1, 5), (0, 6), (1, 6), (0, 7), (1, 7), (0, 8), (1, 8), (2, 8), (3, 8), (4, 8), (5, 8), (6, 8), (7, 8), (0, 9), (1, 9), (2, 9), (3, 9), (4, 9), (5, 9), (6, 9), (7, 9), (0, 10), (1, 10), (2, 10), (3, 10), (4, 10), (5, 10), (6, 10), (7, 10), (8, 10), (9, 10), (0, 11), (1, 11), (2, 11), (3, 11), (4, 11), (5, 11), (6, 11), (7, 11), (0, 12), (1, 12), (2, 12), (3, 12), (4, 12), (5, 12), (6, 12), (7, 12), (0, 13), (1, 13), (2, 13), (3, 13), (4, 13), (5, 13), (6, 13), (7, 13), (0, 14), (1, 14), (0, 15), (1, 15)])]; simp [logOk, ftFree, h1_7, h3_7, h4_7, g0_6, g1_6, g2_6, g3_6, hn_m8, hst_6, nx1, nx2, nx3, nx4, nx5, nx6, nx7, nx8, encG, hge, hlt, encE]) fun σ9 hσ H9 hH => ?_;clear hK K hU U;obtain ⟨h1_9, h2_9, h3_9, h4_9⟩ := fs4 hσ 1 2 3 4;simp [h1_7, h2_7, h3_7, h4_7] at h1_9 h2_9 h3_9 h4_9;clear hσ;have g0_9 := gt_of hH 0;have g1_9 := gt_of hH 1;have g2_9 := gt_of hH 2;have g3_9 := gt_of hH 3;have g_m8_15__9 := gt_of hH (m8 + 15);have g_m8_16__9 := gt_of hH (m8 + 16);simp [g0_6, g1_6, g2_6, g3_6, hn_m8, hst_6, nx1, nx2, nx3, nx4, nx5, nx6, nx7, nx8] at g0_9 g1_9 g2_9 g3_9 g_m8_15__9 g_m8_16__9;have hst_9 := congrArg AHeap.st hH;simp [hst_6] at hst_9;clear hH;refine q_block ?_;refine q_seq ?_;refine stp_regl TT_ok (by rfl) fun K hK => ?_
     simp [h4_9, g0_9, g1_9, g2_9, g3_9, g_m8_15__9, g_m8_16__9, nx1, nx2, nx3, nx4, nx5, nx6, nx7, nx8, encG, wrap_ok (n := (i : Int) + 1) (by omega) (by omega)];(try refine And.intro (by first|omega|rfl) ?_);refine hK _ _ fun σ10 hσ H10 hH => ?_;clear hK K;obtain ⟨h1_10, h2_10, h3_10, h4_10⟩ := fs4 hσ 1 2 3 4;simp [h1_9, h2_9, h3_9] at h1_10 h2_10 h3_10 h4_10;clear hσ;replace hH : H9 = H10 := Eq.symm hH;subst hH;refine ⟨_, ?_, i + 1, .sl (m8 + 16) 0 0 1, rfl, (h1_10.trans h1_5.symm), (h2_10.trans h2_5.symm), (h3_10.trans h3_5.symm), (by simp [h4_10]), (g0_9.trans g0_4.symm), (g1_9.trans g1_4.symm), (g2_9.trans g2_4.symm), (by simp [g3_9]), (hst_9.trans hst_4.symm), ?_, ?_⟩
     ·subst hn1; omega
     ·first | omega | assumption | (simp; done)
     ·exact Own.mk g_m8_16__9 (by rw [hsn, List.map_append, hnil]; simp [encE, swapE]) (by simp; omega) (by omega)
    ·skip;rw [hln] at g3_6;have nx9 : ¬ id = 0 ∧ ¬ 0 = id := by omega
     have nx10 : ¬ id = 1 ∧ ¬ 1 = id := by omega
     have nx11 : ¬ id = 2 ∧ ¬ 2 = id := by omega
     have nx12 : ¬ id = 3 ∧ ¬ 3 = id := by omega
     refine awp_ok fun hok => ?_;obtain ⟨m11, hn_m11⟩ : ∃ m, H6.n = m := ⟨_, rfl⟩;have hf_m11_15 := hok.free 15;simp [hn_m11, hst_6] at hf_m11_15;have nx13 := ne_get hf_m11_15 g0_6;have nx14 := ne_get hf_m11_15 g1_6;have nx15 := ne_get hf_m11_15 g2_6;have nx16 := ne_get hf_m11_15 g3_6;have nx17 := ne_get hf_m11_15 hb;refine stp_lexl true TT_ok mixed (by rfl) (by rfl) (by kernel_rfl) (by rfl) fun U hU K hK => ?_;simp [h1_7, h3_7, h4_7, g0_6, g1_6, g2_6, g3_6, hb, hn_m11, hst_6, nx9, nx10, nx11, nx12, nx13, nx14, nx15, nx16, nx17, encG, hge, hlt, encE, hln, hln2, show (i + 1) * 16 ≤ 140737488355328 by omega, show i ≤ 9223372036854775806 by omega];(try refine And.intro (by first|omega|rfl) ?_)
     refine hK _ _ _ (by rw [hU.trans (by kernel_rfl : _ = [(0, 2), (1, 2), (0, 3), (1, 3), (0, 4), (1, 4), (2, 4), (3, 4), (0, 5), (1, 5), (0, 6), (1, 6), (0, 7), (1, 7), (0, 8), (1, 8), (2, 8), (3, 8), (4, 8), (5, 8), (6, 8), (7, 8), (0, 9), (1, 9), (2, 9), (3, 9), (4, 9), (5, 9), (6, 9), (7, 9), (0, 10), (1, 10), (2, 10), (3, 10), (4, 10), (5, 10), (6, 10), (7, 10), (8, 10), (9, 10), (0, 11), (1, 11), (2, 11), (3, 11), (4, 11), (5, 11), (6, 11), (7, 11), (0, 12), (1, 12), (2, 12), (3, 12), (4, 12), (5, 12), (6, 12), (7, 12), (0, 13), (1, 13), (2, 13), (3, 13), (4, 13), (5, 13), (6, 13), (7, 13), (0, 14), (1, 14), (0, 15), (1, 15)])]; simp [logOk, ftFree, h1_7, h3_7, h4_7, g0_6, g1_6, g2_6, g3_6, hb, hn_m11, hst_6, nx9, nx10, nx11, nx12, nx13, nx14, nx15, nx16, nx17, encG, hge, hlt, encE, hln, hln2, show (i + 1) * 16 ≤ 140737488355328 by omega, show i ≤ 9223372036854775806 by omega]) fun σ12 hσ H12 hH => ?_;clear hK K hU U;obtain ⟨h1_12, h2_12, h3_12, h4_12⟩ := fs4 hσ 1 2 3 4;simp [h1_7, h2_7, h3_7, h4_7] at h1_12 h2_12 h3_12 h4_12;clear hσ;have g0_12 := gt_of hH 0;have g1_12 := gt_of hH 1;have g2_12 := gt_of hH 2;have g3_12 := gt_of hH 3;have gid_12 := gt_of hH id;have g_m11_15__12 := gt_of hH (m11 + 15);simp [g0_6, g1_6, g2_6, g3_6, hb, hn_m11, hst_6, nx9, nx10, nx11, nx12, nx13, nx14, nx15, nx16, nx17] at g0_12 g1_12 g2_12 g3_12 gid_12 g_m11_15__12;have hst_12 := congrArg AHeap.st hH;simp [hst_6] at hst_12;clear hH;refine q_block ?_;refine q_seq ?_
     refine stp_regl TT_ok (by rfl) fun K hK => ?_;simp [h4_12, g0_12, g1_12, g2_12, g3_12, gid_12, g_m11_15__12, nx9, nx10, nx11, nx12, nx13, nx14, nx15, nx16, nx17, encG, wrap_ok (n := (i : Int) + 1) (by omega) (by omega)];(try refine And.intro (by first|omega|rfl) ?_);refine hK _ _ fun σ13 hσ H13 hH => ?_;clear hK K;obtain ⟨h1_13, h2_13, h3_13, h4_13⟩ := fs4 hσ 1 2 3 4;simp [h1_12, h2_12, h3_12] at h1_13 h2_13 h3_13 h4_13;clear hσ;replace hH : H12 = H13 := Eq.symm hH;subst hH;refine ⟨_, ?_, i + 1, .sl id (gn + 1) 0 (i + 1), rfl, (h1_13.trans h1_5.symm), (h2_13.trans h2_5.symm), (h3_13.trans h3_5.symm), (by simp [h4_13]), (g0_12.trans g0_4.symm), (g1_12.trans g1_4.symm), (g2_12.trans g2_4.symm), (by simp [g3_12]), (hst_12.trans hst_4.symm), ?_, ?_⟩
     ·subst hn1; omega
     ·first | omega | assumption | (simp; done)
     ·exact Own.mk gid_12 (by rw [hsn, List.map_append]; simp [encE, swapE, List.take_take]) (by simp; omega) (by omega)
   ·(try simp at hc18);refine awp_exit ?_;refine q_seq_exit ?_;refine q_loop_exit ?_;refine q_block_hit ?_;refine q_seq ?_;have hvo := p2.one;simp [AV.one] at hvo;have hie : i = g.edges.length := by have := hc18; omega
    subst hie;rw [List.take_length] at p2;refine stp_reg TT_ok (by rfl) fun K hK => ?_;simp [h2_7, h3_7, g0_6, g1_6, g2_6, g3_6, encG, hvo];(try refine And.intro (by first|omega|rfl) ?_);refine hK _ _ fun σ14 hσ H14 hH => ?_;clear hK K;have h2_14 := congrFun hσ 2;simp [h2_7] at h2_14;clear hσ;have g0_14 := gt_of hH 0;have g1_14 := gt_of hH 1;have g2_14 := gt_of hH 2;have g3_14 := gt_of hH 3;simp [g0_6, g1_6, g2_6, g3_6, hst_6] at g0_14 g1_14 g2_14 g3_14;have hst_14 := congrArg AHeap.st hH;simp [hst_6] at hst_14;have hall : ∀ j, 4 ≤ j → H14.get j = H6.get j := fun j hj => by rw [hH, put_getH, if_neg (by omega)]
    clear hH;refine awp_ret ?_;refine q_finC (H' := H14) (v := .agg [.sl 2 1 0 g.nodes.length, v]) (by rfl) (by simp [h2_14, g0_14, g1_14, g2_14, g3_14]) ?_;rw [rev_of hc7]; exact frz_graph (frz_row g2_14 (by simp) (fun x hx => by obtain ⟨b, _, rfl⟩ := List.mem_map.1 hx; exact .str _) (fun x hx v hv => by obtain ⟨b, _, rfl⟩ := List.mem_map.1 hx; simp only [AV.cells, List.mem_singleton] at hv; subst hv; rfl)) ((p2.keep hall).frz (fun _ => pu_of_edges) (fun _ => one_edge))
theorem refRev_ok (g : Gr) : Fun1 Try.prog 18 [encG g] (encG g.rev) := fun1_frz (refRev0 g) (pu_cons (pu_graph _) pu_nil) (pu_graph _)
end Go.Proofs.Yteifhcohmipdcaa
namespace Go.Abs
set_option linter.unusedSimpArgs false
set_option linter.unusedVariables false
inductive Ty (T : TypeId → Option TE) : TypeId → List AV → Prop
 | bool {t : TypeId} {te : TE} {b : Bool} (h : T t = some te) (hk : te.kind = .bool) : Ty T t [.bool b]
 | int {t : TypeId} {te : TE} {k : IntKind} {n : Int} (h : T t = some te) (hk : te.kind = .int k) (hn : (Lit.int k n).wf = true) : Ty T t [.int k n]
 | str {t : TypeId} {te : TE} {s : ByteArray} (h : T t = some te) (hk : te.kind = .string) (hs : s.size ≤ maxLen) : Ty T t [.str s]
 | slice {t e : TypeId} {te ee : TE} {es : List AV} (h : T t = some te) (hk : te.kind = .slice e) (he : T e = some ee) (hl : es.length ≤ maxLen)
   (hx : ∀ x ∈ es, (∃ cs, x = .agg cs) ↔ ee.kind.agg = true) (hc : ∀ x ∈ es, x.cells.length = ee.size) (ht : ∀ x ∈ es, Ty T e x.cells) : Ty T t [.ro es]
 | struct {t : TypeId} {te : TE} {fs : List (Nat × TypeId)} {cs : List AV} (h : T t = some te) (hk : te.kind = .struct fs) (hl : cs.length = te.size)
   (hf : ∀ p ∈ fs, ∀ fe, T p.2 = some fe → Ty T p.2 ((cs.drop p.1).take fe.size)) : Ty T t cs
def tile (T : TypeId → Option TE) : Nat → List (Nat × TypeId) → Option Nat
 | o, [] => some o
 | o, (p, t) :: r => match T t with | some te => if p = o then tile T (o + te.size) r else none | none => none
def plainTy (T : TypeId → Option TE) : Nat → TypeId → Bool
 | 0, _ => false
 | n + 1, t => match T t with
  | some te => match te.kind with
   | .int _ | .bool | .string => te.size == 1
   | .slice e => te.size == 1 && plainTy T n e && (match T e with | some ee => decide (0 < ee.size) | none => false)
   | .struct fs => fs.all (fun p => plainTy T n p.2) && tile T 0 fs == some te.size
   | _ => false
  | none => false
structure Good (G : Gh) (w : World) (cs : List Value) (avs : List AV) : Prop where
 len : avs.length = cs.length
 one : ∀ v ∈ avs, v.one = true
 pu : ∀ v ∈ avs, Pu v
 rel : ∀ (j : Nat) (v : AV) (c : Value), avs[j]? = some v → cs[j]? = some c → VRel G w v c
theorem Good.nil {G : Gh} {w : World} : Good G w [] [] := ⟨rfl, fun _ h => (nomatch h), fun _ h => (nomatch h), fun j v c h => by simp at h⟩
theorem Good.single {G : Gh} {w : World} {c : Value} {v : AV} (h1 : v.one = true) (hp : Pu v) (h : VRel G w v c) : Good G w [c] [v] :=
 ⟨rfl, fun x hx => (List.mem_singleton.1 hx) ▸ h1, fun x hx => (List.mem_singleton.1 hx) ▸ hp, fun j x y hx hy => by
  cases j with
  | zero => simp only [List.getElem?_cons_zero, Option.some.injEq] at hx hy; subst hx; subst hy; exact h
  | succ j => simp at hx⟩
theorem Good.append {G : Gh} {w : World} {cs ds : List Value} {avs bvs : List AV} (h : Good G w cs avs) (k : Good G w ds bvs) : Good G w (cs ++ ds) (avs ++ bvs) :=
 ⟨by simp [h.len, k.len], fun v hv => (List.mem_append.1 hv).elim (h.one v) (k.one v), fun v hv => (List.mem_append.1 hv).elim (h.pu v) (k.pu v), fun j v c hv hc => by
  rw [List.getElem?_append] at hv hc
  rw [h.len] at hv
  split at hv
  ·rename_i hlt; rw [if_pos hlt] at hc; exact h.rel j v c hv hc
  ·rename_i hlt; rw [if_neg hlt] at hc; exact k.rel _ v c hv hc⟩
section
variable {P : Program} {T : TypeId → Option TE}
theorem tile_ge : ∀ {fs : List (Nat × TypeId)} {o e : Nat}, tile T o fs = some e → o ≤ e
 | [], o, e, h => by simp [tile] at h; omega
 | (p, t) :: r, o, e, h => by
  simp only [tile] at h
  split at h
  ·split at h
   ·have := tile_ge h; omega
   ·cases h
  ·cases h
theorem tile_mem : ∀ {fs : List (Nat × TypeId)} {o e : Nat}, tile T o fs = some e → ∀ p ∈ fs, ∃ te, T p.2 = some te ∧ o ≤ p.1 ∧ p.1 + te.size ≤ e
 | [], o, e, h => fun p hp => by cases hp
 | (p, t) :: r, o, e, h => by
  simp only [tile] at h
  split at h
  ·rename_i te hte
   split at h
   ·rename_i hpo
    subst hpo
    intro q hq
    rcases List.mem_cons.1 hq with rfl | hq
    ·exact ⟨te, hte, Nat.le_refl _, tile_ge h⟩
    ·obtain ⟨fe, h1, h2, h3⟩ := tile_mem h q hq
     exact ⟨fe, h1, by omega, h3⟩
   ·cases h
  ·cases h
theorem tile_good {G : Gh} {w : World} {cs : List Value} : ∀ (fs : List (Nat × TypeId)) (o e : Nat), tile T o fs = some e → e ≤ cs.length →
  (∀ p ∈ fs, ∀ fe, T p.2 = some fe → ∃ avs, Ty T p.2 avs ∧ Good G w ((cs.drop p.1).take fe.size) avs) →
  ∃ avs, Good G w ((cs.drop o).take (e - o)) avs ∧ ∀ p ∈ fs, ∀ fe, T p.2 = some fe → Ty T p.2 ((avs.drop (p.1 - o)).take fe.size)
 | [], o, e, h, hle, hf => by
  simp only [tile, Option.some.injEq] at h
  subst h
  exact ⟨[], by rw [Nat.sub_self]; exact Good.nil, fun p hp => by cases hp⟩
 | (p, t) :: r, o, e, h, hle, hf => by
  simp only [tile] at h
  split at h
  ·rename_i te hte
   split at h
   ·rename_i hpo
    subst hpo
    have hge := tile_ge h
    obtain ⟨avs, ha, hb⟩ := hf (p, t) (by simp) te hte
    obtain ⟨bvs, hc, hd⟩ := tile_good r (p + te.size) e h hle fun q hq => hf q (List.mem_cons_of_mem _ hq)
    have hal : avs.length = te.size := by rw [hb.len, List.length_take, List.length_drop]; simp only; omega
    refine ⟨avs ++ bvs, ?_, ?_⟩
    ·have : (cs.drop p).take (e - p) = (cs.drop p).take te.size ++ (cs.drop (p + te.size)).take (e - (p + te.size)) := by
      rw [← List.drop_drop, show e - p = te.size + (e - (p + te.size)) by omega, List.take_add]
     rw [this]; exact hb.append hc
    ·intro q hq fe hfe
     rcases List.mem_cons.1 hq with rfl | hq
     ·simp only at hfe ⊢
      rw [hte] at hfe; cases hfe
      rw [Nat.sub_self, List.drop_zero, ← hal, List.take_left]; exact ha
     ·obtain ⟨fe', q1, q2, q3⟩ := tile_mem h q hq
      have := hd q hq fe hfe
      rw [List.drop_append, List.drop_of_length_le (by omega), List.nil_append, hal, show q.1 - p - te.size = q.1 - (p + te.size) by omega]
      exact this
   ·cases h
  ·cases h
theorem cellsOf_of (hT : TOK P T) {t : TypeId} {te : TE} (h : T t = some te) : P.cellsOf t = te.size := by
 obtain ⟨i, z, h1, h2, _⟩ := hT.info h
 simp [Program.cellsOf, h1, h2]
theorem open_cells (hT : TOK P T) {H : Type} {enc : TypeId × Value → H} {G : Gh} {w : World} (hI : ∀ b, b < w.heap.size → G.I b) : ∀ (n fuel : Nat) (t : TypeId) (cs : List Value) (x : DataW H × List MemPlace),
  plainTy T n t = true → DataW.trod enc P w 0 (fun _ => true) true fuel t cs = some x → ∃ avs, Ty T t avs ∧ Good G w cs avs
 | 0, _, _, _, _, h, _ => by cases h
 | n + 1, fuel, t, cs, x, h, hx => by
  have hcell : ∀ a v, w.cell? a = some v → a.block < w.heap.size := fun a v ha => by
   rcases Nat.lt_or_ge a.block w.heap.size with h | h
   ·exact h
   ·rw [World.cell?, Array.getElem?_eq_none h] at ha; cases ha
  simp only [plainTy] at h
  cases hte : T t with
  | none => simp [hte] at h
  | some te =>
   simp only [hte] at h
   have hkk := hT.kind hte
   cases hk : te.kind with
   | int k =>
    rw [hk] at hkk
    obtain ⟨m, rfl, _, hwf⟩ := DataW.trod_int hkk hx
    exact ⟨[.int k m], .int hte hk hwf, .single rfl (.int _ _) (.int _ _)⟩
   | bool =>
    rw [hk] at hkk
    obtain ⟨b, rfl, _⟩ := DataW.trod_bool hkk hx
    exact ⟨[.bool b], .bool hte hk, .single rfl (.bool _) (.bool _)⟩
   | string =>
    rw [hk] at hkk
    obtain ⟨s, rfl, _, hs⟩ := DataW.trod_string hkk hx
    exact ⟨[.str s], .str hte hk hs, .single rfl (.str _) (.str _)⟩
   | slice e =>
    rw [hk] at hkk
    simp only [hk, Bool.and_eq_true] at h
    obtain ⟨⟨_, hpe⟩, hpos⟩ := h
    cases hee : T e with
    | none => simp [hee] at hpos
    | some ee =>
     simp only [hee, decide_eq_true_eq] at hpos
     have hce := cellsOf_of hT hee
     rcases DataW.trod_slice hkk hx with ⟨rfl, _⟩ | ⟨a, len, cap, elems, rest, m, rfl, rfl, _, _, hlc, hcm, hel, helem, hsp, _⟩
     ·exact ⟨[.ro []], .slice hte hk hee (Nat.zero_le _) (fun x hx => by cases hx) (fun x hx => by cases hx) (fun x hx => by cases hx), .single rfl (.ro fun v hv => by cases hv) (.ronil _)⟩
     ·-- each element's cells
      have each : ∀ i, i < len → ∃ avs cs', Ty T e avs ∧ Good G w cs' avs ∧ cs'.length = ee.size ∧ ∀ j, j < ee.size → w.cell? ((a.add (i * ee.size)).add j) = cs'[j]? := by
       intro i hi
       have h1 := helem i hi
       have h2 : elems[i]? = some elems[i] := by rw [List.getElem?_eq_getElem]
       rw [h2, Option.bind_eq_some_iff] at h1
       obtain ⟨cs', h3, h4⟩ := h1
       rw [hce] at h3
       obtain ⟨_, h5, h6⟩ := World.cells?_some h3
       obtain ⟨avs, h7, h8⟩ := open_cells hT hI n m e cs' _ hpe h4
       exact ⟨avs, cs', h7, h8, h5, h6⟩
      have hmk : ∀ (avs : List AV), (ee.kind.agg = false → avs.length = 1) → (∀ v ∈ avs, v.one = true) → ∃ x : AV, x.cells = avs ∧ ((∃ cs, x = .agg cs) ↔ ee.kind.agg = true) := by
       intro avs h1 h2
       cases hg : ee.kind.agg with
       | true => exact ⟨.agg avs, rfl, by simp⟩
       | false =>
        obtain ⟨v, rfl⟩ := List.length_eq_one_iff.1 (h1 hg)
        have h3 := h2 v (by simp)
        exact ⟨v, one_cells h3, ⟨fun ⟨cs, hcs⟩ => by subst hcs; simp [AV.one] at h3, fun h => by cases h⟩⟩
      have hagg : ee.kind.agg = false → ee.size = 1 := by
       intro hg
       cases n with
       | zero => simp [plainTy] at hpe
       | succ n =>
        simp only [plainTy, hee] at hpe
        cases hek : ee.kind <;> simp [hek, TK.agg] at hpe hg <;> first | exact hpe | exact hpe.1.1
      have all : ∃ (es : List AV), es.length = len ∧ ∀ i x, es[i]? = some x → ((∃ cs, x = .agg cs) ↔ ee.kind.agg = true) ∧ ∃ cs', Ty T e x.cells ∧ Good G w cs' x.cells ∧ cs'.length = ee.size ∧ ∀ j, j < ee.size → w.cell? ((a.add (i * ee.size)).add j) = cs'[j]? := by
       have go : ∀ k, k ≤ len → ∃ (es : List AV), es.length = k ∧ ∀ i x, es[i]? = some x → ((∃ cs, x = .agg cs) ↔ ee.kind.agg = true) ∧ ∃ cs', Ty T e x.cells ∧ Good G w cs' x.cells ∧ cs'.length = ee.size ∧ ∀ j, j < ee.size → w.cell? ((a.add (i * ee.size)).add j) = cs'[j]? := by
        intro k
        induction k with
        | zero => exact fun _ => ⟨[], rfl, fun i x h => by simp at h⟩
        | succ k ih =>
         intro hk
         obtain ⟨es, h1, h2⟩ := ih (by omega)
         obtain ⟨avs, cs', h3, h4, h5, h6⟩ := each k (by omega)
         obtain ⟨x, h7, h8⟩ := hmk avs (fun hg => by rw [h4.len, h5, hagg hg]) h4.one
         refine ⟨es ++ [x], by simp [h1], fun i y hy => ?_⟩
         rw [List.getElem?_append] at hy
         split at hy
         ·exact h2 i y hy
         ·rename_i hlt
          have hi : i = k := by
           have := (List.getElem?_eq_some_iff.1 hy).1
           simp at this; omega
          subst hi
          rw [h1, Nat.sub_self] at hy
          simp only [List.getElem?_cons_zero, Option.some.injEq] at hy
          subst hy
          exact ⟨h8, cs', by rw [h7]; exact h3, by rw [h7]; exact h4, h5, h6⟩
       exact go len (Nat.le_refl _)
      obtain ⟨es, hesl, hes⟩ := all
      have hmem : ∀ x ∈ es, ∃ i, es[i]? = some x := fun x hx => List.mem_iff_getElem?.1 hx
      refine ⟨[.ro es], .slice hte hk hee (by omega) (fun x hx => ?_) (fun x hx => ?_) (fun x hx => ?_), .single rfl (.ro fun v hv => ?_) ?_⟩
      ·obtain ⟨i, hi⟩ := hmem x hx; exact (hes i x hi).1
      ·obtain ⟨i, hi⟩ := hmem x hx; obtain ⟨_, cs', _, h2, h3, _⟩ := hes i x hi; rw [h2.len, h3]
      ·obtain ⟨i, hi⟩ := hmem x hx; obtain ⟨_, cs', h1, _⟩ := hes i x hi; exact h1
      ·obtain ⟨i, hi⟩ := hmem v hv
       obtain ⟨h1, cs', _, h2, _⟩ := hes i v hi
       by_cases hg : ∃ cs, v = .agg cs
       ·obtain ⟨cs, rfl⟩ := hg; exact .agg h2.pu
       ·have : v.cells = [v] := by cases v <;> first | rfl | exact absurd ⟨_, rfl⟩ hg
        exact h2.pu v (by rw [this]; simp)
      ·cases hes0 : es with
       | nil =>
        have hl0 : len = 0 := by rw [← hesl, hes0]; rfl
        subst hl0
        by_cases hc0 : cap = 0
        ·subst hc0; exact .ronil _
        ·obtain ⟨_, hr⟩ := hsp rfl
         obtain ⟨h0, h1⟩ := hsp rfl
         have h1 := h1 0 (by omega)
         have h2 : rest[0]? = some (rest[0]'(by omega)) := by rw [List.getElem?_eq_getElem]
         rw [h2, Option.bind_eq_some_iff] at h1
         obtain ⟨cs', h3, _⟩ := h1
         rw [hce] at h3
         obtain ⟨_, h5, h6⟩ := World.cells?_some h3
         have h7 := h6 0 hpos
         obtain ⟨b, o, sp⟩ := a
         have : sp = none := by
          cases sp with
          | none => rfl
          | some s =>
           rw [show cs'[0]? = some (cs'[0]'(by omega)) from by rw [List.getElem?_eq_getElem]] at h7
           simp only [World.cell?, Addr.add] at h7
           split at h7
           ·simp at h7
           ·cases h7
         subst this
         exact VRel.ro (es := []) (sz := 1) (f := fun _ => Go.undef) (by simp) (by simp) (by simp) (by simp) (Nat.zero_le _)
       | cons e0 er =>
        rw [← hes0]
        have hlen : 0 < len := by rw [← hesl, hes0]; simp
        have hsp0 : a.spot = none := by
         obtain ⟨_, cs', _, h2, h5, h6⟩ := hes 0 e0 (by rw [hes0]; rfl)
         have h7 := h6 0 hpos
         cases hs : a.spot with
         | none => rfl
         | some s =>
          rw [show cs'[0]? = some (cs'[0]'(by omega)) from by rw [List.getElem?_eq_getElem]] at h7
          simp only [World.cell?, Addr.add] at h7
          split at h7
          ·simp [hs] at h7
          ·cases h7
        obtain ⟨b, o, sp⟩ := a
        simp only at hsp0
        subst hsp0
        rw [← hesl]
        refine VRel.ro (sz := ee.size) (f := fun k => (w.cell? ⟨b, o + k, none⟩).getD Go.undef) (fun x hx => ?_) (fun x hx => ?_) (fun k hk => ?_) (fun i x j v hx hv => ?_) (by omega)
        ·obtain ⟨i, hi⟩ := hmem x hx; obtain ⟨_, cs', _, h2, h3, _⟩ := hes i x hi; rw [h2.len, h3]
        ·obtain ⟨i, hi⟩ := hmem x hx; obtain ⟨_, cs', _, h2, h3, _⟩ := hes i x hi; exact h2.one
        ·have hi : k / ee.size < es.length := Nat.div_lt_of_lt_mul (by rw [Nat.mul_comm]; exact hk)
         have hm : k % ee.size < ee.size := Nat.mod_lt _ hpos
         obtain ⟨_, cs', _, h2, h3, h4⟩ := hes (k / ee.size) es[k / ee.size] (by rw [List.getElem?_eq_getElem])
         have h5 := h4 (k % ee.size) hm
         rw [show cs'[k % ee.size]? = some (cs'[k % ee.size]'(by omega)) from by rw [List.getElem?_eq_getElem]] at h5
         have h6 : ((Addr.mk b o none).add (k / ee.size * ee.size)).add (k % ee.size) = ⟨b, o + k, none⟩ := by
          have := Nat.div_add_mod k ee.size
          rw [Nat.mul_comm] at this
          rw [Addr.add_lit, Addr.add_lit, Nat.add_assoc, this]
         rw [h6] at h5
         exact ⟨hI _ (hcell _ _ h5), by rw [h5]; rfl⟩
        ·obtain ⟨_, cs', _, h2, h3, h4⟩ := hes i x hx
         have hj : j < ee.size := by rw [← h3, ← h2.len]; exact (List.getElem?_eq_some_iff.1 hv).1
         have h5 := h4 j hj
         have h6 : ((Addr.mk b o none).add (i * ee.size)).add j = ⟨b, o + (i * ee.size + j), none⟩ := by
          rw [Addr.add_lit, Addr.add_lit, Nat.add_assoc]
         rw [h6] at h5
         rw [show cs'[j]? = some (cs'[j]'(by omega)) from by rw [List.getElem?_eq_getElem]] at h5
         rw [h5, Option.getD_some]
         exact h2.rel j v _ hv (by rw [List.getElem?_eq_getElem])
   | struct fs =>
    rw [hk] at hkk
    simp only [hk, Bool.and_eq_true, List.all_eq_true, beq_iff_eq] at h
    obtain ⟨hall, htile⟩ := h
    obtain ⟨fields, hu, rfl, _⟩ := hkk
    obtain ⟨xs, m, rfl, _, hlen, hxl, hfield⟩ := DataW.trod_struct hu hx
    rw [cellsOf_of hT hte] at hlen
    obtain ⟨avs, h1, h2⟩ := tile_good (G := G) (w := w) (cs := cs) _ 0 te.size htile (by omega) (by
     intro p hp fe hfe
     obtain ⟨f, hf, rfl⟩ := List.mem_map.1 hp
     obtain ⟨i, hi⟩ := List.mem_iff_getElem?.1 hf
     have hi' : fields[i]? = some f := by simpa using hi
     have h3 := hfield i f hi'
     have hil : i < xs.length := by rw [hxl]; exact (Array.getElem?_eq_some_iff.1 hi').1
     rw [show xs[i]? = some xs[i] from by rw [List.getElem?_eq_getElem], cellsOf_of hT hfe] at h3
     exact open_cells hT hI n m f.type _ _ (hall _ hp) h3)
    rw [Nat.sub_zero, List.drop_zero, List.take_of_length_le (by omega)] at h1
    exact ⟨avs, .struct hte hk (by rw [h1.len, hlen]) (fun p hp fe hfe => by have := h2 p hp fe hfe; rwa [Nat.sub_zero] at this), h1⟩
   | map k e => simp [hk] at h
   | pointer => simp [hk] at h
   | func => simp [hk] at h
   | other => simp [hk] at h
def TyV (T : TypeId → Option TE) (t : TypeId) (v : AV) : Prop := Ty T t v.cells ∧ ∀ te, T t = some te → ((∃ cs, v = .agg cs) ↔ te.kind.agg = true)
def Args (T : TypeId → Option TE) : List TypeId → List AV → Prop
 | [], [] => True
 | t :: ts, v :: vs => TyV T t v ∧ Args T ts vs
 | _, _ => False
def baseG (w : World) : Gh := { dom := fun _ => False, gm := fun _ => 0, blk := fun _ _ => 0, base := fun _ _ => 0, cap := fun _ _ => 0, sz := fun _ => 0, I := fun b => b < w.heap.size }
theorem baseG_rel (w : World) : Rel (baseG w) AHeap.nil w :=
 ⟨⟨Nat.one_pos, fun _ => rfl⟩, fun _ h => h.elim, fun id b h => by simp [AHeap.nil] at h, fun i j a b h => by simp [AHeap.nil] at h, fun i a h => by simp [AHeap.nil] at h, fun b hb => hb⟩
theorem open_val (hT : TOK P T) {H : Type} {enc : TypeId × Value → H} {w : World} {n base : Nat} {t : TypeId} {v : Value} {d : DataW H} {ps : List MemPlace}
  (hp : plainTy T n t = true) (hok : Value.okWide P w .any base t v) (h : DataW.Trod enc P w 0 (fun _ => true) true t v d ps) : ∃ a, TyV T t a ∧ Pu a ∧ VRel (baseG w) w a v := by
 obtain ⟨fuel, h⟩ := h
 obtain ⟨avs, h1, h2⟩ := open_cells hT (G := baseG w) (fun b hb => hb) n fuel t _ _ hp h
 cases n with
 | zero => cases hp
 | succ n =>
  simp only [plainTy] at hp
  cases hte : T t with
  | none => simp [hte] at hp
  | some te =>
   simp only [hte] at hp
   have hkk := hT.kind hte
   have one : (∀ cs, v ≠ .agg cs) → te.kind.agg = false → ∃ a, TyV T t a ∧ Pu a ∧ VRel (baseG w) w a v := by
    intro hna hg
    have hv : v.cells = #[v] := by cases v <;> first | rfl | exact absurd rfl (hna _)
    rw [hv] at h2
    obtain ⟨a, rfl⟩ := List.length_eq_one_iff.1 (show avs.length = 1 from h2.len)
    have ha := h2.one a (by simp)
    refine ⟨a, ⟨by rw [one_cells ha]; exact h1, fun te' hte' => ?_⟩, h2.pu a (by simp), h2.rel 0 a v rfl rfl⟩
    rw [hte] at hte'; cases hte'
    exact ⟨fun ⟨cs, hcs⟩ => by subst hcs; simp [AV.one] at ha, fun h => by rw [hg] at h; cases h⟩
   cases hk : te.kind with
   | int k =>
    rw [hk] at hkk; simp only [KOK] at hkk
    exact one (fun cs e => by subst e; simp [Value.okWide, hkk, Cell.okWide, Cell.ok] at hok) (by rw [hk]; rfl)
   | bool =>
    rw [hk] at hkk; simp only [KOK] at hkk
    exact one (fun cs e => by subst e; simp [Value.okWide, hkk, Cell.okWide, Cell.ok] at hok) (by rw [hk]; rfl)
   | string =>
    rw [hk] at hkk; simp only [KOK] at hkk
    exact one (fun cs e => by subst e; simp [Value.okWide, hkk, Cell.okWide, Cell.ok] at hok) (by rw [hk]; rfl)
   | slice e =>
    rw [hk] at hkk; simp only [KOK] at hkk
    exact one (fun cs e => by subst e; simp [Value.okWide, hkk, Cell.okWide, Cell.ok] at hok) (by rw [hk]; rfl)
   | struct fs =>
    rw [hk] at hkk
    obtain ⟨fields, hu, _, _⟩ := hkk
    simp only [Value.okWide, hu] at hok
    obtain ⟨cs, rfl, _, _⟩ := hok
    refine ⟨.agg avs, ⟨h1, fun te' hte' => ?_⟩, .agg h2.pu, .agg (by simpa [Value.cells] using h2.len.symm) h2.one (fun j v c hv hc => h2.rel j v c hv (by simpa [Value.cells] using hc))⟩
    rw [hte] at hte'; cases hte'
    simp [hk, TK.agg]
   | map k e => simp [hk] at hp
   | pointer => simp [hk] at hp
   | func => simp [hk] at hp
   | other => simp [hk] at hp
theorem open_args (hT : TOK P T) {H : Type} {enc : TypeId × Value → H} {w : World} {n base : Nat} : ∀ {ts : List TypeId} {vs : List Value} {ds : List (DataW H)} {ps : List MemPlace},
  (∀ t ∈ ts, plainTy T n t = true) → (∀ (j : Nat) (t : TypeId) (v : Value), ts[j]? = some t → vs[j]? = some v → Value.okWide P w .any base t v) → DataW.TrodAll enc P w 0 (fun _ => true) true ts vs ds ps →
  ∃ avs : List AV, Args T ts avs ∧ avs.length = vs.length ∧ ds.length = ts.length ∧ (∀ a ∈ avs, Pu a) ∧ (∀ (j : Nat) (a : AV) (c : Value), avs[j]? = some a → vs[j]? = some c → VRel (baseG w) w a c)
 | [], [], [], ps, _, _, _ => ⟨[], trivial, rfl, rfl, fun a h => (nomatch h), fun j a c h => by simp at h⟩
 | t :: ts, v :: vs, d :: ds, ps, hp, hok, h => by
  obtain ⟨p, q, h1, h2, _⟩ := h
  obtain ⟨a, ha, hpa, hva⟩ := open_val hT (hp t (by simp)) (hok 0 t v rfl rfl) h1
  obtain ⟨avs, k1, k2, k3, k4, k5⟩ := open_args hT (fun t' h' => hp t' (List.mem_cons_of_mem _ h')) (fun j t' v' hj hv => hok (j + 1) t' v' (by simpa using hj) (by simpa using hv)) h2
  refine ⟨a :: avs, ⟨ha, k1⟩, by simp [k2], by simp [k3], fun x hx => ?_, fun j x c hx hc => ?_⟩
  ·rcases List.mem_cons.1 hx with rfl | hx
   ·exact hpa
   ·exact k4 x hx
  ·cases j with
   | zero => simp only [List.getElem?_cons_zero, Option.some.injEq] at hx hc; subst hx; subst hc; exact hva
   | succ j => exact k5 j x c (by simpa using hx) (by simpa using hc)
 | [], _ :: _, _, _, _, _, h => by cases h
 | [], [], _ :: _, _, _, _, h => by cases h
 | _ :: _, [], _, _, _, _, h => by cases h
 | _ :: _, _ :: _, [], _, _, _, h => by cases h
theorem below_args {H : Type} {enc : TypeId × Value → H} (hl : laidOutB P = true) {w w' : World} (hb : RowKit.Below w.heap.size w w') : ∀ {ts : List TypeId} {vs : List Value} {ds : List (DataW H)} {ps : List MemPlace},
  (∀ t ∈ ts, P.readableRec t = true ∧ t < P.types.size) → DataW.TrodAll enc P w 0 (fun _ => true) true ts vs ds ps → DataW.TrodAll enc P w' 0 (fun b => decide (b < w.heap.size)) true ts vs ds ps
 | [], [], [], ps, _, h => h
 | t :: ts, v :: vs, d :: ds, ps, hp, h => by
  obtain ⟨p, q, h1, h2, h3⟩ := h
  have hlt : ∀ x ∈ p, x.block < w.heap.size := by obtain ⟨m, hm⟩ := h1; exact DataW.trod_lt m _ _ _ hm
  exact ⟨p, q, RowKit.Below.trod hl (hp t (by simp)).1 (hp t (by simp)).2 h1 hb hlt, below_args hl hb (fun t' h' => hp t' (List.mem_cons_of_mem _ h')) h2, h3⟩
 | [], _ :: _, _, _, _, h => by cases h
 | [], [], _ :: _, _, _, h => by cases h
 | _ :: _, [], _, _, _, h => by cases h
 | _ :: _, _ :: _, [], _, _, h => by cases h
theorem law_calls (hT : TOK P T) (hl : laidOutB P = true) {H : Type} {enc : TypeId × Value → H} {f : FuncId} {fn : Func} {s : ChangeSpec} {tb : TypeId} {n : Nat} (hvars : s.vars = []) (hres : fn.resultTypes = #[tb]) (hb : P.underlying tb = some .bool)
  (hp : ∀ t ∈ fn.params.toList, plainTy T n t = true ∧ P.readableRec t = true ∧ t < P.types.size) (hs : ∀ ds : List (DataW H), ds.length = fn.params.size → s.fn H ds = { results := [.lit (.bool true)], args := ds })
  (hlaw : ∀ avs, Args T fn.params.toList avs → (∀ a ∈ avs, Pu a) → ACalls P f avs AHeap.nil fun r _ => r = .bool true)
  {W : World} {base : Nat} {args : Array Value} {ds gs : List (DataW H)} {before : List MemPlace} (hval : ∀ (j : Nat) t v, fn.params[j]? = some t → args[j]? = some v → Value.okWide P W .any base t v)
  (hW : DataW.Whole enc P fn.params.toList s.vars false W args.toList ds gs before) : Calls P f args W fun e W' => ∃ v, e = .returned v ∧ s.post enc P fn false true false false W args v W' := by
 have hW0 := hW
 obtain ⟨p, q, hA, hV, rfl, _, _⟩ := hW
 obtain ⟨avs, k1, k2, k3, k4, k5⟩ := open_args hT (base := base) (fun t ht => (hp t ht).1) (fun j t v hj hv => hval j t v (by simpa using hj) (by simpa using hv)) hA
 rw [hvars] at hV
 have hgs : gs = [] ∧ q = [] := by
  cases gs with
  | nil => exact ⟨rfl, hV⟩
  | cons => cases hV
 obtain ⟨rfl, rfl⟩ := hgs
 refine ((hlaw avs k1 k4).2 (baseG W) W args (baseG_rel W) (by simpa using k2.symm) (fun j a c hj hc => k5 j a c hj (by simpa using hc))).mono ?_
 rintro e W' ⟨v, r, H', G', rfl, rfl, hv, hg⟩
 cases hv
 have hbel : RowKit.Below W.heap.size W W' := ⟨hg.fr.os, hg.fr.tape, hg.fr.output, hg.fr.size, fun b hb => hg.fr.block b hb (fun i a ha => by simp [AHeap.nil] at ha)⟩
 have hdl : ds.length = fn.params.size := by simpa using k3
 refine ⟨_, rfl, ds, [], _, [], p, [], hW0, ?_, ?_, ?_, hbel.frame _, fun h => by cases h⟩
 ·rw [List.append_nil, hs ds hdl, hres]
  exact ChangeShapes.trodAll_mk1 (RowKit.shut_bool hb _)
 ·rw [List.append_nil, hs ds hdl]
  exact below_args hl hbel (fun t ht => (hp t ht).2) hA
 ·rw [List.append_nil, hs ds hdl, hvars]; rfl
end
section
variable {P : Program} {T : TypeId → Option TE} {nt : Nat} {c y : Code} {σ : St} {H : AHeap} {Q : APost}
def AWPt (P : Program) (nt : Nat) (c : Code) (σ : St) (H : AHeap) (Q : APost) : Prop :=
 ∀ (F : Fence) (G0 G : Gh) (a : Act) (w0 w : World) (B : Nat), (∀ id, ¬ G0.dom id) → B ≤ w0.heap.size → Wide F false → Run G0 AHeap.nil w0 G H w → TRel G w σ a nt → Marks B G w a.defers →
  c.wpIn F 0 P (Post Q nt B G0 AHeap.nil w0) a w
theorem AWP.of_top (h : AWPt P nt c σ AHeap.nil Q) : AWP P false nt c σ AHeap.nil Q :=
 fun F G a w B hB hF hr ht hm => h F G G a w w B (fun id hd => hr.dom id hd rfl) hB hF (Run.refl hr) ht hm
theorem AWPt.of_awp (h : AWP P false nt c σ H Q) : AWPt P nt c σ H Q :=
 fun F G0 G a w0 w B _ hB hF hrun ht hm => wpIn_mono (h F G a w B (Nat.le_trans hB hrun.fr.size) hF hrun.rel ht hm) fun e a' w' ⟨x, σ', H', G', h1, h2, h3, h4, h5⟩ =>
  ⟨x, σ', H', G', h1, h2, h3, hrun.trans h4, h5⟩
theorem AWPt.seq (h : AWP P false nt c σ H fun e σ' H' => e = .normal ∧ AWPt P nt y σ' H' Q) : AWPt P nt (.seq c y) σ H Q := by
 intro F G0 G a w0 w B h0 hB hF hrun ht hm
 refine wpIn_seq (wpIn_mono (h F G a w B (Nat.le_trans hB hrun.fr.size) hF hrun.rel ht hm) ?_)
 rintro e a' w' ⟨x, σ', H', G', rfl, ⟨rfl, h2⟩, h3, h4, h5⟩
 exact h2 F G0 G' a' w0 w' B h0 hB hF (hrun.trans h4) h3 h5
theorem AWPt.freeze (σ' : St) (hf : ∀ t, σ' t = .undef ∨ (Frz H (σ t) (σ' t) ∧ Pu (σ' t))) (h : AWPt P nt c σ' AHeap.nil Q) : AWPt P nt c σ H Q := by
 intro F G0 G a w0 w B h0 hB hF hrun ht hm
 have hr := hrun.rel
 have hn : Rel { (G.freeze H) with dom := fun _ => False } AHeap.nil w :=
  ⟨⟨Nat.one_pos, fun _ => rfl⟩, fun _ h => h.elim, fun id b h => by simp [AHeap.nil] at h, fun i j a b h => by simp [AHeap.nil] at h, fun i a h => by simp [AHeap.nil] at h, fun b hb => by
   rcases hb with hb | ⟨i, a, ha, rfl⟩
   ·exact hr.ilt b hb
   ·exact hr.lt ha⟩
 refine h F G0 { (G.freeze H) with dom := fun _ => False } a w0 w B h0 hB hF ⟨hn, ⟨fun id hd => (h0 id hd).elim, fun id hd => (h0 id hd).elim, fun id hd => (h0 id hd).elim, fun id g hd => (h0 id hd).elim, fun id g hd => (h0 id hd).elim, fun id g hd => (h0 id hd).elim, fun b hb => .inl (hrun.ext.I b hb)⟩, hrun.fr, fun i a ha => by simp [AHeap.nil] at ha, fun b hb => ?_⟩ ⟨ht.size, fun t => ?_⟩ ?_
 ·rcases hb with hb | ⟨i, a, ha, rfl⟩
  ·exact hrun.imm b hb
  ·rcases hrun.own i a ha with h1 | ⟨j, b, hb, _⟩
   ·exact .inr (.inl h1)
   ·simp [AHeap.nil] at hb
 ·rcases hf t with h1 | ⟨h1, h2⟩
  ·rw [h1]; exact .undef _
  ·exact (VRel.freeze hr h1 (ht.tmp t)).toI h2 _ (fun b hb => hb)
 ·obtain ⟨rs, h1, h2, h3⟩ := hm
  exact ⟨rs, h1, h2, fun r hr' => ⟨⟨.inl (h3 r hr').1.1, (h3 r hr').1.2⟩, (h3 r hr').2⟩⟩
theorem stp_regT (hT : TOK P T) {id : Nat} {ops : Array Oper} (hd : dstOk nt ops.toList = true)
  (h : ∀ K : St → AHeap → Prop, (∀ σ H, (∀ σ', σ' = σ → ∀ H', H' = H → AWPt P nt y σ' H' Q) → K σ H) → aSeq P T ops.toList ops.toList σ H K) : AWPt P nt (.seq (.region id ops false) y) σ H Q :=
 AWPt.seq (stp_regl hT hd fun K hK => h K fun σ H h => hK σ H fun σ' h1 H' h2 => ⟨rfl, h σ' h1 H' h2⟩)
end
end Go.Abs
namespace Go.Proofs.Yteifhcohmipdcaa
open Go.Abs
def g0 : Gr := ⟨List.replicate 5 ByteArray.empty, [(0, 1), (1, 2), (2, 1), (2, 3), (4, 3)]⟩
theorem g0_valid : g0.valid = true := by kernel_rfl
theorem g0_comps : g0.gcomps = [[3], [1, 2], [0], [4]] := by kernel_rfl
theorem g0_path : g0.path 0 3 = [0, 1, 2, 3] := by kernel_rfl
theorem g0_cyc : g0.pcycle = [1, 2] := by kernel_rfl
theorem g0_reach : (g0.rev.reach [3]).length = 5 := by kernel_rfl
theorem g0_lv2 : (lv2 g0.cedges g0.comps g0.order).2 = [[3], [1, 2, 4], [0]] := by kernel_rfl
theorem g0_levels : g0.glevels = [[3], [1, 2, 4], [0]] := by
 rw [Gr.glevels, g0_valid, if_pos rfl, g0_lv2]
 have s1 : ∀ x : Int, sortI [x] = [x] := fun x => by simp [sortI]
 have s2 : sortI [1, 2, 4] = [1, 2, 4] := List.mergeSort_of_pairwise (by decide)
 simp [s1, s2]
end Go.Proofs.Yteifhcohmipdcaa
namespace Go.Proofs.Yteifhcohmipdcaa
open Go.Abs
set_option linter.unusedSimpArgs false
set_option linter.unusedVariables false
theorem frz_rows {H : AHeap} {id g n : Nat} {e : TypeId} {vs : List AV} {ls : List (List Int)} (hb : H.get id = some (.row e 1 g vs)) (hn : n = vs.length) (h : FrzL H vs (roS ls)) (h1 : ∀ v ∈ vs, v.one = true) : Frz H (.sl id g 0 n) (encS ls) := by
 subst hn;refine .sl (fs := roS ls) hb (by simp) h.1.symm (fun j x y hx hy q u v hu hv => ?_) (fun y hy => ?_) (fun y hy v hv => ?_)
 ·rw [Nat.zero_add] at hx;have ho := h1 x (List.mem_of_getElem? hx)
  have hy1 : y.cells = [y] := by
   obtain ⟨l, _, rfl⟩ := List.mem_map.1 (List.mem_of_getElem? hy); rfl
  rw [one_cells ho] at hu;rw [hy1] at hv;cases q with
  | zero => simp at hu hv; subst hu; subst hv; exact h.2 j _ _ hx hy
  | succ q => simp at hu
 ·obtain ⟨l, hl2, rfl⟩ := List.mem_map.1 hy;cases vs with
  | nil => cases ls with
   | nil => cases hl2
   | cons => exact absurd h.1 (by simp [roS])
  | cons x xs => exact ⟨x, by simp, by rw [one_cells (h1 x (by simp))]; rfl⟩
 ·obtain ⟨l, hl2, rfl⟩ := List.mem_map.1 hy;simp [AV.cells] at hv; subst hv; rfl
theorem rng3 : ([0, 1, 2] : List Nat) = List.range 3 := rfl
theorem rng4 : ([0, 1, 2, 3] : List Nat) = List.range 4 := rfl
set_option maxHeartbeats 1000000 in
theorem awake0  : ACalls Try.prog 10 [] AHeap.nil (fun r _ => r = .bool true) := by
 refine acalls_body TT_ok Try.func10 rfl rfl (by simp [Try.ntmps10]) ?_;rw [Try.ntmps10];obtain ⟨σ, hσ⟩ : ∃ σ, σ = st0 [] := ⟨_, rfl⟩;rw [← hσ];clear hσ;refine AWP.of_top ?_;obtain ⟨H, hH⟩ : ∃ H, H = AHeap.nil := ⟨_, rfl⟩;rw [← hH];have hn_0 : H.n = 0 := by rw [hH]; rfl
 have hst_0 : H.st = 1 := by rw [hH]; rfl
 clear hH;refine stp_regT TT_ok (by rfl) fun K hK => ?_;simp [];(try refine And.intro (by first|omega|rfl) ?_);refine hK _ _ fun σ1 hσ H1 hH => ?_;clear hK K;clear hσ;replace hH : H = H1 := Eq.symm hH;subst hH;refine stp_regT TT_ok (by rfl) fun K hK => ?_;simp [hn_0, hst_0];(try refine And.intro (by first|omega|rfl) ?_);refine hK _ _ fun σ2 hσ H2 hH => ?_;clear hK K;have h1_2 := congrFun hσ 1;simp [] at h1_2;clear hσ;have g0_2 := gt_of hH 0;have g1_2 := gt_of hH 1;have g2_2 := gt_of hH 2;simp [hn_0, hst_0] at g0_2 g1_2 g2_2;have hn_2 := congrArg AHeap.n hH;simp [hn_0, hst_0] at hn_2;have hst_2 := congrArg AHeap.st hH;simp [hn_0, hst_0] at hst_2;clear hH;refine AWPt.freeze (fun t : Nat => if t = 1 then .rop (encG g0).cells else AV.undef) (fun t => ?_) ?_
 ·skip
  split
  ·rename_i e; subst e; right; rw [h1_2]
   refine ⟨?_, .rop (by have h := pu_graph g0; cases h with | agg h => exact h)⟩;refine frz_box (by assumption) (FrzL.cons ?_ (FrzL.cons ?_ (FrzL.nil _))) (by simp [encG, AV.cells, AV.one]);exact frz_row (es := g0.nodes.map .str) (by first | assumption | exact g0_2) rfl (fun x hx => by obtain ⟨y, _, rfl⟩ := List.mem_map.1 hx; exact .str _) (fun _ => one_strs);exact frz_row (es := g0.edges.map encE) (by first | assumption | exact g1_2) rfl (fun _ => pu_of_edges) (fun _ => one_edge)
  ·skip;exact .inl rfl
 refine AWPt.of_awp ?_;obtain ⟨σ3, hσ⟩ : ∃ s, s = (fun t : Nat => if t = 1 then .rop (encG g0).cells else AV.undef) := ⟨_, rfl⟩;rw [← hσ];have h1_3 := congrFun hσ 1;simp at h1_3;clear hσ;obtain ⟨H3, hH⟩ : ∃ H, H = AHeap.nil := ⟨_, rfl⟩;rw [← hH];have hn_3 : H3.n = 0 := by rw [hH]; rfl
 have hst_3 : H3.st = 1 := by rw [hH]; rfl
 clear hH;have hFF0 := an3 h1_3 hn_3 hst_3;refine stp_reg TT_ok (by rfl) fun K hK => ?_;simp [hFF0, g0_valid, g0_comps, g0_levels, g0_path, g0_cyc, g0_reach, rng3, rng4, encG];(try refine And.intro (by first|omega|rfl) ?_);refine stp_call (valid_ok g0) ?_;simp [hFF0, g0_valid, g0_comps, g0_levels, g0_path, g0_cyc, g0_reach, rng3, rng4, encG];(try refine And.intro (by first|omega|rfl) ?_);refine stp_call (comps_ok g0) ?_;simp [hFF0, g0_valid, g0_comps, g0_levels, g0_path, g0_cyc, g0_reach, rng3, rng4, encG];(try refine And.intro (by first|omega|rfl) ?_);refine FunW.at (same_w [[3], [1, 2], [0], [4]] [[3], [1, 2], [0], [4]] (by simp) (by simp)) ?hf ?_
 case hf => exact (FrzL.cons (Frz.pure (pu_encS _)) (FrzL.cons (frz_rows (id := 4) (g := 0) (e := 26) (vs := [.sl 0 0 0 1, .sl 1 0 0 2, .sl 2 0 0 1, .sl 3 0 0 1]) (ls := [[3], [1, 2], [0], [4]]) (by simp [hFF0, g0_valid, g0_comps, g0_levels, g0_path, g0_cyc, g0_reach, rng3, rng4, encG]) rfl (FrzL.cons (frz_ints (id := 0) (g := 0) (e := 3) (xs := [3]) (by simp [hFF0, g0_valid, g0_comps, g0_levels, g0_path, g0_cyc, g0_reach, rng3, rng4, encG]) rfl) (FrzL.cons (frz_ints (id := 1) (g := 0) (e := 3) (xs := [1, 2]) (by simp [hFF0, g0_valid, g0_comps, g0_levels, g0_path, g0_cyc, g0_reach, rng3, rng4, encG]) rfl) (FrzL.cons (frz_ints (id := 2) (g := 0) (e := 3) (xs := [0]) (by simp [hFF0, g0_valid, g0_comps, g0_levels, g0_path, g0_cyc, g0_reach, rng3, rng4, encG]) rfl) (FrzL.cons (frz_ints (id := 3) (g := 0) (e := 3) (xs := [4]) (by simp [hFF0, g0_valid, g0_comps, g0_levels, g0_path, g0_cyc, g0_reach, rng3, rng4, encG]) rfl) (FrzL.nil _))))) (by simp [AV.one])) (FrzL.nil _)))
 simp [hFF0, g0_valid, g0_comps, g0_levels, g0_path, g0_cyc, g0_reach, rng3, rng4, encG];(try refine And.intro (by first|omega|rfl) ?_);refine stp_call (levels_ok g0) ?_;simp [hFF0, g0_valid, g0_comps, g0_levels, g0_path, g0_cyc, g0_reach, rng3, rng4, encG];(try refine And.intro (by first|omega|rfl) ?_);refine FunW.at (same_w [[3], [1, 2, 4], [0]] [[3], [1, 2, 4], [0]] (by simp) (by simp)) ?hf ?_
 case hf => exact (FrzL.cons (Frz.pure (pu_encS _)) (FrzL.cons (frz_rows (id := 8) (g := 0) (e := 26) (vs := [.sl 5 0 0 1, .sl 6 0 0 3, .sl 7 0 0 1]) (ls := [[3], [1, 2, 4], [0]]) (by simp [hFF0, g0_valid, g0_comps, g0_levels, g0_path, g0_cyc, g0_reach, rng3, rng4, encG]) rfl (FrzL.cons (frz_ints (id := 5) (g := 0) (e := 3) (xs := [3]) (by simp [hFF0, g0_valid, g0_comps, g0_levels, g0_path, g0_cyc, g0_reach, rng3, rng4, encG]) rfl) (FrzL.cons (frz_ints (id := 6) (g := 0) (e := 3) (xs := [1, 2, 4]) (by simp [hFF0, g0_valid, g0_comps, g0_levels, g0_path, g0_cyc, g0_reach, rng3, rng4, encG]) rfl) (FrzL.cons (frz_ints (id := 7) (g := 0) (e := 3) (xs := [0]) (by simp [hFF0, g0_valid, g0_comps, g0_levels, g0_path, g0_cyc, g0_reach, rng3, rng4, encG]) rfl) (FrzL.nil _)))) (by simp [AV.one])) (FrzL.nil _)))
 simp [hFF0, g0_valid, g0_comps, g0_levels, g0_path, g0_cyc, g0_reach, rng3, rng4, encG];(try refine And.intro (by first|omega|rfl) ?_);refine stp_call (path_ok g0 0 3) ?_;simp [hFF0, g0_valid, g0_comps, g0_levels, g0_path, g0_cyc, g0_reach, rng3, rng4, encG];(try refine And.intro (by first|omega|rfl) ?_);refine FunW.at (equalI_w [0, 1, 2, 3] [0, 1, 2, 3] (by simp)) ?hf ?_
 case hf => exact (FrzL.cons (Frz.pure (pu_ints [0, 1, 2, 3])) (FrzL.cons (frz_ints (id := 9) (g := 0) (e := 3) (xs := [0, 1, 2, 3]) (by simp [hFF0, g0_valid, g0_comps, g0_levels, g0_path, g0_cyc, g0_reach, rng3, rng4, encG]) rfl) (FrzL.nil _)))
 simp [hFF0, g0_valid, g0_comps, g0_levels, g0_path, g0_cyc, g0_reach, rng3, rng4, encG];(try refine And.intro (by first|omega|rfl) ?_);refine stp_call (cycle_ok g0) ?_;simp [hFF0, g0_valid, g0_comps, g0_levels, g0_path, g0_cyc, g0_reach, rng3, rng4, encG];(try refine And.intro (by first|omega|rfl) ?_);refine FunW.at (equalI_w [1, 2] [1, 2] (by simp)) ?hf ?_
 case hf => exact (FrzL.cons (Frz.pure (pu_ints [1, 2])) (FrzL.cons (frz_ints (id := 10) (g := 0) (e := 3) (xs := [1, 2]) (by simp [hFF0, g0_valid, g0_comps, g0_levels, g0_path, g0_cyc, g0_reach, rng3, rng4, encG]) rfl) (FrzL.nil _)))
 simp [hFF0, g0_valid, g0_comps, g0_levels, g0_path, g0_cyc, g0_reach, rng3, rng4, encG];(try refine And.intro (by first|omega|rfl) ?_);refine stp_call (reverse_ok g0) ?_;simp [hFF0, g0_valid, g0_comps, g0_levels, g0_path, g0_cyc, g0_reach, rng3, rng4, encG];(try refine And.intro (by first|omega|rfl) ?_);refine FunW.at (reach_w g0.rev [3] (by simp)) ?hf ?_
 case hf => exact (FrzL.cons (Frz.pure (pu_graph _)) (FrzL.cons (frz_ints (id := 11) (g := 0) (e := 3) (xs := [3]) (by simp [hFF0, g0_valid, g0_comps, g0_levels, g0_path, g0_cyc, g0_reach, rng3, rng4, encG]) rfl) (FrzL.nil _)))
 simp [hFF0, g0_valid, g0_comps, g0_levels, g0_path, g0_cyc, g0_reach, rng3, rng4, encG];(try refine And.intro (by first|omega|rfl) ?_);refine hK _ _ fun σ4 hσ H4 hH => ?_;clear hK K hFF0;have h0_4 := congrFun hσ 0;simp [] at h0_4;clear hσ;have hn_4 := congrArg AHeap.n hH;simp [hn_3, hst_3] at hn_4;have hst_4 := congrArg AHeap.st hH;simp [hn_3, hst_3] at hst_4;clear hH;refine awp_ret ?_;refine q_fin1 h0_4 ?_
 first | rfl | (simp; done)
end Go.Proofs.Yteifhcohmipdcaa
namespace Go.Abs
set_option linter.unusedSimpArgs false
set_option linter.unusedVariables false
section
variable {T : TypeId → Option TE} {t : TypeId} {te : TE} {v : AV}
theorem TyV.one (h : TyV T t v) (ht : T t = some te) (hk : te.kind.agg = false) : v.cells = [v] := by
 have := (h.2 te ht)
 cases v <;> first | rfl | (rw [hk] at this; exact absurd (this.1 ⟨_, rfl⟩) (by simp))
theorem TyV.int {k : IntKind} (h : TyV T t v) (ht : T t = some te) (hk : te.kind = .int k) : ∃ n, v = .int k n ∧ (Lit.int k n).wf = true := by
 have h1 := h.1
 rw [h.one ht (by rw [hk]; rfl)] at h1
 generalize hc : [v] = cs at h1
 cases h1 with
 | int h2 h3 h4 => rw [ht] at h2; cases h2; rw [hk] at h3; cases h3; simp at hc; exact ⟨_, hc, h4⟩
 | bool h2 h3 => rw [ht] at h2; cases h2; rw [hk] at h3; cases h3
 | str h2 h3 => rw [ht] at h2; cases h2; rw [hk] at h3; cases h3
 | slice h2 h3 => rw [ht] at h2; cases h2; rw [hk] at h3; cases h3
 | struct h2 h3 => rw [ht] at h2; cases h2; rw [hk] at h3; cases h3
theorem TyV.bool (h : TyV T t v) (ht : T t = some te) (hk : te.kind = .bool) : ∃ b, v = .bool b := by
 have h1 := h.1
 rw [h.one ht (by rw [hk]; rfl)] at h1
 generalize hc : [v] = cs at h1
 cases h1 with
 | bool h2 h3 => simp at hc; exact ⟨_, hc⟩
 | int h2 h3 => rw [ht] at h2; cases h2; rw [hk] at h3; cases h3
 | str h2 h3 => rw [ht] at h2; cases h2; rw [hk] at h3; cases h3
 | slice h2 h3 => rw [ht] at h2; cases h2; rw [hk] at h3; cases h3
 | struct h2 h3 => rw [ht] at h2; cases h2; rw [hk] at h3; cases h3
theorem TyV.str (h : TyV T t v) (ht : T t = some te) (hk : te.kind = .string) : ∃ s : ByteArray, v = .str s ∧ s.size ≤ maxLen := by
 have h1 := h.1
 rw [h.one ht (by rw [hk]; rfl)] at h1
 generalize hc : [v] = cs at h1
 cases h1 with
 | str h2 h3 h4 => simp at hc; exact ⟨_, hc, h4⟩
 | int h2 h3 => rw [ht] at h2; cases h2; rw [hk] at h3; cases h3
 | bool h2 h3 => rw [ht] at h2; cases h2; rw [hk] at h3; cases h3
 | slice h2 h3 => rw [ht] at h2; cases h2; rw [hk] at h3; cases h3
 | struct h2 h3 => rw [ht] at h2; cases h2; rw [hk] at h3; cases h3
theorem TyV.slice {e : TypeId} (h : TyV T t v) (ht : T t = some te) (hk : te.kind = .slice e) : ∃ es, v = .ro es ∧ es.length ≤ maxLen ∧ ∀ x ∈ es, TyV T e x := by
 have h1 := h.1
 rw [h.one ht (by rw [hk]; rfl)] at h1
 generalize hc : [v] = cs at h1
 cases h1 with
 | slice h2 h3 h4 h5 h6 h7 h8 =>
  rw [ht] at h2; cases h2; rw [hk] at h3; cases h3; simp at hc
  exact ⟨_, hc, h5, fun x hx => ⟨h8 x hx, fun te' h => by rw [h4] at h; cases h; exact h6 x hx⟩⟩
 | int h2 h3 => rw [ht] at h2; cases h2; rw [hk] at h3; cases h3
 | bool h2 h3 => rw [ht] at h2; cases h2; rw [hk] at h3; cases h3
 | str h2 h3 => rw [ht] at h2; cases h2; rw [hk] at h3; cases h3
 | struct h2 h3 => rw [ht] at h2; cases h2; rw [hk] at h3; cases h3
theorem TyV.struct {fs : List (Nat × TypeId)} (h : TyV T t v) (ht : T t = some te) (hk : te.kind = .struct fs) :
  ∃ cs, v = .agg cs ∧ cs.length = te.size ∧ ∀ p ∈ fs, ∀ fe, T p.2 = some fe → Ty T p.2 ((cs.drop p.1).take fe.size) := by
 obtain ⟨cs, rfl⟩ := (h.2 te ht).2 (by rw [hk]; rfl)
 have h1 := h.1
 simp only [AV.cells] at h1
 refine ⟨cs, rfl, ?_⟩
 cases h1 with
 | struct h2 h3 h4 h5 => rw [ht] at h2; cases h2; rw [hk] at h3; cases h3; exact ⟨h4, h5⟩
 | int h2 h3 => rw [ht] at h2; cases h2; rw [hk] at h3; cases h3
 | bool h2 h3 => rw [ht] at h2; cases h2; rw [hk] at h3; cases h3
 | str h2 h3 => rw [ht] at h2; cases h2; rw [hk] at h3; cases h3
 | slice h2 h3 => rw [ht] at h2; cases h2; rw [hk] at h3; cases h3
theorem Ty.one {x : AV} (h : Ty T t [x]) (hx : x.one = true) (ht : T t = some te) (hk : te.kind.agg = false) : TyV T t x :=
 ⟨by rw [one_cells hx]; exact h, fun te' h' => by rw [ht] at h'; cases h'; rw [hk]; simp; intro cs e; subst e; simp [AV.one] at hx⟩
theorem Ty.agg {cs : List AV} (h : Ty T t cs) (ht : T t = some te) (hk : te.kind.agg = true) : TyV T t (.agg cs) :=
 ⟨h, fun te' h' => by rw [ht] at h'; cases h'; rw [hk]; simp⟩
theorem Ty.cells_one {cs : List AV} (h : Ty T t cs) (ht : T t = some te) (hk : te.kind.agg = false) : ∃ x, cs = [x] ∧ TyV T t x := by
 cases h with
 | struct h2 h3 => rw [ht] at h2; cases h2; rw [h3] at hk; simp [TK.agg] at hk
 | int h2 h3 h4 => exact ⟨_, rfl, Ty.one (.int h2 h3 h4) rfl ht hk⟩
 | bool h2 h3 => exact ⟨_, rfl, Ty.one (.bool h2 h3) rfl ht hk⟩
 | str h2 h3 h4 => exact ⟨_, rfl, Ty.one (.str h2 h3 h4) rfl ht hk⟩
 | slice h2 h3 h4 h5 h6 h7 h8 => exact ⟨_, rfl, Ty.one (.slice h2 h3 h4 h5 h6 h7 h8) rfl ht hk⟩
theorem map_of {α : Type} {enc : α → AV} {Q : α → Prop} : ∀ {es : List AV}, (∀ x ∈ es, ∃ a, x = enc a ∧ Q a) → ∃ xs : List α, es = xs.map enc ∧ ∀ a ∈ xs, Q a
 | [], _ => ⟨[], rfl, fun _ h => (nomatch h)⟩
 | x :: es, h => by
  obtain ⟨a, rfl, ha⟩ := h x (by simp)
  obtain ⟨xs, rfl, hx⟩ := map_of (es := es) fun y hy => h y (List.mem_cons_of_mem _ hy)
  exact ⟨a :: xs, rfl, fun b hb => by
   rcases List.mem_cons.1 hb with rfl | hb
   ·exact ha
   ·exact hx b hb⟩
theorem Args.nil {vs : List AV} (h : Args T [] vs) : vs = [] := by cases vs <;> first | rfl | cases h
theorem Args.cons {ts : List TypeId} {vs : List AV} (h : Args T (t :: ts) vs) : ∃ v r, vs = v :: r ∧ TyV T t v ∧ Args T ts r := by
 cases vs with
 | nil => cases h
 | cons v r => exact ⟨v, r, rfl, h.1, h.2⟩
theorem law_calls2 {P : Program} (hT : TOK P T) (hl : laidOutB P = true) {H : Type} {enc : TypeId × Value → H} {f : FuncId} {fn : Func} {s : ChangeSpec} {tb : TypeId} (n : Nat) (hvars : s.vars = []) (hres : fn.resultTypes = #[tb]) (hb : P.underlying tb = some .bool)
  (hp : (fn.params.toList.all fun t => plainTy T n t && P.readableRec t && decide (t < P.types.size)) = true) (hs : ∀ ds : List (DataW H), ds.length = fn.params.size → s.fn H ds = { results := [.lit (.bool true)], args := ds })
  (hlaw : ∀ avs, Args T fn.params.toList avs → ACalls P f avs AHeap.nil fun r _ => r = .bool true)
  {W : World} {base : Nat} {args : Array Value} {ds gs : List (DataW H)} {before : List MemPlace} (hval : ∀ (j : Nat) t v, fn.params[j]? = some t → args[j]? = some v → Value.okWide P W .any base t v)
  (hW : DataW.Whole enc P fn.params.toList s.vars false W args.toList ds gs before) : Calls P f args W fun e W' => ∃ v, e = .returned v ∧ s.post enc P fn false true false false W args v W' :=
 law_calls hT hl hvars hres hb (fun t ht => by
  have := List.all_eq_true.1 hp t ht
  simp only [Bool.and_eq_true, decide_eq_true_eq] at this
  exact ⟨this.1.1, this.1.2, this.2⟩) hs (fun avs h _ => hlaw avs h) hval hW
end
end Go.Abs
namespace Go.Proofs.Yteifhcohmipdcaa
open Go.Abs
set_option linter.unusedSimpArgs false
set_option linter.unusedVariables false
theorem len_two {α : Type} {l : List α} (h : l.length = 2) : ∃ a b, l = [a, b] := by
 match l, h with
 | [a, b], _ => exact ⟨a, b, rfl⟩
theorem ty_int {v : AV} (h : TyV TT 3 v) : ∃ n, v = (AV.int IntKind.i64) n := by
 obtain ⟨n, h1, _⟩ := h.int (te := ⟨1, 8, .int .i64, .int .i64 0, none⟩) rfl rfl
 exact ⟨n, h1⟩
theorem ty_str {v : AV} (h : TyV TT 9 v) : ∃ s, v = .str s := by
 obtain ⟨s, h1, _⟩ := h.str (te := ⟨1, 16, .string, .str ByteArray.empty, none⟩) rfl rfl
 exact ⟨s, h1⟩
theorem ty_strs {v : AV} (h : TyV TT 22 v) : ∃ l : List ByteArray, v = .ro (l.map .str) := by
 obtain ⟨es, rfl, _, h2⟩ := h.slice (te := ⟨1, 24, .slice 9, .nils, none⟩) rfl rfl
 obtain ⟨xs, rfl, _⟩ := map_of (enc := AV.str) (Q := fun _ => True) fun x hx => by
  obtain ⟨n, hn⟩ := ty_str (h2 x hx); exact ⟨n, hn, trivial⟩
 exact ⟨xs, rfl⟩
theorem ty_edge {v : AV} (h : TyV TT 39 v) : ∃ e, v = encE e := by
 obtain ⟨cs, rfl, h1, h2⟩ := h.struct (te := ⟨2, 16, .struct [(0, 3), (1, 3)], .agg [.int .i64 0, .int .i64 0], some [.int, .int]⟩) rfl rfl
 obtain ⟨a, b, rfl⟩ := len_two h1
 obtain ⟨x, hx, hxt⟩ := (h2 (0, 3) (by simp) ⟨1, 8, .int .i64, .int .i64 0, none⟩ rfl).cells_one rfl rfl
 obtain ⟨y, hy, hyt⟩ := (h2 (1, 3) (by simp) ⟨1, 8, .int .i64, .int .i64 0, none⟩ rfl).cells_one rfl rfl
 simp at hx hy
 subst hx; subst hy
 obtain ⟨m, rfl⟩ := ty_int hxt
 obtain ⟨n, rfl⟩ := ty_int hyt
 exact ⟨(m, n), rfl⟩
theorem ty_edges {v : AV} (h : TyV TT 23 v) : ∃ l : List (Int × Int), v = .ro (l.map encE) := by
 obtain ⟨es, rfl, _, h2⟩ := h.slice (te := ⟨1, 24, .slice 39, .nils, none⟩) rfl rfl
 obtain ⟨xs, rfl, _⟩ := map_of (enc := encE) (Q := fun _ => True) fun x hx => by
  obtain ⟨n, hn⟩ := ty_edge (h2 x hx); exact ⟨n, hn, trivial⟩
 exact ⟨xs, rfl⟩
theorem ty_graph {v : AV} (h : TyV TT 25 v) : ∃ g, v = encG g := by
 obtain ⟨cs, rfl, h1, h2⟩ := h.struct (te := ⟨2, 48, .struct [(0, 22), (1, 23)], .agg [.nils, .nils], none⟩) rfl rfl
 obtain ⟨a, b, rfl⟩ := len_two h1
 obtain ⟨x, hx, hxt⟩ := (h2 (0, 22) (by simp) ⟨1, 24, .slice 9, .nils, none⟩ rfl).cells_one rfl rfl
 obtain ⟨y, hy, hyt⟩ := (h2 (1, 23) (by simp) ⟨1, 24, .slice 39, .nils, none⟩ rfl).cells_one rfl rfl
 simp at hx hy
 subst hx; subst hy
 obtain ⟨m, rfl⟩ := ty_strs hxt
 obtain ⟨n, rfl⟩ := ty_edges hyt
 exact ⟨⟨m, n⟩, rfl⟩
theorem laid : laidOutB Try.prog = true := by kernel_rfl
theorem own : ownKnob Try.prog.godebug = none := by kernel_rfl
end Go.Proofs.Yteifhcohmipdcaa
