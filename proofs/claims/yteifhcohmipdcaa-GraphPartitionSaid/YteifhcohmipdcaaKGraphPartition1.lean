/-
  The law GraphPartition answers true, whatever the input: part 1. Conditions: none.
-/
import Derived.Test.YteifhcohmipdcaaB5
namespace Go.Proofs.Yteifhcohmipdcaa
open Go.Abs
set_option linter.unusedSimpArgs false
set_option linter.unusedVariables false
theorem awake_ok : Fun1 Try.prog 10 [] (.bool true) := fun1_pure awake0 pu_nil (.bool _)
theorem reach_len (g : Gr) (l : List Int) : (g.reach l).length ≤ g.nodes.length := by
 rw [Gr.reach]; split
 ·exact listUpto_len _ _
 ·exact Nat.zero_le _
end Go.Proofs.Yteifhcohmipdcaa

namespace Go.Proofs.Yteifhcohmipdcaa
open Go.Abs
set_option linter.unusedSimpArgs false
set_option linter.unusedVariables false
theorem any_mem {α : Type} [DecidableEq α] {x : α} {es : List α} : (es.any fun y => decide (x = y)) = decide (x ∈ es) := by
 rw [Bool.eq_iff_iff, List.any_eq_true, decide_eq_true_eq]
 exact ⟨fun ⟨y, h1, h2⟩ => by rw [of_decide_eq_true h2]; exact h1, fun h => ⟨x, h, by simp⟩⟩
set_option maxHeartbeats 1000000 in
theorem indexI0 (es : List Int) (x : Int) (hl : es.length ≤ 1000000) : ACalls Try.prog 36 [.ro (es.map (AV.int .i64)), ((AV.int .i64) x)] AHeap.nil (fun r _ => r = .int .i64 (idxOf (fun y => decide (x = y)) es)) := by
 refine acalls_body TT_ok Try.func36 rfl rfl (by simp [Try.ntmps36]) ?_
 rw [Try.ntmps36]
 obtain ⟨σ, hσ⟩ : ∃ σ, σ = st0 [.ro (es.map (AV.int .i64)), ((AV.int .i64) x)] := ⟨_, rfl⟩
 rw [← hσ]
 obtain ⟨h0_0, h1_0⟩ := fs2 hσ 0 1
 simp [st0] at h0_0 h1_0
 clear hσ
 obtain ⟨H, hH⟩ : ∃ H, H = AHeap.nil := ⟨_, rfl⟩
 rw [← hH]
 have hn_0 : H.n = 0 := by rw [hH]; rfl
 have hst_0 : H.st = 1 := by rw [hH]; rfl
 clear hH
 refine stp_reg TT_ok (by rfl) fun K hK => ?_
 simp []
 try refine And.intro (by first | omega | rfl) ?_
 refine hK _ _ fun σ1 hσ H1 hH => ?_
 clear hK K
 obtain ⟨h0_1, h1_1⟩ := fs2 hσ 0 1
 simp [h0_0, h1_0] at h0_1 h1_1
 clear hσ
 replace hH : H = H1 := Eq.symm hH
 subst hH
 refine awp_seq ?_
 refine stp_reg TT_ok (by rfl) fun K hK => ?_
 simp [h0_1]
 try refine And.intro (by first | omega | rfl) ?_
 refine hK _ _ fun σ2 hσ H2 hH => ?_
 clear hK K
 obtain ⟨h0_2, h1_2, h7_2, h8_2⟩ := fs4 hσ 0 1 7 8
 simp [h0_1, h1_1] at h0_2 h1_2 h7_2 h8_2
 clear hσ
 replace hH : H = H2 := Eq.symm hH
 subst hH
 refine awp_block ?_
 refine awp_loopV (fun n σ' H' => ∃ (i : Nat), n = es.length - i ∧ σ' 0 = σ2 0 ∧ σ' 1 = σ2 1 ∧ σ' 7 = .int .i64 es.length ∧ σ' 8 = .int .i64 i ∧ H' = H ∧ (i ≤ es.length) ∧ ((es.take i).any (fun y => decide (x = y)) = false)) ?_ ?_
 ·refine ⟨_, 0, rfl, rfl, rfl, (by simp [h7_2]), (by simp [h8_2]), rfl, ?_, ?_⟩
  ·first | omega | (simp; done) | assumption
  ·first | omega | (simp; done) | assumption
 ·rintro n1 σ3 H3 ⟨i, hn1, q0_3, q1_3, h7_3, h8_3, hHq, p1, p2⟩
  have h0_3 := q0_3.trans h0_2
  have h1_3 := q1_3.trans h1_2
  replace hHq := hHq.symm
  subst hHq
  refine stp_reg TT_ok (by rfl) fun K hK => ?_
  simp [h7_3, h8_3]
  try refine And.intro (by first | omega | rfl) ?_
  refine hK _ _ fun σ4 hσ H4 hH => ?_
  clear hK K
  obtain ⟨h0_4, h1_4, h7_4, h8_4, h9_4⟩ := fs5 hσ 0 1 7 8 9
  simp [h0_3, h1_3, h7_3, h8_3] at h0_4 h1_4 h7_4 h8_4 h9_4
  clear hσ
  replace hH : H = H4 := Eq.symm hH
  subst hH
  refine awp_seq ?_
  refine awp_cond _ (by simp only [aeval_tmp]; exact h9_4) (fun hc9 => ?_) (fun hc9 => ?_)
  ·try simp at hc9
   have hlt : i < es.length := by simpa using hc9
   have hge : (es.map (AV.int .i64))[i]? = some ((AV.int .i64) es[i]) := by simp [hlt]
   refine awp_skip ?_
   refine q_seq ?_
   refine awp_seq ?_
   refine awp_block ?_
   refine stp_reg TT_ok (by rfl) fun K hK => ?_
   simp [h8_4]
   try refine And.intro (by first | omega | rfl) ?_
   refine hK _ _ fun σ5 hσ H5 hH => ?_
   clear hK K
   obtain ⟨h0_5, h1_5, h5_5, h7_5, h8_5⟩ := fs5 hσ 0 1 5 7 8
   simp [h0_4, h1_4, h7_4, h8_4] at h0_5 h1_5 h5_5 h7_5 h8_5
   clear hσ
   replace hH : H = H5 := Eq.symm hH
   subst hH
   refine stp_reg TT_ok (by rfl) fun K hK => ?_
   simp [h0_5, h1_5, h5_5, hge, hlt]
   try refine And.intro (by first | omega | rfl) ?_
   refine hK _ _ fun σ6 hσ H6 hH => ?_
   clear hK K
   obtain ⟨h0_6, h1_6, h5_6, h7_6, h8_6, h16_6⟩ := fs6 hσ 0 1 5 7 8 16
   simp [h0_5, h1_5, h5_5, h7_5, h8_5] at h0_6 h1_6 h5_6 h7_6 h8_6 h16_6
   clear hσ
   replace hH : H = H6 := Eq.symm hH
   subst hH
   refine awp_cond _ (by simp only [aeval_tmp]; exact h16_6) (fun hc16 => ?_) (fun hc16 => ?_)
   ·try simp at hc16
    skip
    have heq : x = es[i] := by first | exact hc16 | exact Prod.ext hc16.1 hc16.2
    refine stp_reg TT_ok (by rfl) fun K hK => ?_
    simp [h5_6]
    try refine And.intro (by first | omega | rfl) ?_
    refine hK _ _ fun σ7 hσ H7 hH => ?_
    clear hK K
    have h4_7 := congrFun hσ 4
    simp [] at h4_7
    clear hσ
    replace hH : H = H7 := Eq.symm hH
    subst hH
    refine awp_ret ?_
    refine q_block_ret ?_
    refine q_seq_ret ?_
    refine q_loop_ret ?_
    refine q_block_ret ?_
    refine q_seq_ret ?_
    refine q_fin1 h4_7 ?_
    rw [idxOf_at hlt p2 (by simp [heq])]
   ·try simp at hc16
    skip
    have heq : ¬ x = es[i] := by first | exact hc16 | (intro e; rw [e] at hc16; simp at hc16)
    refine awp_skip ?_
    refine q_block ?_
    refine q_seq ?_
    refine stp_regl TT_ok (by rfl) fun K hK => ?_
    simp [h8_6, wrap_ok (n := (i : Int) + 1) (by omega) (by omega)]
    try refine And.intro (by first | omega | rfl) ?_
    refine hK _ _ fun σ8 hσ H8 hH => ?_
    clear hK K
    obtain ⟨h0_8, h1_8, h7_8, h8_8⟩ := fs4 hσ 0 1 7 8
    simp [h0_6, h1_6, h7_6] at h0_8 h1_8 h7_8 h8_8
    clear hσ
    replace hH : H = H8 := Eq.symm hH
    subst hH
    refine ⟨_, ?_, i + 1, rfl, (h0_8.trans h0_2.symm), (h1_8.trans h1_2.symm), (by simp [h7_8]), (by simp [h8_8]), rfl, ?_, ?_⟩
    ·subst hn1; omega
    ·first | omega | assumption | (simp; done)
    ·exact any_take_succ hlt p2 (by simp [heq])
  ·try simp at hc9
   refine awp_exit ?_
   refine q_seq_exit ?_
   refine q_loop_exit ?_
   refine q_block_hit ?_
   refine q_seq ?_
   refine stp_reg TT_ok (by rfl) fun K hK => ?_
   simp []
   try refine And.intro (by first | omega | rfl) ?_
   refine hK _ _ fun σ9 hσ H9 hH => ?_
   clear hK K
   have h4_9 := congrFun hσ 4
   simp [] at h4_9
   clear hσ
   replace hH : H = H9 := Eq.symm hH
   subst hH
   refine awp_ret ?_
   refine q_fin1 h4_9 ?_
   have : i = es.length := by have := hc9; omega
   subst this
   rw [List.take_length] at p2
   rw [idxOf_none p2]
theorem indexI_w (es : List Int) (x : Int) (hl : es.length ≤ 1000000) : FunW Try.prog 36 [.ro (es.map (AV.int .i64)), (AV.int .i64) x] (.int .i64 (idxOf (fun y => decide (x = y)) es)) :=
 funW_pure (indexI0 es x hl) (pu_cons (.ro fun v hv => by obtain ⟨x, _, rfl⟩ := List.mem_map.1 hv; exact pu_int _ _) (pu_cons (pu_int _ _) pu_nil)) (.int _ _) (.int _ _)
set_option maxHeartbeats 1000000 in
theorem containsI0 (es : List Int) (x : Int) (hl : es.length ≤ 1000000) : ACalls Try.prog 32 [.ro (es.map (AV.int .i64)), ((AV.int .i64) x)] AHeap.nil (fun r _ => r = .bool (decide (x ∈ es))) := by
 refine acalls_body TT_ok Try.func32 rfl rfl (by simp [Try.ntmps32]) ?_
 rw [Try.ntmps32]
 obtain ⟨σ, hσ⟩ : ∃ σ, σ = st0 [.ro (es.map (AV.int .i64)), ((AV.int .i64) x)] := ⟨_, rfl⟩
 rw [← hσ]
 obtain ⟨h0_0, h1_0⟩ := fs2 hσ 0 1
 simp [st0] at h0_0 h1_0
 clear hσ
 obtain ⟨H, hH⟩ : ∃ H, H = AHeap.nil := ⟨_, rfl⟩
 rw [← hH]
 have hn_0 : H.n = 0 := by rw [hH]; rfl
 have hst_0 : H.st = 1 := by rw [hH]; rfl
 clear hH
 refine stp_reg TT_ok (by rfl) fun K hK => ?_
 simp []
 try refine And.intro (by first | omega | rfl) ?_
 refine hK _ _ fun σ1 hσ H1 hH => ?_
 clear hK K
 obtain ⟨h0_1, h1_1⟩ := fs2 hσ 0 1
 simp [h0_0, h1_0] at h0_1 h1_1
 clear hσ
 replace hH : H = H1 := Eq.symm hH
 subst hH
 refine stp_reg TT_ok (by rfl) fun K hK => ?_
 simp [h0_1, h1_1]
 try refine And.intro (by first | omega | rfl) ?_
 refine FunW.at (indexI_w es x hl) ?hf ?_
 case hf => exact FrzL.cons (.pure (.ro fun v hv => by obtain ⟨x, _, rfl⟩ := List.mem_map.1 hv; exact pu_int _ _)) (FrzL.cons (.pure (pu_int _ _)) (FrzL.nil _))
 simp [h0_1, h1_1]
 try refine And.intro (by first | omega | rfl) ?_
 refine hK _ _ fun σ2 hσ H2 hH => ?_
 clear hK K
 have h4_2 := congrFun hσ 4
 simp [] at h4_2
 clear hσ
 replace hH : H = H2 := Eq.symm hH
 subst hH
 refine awp_ret ?_
 refine q_fin1 h4_2 ?_
 first | (rw [idxOf_nonneg, any_mem]; done) | (rw [idxOf_nonneg, any_mem]; congr)
theorem containsI_w (es : List Int) (x : Int) (hl : es.length ≤ 1000000) : FunW Try.prog 32 [.ro (es.map (AV.int .i64)), (AV.int .i64) x] (.bool (decide (x ∈ es))) :=
 funW_pure (containsI0 es x hl) (pu_cons (.ro fun v hv => by obtain ⟨x, _, rfl⟩ := List.mem_map.1 hv; exact pu_int _ _) (pu_cons (pu_int _ _) pu_nil)) (.bool _) (.bool _)
end Go.Proofs.Yteifhcohmipdcaa

namespace Go.Proofs.Yteifhcohmipdcaa
open Go.Abs
set_option linter.unusedSimpArgs false
set_option linter.unusedVariables false
def Gr.lst (g : Gr) (i kk : Nat) : Nat := ((List.range' kk (g.nodes.length - kk)).find? fun k => g.both i k).getD i
def Gr.grpL (g : Gr) (i : Nat) : List Int := (List.range i).map fun v : Nat => (g.grp v : Int)
end Go.Proofs.Yteifhcohmipdcaa

namespace Go.Proofs.Yteifhcohmipdcaa
open Go.Abs
set_option linter.unusedSimpArgs false
set_option linter.unusedVariables false
theorem filter_lt {α : Type} {p q : α → Bool} : ∀ {l : List α}, (∀ x ∈ l, p x = true → q x = true) → ∀ {y : α}, y ∈ l → q y = true → p y = false → (l.filter p).length < (l.filter q).length
 | [], _, y, hy, _, _ => by cases hy
 | a :: l, h, y, hy, hq, hp => by
  have hle : ∀ {l : List α}, (∀ x ∈ l, p x = true → q x = true) → (l.filter p).length ≤ (l.filter q).length := by
   intro l
   induction l with
   | nil => intro _; exact Nat.le_refl _
   | cons b l ih =>
    intro h
    have h1 := ih fun x hx => h x (List.mem_cons_of_mem _ hx)
    have h2 := h b (List.mem_cons_self ..)
    simp only [List.filter_cons]
    cases hb : p b with
    | false => cases hb2 : q b <;> simp <;> omega
    | true => rw [h2 hb]; simp; omega
  simp only [List.filter_cons]
  rcases List.mem_cons.1 hy with rfl | hy2
  ·rw [hq, hp]
   have := hle fun x hx => h x (List.mem_cons_of_mem _ hx)
   simp; omega
  ·have := filter_lt (fun x hx => h x (List.mem_cons_of_mem _ hx)) hy2 hq hp
   have h2 := h a (List.mem_cons_self ..)
   cases hb : p a with
   | false => cases hb2 : q a <;> simp <;> omega
   | true => rw [h2 hb]; simp; omega
def Progress (ss : List (List Int)) : Prop := ∀ l : List Int, (∃ k : Nat, k < ss.length ∧ (k : Int) ∉ l) → ∃ k : Nat, k < ss.length ∧ readyAt ss l k = true
theorem readyAt_not {ss : List (List Int)} {l : List Int} {k : Nat} (h : readyAt ss l k = true) : (k : Int) ∉ l := by
 simp only [readyAt, Bool.and_eq_true, Bool.not_eq_true', decide_eq_false_iff_not] at h; exact h.1
theorem pickN_spec {ss : List (List Int)} {l : List Int} (h : ∃ k : Nat, k < ss.length ∧ readyAt ss l k = true) : pickN ss l < ss.length ∧ readyAt ss l (pickN ss l) = true ∧ ∀ k, k < pickN ss l → readyAt ss l k = false := by
 obtain ⟨k, hk, hr⟩ := h
 cases hf : (List.range ss.length).find? (readyAt ss l) with
 | none => have := List.find?_eq_none.1 hf k (List.mem_range.2 hk); rw [hr] at this; simp at this
 | some i =>
  have he : pickN ss l = i := by rw [pickN, hf]; rfl
  have h2 := List.find?_range_eq_some.1 hf
  rw [he]
  exact ⟨List.mem_range.1 h2.2.1, h2.1, fun k hk => by have := h2.2.2 k hk; simpa using this⟩
theorem lacks {n : Nat} {l : List Int} (h : l.length < n) : ∃ k : Nat, k < n ∧ (k : Int) ∉ l := by
 rcases Classical.em (∃ k : Nat, k < n ∧ (k : Int) ∉ l) with h1 | h1
 ·exact h1
 ·exfalso
  have hall : ∀ k : Nat, k < n → (k : Int) ∈ l := fun k hk => Classical.byContradiction fun h2 => h1 ⟨k, hk, h2⟩
  have hsub : (List.range n).map (fun k : Nat => (k : Int)) ⊆ l := by
   intro x hx
   obtain ⟨k, hk, rfl⟩ := List.mem_map.1 hx
   exact hall k (List.mem_range.1 hk)
  have hnd : ((List.range n).map (fun k : Nat => (k : Int))).Nodup := by
   rw [List.nodup_iff_pairwise_ne, List.pairwise_map]
   exact (List.nodup_iff_pairwise_ne.1 List.nodup_range).imp fun h e => h (by omega)
  have := hnd.length_le_of_subset hsub
  simp at this; omega
structure ListedOk (ss : List (List Int)) (j : Nat) : Prop where
 nodup : (listedL ss j).Nodup
 inn : ∀ x ∈ listedL ss j, inR ss.length x
 ready : ∀ i, i < j → readyAt ss (listedL ss i) (pickN ss (listedL ss i)) = true
theorem listed_pick {ss : List (List Int)} (hp : Progress ss) {j : Nat} (h : j < ss.length) : pickN ss (listedL ss j) < ss.length ∧ readyAt ss (listedL ss j) (pickN ss (listedL ss j)) = true ∧ ∀ k, k < pickN ss (listedL ss j) → readyAt ss (listedL ss j) k = false :=
 pickN_spec (hp _ (lacks (by rw [listed_len]; exact h)))
theorem listed_ok2 {ss : List (List Int)} (hp : Progress ss) : ∀ {j : Nat}, j ≤ ss.length → ListedOk ss j
 | 0, _ => ⟨by simp [listedL], fun x hx => by simp [listedL] at hx, fun i hi => by omega⟩
 | j + 1, h => by
  have ih := listed_ok2 hp (j := j) (by omega)
  obtain ⟨h1, h2, h3⟩ := listed_pick hp (j := j) (by omega)
  have hn := readyAt_not h2
  refine ⟨?_, listed_in h, fun i hi => ?_⟩
  ·rw [listedL, List.nodup_append]
   exact ⟨ih.nodup, by simp, fun a ha b hb => by simp at hb; subst hb; intro e; subst e; exact hn ha⟩
  ·by_cases e : i = j
   ·subst e; exact h2
   ·exact ih.ready i (by omega)
theorem listed_all {ss : List (List Int)} (hp : Progress ss) : ∀ k : Nat, k < ss.length → (k : Int) ∈ listedL ss ss.length := by
 intro k hk
 have h := listed_ok2 hp (Nat.le_refl ss.length)
 rcases Classical.em ((k : Int) ∈ listedL ss ss.length) with h1 | h1
 ·exact h1
 ·exfalso
  have hnd : ((k : Int) :: listedL ss ss.length).Nodup := List.nodup_cons.2 ⟨h1, h.nodup⟩
  have hsub : ((k : Int) :: listedL ss ss.length) ⊆ (List.range ss.length).map (fun k : Nat => (k : Int)) := by
   intro x hx
   have hx2 : inR ss.length x := by
    rcases List.mem_cons.1 hx with rfl | hx
    ·exact ⟨by omega, by omega⟩
    ·exact h.inn x hx
   exact List.mem_map.2 ⟨x.toNat, List.mem_range.2 (in_toNat hx2), toNat_cast hx2⟩
  have := hnd.length_le_of_subset hsub
  rw [List.length_cons, listed_len, List.length_map, List.length_range] at this
  omega
def Gr.reachN (g : Gr) (r : Nat) : Nat := ((List.range g.nodes.length).filter fun v => (g.marks [(r : Int)]).getD v false).length
theorem ready_iff {g : Gr} (hv : g.valid = true) {l : List Int} {r : Nat} (hr : r < g.nodes.length) (hg : g.grp r = r) :
  readyAt g.cedges l (g.rank r) = true ↔ (g.rank r : Int) ∉ l ∧ ∀ a b : Int, (a, b) ∈ g.edges → g.grp a.toNat = r → ¬ g.grp b.toNat = r → (g.rank (g.grp b.toNat) : Int) ∈ l := by
 have hce : g.cedges.getD (g.rank r) [] = g.ceR g.nodes.length r := by
  have := ceU_get (g := g) (i := g.nodes.length) hv hr
  rw [hg] at this
  rw [List.getD_eq_getElem?_getD, Gr.cedges, this]; rfl
 simp only [readyAt, Bool.and_eq_true, Bool.not_eq_true', decide_eq_false_iff_not, hce, List.all_eq_true, decide_eq_true_eq]
 refine and_congr_right fun _ => ⟨fun h a b he ha hb => ?_, fun h x hx => ?_⟩
 ·have hea := (valid_edge hv he).1
  exact h _ (ceR_mem.2 ⟨a.toNat, in_toNat hea, ha, b, (succ_mem hv).2 (by rw [toNat_cast hea]; exact he), by rw [ha]; exact hb, rfl⟩)
 ·obtain ⟨u, h1, h2, k, h3, h4, rfl⟩ := ceR_mem.1 hx
  exact h u k ((succ_mem hv).1 h3) (by simpa using h2) (by rw [h2] at h4; exact h4)
theorem comps_progress {g : Gr} (hv : g.valid = true) : Progress g.cedges := by
 intro l hl
 have key : ∀ (n r : Nat), g.reachN r ≤ n → r < g.nodes.length → g.grp r = r → (g.rank r : Int) ∉ l → ∃ k : Nat, k < g.cedges.length ∧ readyAt g.cedges l k = true := by
  intro n
  induction n with
  | zero =>
   intro r h hr _ _
   have hself := (marks_R hv hr hr).2 (.refl g _)
   have : r ∈ (List.range g.nodes.length).filter fun v => (g.marks [(r : Int)]).getD v false := List.mem_filter.2 ⟨List.mem_range.2 hr, hself⟩
   have := List.length_pos_of_mem this
   simp only [Gr.reachN] at h; omega
  | succ n ih =>
   intro r h hr hg hn
   rcases Classical.em (readyAt g.cedges l (g.rank r) = true) with h1 | h1
   ·exact ⟨g.rank r, by rw [cedges_len]; exact rank_lt hr hg, h1⟩
   ·have h2 : ∃ a b : Int, (a, b) ∈ g.edges ∧ g.grp a.toNat = r ∧ ¬ g.grp b.toNat = r ∧ (g.rank (g.grp b.toNat) : Int) ∉ l := by
     rcases Classical.em (∃ a b : Int, (a, b) ∈ g.edges ∧ g.grp a.toNat = r ∧ ¬ g.grp b.toNat = r ∧ (g.rank (g.grp b.toNat) : Int) ∉ l) with h3 | h3
     ·exact h3
     ·exfalso
      exact h1 ((ready_iff hv hr hg).2 ⟨hn, fun a b he ha hb => Classical.byContradiction fun h4 => h3 ⟨a, b, he, ha, hb, h4⟩⟩)
    obtain ⟨a, b, he, ha, hb, hnb⟩ := h2
    obtain ⟨har, hbr⟩ := valid_edge hv he
    have hga := grp_spec hv (in_toNat har)
    have hgb := grp_spec hv (in_toNat hbr)
    have hRab : g.R r (g.grp b.toNat) := by
     have h5 : g.R r a := by have := hga.2.2.2.1; rw [ha, toNat_cast har] at this; exact this
     have h6 : g.R b (g.grp b.toNat) := by have := hgb.2.2.1; rw [toNat_cast hbr] at this; exact this
     exact (h5.trans (.edge he)).trans h6
    have hnot : ¬ g.R (g.grp b.toNat) r := fun h7 => by
     have h8 := (grp_eq hv hr hgb.2.1).2 ⟨hRab, h7⟩
     rw [hg, grp_grp hv (in_toNat hbr)] at h8
     exact hb h8.symm
    refine ih (g.grp b.toNat) ?_ hgb.2.1 (grp_grp hv (in_toNat hbr)) hnb
    have : g.reachN (g.grp b.toNat) < g.reachN r := by
     refine filter_lt (fun v hv2 h9 => ?_) (List.mem_range.2 hr) ((marks_R hv hr hr).2 (.refl g _)) ?_
     ·have hvn := List.mem_range.1 hv2
      exact (marks_R hv hr hvn).2 (hRab.trans ((marks_R hv hgb.2.1 hvn).1 h9))
     ·rw [Bool.eq_false_iff]
      exact fun h9 => hnot ((marks_R hv hgb.2.1 hr).1 h9)
    omega
 obtain ⟨k, hk, hkn⟩ := hl
 rw [cedges_len] at hk
 have hkr : (g.reps g.nodes.length)[k]? = some (g.reps g.nodes.length)[k] := List.getElem?_eq_getElem hk
 obtain ⟨hr1, hr2⟩ := reps_mem.1 (List.getElem_mem hk)
 have hrk : g.rank (g.reps g.nodes.length)[k] = k := by
  have h2 := reps_rank hr1 hr2
  have hnd : (g.reps g.nodes.length).Nodup := (List.nodup_range).filter _
  exact (List.getElem?_inj (rank_lt hr1 hr2) hnd).1 (h2.trans hkr.symm)
 exact key _ _ (Nat.le_refl _) hr1 hr2 (by rw [hrk]; exact hkn)
end Go.Proofs.Yteifhcohmipdcaa

namespace Go.Proofs.Yteifhcohmipdcaa
open Go.Abs
set_option linter.unusedSimpArgs false
set_option linter.unusedVariables false
theorem listUpto_mem {bs : List Bool} {n : Nat} {x : Int} : x ∈ listUpto bs n ↔ ∃ i : Nat, i < n ∧ bs[i]? = some true ∧ x = i := by
 simp only [listUpto, List.mem_map, List.mem_filter, List.mem_range]
 constructor
 ·rintro ⟨i, ⟨h1, h2⟩, rfl⟩; exact ⟨i, h1, getD_true.1 h2, rfl⟩
 ·rintro ⟨i, h1, h2, rfl⟩; exact ⟨i, ⟨h1, getD_true.2 h2⟩, rfl⟩
theorem reach_mem {g : Gr} (hv : g.valid = true) {l : List Int} (hl : ∀ x ∈ l, inR g.nodes.length x) {x : Int} : x ∈ g.reach l ↔ g.Reach l x := by
 rw [Gr.reach, if_pos (exist_iff.2 ⟨hl, hv⟩), listUpto_mem]
 have hm := marks_is hv hl
 constructor
 ·rintro ⟨i, h1, h2, rfl⟩; exact (hm.iff i h1).1 h2
 ·intro h
  have hr := h.inR hv hl
  exact ⟨x.toNat, in_toNat hr, (hm.iff _ (in_toNat hr)).2 (by rw [toNat_cast hr]; exact h), (toNat_cast hr).symm⟩
abbrev TT_ : Int → Prop := fun _ => True
theorem Gr.Walk.reach {g : Gr} {to v : Int} {k : Nat} (h : g.Walk TT_ to k v) {l : List Int} (hl : g.Reach l v) : g.Reach l to := by
 induction h with
 | nil => exact hl
 | cons h1 _ _ ih => exact ih (hl.step h1)
def lenL (g : Gr) (a : Int) (i : Nat) : List Int := (List.range g.nodes.length).map fun j : Nat => if j < i then ((g.path a j).length : Int) else 0
end Go.Proofs.Yteifhcohmipdcaa

namespace Go.Proofs.Yteifhcohmipdcaa
open Go.Abs
set_option linter.unusedSimpArgs false
set_option linter.unusedVariables false
theorem idxOf_lt_of_take {l : List Int} {a : Int} {j : Nat} (h : a ∈ l.take j) : l.idxOf a < j := by
 have h1 := List.idxOf_lt_length_of_mem h
 have h2 : (l.take j ++ l.drop j).idxOf a = (l.take j).idxOf a := by rw [List.idxOf_append, if_pos h]
 rw [List.take_append_drop] at h2
 rw [h2]
 rw [List.length_take] at h1
 omega
theorem listedL_take (ss : List (List Int)) : ∀ (m j : Nat), j ≤ m → (listedL ss m).take j = listedL ss j
 | 0, j, h => by
  obtain rfl : j = 0 := by omega
  rfl
 | m + 1, j, h => by
  by_cases hj : j = m + 1
  ·subst hj; rw [List.take_of_length_le (by rw [listed_len]; omega)]
  ·rw [listedL, List.take_append_of_le_length (by rw [listed_len]; omega)]
   exact listedL_take ss m j (by omega)
theorem listedL_get (ss : List (List Int)) {m j : Nat} (h : j < m) : (listedL ss m)[j]? = some (pickN ss (listedL ss j) : Int) := by
 have h1 := listedL_take ss m (j + 1) (by omega)
 have h2 : ((listedL ss m).take (j + 1))[j]? = (listedL ss m)[j]? := by rw [List.getElem?_take, if_pos (by omega)]
 rw [← h2, h1, listedL, List.getElem?_append_right (by rw [listed_len]; omega), listed_len, Nat.sub_self]; rfl
theorem listed_before {ss : List (List Int)} (hp : Progress ss) {k x : Nat} (hk : k < ss.length) (hx : (x : Int) ∈ ss.getD k []) : (listedL ss ss.length).idxOf (x : Int) < (listedL ss ss.length).idxOf (k : Int) := by
 have hok := listed_ok2 hp (Nat.le_refl ss.length)
 have hm := listed_all hp k hk
 have hlt := List.idxOf_lt_length_of_mem hm
 rw [listed_len] at hlt
 obtain ⟨j, hj⟩ : ∃ j, (listedL ss ss.length).idxOf (k : Int) = j := ⟨_, rfl⟩
 have hg : (listedL ss ss.length)[j]? = some (k : Int) := by
  rw [← hj, List.getElem?_eq_getElem (by rw [listed_len]; exact hlt), List.getElem_idxOf]
 rw [hj] at hlt ⊢
 rw [listedL_get ss hlt] at hg
 have hpk : pickN ss (listedL ss j) = k := by have := Option.some.inj hg; omega
 have hr := hok.ready j hlt
 rw [hpk] at hr
 simp only [readyAt, Bool.and_eq_true, List.all_eq_true, decide_eq_true_eq] at hr
 have hxm := hr.2 _ hx
 rw [← listedL_take ss ss.length j (by omega)] at hxm
 exact idxOf_lt_of_take hxm
def Gr.cpos (g : Gr) (v : Nat) : Nat := g.order.idxOf (g.rank (g.grp v) : Int)
theorem grp_lt {g : Gr} (hv : g.valid = true) {v : Nat} (h : v < g.nodes.length) : g.grp v < g.nodes.length := (grp_spec hv h).2.1
theorem rank_in {g : Gr} (hv : g.valid = true) {v : Nat} (h : v < g.nodes.length) : g.rank (g.grp v) < g.cedges.length := by
 rw [cedges_len]; exact rank_lt (grp_lt hv h) (grp_grp hv h)
theorem order_all {g : Gr} (hv : g.valid = true) {v : Nat} (h : v < g.nodes.length) : (g.rank (g.grp v) : Int) ∈ g.order := listed_all (comps_progress hv) _ (rank_in hv h)
theorem order_nodup {g : Gr} (hv : g.valid = true) : g.order.Nodup := (listed_ok2 (comps_progress hv) (Nat.le_refl _)).nodup
theorem cpos_lt {g : Gr} (hv : g.valid = true) {v : Nat} (h : v < g.nodes.length) : g.cpos v < g.order.length := List.idxOf_lt_length_of_mem (order_all hv h)
theorem cpos_get {g : Gr} (hv : g.valid = true) {v : Nat} (h : v < g.nodes.length) : g.order[g.cpos v]'(cpos_lt hv h) = (g.rank (g.grp v) : Int) := List.getElem_idxOf _
theorem cpos_inj {g : Gr} (hv : g.valid = true) {u v : Nat} (hu : u < g.nodes.length) (h : v < g.nodes.length) : g.cpos u = g.cpos v ↔ g.grp u = g.grp v := by
 constructor
 ·intro e
  have h1 := cpos_get hv hu
  have h2 := cpos_get hv h
  simp only [e] at h1
  rw [h1] at h2
  exact rank_inj (grp_grp hv hu) (grp_grp hv h) (by omega)
 ·intro e; rw [Gr.cpos, Gr.cpos, e]
theorem gcomps_len {g : Gr} (hv : g.valid = true) : g.gcomps.length = g.order.length := by rw [Gr.gcomps, if_pos hv, List.length_map]
theorem gcomps_get {g : Gr} (hv : g.valid = true) {i : Nat} (h : i < g.order.length) : ∃ r, r < g.nodes.length ∧ g.grp r = r ∧ g.order[i] = (g.rank r : Int) ∧ g.gcomps[i]? = some (g.mem g.nodes.length r) := by
 have hin := order_in g (g.order[i]) (List.getElem_mem h)
 have hk : (g.order[i]).toNat < (g.reps g.nodes.length).length := by
  have := in_toNat hin; rw [comps_len] at this; exact this
 obtain ⟨k, hke⟩ : ∃ k : Nat, (g.order[i]).toNat = k := ⟨_, rfl⟩
 rw [hke] at hk
 obtain ⟨r, hr⟩ : ∃ r, (g.reps g.nodes.length)[k] = r := ⟨_, rfl⟩
 have hrm : r ∈ g.reps g.nodes.length := by rw [← hr]; exact List.getElem_mem hk
 obtain ⟨h1, h2⟩ := reps_mem.1 hrm
 have h3 := reps_rank h1 h2
 have hnd : (g.reps g.nodes.length).Nodup := List.filter_sublist.nodup List.nodup_range
 have hrk : g.rank r = k := by
  have h4 : (g.reps g.nodes.length)[k]? = some r := by rw [List.getElem?_eq_getElem hk, hr]
  exact (List.getElem?_inj (List.getElem?_eq_some_iff.1 h3).1 hnd).1 (h3.trans h4.symm)
 refine ⟨r, h1, h2, by rw [hrk, ← hke, Int.toNat_of_nonneg hin.1], ?_⟩
 rw [Gr.gcomps, if_pos hv, List.getElem?_map, List.getElem?_eq_getElem h]
 simp only [Option.map_some, hke]
 rw [Gr.comps, Gr.ndL, List.getD_eq_getElem?_getD, List.getElem?_map, List.getElem?_eq_getElem hk, hr]; rfl
theorem mem_mem {g : Gr} {n r : Nat} {x : Int} : x ∈ g.mem n r ↔ ∃ v : Nat, v < n ∧ g.grp v = r ∧ x = v := by
 simp only [Gr.mem, List.mem_map, List.mem_filter, List.mem_range, decide_eq_true_eq]
 constructor
 ·rintro ⟨v, ⟨h1, h2⟩, rfl⟩; exact ⟨v, h1, h2, rfl⟩
 ·rintro ⟨v, h1, h2, rfl⟩; exact ⟨v, ⟨h1, h2⟩, rfl⟩
theorem mem_sorted (g : Gr) (n r : Nat) : (g.mem n r).Pairwise (· < ·) := by
 rw [Gr.mem, List.pairwise_map]
 exact (List.pairwise_lt_range.filter _).imp fun h => by omega
theorem comp_mem {g : Gr} (hv : g.valid = true) {i v : Nat} (hi : i < g.order.length) (h : v < g.nodes.length) : (v : Int) ∈ g.gcomps.getD i [] ↔ g.cpos v = i := by
 obtain ⟨r, h1, h2, h3, h4⟩ := gcomps_get hv hi
 rw [List.getD_eq_getElem?_getD, h4, Option.getD_some, mem_mem]
 constructor
 ·rintro ⟨u, _, h5, h6⟩
  obtain rfl : u = v := by omega
  rw [Gr.cpos, h5, ← h3]
  exact (order_nodup hv).idxOf_getElem i hi
 ·intro e
  refine ⟨v, h, ?_, rfl⟩
  have h5 := cpos_get hv h
  simp only [e] at h5
  rw [h3] at h5
  exact rank_inj (grp_grp hv h) h2 (by omega)
theorem comp_in {g : Gr} (hv : g.valid = true) {i : Nat} (hi : i < g.order.length) {x : Int} (hx : x ∈ g.gcomps.getD i []) : inR g.nodes.length x := by
 obtain ⟨r, h1, h2, h3, h4⟩ := gcomps_get hv hi
 rw [List.getD_eq_getElem?_getD, h4, Option.getD_some, mem_mem] at hx
 obtain ⟨v, hv, _, rfl⟩ := hx
 exact ⟨by omega, by omega⟩
theorem comp_sorted {g : Gr} (hv : g.valid = true) {i : Nat} (hi : i < g.order.length) : (g.gcomps.getD i []).Pairwise (· < ·) := by
 obtain ⟨r, h1, h2, h3, h4⟩ := gcomps_get hv hi
 rw [List.getD_eq_getElem?_getD, h4, Option.getD_some]; exact mem_sorted ..
theorem comp_ne {g : Gr} (hv : g.valid = true) {i : Nat} (hi : i < g.order.length) : ¬ g.gcomps.getD i [] = [] := by
 obtain ⟨r, h1, h2, h3, h4⟩ := gcomps_get hv hi
 rw [List.getD_eq_getElem?_getD, h4, Option.getD_some]
 intro e
 have : (r : Int) ∈ g.mem g.nodes.length r := mem_mem.2 ⟨r, h1, h2, rfl⟩
 rw [e] at this; cases this
theorem edge_cpos {g : Gr} (hv : g.valid = true) {u w : Int} (he : (u, w) ∈ g.edges) : g.cpos w.toNat ≤ g.cpos u.toNat := by
 obtain ⟨hu, hw⟩ := valid_edge hv he
 by_cases e : g.grp u.toNat = g.grp w.toNat
 ·rw [Gr.cpos, Gr.cpos, e]; exact Nat.le_refl _
 ·have hcu : (g.rank (g.grp w.toNat) : Int) ∈ g.cedges.getD (g.rank (g.grp u.toNat)) [] := by
   have h1 := ceU_get hv (i := g.nodes.length) (in_toNat hu)
   rw [Gr.cedges, List.getD_eq_getElem?_getD, h1, Option.getD_some, ceR_mem]
   refine ⟨u.toNat, in_toNat hu, rfl, w, (succ_mem hv).2 (by rw [toNat_cast hu]; exact he), fun h => e h.symm, rfl⟩
  exact Nat.le_of_lt (listed_before (comps_progress hv) (rank_in hv (in_toNat hu)) hcu)
def atL (g : Gr) (i j : Nat) : List Int := (List.range g.nodes.length).map fun v : Nat => if g.cpos v < i ∨ (g.cpos v = i ∧ (v : Int) ∈ (g.gcomps.getD i []).take j) then (g.cpos v : Int) + 1 else 0
theorem atL_len (g : Gr) (i j : Nat) : (atL g i j).length = g.nodes.length := by simp [atL]
theorem atL_zero (g : Gr) : atL g 0 0 = List.replicate g.nodes.length 0 := by
 refine List.ext_getElem (by simp [atL]) fun i h1 h2 => by simp [atL]
theorem atL_get {g : Gr} {i j v : Nat} {h : v < (atL g i j).length} : (atL g i j)[v] = if g.cpos v < i ∨ (g.cpos v = i ∧ (v : Int) ∈ (g.gcomps.getD i []).take j) then (g.cpos v : Int) + 1 else 0 := by simp [atL]
theorem atL_next {g : Gr} (hv : g.valid = true) {i : Nat} (hi : i < g.order.length) : atL g i (g.gcomps.getD i []).length = atL g (i + 1) 0 := by
 refine List.ext_getElem (by simp [atL]) fun v h1 h2 => ?_
 have hvn : v < g.nodes.length := by rw [atL_len] at h1; exact h1
 have hm := comp_mem hv hi hvn
 rw [atL_get, atL_get, List.take_length]
 simp only [hm]
 by_cases h : g.cpos v < i + 1
 ·rw [if_pos (by omega), if_pos (.inl h)]
 ·rw [if_neg (by omega), if_neg (by rintro (h5 | ⟨_, h5⟩); exact h h5; simp at h5)]
theorem atL_fresh {g : Gr} (hv : g.valid = true) {i j : Nat} (hi : i < g.order.length) {x : Int} (hx : (g.gcomps.getD i [])[j]? = some x) : (atL g i j)[x.toNat]? = some 0 ∧ (atL g i j).set x.toNat ((i : Int) + 1) = atL g i (j + 1) := by
 have hjl := (List.getElem?_eq_some_iff.1 hx).1
 have hxm := List.mem_of_getElem? hx
 have hr := comp_in hv hi hxm
 have hc : g.cpos x.toNat = i := (comp_mem hv hi (in_toNat hr)).1 (by rw [toNat_cast hr]; exact hxm)
 have hnd : (g.gcomps.getD i []).Nodup := (comp_sorted hv hi).imp fun h => by omega
 have hnt : x ∉ (g.gcomps.getD i []).take j := by
  intro h
  obtain ⟨q, hq, he⟩ := List.mem_take_iff_getElem.1 h
  have h2 : (g.gcomps.getD i [])[q]? = some x := by rw [List.getElem?_eq_getElem (by omega), he]
  have hq2 : q < (g.gcomps.getD i []).length := (List.getElem?_eq_some_iff.1 h2).1
  have := (List.getElem?_inj hq2 hnd).1 (h2.trans hx.symm)
  omega
 have hlen : x.toNat < (atL g i j).length := by rw [atL_len]; exact in_toNat hr
 constructor
 ·rw [List.getElem?_eq_getElem hlen, atL_get, toNat_cast hr, if_neg]
  rintro (h | ⟨_, h⟩)
  ·omega
  ·exact hnt h
 ·refine List.ext_getElem (by simp [atL]) fun v h1 h2 => ?_
  have hvn : v < g.nodes.length := by rw [atL_len] at h2; exact h2
  rw [List.getElem_set, atL_get]
  split
  ·rename_i e
   subst e
   rw [atL_get, toNat_cast hr, if_pos (.inr ⟨hc, List.mem_take_iff_getElem.2 ⟨j, by omega, (List.getElem?_eq_some_iff.1 hx).2⟩⟩), hc]
  ·rename_i e
   rw [atL_get]
   have : (v : Int) ∈ (g.gcomps.getD i []).take (j + 1) ↔ (v : Int) ∈ (g.gcomps.getD i []).take j := by
    rw [List.take_add_one, hx]
    simp only [Option.toList_some, List.mem_append, List.mem_singleton]
    constructor
    ·rintro (h | h)
     ·exact h
     ·exfalso; apply e; rw [← h]; rfl
    ·exact Or.inl
   simp only [this]
theorem atL_full {g : Gr} (hv : g.valid = true) {v : Nat} (hvn : v < g.nodes.length) {h : v < (atL g g.order.length 0).length} : (atL g g.order.length 0)[v] = (g.cpos v : Int) + 1 := by
 rw [atL_get, if_pos (.inl (cpos_lt hv hvn))]
theorem atL_full' {g : Gr} (hv : g.valid = true) {x : Int} (hx : inR g.nodes.length x) {h : x.toNat < (atL g g.order.length 0).length} : (atL g g.order.length 0)[x.toNat] = (g.cpos x.toNat : Int) + 1 := atL_full hv (in_toNat hx)
theorem both_cpos {g : Gr} (hv : g.valid = true) {u v : Nat} (hu : u < g.nodes.length) (h : v < g.nodes.length) : g.cpos u = g.cpos v ↔ ((v : Int) ∈ g.reach [(u : Int)] ∧ (u : Int) ∈ g.reach [(v : Int)]) := by
 rw [cpos_inj hv hu h, grp_eq hv hu h, reach_mem hv (fun x hx => by simp at hx; subst hx; exact ⟨by omega, by omega⟩), reach_mem hv (fun x hx => by simp at hx; subst hx; exact ⟨by omega, by omega⟩)]
 exact Iff.rfl
end Go.Proofs.Yteifhcohmipdcaa

namespace Go.Proofs.Yteifhcohmipdcaa
open Go.Abs
set_option linter.unusedSimpArgs false
set_option linter.unusedVariables false
set_option maxHeartbeats 1000000 in
theorem isNaN0 (x : Int) : ACalls Try.prog 70 [(AV.int IntKind.i64) x] AHeap.nil (fun r _ => r = .bool false) := by
 refine acalls_body TT_ok Try.func70 rfl rfl (by simp [Try.ntmps70]) ?_
 rw [Try.ntmps70]
 obtain ⟨σ, hσ⟩ : ∃ σ, σ = st0 [(AV.int IntKind.i64) x] := ⟨_, rfl⟩
 rw [← hσ]
 have h0_0 := congrFun hσ 0
 simp [st0] at h0_0
 clear hσ
 obtain ⟨H, hH⟩ : ∃ H, H = AHeap.nil := ⟨_, rfl⟩
 rw [← hH]
 have hn_0 : H.n = 0 := by rw [hH]; rfl
 have hst_0 : H.st = 1 := by rw [hH]; rfl
 clear hH
 refine stp_reg TT_ok (by rfl) fun K hK => ?_
 simp []
 try refine And.intro (by first | omega | rfl) ?_
 refine hK _ _ fun σ1 hσ H1 hH => ?_
 clear hK K
 have h0_1 := congrFun hσ 0
 simp [h0_0] at h0_1
 clear hσ
 replace hH : H = H1 := Eq.symm hH
 subst hH
 refine stp_reg TT_ok (by rfl) fun K hK => ?_
 simp [h0_1]
 try refine And.intro (by first | omega | rfl) ?_
 refine hK _ _ fun σ2 hσ H2 hH => ?_
 clear hK K
 have h2_2 := congrFun hσ 2
 simp [] at h2_2
 clear hσ
 replace hH : H = H2 := Eq.symm hH
 subst hH
 refine awp_ret ?_
 refine q_fin1 h2_2 ?_
 first | rfl | (simp; done)
theorem isNaN_ok (x : Int) : Fun1 Try.prog 70 [(AV.int IntKind.i64) x] (.bool false) := fun1_pure (isNaN0 x) (pu_cons (pu_int _ _) pu_nil) (.bool _)
set_option maxHeartbeats 1000000 in
theorem cmpLess0 (x y : Int) : ACalls Try.prog 60 [(AV.int IntKind.i64) x, (AV.int IntKind.i64) y] AHeap.nil (fun r _ => r = .bool (decide (x < y))) := by
 refine acalls_body TT_ok Try.func60 rfl rfl (by simp [Try.ntmps60]) ?_
 rw [Try.ntmps60]
 obtain ⟨σ, hσ⟩ : ∃ σ, σ = st0 [(AV.int IntKind.i64) x, (AV.int IntKind.i64) y] := ⟨_, rfl⟩
 rw [← hσ]
 obtain ⟨h0_0, h1_0⟩ := fs2 hσ 0 1
 simp [st0] at h0_0 h1_0
 clear hσ
 obtain ⟨H, hH⟩ : ∃ H, H = AHeap.nil := ⟨_, rfl⟩
 rw [← hH]
 have hn_0 : H.n = 0 := by rw [hH]; rfl
 have hst_0 : H.st = 1 := by rw [hH]; rfl
 clear hH
 refine stp_reg TT_ok (by rfl) fun K hK => ?_
 simp []
 try refine And.intro (by first | omega | rfl) ?_
 refine hK _ _ fun σ1 hσ H1 hH => ?_
 clear hK K
 obtain ⟨h0_1, h1_1⟩ := fs2 hσ 0 1
 simp [h0_0, h1_0] at h0_1 h1_1
 clear hσ
 replace hH : H = H1 := Eq.symm hH
 subst hH
 refine stp_reg TT_ok (by rfl) fun K hK => ?_
 simp [h0_1, h1_1]
 try refine And.intro (by first | omega | rfl) ?_
 refine stp_call (isNaN_ok x) ?_
 simp [h0_1, h1_1]
 try refine And.intro (by first | omega | rfl) ?_
 refine hK _ _ fun σ2 hσ H2 hH => ?_
 clear hK K
 have h4_2 := congrFun hσ 4
 simp [] at h4_2
 clear hσ
 replace hH : H = H2 := Eq.symm hH
 subst hH
 refine awp_ret ?_
 refine q_fin1 h4_2 ?_
 first | rfl | (simp; done)
theorem cmpLess_ok (x y : Int) : Fun1 Try.prog 60 [(AV.int IntKind.i64) x, (AV.int IntKind.i64) y] (.bool (decide (x < y))) := fun1_pure (cmpLess0 x y) (pu_cons (pu_int _ _) (pu_cons (pu_int _ _) pu_nil)) (.bool _)
set_option maxHeartbeats 1000000 in
theorem isSorted0 (xs : List Int) (hs : xs.Pairwise (· < ·)) (hp : 0 < xs.length) (hl : xs.length ≤ 1000000) : ACalls Try.prog 37 [.ro (xs.map (AV.int IntKind.i64))] AHeap.nil (fun r _ => r = .bool true) := by
 refine acalls_body TT_ok Try.func37 rfl rfl (by simp [Try.ntmps37]) ?_
 rw [Try.ntmps37]
 obtain ⟨σ, hσ⟩ : ∃ σ, σ = st0 [.ro (xs.map (AV.int IntKind.i64))] := ⟨_, rfl⟩
 rw [← hσ]
 have h0_0 := congrFun hσ 0
 simp [st0] at h0_0
 clear hσ
 obtain ⟨H, hH⟩ : ∃ H, H = AHeap.nil := ⟨_, rfl⟩
 rw [← hH]
 have hn_0 : H.n = 0 := by rw [hH]; rfl
 have hst_0 : H.st = 1 := by rw [hH]; rfl
 clear hH
 refine stp_reg TT_ok (by rfl) fun K hK => ?_
 simp []
 try refine And.intro (by first | omega | rfl) ?_
 refine hK _ _ fun σ1 hσ H1 hH => ?_
 clear hK K
 have h0_1 := congrFun hσ 0
 simp [h0_0] at h0_1
 clear hσ
 replace hH : H = H1 := Eq.symm hH
 subst hH
 refine awp_seq ?_
 refine stp_reg TT_ok (by rfl) fun K hK => ?_
 simp [h0_1, wrap_ok (n := (xs.length : Int) - 1) (by omega) (by omega)]
 try refine And.intro (by first | omega | rfl) ?_
 refine hK _ _ fun σ2 hσ H2 hH => ?_
 clear hK K
 obtain ⟨h0_2, h3_2⟩ := fs2 hσ 0 3
 simp [h0_1] at h0_2 h3_2
 clear hσ
 replace hH : H = H2 := Eq.symm hH
 subst hH
 refine awp_block ?_
 refine awp_loopV (fun n σ' H' => ∃ (i : Nat), n = i ∧ σ' 0 = σ2 0 ∧ σ' 3 = (AV.int IntKind.i64) i ∧ H' = H ∧ (i < xs.length)) ?_ ?_
 ·refine ⟨_, xs.length - 1, rfl, rfl, (by simp [h3_2, show ((xs.length - 1 : Nat) : Int) = (xs.length : Int) - 1 by omega]), rfl, ?_⟩
  ·first | omega | (simp; done) | assumption
 ·rintro n1 σ3 H3 ⟨i, hn1, q0_3, h3_3, hHq, p1⟩
  have h0_3 := q0_3.trans h0_2
  replace hHq := hHq.symm
  subst hHq
  refine awp_seq ?_
  refine stp_reg TT_ok (by rfl) fun K hK => ?_
  simp [h3_3]
  try refine And.intro (by first | omega | rfl) ?_
  refine hK _ _ fun σ4 hσ H4 hH => ?_
  clear hK K
  obtain ⟨h0_4, h3_4, h8_4⟩ := fs3 hσ 0 3 8
  simp [h0_3, h3_3] at h0_4 h3_4 h8_4
  clear hσ
  replace hH : H = H4 := Eq.symm hH
  subst hH
  refine awp_cond _ (by simp only [aeval_tmp]; exact h8_4) (fun hc8 => ?_) (fun hc8 => ?_)
  ·try simp at hc8
   have hi0 : 0 < i := by simpa using hc8
   have hci : ((i : Int) - 1).toNat = i - 1 := by omega
   have hi1 : i - 1 < xs.length := by omega
   have hlt : ¬ xs[i] < xs[i - 1] := by
    have := List.pairwise_iff_getElem.1 hs (i - 1) i hi1 p1 (by omega)
    omega
   have hnn : ¬ (i : Int) - 1 < 0 := by omega
   have hll : (i : Int) - 1 < xs.length := by omega
   have hge : (1 : Int) ≤ i := by omega
   refine awp_skip ?_
   refine q_seq ?_
   refine awp_seq ?_
   refine awp_block ?_
   refine stp_lex false TT_ok mixed (by rfl) (by rfl) (by kernel_rfl) (by rfl) fun U hU K hK => ?_
   simp [h0_4, h3_4, p1, hci, hi1, hlt, hll, hge, wrap_ok (n := (i : Int) - 1) (by omega) (by omega)]
   try refine And.intro (by first | omega | rfl) ?_
   refine lex_call (cmpLess_ok xs[i] xs[i - 1]) ?_
   simp [h0_4, h3_4, p1, hci, hi1, hlt, hll, hge, wrap_ok (n := (i : Int) - 1) (by omega) (by omega)]
   try refine And.intro (by first | omega | rfl) ?_
   refine hK _ _ _ (by subst hU; kernel_rfl) fun σ5 hσ H5 hH => ?_
   clear hK K hU U
   obtain ⟨h0_5, h3_5, h20_5⟩ := fs3 hσ 0 3 20
   simp [h0_4, h3_4] at h0_5 h3_5 h20_5
   clear hσ
   replace hH : H = H5 := Eq.symm hH
   subst hH
   refine stp_false (by simp [aeval_tmp, h20_5, hlt]) ?_
   refine awp_skip ?_
   refine q_block ?_
   refine q_seq ?_
   refine stp_regl TT_ok (by rfl) fun K hK => ?_
   simp [h3_5, wrap_ok (n := (i : Int) - 1) (by omega) (by omega)]
   try refine And.intro (by first | omega | rfl) ?_
   refine hK _ _ fun σ6 hσ H6 hH => ?_
   clear hK K
   obtain ⟨h0_6, h3_6⟩ := fs2 hσ 0 3
   simp [h0_5] at h0_6 h3_6
   clear hσ
   replace hH : H = H6 := Eq.symm hH
   subst hH
   refine ⟨_, ?_, i - 1, rfl, (h0_6.trans h0_2.symm), (by simp [h3_6, show ((i - 1 : Nat) : Int) = (i : Int) - 1 by omega]), rfl, ?_⟩
   ·subst hn1; omega
   ·first | omega | assumption | (simp; done)
  ·try simp at hc8
   refine awp_exit ?_
   refine q_seq_exit ?_
   refine q_loop_exit ?_
   refine q_block_hit ?_
   refine q_seq ?_
   refine stp_reg TT_ok (by rfl) fun K hK => ?_
   simp []
   try refine And.intro (by first | omega | rfl) ?_
   refine hK _ _ fun σ7 hσ H7 hH => ?_
   clear hK K
   have h2_7 := congrFun hσ 2
   simp [] at h2_7
   clear hσ
   replace hH : H = H7 := Eq.symm hH
   subst hH
   refine awp_ret ?_
   refine q_fin1 h2_7 ?_
   first | rfl | (simp; done)
theorem isSorted_w (xs : List Int) (hs : xs.Pairwise (· < ·)) (hp : 0 < xs.length) (hl : xs.length ≤ 1000000) : FunW Try.prog 37 [.ro (xs.map (AV.int IntKind.i64))] (.bool true) :=
 funW_pure (isSorted0 xs hs hp hl) (pu_cons (pu_ints _) pu_nil) (.bool _) (.bool _)
def capAt (g : Gr) : AV := .rop [.ro ((atL g g.order.length 0).map (AV.int IntKind.i64))]
theorem pu_capAt (g : Gr) : Pu (capAt g) := .rop fun v hv => by simp at hv; subst hv; exact pu_ints _
set_option maxHeartbeats 1000000 in
theorem part1_0 (g : Gr) (hv : g.valid = true) (e : Int × Int) (he : e ∈ g.edges) : ACalls Try.prog 38 [encE e, capAt g] AHeap.nil (fun r _ => r = .bool false) := by
 have he2 : (e.1, e.2) ∈ g.edges := he
 obtain ⟨⟨e1, e2⟩, e3, e4⟩ := valid_edge hv he2
 simp only at e1 e2 e3 e4
 have hc := edge_cpos hv he2
 have hll := atL_len g g.order.length 0
 have hno : ¬ (g.cpos e.1.toNat : Int) + 1 < (g.cpos e.2.toNat : Int) + 1 := by omega
 refine acalls_body TT_ok Try.func38 rfl rfl (by simp [Try.ntmps38]) ?_
 rw [Try.ntmps38]
 obtain ⟨σ, hσ⟩ : ∃ σ, σ = st0 [encE e, capAt g] := ⟨_, rfl⟩
 rw [← hσ]
 obtain ⟨h0_0, h1_0⟩ := fs2 hσ 0 1
 simp [st0] at h0_0 h1_0
 clear hσ
 obtain ⟨H, hH⟩ : ∃ H, H = AHeap.nil := ⟨_, rfl⟩
 rw [← hH]
 have hn_0 : H.n = 0 := by rw [hH]; rfl
 have hst_0 : H.st = 1 := by rw [hH]; rfl
 clear hH
 refine stp_reg TT_ok (by rfl) fun K hK => ?_
 simp [h0_0, hn_0, hst_0, encE, capAt]
 try refine And.intro (by first | omega | rfl) ?_
 refine hK _ _ fun σ1 hσ H1 hH => ?_
 clear hK K
 obtain ⟨h1_1, h2_1⟩ := fs2 hσ 1 2
 simp [h1_0] at h1_1 h2_1
 clear hσ
 have g0_1 := gt_of hH 0
 simp [hn_0, hst_0] at g0_1
 have hn_1 := congrArg AHeap.n hH
 simp [hn_0, hst_0] at hn_1
 have hst_1 := congrArg AHeap.st hH
 simp [hn_0, hst_0] at hst_1
 clear hH
 refine stp_lex false TT_ok mixed (by rfl) (by rfl) (by kernel_rfl) (by rfl) fun U hU K hK => ?_
 simp [h1_1, h2_1, g0_1, encE, capAt, hll, e1, e2, e3, e4, atL_full' hv ⟨e1, e2⟩, atL_full' hv ⟨e3, e4⟩, hc]
 try refine And.intro (by first | omega | rfl) ?_
 refine hK _ _ _ (by subst hU; kernel_rfl) fun σ2 hσ H2 hH => ?_
 clear hK K hU U
 have h3_2 := congrFun hσ 3
 simp [] at h3_2
 clear hσ
 replace hH : H1 = H2 := Eq.symm hH
 subst hH
 refine awp_ret ?_
 refine q_fin1 h3_2 ?_
 simp; exact hc
theorem part1_ok (g : Gr) (hv : g.valid = true) (e : Int × Int) (he : e ∈ g.edges) : Fun1 Try.prog 38 [encE e, capAt g] (.bool false) :=
 fun1_pure (part1_0 g hv e he) (pu_cons (pu_edge _) (pu_cons (pu_capAt _) pu_nil)) (.bool _)
set_option maxHeartbeats 1000000 in
theorem partition0 (g : Gr) : ACalls Try.prog 9 [encG g] AHeap.nil (fun r _ => r = .bool true) := by
 refine acalls_body TT_ok Try.func9 rfl rfl (by simp [Try.ntmps9]) ?_
 rw [Try.ntmps9]
 obtain ⟨σ, hσ⟩ : ∃ σ, σ = st0 [encG g] := ⟨_, rfl⟩
 rw [← hσ]
 have h0_0 := congrFun hσ 0
 simp [st0] at h0_0
 clear hσ
 obtain ⟨H, hH⟩ : ∃ H, H = AHeap.nil := ⟨_, rfl⟩
 rw [← hH]
 have hn_0 : H.n = 0 := by rw [hH]; rfl
 have hst_0 : H.st = 1 := by rw [hH]; rfl
 clear hH
 refine stp_reg TT_ok (by rfl) fun K hK => ?_
 simp [h0_0, hn_0, hst_0, encG]
 try refine And.intro (by first | omega | rfl) ?_
 refine hK _ _ fun σ1 hσ H1 hH => ?_
 clear hK K
 have h1_1 := congrFun hσ 1
 simp [] at h1_1
 clear hσ
 have g0_1 := gt_of hH 0
 simp [hn_0, hst_0] at g0_1
 have hn_1 := congrArg AHeap.n hH
 simp [hn_0, hst_0] at hn_1
 have hst_1 := congrArg AHeap.st hH
 simp [hn_0, hst_0] at hst_1
 clear hH
 refine awp_seq ?_
 refine stp_reg TT_ok (by rfl) fun K hK => ?_
 simp [g0_1, encG]
 try refine And.intro (by first | omega | rfl) ?_
 refine stp_call (awake_ok) ?_
 simp [g0_1, encG]
 try refine And.intro (by first | omega | rfl) ?_
 refine hK _ _ fun σ2 hσ H2 hH => ?_
 clear hK K
 obtain ⟨h1_2, h13_2⟩ := fs2 hσ 1 13
 simp [h1_1] at h1_2 h13_2
 clear hσ
 replace hH : H1 = H2 := Eq.symm hH
 subst hH
 refine stp_false (by simp [aeval_tmp, h13_2, encG]) ?_
 refine awp_skip ?_
 refine q_seq ?_
 refine awp_seq ?_
 by_cases hf : g.nodes.length ≤ 14 ∧ g.edges.length ≤ 60
 ·skip
  have hFF0 := an3 h1_2 g0_1 hf
  refine stp_reg TT_ok (by rfl) fun K hK => ?_
  simp [hFF0, encG]
  try refine And.intro (by first | omega | rfl) ?_
  refine stp_call (few_ok g) ?_
  simp [hFF0, encG]
  try refine And.intro (by first | omega | rfl) ?_
  refine hK _ _ fun σ3 hσ H3 hH => ?_
  clear hK K hFF0
  obtain ⟨h1_3, h16_3⟩ := fs2 hσ 1 16
  simp [h1_2] at h1_3 h16_3
  clear hσ
  replace hH : H1 = H3 := Eq.symm hH
  subst hH
  refine stp_false (by simp [aeval_tmp, h16_3, hf, encG]) ?_
  refine awp_skip ?_
  refine q_seq ?_
  have hFF0 := an3 h1_3 g0_1 hf
  refine stp_reg TT_ok (by rfl) fun K hK => ?_
  simp [hFF0, encG]
  try refine And.intro (by first | omega | rfl) ?_
  refine stp_call (comps_ok g) ?_
  simp [hFF0, encG]
  try refine And.intro (by first | omega | rfl) ?_
  refine hK _ _ fun σ4 hσ H4 hH => ?_
  clear hK K hFF0
  obtain ⟨h1_4, h3_4⟩ := fs2 hσ 1 3
  simp [h1_3] at h1_4 h3_4
  clear hσ
  replace hH : H1 = H4 := Eq.symm hH
  subst hH
  refine awp_seq ?_
  by_cases hv : g.valid = true
  ·skip
   have hFF0 := an5 h1_4 g0_1 hf hv (beq_iff_eq.2 hv)
   refine stp_reg TT_ok (by rfl) fun K hK => ?_
   simp [hFF0, encG]
   try refine And.intro (by first | omega | rfl) ?_
   refine stp_call (valid_ok g) ?_
   simp [hFF0, encG]
   try refine And.intro (by first | omega | rfl) ?_
   refine hK _ _ fun σ5 hσ H5 hH => ?_
   clear hK K hFF0
   obtain ⟨h1_5, h3_5, h21_5⟩ := fs3 hσ 1 3 21
   simp [h1_4, h3_4] at h1_5 h3_5 h21_5
   clear hσ
   replace hH : H1 = H5 := Eq.symm hH
   subst hH
   refine stp_false (by simp [aeval_tmp, h21_5, hf, hv, beq_iff_eq.2 hv, encG]) ?_
   refine awp_skip ?_
   refine q_seq ?_
   refine stp_reg TT_ok (by rfl) fun K hK => ?_
   simp [h1_5, g0_1, hn_1, hst_1, hf, hv, beq_iff_eq.2 hv, encG, show (g.nodes.length : Int) ≤ 281474976710656 by omega]
   try refine And.intro (by first | omega | rfl) ?_
   refine hK _ _ fun σ6 hσ H6 hH => ?_
   clear hK K
   obtain ⟨h1_6, h3_6, h4_6⟩ := fs3 hσ 1 3 4
   simp [h1_5, h3_5] at h1_6 h3_6 h4_6
   clear hσ
   have g0_6 := gt_of hH 0
   have g1_6 := gt_of hH 1
   have g2_6 := gt_of hH 2
   simp [g0_1, hn_1, hst_1, hf, hv, beq_iff_eq.2 hv] at g0_6 g1_6 g2_6
   have hn_6 := congrArg AHeap.n hH
   simp [hn_1, hst_1] at hn_6
   have hst_6 := congrArg AHeap.st hH
   simp [hn_1, hst_1] at hst_6
   clear hH
   refine awp_seq ?_
   have hcl := gcomps_len hv
   have hol := order_len g
   have hcf := comps_few hv
   have hcc : g.cedges.length = g.comps.length := by rw [cedges_len, comps_len]
   refine stp_reg TT_ok (by rfl) fun K hK => ?_
   simp [h3_6, g0_6, g1_6, g2_6, hf, hv, beq_iff_eq.2 hv, encG, encS, hcl]
   try refine And.intro (by first | omega | rfl) ?_
   refine hK _ _ fun σ7 hσ H7 hH => ?_
   clear hK K
   obtain ⟨h1_7, h4_7, h29_7, h30_7, h31_7⟩ := fs5 hσ 1 4 29 30 31
   simp [h1_6, h4_6] at h1_7 h4_7 h29_7 h30_7 h31_7
   clear hσ
   replace hH : H6 = H7 := Eq.symm hH
   subst hH
   refine awp_block ?_
   refine awp_loopV (fun n σ' H' => ∃ (i : Nat), n = g.order.length - i ∧ σ' 1 = σ7 1 ∧ σ' 4 = σ7 4 ∧ σ' 29 = σ7 29 ∧ σ' 30 = σ7 30 ∧ σ' 31 = (AV.int IntKind.i64) i ∧ H'.get 0 = H6.get 0 ∧ H'.get 1 = some (.row 3 1 0 ((atL g i 0).map (AV.int IntKind.i64))) ∧ H'.get 2 = H6.get 2 ∧ H'.st = H6.st ∧ (i ≤ g.order.length)) ?_ ?_
   ·refine ⟨_, 0, rfl, rfl, rfl, rfl, rfl, (by simp [h31_7, atL_zero]), rfl, (by simp [g1_6, atL_zero]), rfl, rfl, ?_⟩
    ·first | omega | (simp; done) | assumption
   ·rintro n1 σ8 H8 ⟨i, hn1, q1_8, q4_8, q29_8, q30_8, h31_8, qg0_8, g1_8, qg2_8, qst_8, p1⟩
    have h1_8 := q1_8.trans h1_7
    have h4_8 := q4_8.trans h4_7
    have h29_8 := q29_8.trans h29_7
    have h30_8 := q30_8.trans h30_7
    have g0_8 := qg0_8.trans g0_6
    have g2_8 := qg2_8.trans g2_6
    have hst_8 := qst_8.trans hst_6
    refine stp_reg TT_ok (by rfl) fun K hK => ?_
    simp [h30_8, h31_8, g0_8, g1_8, g2_8, hf, hv, beq_iff_eq.2 hv, encG]
    try refine And.intro (by first | omega | rfl) ?_
    refine hK _ _ fun σ9 hσ H9 hH => ?_
    clear hK K
    obtain ⟨h1_9, h4_9, h29_9, h30_9, h31_9, h32_9⟩ := fs6 hσ 1 4 29 30 31 32
    simp [h1_8, h4_8, h29_8, h30_8, h31_8] at h1_9 h4_9 h29_9 h30_9 h31_9 h32_9
    clear hσ
    replace hH : H8 = H9 := Eq.symm hH
    subst hH
    refine awp_seq ?_
    refine awp_cond _ (by simp only [aeval_tmp]; exact h32_9) (fun hc32 => ?_) (fun hc32 => ?_)
    ·try simp at hc32
     have hlt : i < g.order.length := by simpa using hc32
     have hlc : i < g.gcomps.length := by omega
     have hcg : g.gcomps.getD i [] = g.gcomps[i] := by rw [List.getD_eq_getElem?_getD, List.getElem?_eq_getElem hlc]; rfl
     have hso := comp_sorted hv hlt
     have hne := comp_ne hv hlt
     have hin := fun x hx => comp_in hv hlt (x := x) hx
     have hfr := fun j x hx => atL_fresh hv hlt (j := j) (x := x) hx
     have hnx := atL_next hv hlt
     obtain ⟨c, hc⟩ : ∃ c, g.gcomps[i] = c := ⟨_, rfl⟩
     rw [hcg, hc] at hso hne hin hfr hnx
     have hcl1 : c.length ≤ g.nodes.length := by
      obtain ⟨r, h1, h2, h3, h4⟩ := gcomps_get hv hlt
      rw [List.getElem?_eq_getElem hlc, hc] at h4
      rw [Option.some.inj h4]; exact mem_len _ _ _
     have hcp : 0 < c.length := List.length_pos_iff.2 hne
     have hb0 : ((c.length : Int) == 0) = false := by simp [hne]
     refine awp_skip ?_
     refine q_seq ?_
     refine awp_seq ?_
     refine awp_block ?_
     refine stp_reg TT_ok (by rfl) fun K hK => ?_
     simp [h29_9, h31_9, g0_8, g1_8, g2_8, hf, hv, beq_iff_eq.2 hv, encG, hlc, hc]
     try refine And.intro (by first | omega | rfl) ?_
     refine hK _ _ fun σ10 hσ H10 hH => ?_
     clear hK K
     obtain ⟨h1_10, h4_10, h5_10, h6_10, h29_10, h30_10, h31_10⟩ := fs7 hσ 1 4 5 6 29 30 31
     simp [h1_9, h4_9, h29_9, h30_9, h31_9] at h1_10 h4_10 h5_10 h6_10 h29_10 h30_10 h31_10
     clear hσ
     replace hH : H8 = H10 := Eq.symm hH
     subst hH
     refine awp_seq ?_
     have hFF0 := an7 h6_10 g0_8 g1_8 g2_8 hf hv (beq_iff_eq.2 hv)
     refine stp_reg TT_ok (by rfl) fun K hK => ?_
     simp [hFF0, encG, hne, hb0]
     try refine And.intro (by first | omega | rfl) ?_
     refine FunW.at (isSorted_w c hso hcp (by omega)) ?hf ?_
     case hf => exact FrzL.cons (.pure (pu_ints _)) (FrzL.nil _)
     simp [hFF0, encG, hne, hb0]
     try refine And.intro (by first | omega | rfl) ?_
     refine hK _ _ fun σ11 hσ H11 hH => ?_
     clear hK K hFF0
     obtain ⟨h1_11, h4_11, h5_11, h6_11, h29_11, h30_11, h31_11, h43_11⟩ := fs8 hσ 1 4 5 6 29 30 31 43
     simp [h1_10, h4_10, h5_10, h6_10, h29_10, h30_10, h31_10] at h1_11 h4_11 h5_11 h6_11 h29_11 h30_11 h31_11 h43_11
     clear hσ
     replace hH : H8 = H11 := Eq.symm hH
     subst hH
     refine stp_false (by simp [aeval_tmp, h43_11, hf, hv, beq_iff_eq.2 hv, encG, hb0]) ?_
     refine awp_skip ?_
     refine q_seq ?_
     refine stp_reg TT_ok (by rfl) fun K hK => ?_
     simp [h6_11, g0_8, g1_8, g2_8, hf, hv, beq_iff_eq.2 hv, encG]
     try refine And.intro (by first | omega | rfl) ?_
     refine hK _ _ fun σ12 hσ H12 hH => ?_
     clear hK K
     obtain ⟨h1_12, h4_12, h5_12, h29_12, h30_12, h31_12, h44_12, h45_12, h46_12⟩ := fs9 hσ 1 4 5 29 30 31 44 45 46
     simp [h1_11, h4_11, h5_11, h29_11, h30_11, h31_11] at h1_12 h4_12 h5_12 h29_12 h30_12 h31_12 h44_12 h45_12 h46_12
     clear hσ
     replace hH : H8 = H12 := Eq.symm hH
     subst hH
     refine awp_block ?_
     refine awp_loopV (fun n σ' H' => ∃ (j : Nat), n = c.length - j ∧ σ' 1 = σ12 1 ∧ σ' 4 = σ12 4 ∧ σ' 5 = σ12 5 ∧ σ' 29 = σ12 29 ∧ σ' 30 = σ12 30 ∧ σ' 31 = σ12 31 ∧ σ' 44 = σ12 44 ∧ σ' 45 = σ12 45 ∧ σ' 46 = (AV.int IntKind.i64) j ∧ H'.get 0 = H8.get 0 ∧ H'.get 1 = some (.row 3 1 0 ((atL g i j).map (AV.int IntKind.i64))) ∧ H'.get 2 = H8.get 2 ∧ H'.st = H8.st ∧ (j ≤ c.length)) ?_ ?_
     ·refine ⟨_, 0, rfl, rfl, rfl, rfl, rfl, rfl, rfl, rfl, rfl, (by simp [h46_12]), rfl, (by simp [g1_8]), rfl, rfl, ?_⟩
      ·first | omega | (simp; done) | assumption
     ·rintro n2 σ13 H13 ⟨j, hn2, q1_13, q4_13, q5_13, q29_13, q30_13, q31_13, q44_13, q45_13, h46_13, qg0_13, g1_13, qg2_13, qst_13, q1⟩
      have h1_13 := q1_13.trans h1_12
      have h4_13 := q4_13.trans h4_12
      have h5_13 := q5_13.trans h5_12
      have h29_13 := q29_13.trans h29_12
      have h30_13 := q30_13.trans h30_12
      have h31_13 := q31_13.trans h31_12
      have h44_13 := q44_13.trans h44_12
      have h45_13 := q45_13.trans h45_12
      have g0_13 := qg0_13.trans g0_8
      have g2_13 := qg2_13.trans g2_8
      have hst_13 := qst_13.trans hst_8
      refine stp_reg TT_ok (by rfl) fun K hK => ?_
      simp [h45_13, h46_13, g0_13, g1_13, g2_13, hf, hv, beq_iff_eq.2 hv, encG]
      try refine And.intro (by first | omega | rfl) ?_
      refine hK _ _ fun σ14 hσ H14 hH => ?_
      clear hK K
      obtain ⟨h1_14, h4_14, h5_14, h29_14, h30_14, h31_14, h44_14, h45_14, h46_14, h47_14⟩ := fs10 hσ 1 4 5 29 30 31 44 45 46 47
      simp [h1_13, h4_13, h5_13, h29_13, h30_13, h31_13, h44_13, h45_13, h46_13] at h1_14 h4_14 h5_14 h29_14 h30_14 h31_14 h44_14 h45_14 h46_14 h47_14
      clear hσ
      replace hH : H13 = H14 := Eq.symm hH
      subst hH
      refine awp_seq ?_
      refine awp_cond _ (by simp only [aeval_tmp]; exact h47_14) (fun hc47 => ?_) (fun hc47 => ?_)
      ·try simp at hc47
       have hjt : j < c.length := by simpa using hc47
       have hcj : c[j]? = some c[j] := by rw [List.getElem?_eq_getElem]
       obtain ⟨x1, x2⟩ := hin _ (List.getElem_mem hjt)
       obtain ⟨f1, f2⟩ := hfr j _ hcj
       have hll := atL_len g i j
       have x3 : c[j].toNat < g.nodes.length := by omega
       have f3 : (atL g i j)[c[j].toNat]'(by omega) = 0 := by rw [List.getElem?_eq_getElem (by omega)] at f1; exact Option.some.inj f1
       have f4 : ((atL g i j).map (AV.int IntKind.i64)).set c[j].toNat ((AV.int IntKind.i64) ((i : Int) + 1)) = (atL g i (j + 1)).map (AV.int IntKind.i64) := by rw [← List.map_set, f2]
       refine awp_skip ?_
       refine q_seq ?_
       refine awp_seq ?_
       refine awp_block ?_
       refine stp_reg TT_ok (by rfl) fun K hK => ?_
       simp [h44_14, h46_14, g0_13, g1_13, g2_13, hf, hv, beq_iff_eq.2 hv, encG, hjt]
       try refine And.intro (by first | omega | rfl) ?_
       refine hK _ _ fun σ15 hσ H15 hH => ?_
       clear hK K
       obtain ⟨h1_15, h4_15, h5_15, h8_15, h29_15, h30_15, h31_15, h44_15, h45_15, h46_15⟩ := fs10 hσ 1 4 5 8 29 30 31 44 45 46
       simp [h1_14, h4_14, h5_14, h29_14, h30_14, h31_14, h44_14, h45_14, h46_14] at h1_15 h4_15 h5_15 h8_15 h29_15 h30_15 h31_15 h44_15 h45_15 h46_15
       clear hσ
       replace hH : H13 = H15 := Eq.symm hH
       subst hH
       refine awp_seq ?_
       refine stp_reg TT_ok (by rfl) fun K hK => ?_
       simp [h4_15, h8_15, g0_13, g1_13, g2_13, hf, hv, beq_iff_eq.2 hv, encG, x1, x2, x3, f3, hll, show ¬ c[j] < 0 by omega, show ¬ (g.nodes.length : Int) ≤ c[j] by omega]
       try refine And.intro (by first | omega | rfl) ?_
       refine hK _ _ fun σ16 hσ H16 hH => ?_
       clear hK K
       obtain ⟨h1_16, h4_16, h5_16, h8_16, h29_16, h30_16, h31_16, h44_16, h45_16, h46_16, h64_16⟩ := fs11 hσ 1 4 5 8 29 30 31 44 45 46 64
       simp [h1_15, h4_15, h5_15, h8_15, h29_15, h30_15, h31_15, h44_15, h45_15, h46_15] at h1_16 h4_16 h5_16 h8_16 h29_16 h30_16 h31_16 h44_16 h45_16 h46_16 h64_16
       clear hσ
       replace hH : H13 = H16 := Eq.symm hH
       subst hH
       refine stp_false (by simp [aeval_tmp, h64_16, hf, hv, beq_iff_eq.2 hv, encG]) ?_
       refine awp_skip ?_
       refine q_seq ?_
       refine stp_regl TT_ok (by rfl) fun K hK => ?_
       simp [h4_16, h5_16, h8_16, g0_13, g1_13, g2_13, hf, hv, beq_iff_eq.2 hv, encG, x1, x2, x3, hll, wrap_ok (n := (i : Int) + 1) (by omega) (by omega)]
       try refine And.intro (by first | omega | rfl) ?_
       refine hK _ _ fun σ17 hσ H17 hH => ?_
       clear hK K
       obtain ⟨h1_17, h4_17, h5_17, h29_17, h30_17, h31_17, h44_17, h45_17, h46_17⟩ := fs9 hσ 1 4 5 29 30 31 44 45 46
       simp [h1_16, h4_16, h5_16, h29_16, h30_16, h31_16, h44_16, h45_16, h46_16] at h1_17 h4_17 h5_17 h29_17 h30_17 h31_17 h44_17 h45_17 h46_17
       clear hσ
       have g0_17 := gt_of hH 0
       have g1_17 := gt_of hH 1
       have g2_17 := gt_of hH 2
       simp [g0_13, g1_13, g2_13, hst_13, hf, hv, beq_iff_eq.2 hv] at g0_17 g1_17 g2_17
       have hst_17 := congrArg AHeap.st hH
       simp [hst_13] at hst_17
       clear hH
       refine q_block ?_
       refine q_seq ?_
       refine stp_regl TT_ok (by rfl) fun K hK => ?_
       simp [h46_17, g0_17, g1_17, g2_17, hf, hv, beq_iff_eq.2 hv, encG, wrap_ok (n := (j : Int) + 1) (by omega) (by omega)]
       try refine And.intro (by first | omega | rfl) ?_
       refine hK _ _ fun σ18 hσ H18 hH => ?_
       clear hK K
       obtain ⟨h1_18, h4_18, h5_18, h29_18, h30_18, h31_18, h44_18, h45_18, h46_18⟩ := fs9 hσ 1 4 5 29 30 31 44 45 46
       simp [h1_17, h4_17, h5_17, h29_17, h30_17, h31_17, h44_17, h45_17] at h1_18 h4_18 h5_18 h29_18 h30_18 h31_18 h44_18 h45_18 h46_18
       clear hσ
       replace hH : H17 = H18 := Eq.symm hH
       subst hH
       refine ⟨_, ?_, j + 1, rfl, (h1_18.trans h1_12.symm), (h4_18.trans h4_12.symm), (h5_18.trans h5_12.symm), (h29_18.trans h29_12.symm), (h30_18.trans h30_12.symm), (h31_18.trans h31_12.symm), (h44_18.trans h44_12.symm), (h45_18.trans h45_12.symm), (by simp [h46_18, f4]), (g0_17.trans g0_8.symm), (by simp [g1_17, f4]), (g2_17.trans g2_8.symm), (hst_17.trans hst_8.symm), ?_⟩
       ·subst hn2; omega
       ·first | omega | assumption | (simp; done)
      ·try simp at hc47
       refine awp_exit ?_
       refine q_seq_exit ?_
       refine q_loop_exit ?_
       refine q_block_hit ?_
       refine q_block ?_
       refine q_seq ?_
       refine stp_regl TT_ok (by rfl) fun K hK => ?_
       simp [h31_14, g0_13, g1_13, g2_13, hf, hv, beq_iff_eq.2 hv, encG, wrap_ok (n := (i : Int) + 1) (by omega) (by omega)]
       try refine And.intro (by first | omega | rfl) ?_
       refine hK _ _ fun σ19 hσ H19 hH => ?_
       clear hK K
       obtain ⟨h1_19, h4_19, h29_19, h30_19, h31_19⟩ := fs5 hσ 1 4 29 30 31
       simp [h1_14, h4_14, h29_14, h30_14] at h1_19 h4_19 h29_19 h30_19 h31_19
       clear hσ
       replace hH : H13 = H19 := Eq.symm hH
       subst hH
       have hje : j = c.length := by have := hc47; omega
       subst hje
       refine ⟨_, ?_, i + 1, rfl, (h1_19.trans h1_7.symm), (h4_19.trans h4_7.symm), (h29_19.trans h29_7.symm), (h30_19.trans h30_7.symm), (by simp [h31_19, hnx]), (g0_13.trans g0_6.symm), (by simp [g1_13, hnx]), (g2_13.trans g2_6.symm), (hst_13.trans hst_6.symm), ?_⟩
       ·subst hn1; omega
       ·first | omega | assumption | (simp; done)
    ·try simp at hc32
     have hie : i = g.order.length := by have := hc32; omega
     subst hie
     have hll := atL_len g g.order.length 0
     refine awp_exit ?_
     refine q_seq_exit ?_
     refine q_loop_exit ?_
     refine q_block_hit ?_
     refine q_seq ?_
     refine awp_seq ?_
     refine stp_reg TT_ok (by rfl) fun K hK => ?_
     simp [h4_9, g0_8, g1_8, g2_8, hf, hv, beq_iff_eq.2 hv, encG]
     try refine And.intro (by first | omega | rfl) ?_
     refine hK _ _ fun σ20 hσ H20 hH => ?_
     clear hK K
     obtain ⟨h1_20, h4_20, h73_20, h74_20⟩ := fs4 hσ 1 4 73 74
     simp [h1_9, h4_9] at h1_20 h4_20 h73_20 h74_20
     clear hσ
     replace hH : H8 = H20 := Eq.symm hH
     subst hH
     refine awp_block ?_
     refine awp_loopV (fun n σ' H' => ∃ (i : Nat), n = g.nodes.length - i ∧ σ' 1 = σ20 1 ∧ σ' 4 = σ20 4 ∧ σ' 73 = σ20 73 ∧ σ' 74 = (AV.int IntKind.i64) i ∧ H'.get 0 = H8.get 0 ∧ H'.get 1 = H8.get 1 ∧ H'.get 2 = H8.get 2 ∧ H'.st = H8.st ∧ (i ≤ g.nodes.length)) ?_ ?_
     ·refine ⟨_, 0, rfl, rfl, rfl, rfl, (by simp [h74_20]), rfl, rfl, rfl, rfl, ?_⟩
      ·first | omega | (simp; done) | assumption
     ·rintro n3 σ21 H21 ⟨i, hn3, q1_21, q4_21, q73_21, h74_21, qg0_21, qg1_21, qg2_21, qst_21, q1⟩
      have h1_21 := q1_21.trans h1_20
      have h4_21 := q4_21.trans h4_20
      have h73_21 := q73_21.trans h73_20
      have g0_21 := qg0_21.trans g0_8
      have g1_21 := qg1_21.trans g1_8
      have g2_21 := qg2_21.trans g2_8
      have hst_21 := qst_21.trans hst_8
      refine stp_reg TT_ok (by rfl) fun K hK => ?_
      simp [h73_21, h74_21, g0_21, g1_21, g2_21, hf, hv, beq_iff_eq.2 hv, encG]
      try refine And.intro (by first | omega | rfl) ?_
      refine hK _ _ fun σ22 hσ H22 hH => ?_
      clear hK K
      obtain ⟨h1_22, h4_22, h73_22, h74_22, h75_22⟩ := fs5 hσ 1 4 73 74 75
      simp [h1_21, h4_21, h73_21, h74_21] at h1_22 h4_22 h73_22 h74_22 h75_22
      clear hσ
      replace hH : H21 = H22 := Eq.symm hH
      subst hH
      refine awp_seq ?_
      refine awp_cond _ (by simp only [aeval_tmp]; exact h75_22) (fun hc75 => ?_) (fun hc75 => ?_)
      ·try simp at hc75
       have hlt : i < g.nodes.length := by simpa using hc75
       have hnz : ¬ (g.cpos i : Int) + 1 = 0 := by omega
       refine awp_skip ?_
       refine q_seq ?_
       refine awp_seq ?_
       refine awp_block ?_
       refine stp_reg TT_ok (by rfl) fun K hK => ?_
       simp [h74_22, g0_21, g1_21, g2_21, hf, hv, beq_iff_eq.2 hv, encG]
       try refine And.intro (by first | omega | rfl) ?_
       refine hK _ _ fun σ23 hσ H23 hH => ?_
       clear hK K
       obtain ⟨h1_23, h4_23, h9_23, h73_23, h74_23⟩ := fs5 hσ 1 4 9 73 74
       simp [h1_22, h4_22, h73_22, h74_22] at h1_23 h4_23 h9_23 h73_23 h74_23
       clear hσ
       replace hH : H21 = H23 := Eq.symm hH
       subst hH
       refine awp_seq ?_
       refine stp_reg TT_ok (by rfl) fun K hK => ?_
       simp [h4_23, h9_23, g0_21, g1_21, g2_21, hf, hv, beq_iff_eq.2 hv, encG, hlt, hll, atL_full hv hlt, hnz]
       try refine And.intro (by first | omega | rfl) ?_
       refine hK _ _ fun σ24 hσ H24 hH => ?_
       clear hK K
       obtain ⟨h1_24, h4_24, h9_24, h73_24, h74_24, h81_24⟩ := fs6 hσ 1 4 9 73 74 81
       simp [h1_23, h4_23, h9_23, h73_23, h74_23] at h1_24 h4_24 h9_24 h73_24 h74_24 h81_24
       clear hσ
       replace hH : H21 = H24 := Eq.symm hH
       subst hH
       refine stp_false (by simp [aeval_tmp, h81_24, hf, hv, beq_iff_eq.2 hv, encG, hnz]) ?_
       refine awp_skip ?_
       refine q_seq ?_
       refine stp_reg TT_ok (by rfl) fun K hK => ?_
       simp [h4_24, g0_21, g1_21, g2_21, hf, hv, beq_iff_eq.2 hv, encG]
       try refine And.intro (by first | omega | rfl) ?_
       refine hK _ _ fun σ25 hσ H25 hH => ?_
       clear hK K
       obtain ⟨h1_25, h4_25, h9_25, h73_25, h74_25, h83_25, h84_25⟩ := fs7 hσ 1 4 9 73 74 83 84
       simp [h1_24, h4_24, h9_24, h73_24, h74_24] at h1_25 h4_25 h9_25 h73_25 h74_25 h83_25 h84_25
       clear hσ
       replace hH : H21 = H25 := Eq.symm hH
       subst hH
       refine awp_block ?_
       refine awp_loopV (fun n σ' H' => ∃ (k : Nat), n = g.nodes.length - k ∧ σ' 1 = σ25 1 ∧ σ' 4 = σ25 4 ∧ σ' 9 = σ25 9 ∧ σ' 73 = σ25 73 ∧ σ' 74 = σ25 74 ∧ σ' 83 = σ25 83 ∧ σ' 84 = (AV.int IntKind.i64) k ∧ H'.get 0 = H21.get 0 ∧ H'.get 1 = H21.get 1 ∧ H'.get 2 = H21.get 2 ∧ H'.st = H21.st ∧ (k ≤ g.nodes.length)) ?_ ?_
       ·refine ⟨_, 0, rfl, rfl, rfl, rfl, rfl, rfl, rfl, (by simp [h84_25]), rfl, rfl, rfl, rfl, ?_⟩
        ·first | omega | (simp; done) | assumption
       ·rintro n4 σ26 H26 ⟨k, hn4, q1_26, q4_26, q9_26, q73_26, q74_26, q83_26, h84_26, qg0_26, qg1_26, qg2_26, qst_26, q2⟩
        have h1_26 := q1_26.trans h1_25
        have h4_26 := q4_26.trans h4_25
        have h9_26 := q9_26.trans h9_25
        have h73_26 := q73_26.trans h73_25
        have h74_26 := q74_26.trans h74_25
        have h83_26 := q83_26.trans h83_25
        have g0_26 := qg0_26.trans g0_21
        have g1_26 := qg1_26.trans g1_21
        have g2_26 := qg2_26.trans g2_21
        have hst_26 := qst_26.trans hst_21
        refine stp_reg TT_ok (by rfl) fun K hK => ?_
        simp [h83_26, h84_26, g0_26, g1_26, g2_26, hf, hv, beq_iff_eq.2 hv, encG]
        try refine And.intro (by first | omega | rfl) ?_
        refine hK _ _ fun σ27 hσ H27 hH => ?_
        clear hK K
        obtain ⟨h1_27, h4_27, h9_27, h73_27, h74_27, h83_27, h84_27, h85_27⟩ := fs8 hσ 1 4 9 73 74 83 84 85
        simp [h1_26, h4_26, h9_26, h73_26, h74_26, h83_26, h84_26] at h1_27 h4_27 h9_27 h73_27 h74_27 h83_27 h84_27 h85_27
        clear hσ
        replace hH : H26 = H27 := Eq.symm hH
        subst hH
        refine awp_seq ?_
        refine awp_cond _ (by simp only [aeval_tmp]; exact h85_27) (fun hc85 => ?_) (fun hc85 => ?_)
        ·try simp at hc85
         have hkt : k < g.nodes.length := by simpa using hc85
         have hbc : ((g.cpos i : Int) = g.cpos k) ↔ ((k : Int) ∈ g.reach [(i : Int)] ∧ (i : Int) ∈ g.reach [(k : Int)]) := by rw [← both_cpos hv hlt hkt]; omega
         have hr1 := reach_len g [(i : Int)]
         have hr2 := reach_len g [(k : Int)]
         refine awp_skip ?_
         refine q_seq ?_
         refine awp_seq ?_
         refine awp_block ?_
         refine stp_reg TT_ok (by rfl) fun K hK => ?_
         simp [h84_27, g0_26, g1_26, g2_26, hf, hv, beq_iff_eq.2 hv, encG]
         try refine And.intro (by first | omega | rfl) ?_
         refine hK _ _ fun σ28 hσ H28 hH => ?_
         clear hK K
         obtain ⟨h1_28, h4_28, h9_28, h10_28, h73_28, h74_28, h83_28, h84_28⟩ := fs8 hσ 1 4 9 10 73 74 83 84
         simp [h1_27, h4_27, h9_27, h73_27, h74_27, h83_27, h84_27] at h1_28 h4_28 h9_28 h10_28 h73_28 h74_28 h83_28 h84_28
         clear hσ
         replace hH : H26 = H28 := Eq.symm hH
         subst hH
         by_cases hb1 : (k : Int) ∈ g.reach [(i : Int)]
         ·skip
          by_cases hb2 : (i : Int) ∈ g.reach [(k : Int)]
          ·skip
           refine awp_ok fun hok => ?_
           obtain ⟨m29, hn_m29⟩ : ∃ m, H26.n = m := ⟨_, rfl⟩
           have hf_m29_0 := hok.free 0
           simp [hn_m29, hst_26] at hf_m29_0
           have nx1 := ne_get hf_m29_0 g0_26
           have nx2 := ne_get hf_m29_0 g1_26
           have nx3 := ne_get hf_m29_0 g2_26
           have hf_m29_1 := hok.free 1
           simp [hn_m29, hst_26] at hf_m29_1
           have nx4 := ne_get hf_m29_1 g0_26
           have nx5 := ne_get hf_m29_1 g1_26
           have nx6 : ¬ m29 = 0 ∧ ¬ 0 = m29 := by omega
           have nx7 := ne_get hf_m29_1 g2_26
           have nx8 : ¬ m29 = 1 ∧ ¬ 1 = m29 := by omega
           have hFF0 := an21 h1_28 h9_28 h10_28 g0_26 g1_26 g2_26 hn_m29 hst_26 hf hv (beq_iff_eq.2 hv) hb1 hb2 nx1 nx2 nx3 nx4 nx5 nx6 nx7 nx8
           refine stp_reg TT_ok (by rfl) fun K hK => ?_
           simp [hFF0, encG]
           try refine And.intro (by first | omega | rfl) ?_
           refine FunW.at (reach_w g [(i : Int)] (by simp)) ?hf ?_
           case hf => exact FrzL.cons (.pure (pu_graph g)) (FrzL.cons (frz_ints (xs := [(i : Int)]) (e := 3) (g := 0) (id := m29) (by simp [hFF0, encG]) rfl) (FrzL.nil _))
           simp [hFF0, encG]
           try refine And.intro (by first | omega | rfl) ?_
           refine FunW.at (containsI_w (g.reach [(i : Int)]) k (by omega)) ?hf ?_
           case hf => exact FrzL.cons (.pure (pu_ints _)) (FrzL.cons (.pure (pu_int _ _)) (FrzL.nil _))
           simp [hFF0, encG]
           try refine And.intro (by first | omega | rfl) ?_
           refine FunW.at (reach_w g [(k : Int)] (by simp)) ?hf ?_
           case hf => exact FrzL.cons (.pure (pu_graph g)) (FrzL.cons (frz_ints (xs := [(k : Int)]) (e := 3) (g := 0) (id := (m29 + 1)) (by simp [hFF0, encG]) rfl) (FrzL.nil _))
           simp [hFF0, encG]
           try refine And.intro (by first | omega | rfl) ?_
           refine FunW.at (containsI_w (g.reach [(k : Int)]) i (by omega)) ?hf ?_
           case hf => exact FrzL.cons (.pure (pu_ints _)) (FrzL.cons (.pure (pu_int _ _)) (FrzL.nil _))
           simp [hFF0, encG]
           try refine And.intro (by first | omega | rfl) ?_
           refine hK _ _ fun σ30 hσ H30 hH => ?_
           clear hK K hFF0
           obtain ⟨h1_30, h4_30, h9_30, h10_30, h11_30, h73_30, h74_30, h83_30, h84_30⟩ := fs9 hσ 1 4 9 10 11 73 74 83 84
           simp [h1_28, h4_28, h9_28, h10_28, h73_28, h74_28, h83_28, h84_28] at h1_30 h4_30 h9_30 h10_30 h11_30 h73_30 h74_30 h83_30 h84_30
           clear hσ
           have g0_30 := gt_of hH 0
           have g1_30 := gt_of hH 1
           have g2_30 := gt_of hH 2
           have gm29_30 := gt_of hH m29
           have g_m29_1__30 := gt_of hH (m29 + 1)
           simp [g0_26, g1_26, g2_26, hn_m29, hst_26, hf, hv, beq_iff_eq.2 hv, hb1, hb2, nx1, nx2, nx3, nx4, nx5, nx6, nx7, nx8] at g0_30 g1_30 g2_30 gm29_30 g_m29_1__30
           have hst_30 := congrArg AHeap.st hH
           simp [hst_26] at hst_30
           clear hH
           refine stp_lex false TT_ok mixed (by rfl) (by rfl) (by kernel_rfl) (by rfl) fun U hU K hK => ?_
           simp [h4_30, h9_30, h10_30, h11_30, g0_30, g1_30, g2_30, gm29_30, g_m29_1__30, hf, hv, beq_iff_eq.2 hv, hb1, hb2, nx1, nx2, nx3, nx4, nx5, nx6, nx7, nx8, encG, hlt, hkt, hll, atL_full hv hlt, atL_full hv hkt, hbc]
           try refine And.intro (by first | omega | rfl) ?_
           refine hK _ _ _ (by subst hU; kernel_rfl) fun σ31 hσ H31 hH => ?_
           clear hK K hU U
           obtain ⟨h1_31, h4_31, h9_31, h73_31, h74_31, h83_31, h84_31, h111_31⟩ := fs8 hσ 1 4 9 73 74 83 84 111
           simp [h1_30, h4_30, h9_30, h73_30, h74_30, h83_30, h84_30] at h1_31 h4_31 h9_31 h73_31 h74_31 h83_31 h84_31 h111_31
           clear hσ
           replace hH : H30 = H31 := Eq.symm hH
           subst hH
           refine stp_false (by simp [aeval_tmp, h111_31, hf, hv, beq_iff_eq.2 hv, hb1, hb2, nx1, nx2, nx3, nx4, nx5, nx6, nx7, nx8, encG, hbc]) ?_
           refine awp_skip ?_
           refine q_block ?_
           refine q_seq ?_
           refine stp_regl TT_ok (by rfl) fun K hK => ?_
           simp [h84_31, g0_30, g1_30, g2_30, gm29_30, g_m29_1__30, hf, hv, beq_iff_eq.2 hv, hb1, hb2, nx1, nx2, nx3, nx4, nx5, nx6, nx7, nx8, encG, wrap_ok (n := (k : Int) + 1) (by omega) (by omega)]
           try refine And.intro (by first | omega | rfl) ?_
           refine hK _ _ fun σ32 hσ H32 hH => ?_
           clear hK K
           obtain ⟨h1_32, h4_32, h9_32, h73_32, h74_32, h83_32, h84_32⟩ := fs7 hσ 1 4 9 73 74 83 84
           simp [h1_31, h4_31, h9_31, h73_31, h74_31, h83_31] at h1_32 h4_32 h9_32 h73_32 h74_32 h83_32 h84_32
           clear hσ
           replace hH : H30 = H32 := Eq.symm hH
           subst hH
           refine ⟨_, ?_, k + 1, rfl, (h1_32.trans h1_25.symm), (h4_32.trans h4_25.symm), (h9_32.trans h9_25.symm), (h73_32.trans h73_25.symm), (h74_32.trans h74_25.symm), (h83_32.trans h83_25.symm), (by simp [h84_32]), (g0_30.trans g0_21.symm), (g1_30.trans g1_21.symm), (g2_30.trans g2_21.symm), (hst_30.trans hst_21.symm), ?_⟩
           ·subst hn4; omega
           ·first | omega | assumption | (simp; done)
          ·skip
           refine awp_ok fun hok => ?_
           obtain ⟨m33, hn_m33⟩ : ∃ m, H26.n = m := ⟨_, rfl⟩
           have hf_m33_0 := hok.free 0
           simp [hn_m33, hst_26] at hf_m33_0
           have nx9 := ne_get hf_m33_0 g0_26
           have nx10 := ne_get hf_m33_0 g1_26
           have nx11 := ne_get hf_m33_0 g2_26
           have hf_m33_1 := hok.free 1
           simp [hn_m33, hst_26] at hf_m33_1
           have nx12 := ne_get hf_m33_1 g0_26
           have nx13 := ne_get hf_m33_1 g1_26
           have nx14 : ¬ m33 = 0 ∧ ¬ 0 = m33 := by omega
           have nx15 := ne_get hf_m33_1 g2_26
           have nx16 : ¬ m33 = 1 ∧ ¬ 1 = m33 := by omega
           have hFF0 := an21 h1_28 h9_28 h10_28 g0_26 g1_26 g2_26 hn_m33 hst_26 hf hv (beq_iff_eq.2 hv) hb1 hb2 nx9 nx10 nx11 nx12 nx13 nx14 nx15 nx16
           refine stp_reg TT_ok (by rfl) fun K hK => ?_
           simp [hFF0, encG]
           try refine And.intro (by first | omega | rfl) ?_
           refine FunW.at (reach_w g [(i : Int)] (by simp)) ?hf ?_
           case hf => exact FrzL.cons (.pure (pu_graph g)) (FrzL.cons (frz_ints (xs := [(i : Int)]) (e := 3) (g := 0) (id := m33) (by simp [hFF0, encG]) rfl) (FrzL.nil _))
           simp [hFF0, encG]
           try refine And.intro (by first | omega | rfl) ?_
           refine FunW.at (containsI_w (g.reach [(i : Int)]) k (by omega)) ?hf ?_
           case hf => exact FrzL.cons (.pure (pu_ints _)) (FrzL.cons (.pure (pu_int _ _)) (FrzL.nil _))
           simp [hFF0, encG]
           try refine And.intro (by first | omega | rfl) ?_
           refine FunW.at (reach_w g [(k : Int)] (by simp)) ?hf ?_
           case hf => exact FrzL.cons (.pure (pu_graph g)) (FrzL.cons (frz_ints (xs := [(k : Int)]) (e := 3) (g := 0) (id := (m33 + 1)) (by simp [hFF0, encG]) rfl) (FrzL.nil _))
           simp [hFF0, encG]
           try refine And.intro (by first | omega | rfl) ?_
           refine FunW.at (containsI_w (g.reach [(k : Int)]) i (by omega)) ?hf ?_
           case hf => exact FrzL.cons (.pure (pu_ints _)) (FrzL.cons (.pure (pu_int _ _)) (FrzL.nil _))
           simp [hFF0, encG]
           try refine And.intro (by first | omega | rfl) ?_
           refine hK _ _ fun σ34 hσ H34 hH => ?_
           clear hK K hFF0
           obtain ⟨h1_34, h4_34, h9_34, h10_34, h11_34, h73_34, h74_34, h83_34, h84_34⟩ := fs9 hσ 1 4 9 10 11 73 74 83 84
           simp [h1_28, h4_28, h9_28, h10_28, h73_28, h74_28, h83_28, h84_28] at h1_34 h4_34 h9_34 h10_34 h11_34 h73_34 h74_34 h83_34 h84_34
           clear hσ
           have g0_34 := gt_of hH 0
           have g1_34 := gt_of hH 1
           have g2_34 := gt_of hH 2
           have gm33_34 := gt_of hH m33
           have g_m33_1__34 := gt_of hH (m33 + 1)
           simp [g0_26, g1_26, g2_26, hn_m33, hst_26, hf, hv, beq_iff_eq.2 hv, hb1, hb2, nx9, nx10, nx11, nx12, nx13, nx14, nx15, nx16] at g0_34 g1_34 g2_34 gm33_34 g_m33_1__34
           have hst_34 := congrArg AHeap.st hH
           simp [hst_26] at hst_34
           clear hH
           refine stp_lex false TT_ok mixed (by rfl) (by rfl) (by kernel_rfl) (by rfl) fun U hU K hK => ?_
           simp [h4_34, h9_34, h10_34, h11_34, g0_34, g1_34, g2_34, gm33_34, g_m33_1__34, hf, hv, beq_iff_eq.2 hv, hb1, hb2, nx9, nx10, nx11, nx12, nx13, nx14, nx15, nx16, encG, hlt, hkt, hll, atL_full hv hlt, atL_full hv hkt, hbc]
           try refine And.intro (by first | omega | rfl) ?_
           refine hK _ _ _ (by subst hU; kernel_rfl) fun σ35 hσ H35 hH => ?_
           clear hK K hU U
           obtain ⟨h1_35, h4_35, h9_35, h73_35, h74_35, h83_35, h84_35, h111_35⟩ := fs8 hσ 1 4 9 73 74 83 84 111
           simp [h1_34, h4_34, h9_34, h73_34, h74_34, h83_34, h84_34] at h1_35 h4_35 h9_35 h73_35 h74_35 h83_35 h84_35 h111_35
           clear hσ
           replace hH : H34 = H35 := Eq.symm hH
           subst hH
           refine stp_false (by simp [aeval_tmp, h111_35, hf, hv, beq_iff_eq.2 hv, hb1, hb2, nx9, nx10, nx11, nx12, nx13, nx14, nx15, nx16, encG, hbc]) ?_
           refine awp_skip ?_
           refine q_block ?_
           refine q_seq ?_
           refine stp_regl TT_ok (by rfl) fun K hK => ?_
           simp [h84_35, g0_34, g1_34, g2_34, gm33_34, g_m33_1__34, hf, hv, beq_iff_eq.2 hv, hb1, hb2, nx9, nx10, nx11, nx12, nx13, nx14, nx15, nx16, encG, wrap_ok (n := (k : Int) + 1) (by omega) (by omega)]
           try refine And.intro (by first | omega | rfl) ?_
           refine hK _ _ fun σ36 hσ H36 hH => ?_
           clear hK K
           obtain ⟨h1_36, h4_36, h9_36, h73_36, h74_36, h83_36, h84_36⟩ := fs7 hσ 1 4 9 73 74 83 84
           simp [h1_35, h4_35, h9_35, h73_35, h74_35, h83_35] at h1_36 h4_36 h9_36 h73_36 h74_36 h83_36 h84_36
           clear hσ
           replace hH : H34 = H36 := Eq.symm hH
           subst hH
           refine ⟨_, ?_, k + 1, rfl, (h1_36.trans h1_25.symm), (h4_36.trans h4_25.symm), (h9_36.trans h9_25.symm), (h73_36.trans h73_25.symm), (h74_36.trans h74_25.symm), (h83_36.trans h83_25.symm), (by simp [h84_36]), (g0_34.trans g0_21.symm), (g1_34.trans g1_21.symm), (g2_34.trans g2_21.symm), (hst_34.trans hst_21.symm), ?_⟩
           ·subst hn4; omega
           ·first | omega | assumption | (simp; done)
         ·skip
          refine awp_ok fun hok => ?_
          obtain ⟨m37, hn_m37⟩ : ∃ m, H26.n = m := ⟨_, rfl⟩
          have hf_m37_0 := hok.free 0
          simp [hn_m37, hst_26] at hf_m37_0
          have nx17 := ne_get hf_m37_0 g0_26
          have nx18 := ne_get hf_m37_0 g1_26
          have nx19 := ne_get hf_m37_0 g2_26
          have hFF0 := an15 h1_28 h9_28 h10_28 g0_26 g1_26 g2_26 hn_m37 hst_26 hf hv (beq_iff_eq.2 hv) hb1 nx17 nx18 nx19
          refine stp_reg TT_ok (by rfl) fun K hK => ?_
          simp [hFF0, encG]
          try refine And.intro (by first | omega | rfl) ?_
          refine FunW.at (reach_w g [(i : Int)] (by simp)) ?hf ?_
          case hf => exact FrzL.cons (.pure (pu_graph g)) (FrzL.cons (frz_ints (xs := [(i : Int)]) (e := 3) (g := 0) (id := m37) (by simp [hFF0, encG]) rfl) (FrzL.nil _))
          simp [hFF0, encG]
          try refine And.intro (by first | omega | rfl) ?_
          refine FunW.at (containsI_w (g.reach [(i : Int)]) k (by omega)) ?hf ?_
          case hf => exact FrzL.cons (.pure (pu_ints _)) (FrzL.cons (.pure (pu_int _ _)) (FrzL.nil _))
          simp [hFF0, encG]
          try refine And.intro (by first | omega | rfl) ?_
          refine hK _ _ fun σ38 hσ H38 hH => ?_
          clear hK K hFF0
          obtain ⟨h1_38, h4_38, h9_38, h10_38, h11_38, h73_38, h74_38, h83_38, h84_38⟩ := fs9 hσ 1 4 9 10 11 73 74 83 84
          simp [h1_28, h4_28, h9_28, h10_28, h73_28, h74_28, h83_28, h84_28] at h1_38 h4_38 h9_38 h10_38 h11_38 h73_38 h74_38 h83_38 h84_38
          clear hσ
          have g0_38 := gt_of hH 0
          have g1_38 := gt_of hH 1
          have g2_38 := gt_of hH 2
          have gm37_38 := gt_of hH m37
          simp [g0_26, g1_26, g2_26, hn_m37, hst_26, hf, hv, beq_iff_eq.2 hv, hb1, nx17, nx18, nx19] at g0_38 g1_38 g2_38 gm37_38
          have hst_38 := congrArg AHeap.st hH
          simp [hst_26] at hst_38
          clear hH
          refine stp_lex false TT_ok mixed (by rfl) (by rfl) (by kernel_rfl) (by rfl) fun U hU K hK => ?_
          simp [h4_38, h9_38, h10_38, h11_38, g0_38, g1_38, g2_38, gm37_38, hf, hv, beq_iff_eq.2 hv, hb1, nx17, nx18, nx19, encG, hlt, hkt, hll, atL_full hv hlt, atL_full hv hkt, hbc]
          try refine And.intro (by first | omega | rfl) ?_
          refine hK _ _ _ (by subst hU; kernel_rfl) fun σ39 hσ H39 hH => ?_
          clear hK K hU U
          obtain ⟨h1_39, h4_39, h9_39, h73_39, h74_39, h83_39, h84_39, h111_39⟩ := fs8 hσ 1 4 9 73 74 83 84 111
          simp [h1_38, h4_38, h9_38, h73_38, h74_38, h83_38, h84_38] at h1_39 h4_39 h9_39 h73_39 h74_39 h83_39 h84_39 h111_39
          clear hσ
          replace hH : H38 = H39 := Eq.symm hH
          subst hH
          refine stp_false (by simp [aeval_tmp, h111_39, hf, hv, beq_iff_eq.2 hv, hb1, nx17, nx18, nx19, encG, hbc]) ?_
          refine awp_skip ?_
          refine q_block ?_
          refine q_seq ?_
          refine stp_regl TT_ok (by rfl) fun K hK => ?_
          simp [h84_39, g0_38, g1_38, g2_38, gm37_38, hf, hv, beq_iff_eq.2 hv, hb1, nx17, nx18, nx19, encG, wrap_ok (n := (k : Int) + 1) (by omega) (by omega)]
          try refine And.intro (by first | omega | rfl) ?_
          refine hK _ _ fun σ40 hσ H40 hH => ?_
          clear hK K
          obtain ⟨h1_40, h4_40, h9_40, h73_40, h74_40, h83_40, h84_40⟩ := fs7 hσ 1 4 9 73 74 83 84
          simp [h1_39, h4_39, h9_39, h73_39, h74_39, h83_39] at h1_40 h4_40 h9_40 h73_40 h74_40 h83_40 h84_40
          clear hσ
          replace hH : H38 = H40 := Eq.symm hH
          subst hH
          refine ⟨_, ?_, k + 1, rfl, (h1_40.trans h1_25.symm), (h4_40.trans h4_25.symm), (h9_40.trans h9_25.symm), (h73_40.trans h73_25.symm), (h74_40.trans h74_25.symm), (h83_40.trans h83_25.symm), (by simp [h84_40]), (g0_38.trans g0_21.symm), (g1_38.trans g1_21.symm), (g2_38.trans g2_21.symm), (hst_38.trans hst_21.symm), ?_⟩
          ·subst hn4; omega
          ·first | omega | assumption | (simp; done)
        ·try simp at hc85
         refine awp_exit ?_
         refine q_seq_exit ?_
         refine q_loop_exit ?_
         refine q_block_hit ?_
         refine q_block ?_
         refine q_seq ?_
         refine stp_regl TT_ok (by rfl) fun K hK => ?_
         simp [h74_27, g0_26, g1_26, g2_26, hf, hv, beq_iff_eq.2 hv, encG, wrap_ok (n := (i : Int) + 1) (by omega) (by omega)]
         try refine And.intro (by first | omega | rfl) ?_
         refine hK _ _ fun σ41 hσ H41 hH => ?_
         clear hK K
         obtain ⟨h1_41, h4_41, h73_41, h74_41⟩ := fs4 hσ 1 4 73 74
         simp [h1_27, h4_27, h73_27] at h1_41 h4_41 h73_41 h74_41
         clear hσ
         replace hH : H26 = H41 := Eq.symm hH
         subst hH
         refine ⟨_, ?_, i + 1, rfl, (h1_41.trans h1_20.symm), (h4_41.trans h4_20.symm), (h73_41.trans h73_20.symm), (by simp [h74_41]), (g0_26.trans g0_8.symm), (g1_26.trans g1_8.symm), (g2_26.trans g2_8.symm), (hst_26.trans hst_8.symm), ?_⟩
         ·subst hn3; omega
         ·first | omega | assumption | (simp; done)
      ·try simp at hc75
       refine awp_exit ?_
       refine q_seq_exit ?_
       refine q_loop_exit ?_
       refine q_block_hit ?_
       refine q_seq ?_
       have hFF0 := an8 h1_22 h4_22 g0_21 g1_21 g2_21 hf hv (beq_iff_eq.2 hv)
       refine stp_reg TT_ok (by rfl) fun K hK => ?_
       simp [hFF0, encG]
       try refine And.intro (by first | omega | rfl) ?_
       refine FunW.at (containsFuncE_w g.edges 38 [capAt g] (fun _ => false) (fun e he => part1_ok g hv e he) (by omega) (pu_cons (pu_capAt g) pu_nil)) ?hf ?_
       case hf => exact FrzL.cons (.pure (pu_edges _)) (FrzL.cons (frz_fn (FrzL.cons (frz_box (e := 26) (sz := 1) (x := .sl 1 0 0 g.nodes.length) (by simp [hFF0, encG]) (FrzL.cons (frz_ints (e := 3) (g := 0) (id := 1) (by simp [hFF0, encG]) (by simp [hll])) (FrzL.nil _)) (by simp [AV.one])) (FrzL.nil _))) (FrzL.nil _))
       simp [hFF0, encG]
       try refine And.intro (by first | omega | rfl) ?_
       refine hK _ _ fun σ42 hσ H42 hH => ?_
       clear hK K hFF0
       have h2_42 := congrFun hσ 2
       simp [] at h2_42
       clear hσ
       replace hH : H21 = H42 := Eq.symm hH
       subst hH
       refine awp_ret ?_
       refine q_fin1 h2_42 ?_
       first | rfl | (simp; done)
  ·skip
   have hFF0 := an5 h1_4 g0_1 hf hv (beq_eq_false_iff_ne.2 hv)
   refine stp_reg TT_ok (by rfl) fun K hK => ?_
   simp [hFF0, encG]
   try refine And.intro (by first | omega | rfl) ?_
   refine stp_call (valid_ok g) ?_
   simp [hFF0, encG]
   try refine And.intro (by first | omega | rfl) ?_
   refine hK _ _ fun σ43 hσ H43 hH => ?_
   clear hK K hFF0
   obtain ⟨h1_43, h3_43, h21_43⟩ := fs3 hσ 1 3 21
   simp [h1_4, h3_4] at h1_43 h3_43 h21_43
   clear hσ
   replace hH : H1 = H43 := Eq.symm hH
   subst hH
   refine stp_true (by simp [aeval_tmp, h21_43, hf, hv, beq_eq_false_iff_ne.2 hv, encG]) ?_
   have hge : g.gcomps = [] := by rw [Gr.gcomps, if_neg hv]
   refine stp_reg TT_ok (by rfl) fun K hK => ?_
   simp [h3_43, g0_1, hf, hv, beq_eq_false_iff_ne.2 hv, encG, hge, encS]
   try refine And.intro (by first | omega | rfl) ?_
   refine hK _ _ fun σ44 hσ H44 hH => ?_
   clear hK K
   have h2_44 := congrFun hσ 2
   simp [] at h2_44
   clear hσ
   replace hH : H1 = H44 := Eq.symm hH
   subst hH
   refine awp_ret ?_
   refine q_seq_ret ?_
   refine q_fin1 h2_44 ?_
   first | rfl | (simp; done)
 ·skip
  have hFF0 := an3 h1_2 g0_1 hf
  refine stp_reg TT_ok (by rfl) fun K hK => ?_
  simp [hFF0, encG]
  try refine And.intro (by first | omega | rfl) ?_
  refine stp_call (few_ok g) ?_
  simp [hFF0, encG]
  try refine And.intro (by first | omega | rfl) ?_
  refine hK _ _ fun σ45 hσ H45 hH => ?_
  clear hK K hFF0
  obtain ⟨h1_45, h16_45⟩ := fs2 hσ 1 16
  simp [h1_2] at h1_45 h16_45
  clear hσ
  replace hH : H1 = H45 := Eq.symm hH
  subst hH
  refine stp_true (by simp [aeval_tmp, h16_45, hf, encG]) ?_
  refine stp_reg TT_ok (by rfl) fun K hK => ?_
  simp [g0_1, hf, encG]
  try refine And.intro (by first | omega | rfl) ?_
  refine hK _ _ fun σ46 hσ H46 hH => ?_
  clear hK K
  have h2_46 := congrFun hσ 2
  simp [] at h2_46
  clear hσ
  replace hH : H1 = H46 := Eq.symm hH
  subst hH
  refine awp_ret ?_
  refine q_seq_ret ?_
  refine q_fin1 h2_46 ?_
  first | rfl | (simp; done)
set_option maxRecDepth 100000 in
theorem graphPartition_lifted (os : Os) (started : os.Started) (H : Type) (enc : TypeId × Value → H) :
  ReturnsInHanded {} Try.checked os 9 .any (Rows.graphPartitionSpec.pre6 enc Try.prog Try.f9 Rows.graphPartitionRow.domain false) (Rows.graphPartitionSpec.post enc Try.prog Try.f9 false true false false) := by
 refine returnsInHanded_of_change (C := Try.checked) own started (by kernel_rfl) Try.func9
  (ChangeSpec.witness6 (enc := enc) (C := Try.checked) false ⟨#[], #[.agg #[.slice none 0 0, .slice none 0 0]], []⟩ 9 (by kernel_rfl) (by kernel_rfl) (by kernel_rfl) (by kernel_rfl)) ?_
 intro W base args ds gs before hval hW hcnd _
 refine law_calls2 TT_ok laid (fn := Try.f9) (s := Rows.graphPartitionSpec) (tb := 4) 9 rfl rfl Try.underlying4 (by kernel_rfl) (fun ds h => ?_) (fun avs ha => ?_) hval hW
 ·match ds, h with
  | [d0], _ => rfl
 ·have ha0 := ha
  obtain ⟨v0, r0, rfl, hv0, ha⟩ := Args.cons ha
  obtain rfl := Args.nil ha
  obtain ⟨g, rfl⟩ := ty_graph hv0
  exact partition0 g
theorem graphPartition_over : Rows.graphPartitionRow.holds Try.pinned (OpenSpec.ofChange Rows.graphPartitionSpec) :=
 OpenClaim.holds_of_wide 9 Try.f9 rfl rfl rfl rfl rfl rfl rfl ⟨rfl, rfl, rfl, rfl, rfl⟩ rfl rfl rfl rfl rfl (by kernel_rfl) Try.func9 (by kernel_rfl)
  (of_decide_eq_true (by kernel_rfl)) (by unfold Func.isWrapper; first | (rw [if_pos (by decide +kernel)]; kernel_rfl) | (rw [if_neg (by decide +kernel)]; exact ⟨rfl, rfl⟩))
  (fun os started H enc _ => graphPartition_lifted os started H enc)
theorem graphPartition_holds : Rows.GraphPartitionSaid := graphPartition_over
end Go.Proofs.Yteifhcohmipdcaa
