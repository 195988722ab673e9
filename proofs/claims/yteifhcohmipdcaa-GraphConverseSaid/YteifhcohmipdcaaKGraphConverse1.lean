/-
  The law GraphConverse answers true, whatever the input: part 1. Conditions: none.
-/
import Derived.Test.YteifhcohmipdcaaB5
namespace Go.Proofs.Yteifhcohmipdcaa
open Go.Abs
set_option linter.unusedSimpArgs false
set_option linter.unusedVariables false
theorem awake_ok : Fun1 Try.prog 10 [] (.bool true) := fun1_pure awake0 pu_nil (.bool _)
theorem reach_len (g : Gr) (l : List Int) : (g.reach l).length ≤ g.nodes.length := by
 rw [Gr.reach]; split
 ·exact listUpto_len _ _
 ·exact Nat.zero_le _
end Go.Proofs.Yteifhcohmipdcaa

namespace Go.Proofs.Yteifhcohmipdcaa
open Go.Abs
set_option linter.unusedSimpArgs false
set_option linter.unusedVariables false
theorem any_mem {α : Type} [DecidableEq α] {x : α} {es : List α} : (es.any fun y => decide (x = y)) = decide (x ∈ es) := by
 rw [Bool.eq_iff_iff, List.any_eq_true, decide_eq_true_eq]
 exact ⟨fun ⟨y, h1, h2⟩ => by rw [of_decide_eq_true h2]; exact h1, fun h => ⟨x, h, by simp⟩⟩
set_option maxHeartbeats 1000000 in
theorem indexI0 (es : List Int) (x : Int) (hl : es.length ≤ 1000000) : ACalls Try.prog 36 [.ro (es.map (AV.int .i64)), ((AV.int .i64) x)] AHeap.nil (fun r _ => r = .int .i64 (idxOf (fun y => decide (x = y)) es)) := by
 refine acalls_body TT_ok Try.func36 rfl rfl (by simp [Try.ntmps36]) ?_
 rw [Try.ntmps36]
 obtain ⟨σ, hσ⟩ : ∃ σ, σ = st0 [.ro (es.map (AV.int .i64)), ((AV.int .i64) x)] := ⟨_, rfl⟩
 rw [← hσ]
 obtain ⟨h0_0, h1_0⟩ := fs2 hσ 0 1
 simp [st0] at h0_0 h1_0
 clear hσ
 obtain ⟨H, hH⟩ : ∃ H, H = AHeap.nil := ⟨_, rfl⟩
 rw [← hH]
 have hn_0 : H.n = 0 := by rw [hH]; rfl
 have hst_0 : H.st = 1 := by rw [hH]; rfl
 clear hH
 refine stp_reg TT_ok (by rfl) fun K hK => ?_
 simp []
 try refine And.intro (by first | omega | rfl) ?_
 refine hK _ _ fun σ1 hσ H1 hH => ?_
 clear hK K
 obtain ⟨h0_1, h1_1⟩ := fs2 hσ 0 1
 simp [h0_0, h1_0] at h0_1 h1_1
 clear hσ
 replace hH : H = H1 := Eq.symm hH
 subst hH
 refine awp_seq ?_
 refine stp_reg TT_ok (by rfl) fun K hK => ?_
 simp [h0_1]
 try refine And.intro (by first | omega | rfl) ?_
 refine hK _ _ fun σ2 hσ H2 hH => ?_
 clear hK K
 obtain ⟨h0_2, h1_2, h7_2, h8_2⟩ := fs4 hσ 0 1 7 8
 simp [h0_1, h1_1] at h0_2 h1_2 h7_2 h8_2
 clear hσ
 replace hH : H = H2 := Eq.symm hH
 subst hH
 refine awp_block ?_
 refine awp_loopV (fun n σ' H' => ∃ (i : Nat), n = es.length - i ∧ σ' 0 = σ2 0 ∧ σ' 1 = σ2 1 ∧ σ' 7 = .int .i64 es.length ∧ σ' 8 = .int .i64 i ∧ H' = H ∧ (i ≤ es.length) ∧ ((es.take i).any (fun y => decide (x = y)) = false)) ?_ ?_
 ·refine ⟨_, 0, rfl, rfl, rfl, (by simp [h7_2]), (by simp [h8_2]), rfl, ?_, ?_⟩
  ·first | omega | (simp; done) | assumption
  ·first | omega | (simp; done) | assumption
 ·rintro n1 σ3 H3 ⟨i, hn1, q0_3, q1_3, h7_3, h8_3, hHq, p1, p2⟩
  have h0_3 := q0_3.trans h0_2
  have h1_3 := q1_3.trans h1_2
  replace hHq := hHq.symm
  subst hHq
  refine stp_reg TT_ok (by rfl) fun K hK => ?_
  simp [h7_3, h8_3]
  try refine And.intro (by first | omega | rfl) ?_
  refine hK _ _ fun σ4 hσ H4 hH => ?_
  clear hK K
  obtain ⟨h0_4, h1_4, h7_4, h8_4, h9_4⟩ := fs5 hσ 0 1 7 8 9
  simp [h0_3, h1_3, h7_3, h8_3] at h0_4 h1_4 h7_4 h8_4 h9_4
  clear hσ
  replace hH : H = H4 := Eq.symm hH
  subst hH
  refine awp_seq ?_
  refine awp_cond _ (by simp only [aeval_tmp]; exact h9_4) (fun hc9 => ?_) (fun hc9 => ?_)
  ·try simp at hc9
   have hlt : i < es.length := by simpa using hc9
   have hge : (es.map (AV.int .i64))[i]? = some ((AV.int .i64) es[i]) := by simp [hlt]
   refine awp_skip ?_
   refine q_seq ?_
   refine awp_seq ?_
   refine awp_block ?_
   refine stp_reg TT_ok (by rfl) fun K hK => ?_
   simp [h8_4]
   try refine And.intro (by first | omega | rfl) ?_
   refine hK _ _ fun σ5 hσ H5 hH => ?_
   clear hK K
   obtain ⟨h0_5, h1_5, h5_5, h7_5, h8_5⟩ := fs5 hσ 0 1 5 7 8
   simp [h0_4, h1_4, h7_4, h8_4] at h0_5 h1_5 h5_5 h7_5 h8_5
   clear hσ
   replace hH : H = H5 := Eq.symm hH
   subst hH
   refine stp_reg TT_ok (by rfl) fun K hK => ?_
   simp [h0_5, h1_5, h5_5, hge, hlt]
   try refine And.intro (by first | omega | rfl) ?_
   refine hK _ _ fun σ6 hσ H6 hH => ?_
   clear hK K
   obtain ⟨h0_6, h1_6, h5_6, h7_6, h8_6, h16_6⟩ := fs6 hσ 0 1 5 7 8 16
   simp [h0_5, h1_5, h5_5, h7_5, h8_5] at h0_6 h1_6 h5_6 h7_6 h8_6 h16_6
   clear hσ
   replace hH : H = H6 := Eq.symm hH
   subst hH
   refine awp_cond _ (by simp only [aeval_tmp]; exact h16_6) (fun hc16 => ?_) (fun hc16 => ?_)
   ·try simp at hc16
    skip
    have heq : x = es[i] := by first | exact hc16 | exact Prod.ext hc16.1 hc16.2
    refine stp_reg TT_ok (by rfl) fun K hK => ?_
    simp [h5_6]
    try refine And.intro (by first | omega | rfl) ?_
    refine hK _ _ fun σ7 hσ H7 hH => ?_
    clear hK K
    have h4_7 := congrFun hσ 4
    simp [] at h4_7
    clear hσ
    replace hH : H = H7 := Eq.symm hH
    subst hH
    refine awp_ret ?_
    refine q_block_ret ?_
    refine q_seq_ret ?_
    refine q_loop_ret ?_
    refine q_block_ret ?_
    refine q_seq_ret ?_
    refine q_fin1 h4_7 ?_
    rw [idxOf_at hlt p2 (by simp [heq])]
   ·try simp at hc16
    skip
    have heq : ¬ x = es[i] := by first | exact hc16 | (intro e; rw [e] at hc16; simp at hc16)
    refine awp_skip ?_
    refine q_block ?_
    refine q_seq ?_
    refine stp_regl TT_ok (by rfl) fun K hK => ?_
    simp [h8_6, wrap_ok (n := (i : Int) + 1) (by omega) (by omega)]
    try refine And.intro (by first | omega | rfl) ?_
    refine hK _ _ fun σ8 hσ H8 hH => ?_
    clear hK K
    obtain ⟨h0_8, h1_8, h7_8, h8_8⟩ := fs4 hσ 0 1 7 8
    simp [h0_6, h1_6, h7_6] at h0_8 h1_8 h7_8 h8_8
    clear hσ
    replace hH : H = H8 := Eq.symm hH
    subst hH
    refine ⟨_, ?_, i + 1, rfl, (h0_8.trans h0_2.symm), (h1_8.trans h1_2.symm), (by simp [h7_8]), (by simp [h8_8]), rfl, ?_, ?_⟩
    ·subst hn1; omega
    ·first | omega | assumption | (simp; done)
    ·exact any_take_succ hlt p2 (by simp [heq])
  ·try simp at hc9
   refine awp_exit ?_
   refine q_seq_exit ?_
   refine q_loop_exit ?_
   refine q_block_hit ?_
   refine q_seq ?_
   refine stp_reg TT_ok (by rfl) fun K hK => ?_
   simp []
   try refine And.intro (by first | omega | rfl) ?_
   refine hK _ _ fun σ9 hσ H9 hH => ?_
   clear hK K
   have h4_9 := congrFun hσ 4
   simp [] at h4_9
   clear hσ
   replace hH : H = H9 := Eq.symm hH
   subst hH
   refine awp_ret ?_
   refine q_fin1 h4_9 ?_
   have : i = es.length := by have := hc9; omega
   subst this
   rw [List.take_length] at p2
   rw [idxOf_none p2]
theorem indexI_w (es : List Int) (x : Int) (hl : es.length ≤ 1000000) : FunW Try.prog 36 [.ro (es.map (AV.int .i64)), (AV.int .i64) x] (.int .i64 (idxOf (fun y => decide (x = y)) es)) :=
 funW_pure (indexI0 es x hl) (pu_cons (.ro fun v hv => by obtain ⟨x, _, rfl⟩ := List.mem_map.1 hv; exact pu_int _ _) (pu_cons (pu_int _ _) pu_nil)) (.int _ _) (.int _ _)
set_option maxHeartbeats 1000000 in
theorem containsI0 (es : List Int) (x : Int) (hl : es.length ≤ 1000000) : ACalls Try.prog 32 [.ro (es.map (AV.int .i64)), ((AV.int .i64) x)] AHeap.nil (fun r _ => r = .bool (decide (x ∈ es))) := by
 refine acalls_body TT_ok Try.func32 rfl rfl (by simp [Try.ntmps32]) ?_
 rw [Try.ntmps32]
 obtain ⟨σ, hσ⟩ : ∃ σ, σ = st0 [.ro (es.map (AV.int .i64)), ((AV.int .i64) x)] := ⟨_, rfl⟩
 rw [← hσ]
 obtain ⟨h0_0, h1_0⟩ := fs2 hσ 0 1
 simp [st0] at h0_0 h1_0
 clear hσ
 obtain ⟨H, hH⟩ : ∃ H, H = AHeap.nil := ⟨_, rfl⟩
 rw [← hH]
 have hn_0 : H.n = 0 := by rw [hH]; rfl
 have hst_0 : H.st = 1 := by rw [hH]; rfl
 clear hH
 refine stp_reg TT_ok (by rfl) fun K hK => ?_
 simp []
 try refine And.intro (by first | omega | rfl) ?_
 refine hK _ _ fun σ1 hσ H1 hH => ?_
 clear hK K
 obtain ⟨h0_1, h1_1⟩ := fs2 hσ 0 1
 simp [h0_0, h1_0] at h0_1 h1_1
 clear hσ
 replace hH : H = H1 := Eq.symm hH
 subst hH
 refine stp_reg TT_ok (by rfl) fun K hK => ?_
 simp [h0_1, h1_1]
 try refine And.intro (by first | omega | rfl) ?_
 refine FunW.at (indexI_w es x hl) ?hf ?_
 case hf => exact FrzL.cons (.pure (.ro fun v hv => by obtain ⟨x, _, rfl⟩ := List.mem_map.1 hv; exact pu_int _ _)) (FrzL.cons (.pure (pu_int _ _)) (FrzL.nil _))
 simp [h0_1, h1_1]
 try refine And.intro (by first | omega | rfl) ?_
 refine hK _ _ fun σ2 hσ H2 hH => ?_
 clear hK K
 have h4_2 := congrFun hσ 4
 simp [] at h4_2
 clear hσ
 replace hH : H = H2 := Eq.symm hH
 subst hH
 refine awp_ret ?_
 refine q_fin1 h4_2 ?_
 first | (rw [idxOf_nonneg, any_mem]; done) | (rw [idxOf_nonneg, any_mem]; congr)
theorem containsI_w (es : List Int) (x : Int) (hl : es.length ≤ 1000000) : FunW Try.prog 32 [.ro (es.map (AV.int .i64)), (AV.int .i64) x] (.bool (decide (x ∈ es))) :=
 funW_pure (containsI0 es x hl) (pu_cons (.ro fun v hv => by obtain ⟨x, _, rfl⟩ := List.mem_map.1 hv; exact pu_int _ _) (pu_cons (pu_int _ _) pu_nil)) (.bool _) (.bool _)
end Go.Proofs.Yteifhcohmipdcaa

namespace Go.Proofs.Yteifhcohmipdcaa
open Go.Abs
set_option linter.unusedSimpArgs false
set_option linter.unusedVariables false
def Gr.lst (g : Gr) (i kk : Nat) : Nat := ((List.range' kk (g.nodes.length - kk)).find? fun k => g.both i k).getD i
def Gr.grpL (g : Gr) (i : Nat) : List Int := (List.range i).map fun v : Nat => (g.grp v : Int)
end Go.Proofs.Yteifhcohmipdcaa

namespace Go.Proofs.Yteifhcohmipdcaa
open Go.Abs
set_option linter.unusedSimpArgs false
set_option linter.unusedVariables false
theorem filter_lt {α : Type} {p q : α → Bool} : ∀ {l : List α}, (∀ x ∈ l, p x = true → q x = true) → ∀ {y : α}, y ∈ l → q y = true → p y = false → (l.filter p).length < (l.filter q).length
 | [], _, y, hy, _, _ => by cases hy
 | a :: l, h, y, hy, hq, hp => by
  have hle : ∀ {l : List α}, (∀ x ∈ l, p x = true → q x = true) → (l.filter p).length ≤ (l.filter q).length := by
   intro l
   induction l with
   | nil => intro _; exact Nat.le_refl _
   | cons b l ih =>
    intro h
    have h1 := ih fun x hx => h x (List.mem_cons_of_mem _ hx)
    have h2 := h b (List.mem_cons_self ..)
    simp only [List.filter_cons]
    cases hb : p b with
    | false => cases hb2 : q b <;> simp <;> omega
    | true => rw [h2 hb]; simp; omega
  simp only [List.filter_cons]
  rcases List.mem_cons.1 hy with rfl | hy2
  ·rw [hq, hp]
   have := hle fun x hx => h x (List.mem_cons_of_mem _ hx)
   simp; omega
  ·have := filter_lt (fun x hx => h x (List.mem_cons_of_mem _ hx)) hy2 hq hp
   have h2 := h a (List.mem_cons_self ..)
   cases hb : p a with
   | false => cases hb2 : q a <;> simp <;> omega
   | true => rw [h2 hb]; simp; omega
def Progress (ss : List (List Int)) : Prop := ∀ l : List Int, (∃ k : Nat, k < ss.length ∧ (k : Int) ∉ l) → ∃ k : Nat, k < ss.length ∧ readyAt ss l k = true
theorem readyAt_not {ss : List (List Int)} {l : List Int} {k : Nat} (h : readyAt ss l k = true) : (k : Int) ∉ l := by
 simp only [readyAt, Bool.and_eq_true, Bool.not_eq_true', decide_eq_false_iff_not] at h; exact h.1
theorem pickN_spec {ss : List (List Int)} {l : List Int} (h : ∃ k : Nat, k < ss.length ∧ readyAt ss l k = true) : pickN ss l < ss.length ∧ readyAt ss l (pickN ss l) = true ∧ ∀ k, k < pickN ss l → readyAt ss l k = false := by
 obtain ⟨k, hk, hr⟩ := h
 cases hf : (List.range ss.length).find? (readyAt ss l) with
 | none => have := List.find?_eq_none.1 hf k (List.mem_range.2 hk); rw [hr] at this; simp at this
 | some i =>
  have he : pickN ss l = i := by rw [pickN, hf]; rfl
  have h2 := List.find?_range_eq_some.1 hf
  rw [he]
  exact ⟨List.mem_range.1 h2.2.1, h2.1, fun k hk => by have := h2.2.2 k hk; simpa using this⟩
theorem lacks {n : Nat} {l : List Int} (h : l.length < n) : ∃ k : Nat, k < n ∧ (k : Int) ∉ l := by
 rcases Classical.em (∃ k : Nat, k < n ∧ (k : Int) ∉ l) with h1 | h1
 ·exact h1
 ·exfalso
  have hall : ∀ k : Nat, k < n → (k : Int) ∈ l := fun k hk => Classical.byContradiction fun h2 => h1 ⟨k, hk, h2⟩
  have hsub : (List.range n).map (fun k : Nat => (k : Int)) ⊆ l := by
   intro x hx
   obtain ⟨k, hk, rfl⟩ := List.mem_map.1 hx
   exact hall k (List.mem_range.1 hk)
  have hnd : ((List.range n).map (fun k : Nat => (k : Int))).Nodup := by
   rw [List.nodup_iff_pairwise_ne, List.pairwise_map]
   exact (List.nodup_iff_pairwise_ne.1 List.nodup_range).imp fun h e => h (by omega)
  have := hnd.length_le_of_subset hsub
  simp at this; omega
structure ListedOk (ss : List (List Int)) (j : Nat) : Prop where
 nodup : (listedL ss j).Nodup
 inn : ∀ x ∈ listedL ss j, inR ss.length x
 ready : ∀ i, i < j → readyAt ss (listedL ss i) (pickN ss (listedL ss i)) = true
theorem listed_pick {ss : List (List Int)} (hp : Progress ss) {j : Nat} (h : j < ss.length) : pickN ss (listedL ss j) < ss.length ∧ readyAt ss (listedL ss j) (pickN ss (listedL ss j)) = true ∧ ∀ k, k < pickN ss (listedL ss j) → readyAt ss (listedL ss j) k = false :=
 pickN_spec (hp _ (lacks (by rw [listed_len]; exact h)))
theorem listed_ok2 {ss : List (List Int)} (hp : Progress ss) : ∀ {j : Nat}, j ≤ ss.length → ListedOk ss j
 | 0, _ => ⟨by simp [listedL], fun x hx => by simp [listedL] at hx, fun i hi => by omega⟩
 | j + 1, h => by
  have ih := listed_ok2 hp (j := j) (by omega)
  obtain ⟨h1, h2, h3⟩ := listed_pick hp (j := j) (by omega)
  have hn := readyAt_not h2
  refine ⟨?_, listed_in h, fun i hi => ?_⟩
  ·rw [listedL, List.nodup_append]
   exact ⟨ih.nodup, by simp, fun a ha b hb => by simp at hb; subst hb; intro e; subst e; exact hn ha⟩
  ·by_cases e : i = j
   ·subst e; exact h2
   ·exact ih.ready i (by omega)
theorem listed_all {ss : List (List Int)} (hp : Progress ss) : ∀ k : Nat, k < ss.length → (k : Int) ∈ listedL ss ss.length := by
 intro k hk
 have h := listed_ok2 hp (Nat.le_refl ss.length)
 rcases Classical.em ((k : Int) ∈ listedL ss ss.length) with h1 | h1
 ·exact h1
 ·exfalso
  have hnd : ((k : Int) :: listedL ss ss.length).Nodup := List.nodup_cons.2 ⟨h1, h.nodup⟩
  have hsub : ((k : Int) :: listedL ss ss.length) ⊆ (List.range ss.length).map (fun k : Nat => (k : Int)) := by
   intro x hx
   have hx2 : inR ss.length x := by
    rcases List.mem_cons.1 hx with rfl | hx
    ·exact ⟨by omega, by omega⟩
    ·exact h.inn x hx
   exact List.mem_map.2 ⟨x.toNat, List.mem_range.2 (in_toNat hx2), toNat_cast hx2⟩
  have := hnd.length_le_of_subset hsub
  rw [List.length_cons, listed_len, List.length_map, List.length_range] at this
  omega
def Gr.reachN (g : Gr) (r : Nat) : Nat := ((List.range g.nodes.length).filter fun v => (g.marks [(r : Int)]).getD v false).length
theorem ready_iff {g : Gr} (hv : g.valid = true) {l : List Int} {r : Nat} (hr : r < g.nodes.length) (hg : g.grp r = r) :
  readyAt g.cedges l (g.rank r) = true ↔ (g.rank r : Int) ∉ l ∧ ∀ a b : Int, (a, b) ∈ g.edges → g.grp a.toNat = r → ¬ g.grp b.toNat = r → (g.rank (g.grp b.toNat) : Int) ∈ l := by
 have hce : g.cedges.getD (g.rank r) [] = g.ceR g.nodes.length r := by
  have := ceU_get (g := g) (i := g.nodes.length) hv hr
  rw [hg] at this
  rw [List.getD_eq_getElem?_getD, Gr.cedges, this]; rfl
 simp only [readyAt, Bool.and_eq_true, Bool.not_eq_true', decide_eq_false_iff_not, hce, List.all_eq_true, decide_eq_true_eq]
 refine and_congr_right fun _ => ⟨fun h a b he ha hb => ?_, fun h x hx => ?_⟩
 ·have hea := (valid_edge hv he).1
  exact h _ (ceR_mem.2 ⟨a.toNat, in_toNat hea, ha, b, (succ_mem hv).2 (by rw [toNat_cast hea]; exact he), by rw [ha]; exact hb, rfl⟩)
 ·obtain ⟨u, h1, h2, k, h3, h4, rfl⟩ := ceR_mem.1 hx
  exact h u k ((succ_mem hv).1 h3) (by simpa using h2) (by rw [h2] at h4; exact h4)
theorem comps_progress {g : Gr} (hv : g.valid = true) : Progress g.cedges := by
 intro l hl
 have key : ∀ (n r : Nat), g.reachN r ≤ n → r < g.nodes.length → g.grp r = r → (g.rank r : Int) ∉ l → ∃ k : Nat, k < g.cedges.length ∧ readyAt g.cedges l k = true := by
  intro n
  induction n with
  | zero =>
   intro r h hr _ _
   have hself := (marks_R hv hr hr).2 (.refl g _)
   have : r ∈ (List.range g.nodes.length).filter fun v => (g.marks [(r : Int)]).getD v false := List.mem_filter.2 ⟨List.mem_range.2 hr, hself⟩
   have := List.length_pos_of_mem this
   simp only [Gr.reachN] at h; omega
  | succ n ih =>
   intro r h hr hg hn
   rcases Classical.em (readyAt g.cedges l (g.rank r) = true) with h1 | h1
   ·exact ⟨g.rank r, by rw [cedges_len]; exact rank_lt hr hg, h1⟩
   ·have h2 : ∃ a b : Int, (a, b) ∈ g.edges ∧ g.grp a.toNat = r ∧ ¬ g.grp b.toNat = r ∧ (g.rank (g.grp b.toNat) : Int) ∉ l := by
     rcases Classical.em (∃ a b : Int, (a, b) ∈ g.edges ∧ g.grp a.toNat = r ∧ ¬ g.grp b.toNat = r ∧ (g.rank (g.grp b.toNat) : Int) ∉ l) with h3 | h3
     ·exact h3
     ·exfalso
      exact h1 ((ready_iff hv hr hg).2 ⟨hn, fun a b he ha hb => Classical.byContradiction fun h4 => h3 ⟨a, b, he, ha, hb, h4⟩⟩)
    obtain ⟨a, b, he, ha, hb, hnb⟩ := h2
    obtain ⟨har, hbr⟩ := valid_edge hv he
    have hga := grp_spec hv (in_toNat har)
    have hgb := grp_spec hv (in_toNat hbr)
    have hRab : g.R r (g.grp b.toNat) := by
     have h5 : g.R r a := by have := hga.2.2.2.1; rw [ha, toNat_cast har] at this; exact this
     have h6 : g.R b (g.grp b.toNat) := by have := hgb.2.2.1; rw [toNat_cast hbr] at this; exact this
     exact (h5.trans (.edge he)).trans h6
    have hnot : ¬ g.R (g.grp b.toNat) r := fun h7 => by
     have h8 := (grp_eq hv hr hgb.2.1).2 ⟨hRab, h7⟩
     rw [hg, grp_grp hv (in_toNat hbr)] at h8
     exact hb h8.symm
    refine ih (g.grp b.toNat) ?_ hgb.2.1 (grp_grp hv (in_toNat hbr)) hnb
    have : g.reachN (g.grp b.toNat) < g.reachN r := by
     refine filter_lt (fun v hv2 h9 => ?_) (List.mem_range.2 hr) ((marks_R hv hr hr).2 (.refl g _)) ?_
     ·have hvn := List.mem_range.1 hv2
      exact (marks_R hv hr hvn).2 (hRab.trans ((marks_R hv hgb.2.1 hvn).1 h9))
     ·rw [Bool.eq_false_iff]
      exact fun h9 => hnot ((marks_R hv hgb.2.1 hr).1 h9)
    omega
 obtain ⟨k, hk, hkn⟩ := hl
 rw [cedges_len] at hk
 have hkr : (g.reps g.nodes.length)[k]? = some (g.reps g.nodes.length)[k] := List.getElem?_eq_getElem hk
 obtain ⟨hr1, hr2⟩ := reps_mem.1 (List.getElem_mem hk)
 have hrk : g.rank (g.reps g.nodes.length)[k] = k := by
  have h2 := reps_rank hr1 hr2
  have hnd : (g.reps g.nodes.length).Nodup := (List.nodup_range).filter _
  exact (List.getElem?_inj (rank_lt hr1 hr2) hnd).1 (h2.trans hkr.symm)
 exact key _ _ (Nat.le_refl _) hr1 hr2 (by rw [hrk]; exact hkn)
end Go.Proofs.Yteifhcohmipdcaa

namespace Go.Proofs.Yteifhcohmipdcaa
open Go.Abs
set_option linter.unusedSimpArgs false
set_option linter.unusedVariables false
theorem listUpto_mem {bs : List Bool} {n : Nat} {x : Int} : x ∈ listUpto bs n ↔ ∃ i : Nat, i < n ∧ bs[i]? = some true ∧ x = i := by
 simp only [listUpto, List.mem_map, List.mem_filter, List.mem_range]
 constructor
 ·rintro ⟨i, ⟨h1, h2⟩, rfl⟩; exact ⟨i, h1, getD_true.1 h2, rfl⟩
 ·rintro ⟨i, h1, h2, rfl⟩; exact ⟨i, ⟨h1, getD_true.2 h2⟩, rfl⟩
theorem reach_mem {g : Gr} (hv : g.valid = true) {l : List Int} (hl : ∀ x ∈ l, inR g.nodes.length x) {x : Int} : x ∈ g.reach l ↔ g.Reach l x := by
 rw [Gr.reach, if_pos (exist_iff.2 ⟨hl, hv⟩), listUpto_mem]
 have hm := marks_is hv hl
 constructor
 ·rintro ⟨i, h1, h2, rfl⟩; exact (hm.iff i h1).1 h2
 ·intro h
  have hr := h.inR hv hl
  exact ⟨x.toNat, in_toNat hr, (hm.iff _ (in_toNat hr)).2 (by rw [toNat_cast hr]; exact h), (toNat_cast hr).symm⟩
abbrev TT_ : Int → Prop := fun _ => True
theorem Gr.Walk.reach {g : Gr} {to v : Int} {k : Nat} (h : g.Walk TT_ to k v) {l : List Int} (hl : g.Reach l v) : g.Reach l to := by
 induction h with
 | nil => exact hl
 | cons h1 _ _ ih => exact ih (hl.step h1)
def lenL (g : Gr) (a : Int) (i : Nat) : List Int := (List.range g.nodes.length).map fun j : Nat => if j < i then ((g.path a j).length : Int) else 0
end Go.Proofs.Yteifhcohmipdcaa

namespace Go.Proofs.Yteifhcohmipdcaa
open Go.Abs
set_option linter.unusedSimpArgs false
set_option linter.unusedVariables false
theorem listedL_take (ss : List (List Int)) : ∀ (m j : Nat), j ≤ m → (listedL ss m).take j = listedL ss j
 | 0, j, h => by
  obtain rfl : j = 0 := by omega
  rfl
 | m + 1, j, h => by
  by_cases hj : j = m + 1
  ·subst hj; rw [List.take_of_length_le (by rw [listed_len]; omega)]
  ·rw [listedL, List.take_append_of_le_length (by rw [listed_len]; omega)]
   exact listedL_take ss m j (by omega)
theorem listedL_get (ss : List (List Int)) {m j : Nat} (h : j < m) : (listedL ss m)[j]? = some (pickN ss (listedL ss j) : Int) := by
 have h1 := listedL_take ss m (j + 1) (by omega)
 have h2 : ((listedL ss m).take (j + 1))[j]? = (listedL ss m)[j]? := by rw [List.getElem?_take, if_pos (by omega)]
 rw [← h2, h1, listedL, List.getElem?_append_right (by rw [listed_len]; omega), listed_len, Nat.sub_self]; rfl
def Gr.cpos (g : Gr) (v : Nat) : Nat := g.order.idxOf (g.rank (g.grp v) : Int)
theorem grp_lt {g : Gr} (hv : g.valid = true) {v : Nat} (h : v < g.nodes.length) : g.grp v < g.nodes.length := (grp_spec hv h).2.1
theorem rank_in {g : Gr} (hv : g.valid = true) {v : Nat} (h : v < g.nodes.length) : g.rank (g.grp v) < g.cedges.length := by
 rw [cedges_len]; exact rank_lt (grp_lt hv h) (grp_grp hv h)
theorem order_all {g : Gr} (hv : g.valid = true) {v : Nat} (h : v < g.nodes.length) : (g.rank (g.grp v) : Int) ∈ g.order := listed_all (comps_progress hv) _ (rank_in hv h)
theorem order_nodup {g : Gr} (hv : g.valid = true) : g.order.Nodup := (listed_ok2 (comps_progress hv) (Nat.le_refl _)).nodup
theorem cpos_lt {g : Gr} (hv : g.valid = true) {v : Nat} (h : v < g.nodes.length) : g.cpos v < g.order.length := List.idxOf_lt_length_of_mem (order_all hv h)
theorem cpos_get {g : Gr} (hv : g.valid = true) {v : Nat} (h : v < g.nodes.length) : g.order[g.cpos v]'(cpos_lt hv h) = (g.rank (g.grp v) : Int) := List.getElem_idxOf _
theorem cpos_inj {g : Gr} (hv : g.valid = true) {u v : Nat} (hu : u < g.nodes.length) (h : v < g.nodes.length) : g.cpos u = g.cpos v ↔ g.grp u = g.grp v := by
 constructor
 ·intro e
  have h1 := cpos_get hv hu
  have h2 := cpos_get hv h
  simp only [e] at h1
  rw [h1] at h2
  exact rank_inj (grp_grp hv hu) (grp_grp hv h) (by omega)
 ·intro e; rw [Gr.cpos, Gr.cpos, e]
theorem gcomps_get {g : Gr} (hv : g.valid = true) {i : Nat} (h : i < g.order.length) : ∃ r, r < g.nodes.length ∧ g.grp r = r ∧ g.order[i] = (g.rank r : Int) ∧ g.gcomps[i]? = some (g.mem g.nodes.length r) := by
 have hin := order_in g (g.order[i]) (List.getElem_mem h)
 have hk : (g.order[i]).toNat < (g.reps g.nodes.length).length := by
  have := in_toNat hin; rw [comps_len] at this; exact this
 obtain ⟨k, hke⟩ : ∃ k : Nat, (g.order[i]).toNat = k := ⟨_, rfl⟩
 rw [hke] at hk
 obtain ⟨r, hr⟩ : ∃ r, (g.reps g.nodes.length)[k] = r := ⟨_, rfl⟩
 have hrm : r ∈ g.reps g.nodes.length := by rw [← hr]; exact List.getElem_mem hk
 obtain ⟨h1, h2⟩ := reps_mem.1 hrm
 have h3 := reps_rank h1 h2
 have hnd : (g.reps g.nodes.length).Nodup := List.filter_sublist.nodup List.nodup_range
 have hrk : g.rank r = k := by
  have h4 : (g.reps g.nodes.length)[k]? = some r := by rw [List.getElem?_eq_getElem hk, hr]
  exact (List.getElem?_inj (List.getElem?_eq_some_iff.1 h3).1 hnd).1 (h3.trans h4.symm)
 refine ⟨r, h1, h2, by rw [hrk, ← hke, Int.toNat_of_nonneg hin.1], ?_⟩
 rw [Gr.gcomps, if_pos hv, List.getElem?_map, List.getElem?_eq_getElem h]
 simp only [Option.map_some, hke]
 rw [Gr.comps, Gr.ndL, List.getD_eq_getElem?_getD, List.getElem?_map, List.getElem?_eq_getElem hk, hr]; rfl
theorem mem_mem {g : Gr} {n r : Nat} {x : Int} : x ∈ g.mem n r ↔ ∃ v : Nat, v < n ∧ g.grp v = r ∧ x = v := by
 simp only [Gr.mem, List.mem_map, List.mem_filter, List.mem_range, decide_eq_true_eq]
 constructor
 ·rintro ⟨v, ⟨h1, h2⟩, rfl⟩; exact ⟨v, h1, h2, rfl⟩
 ·rintro ⟨v, h1, h2, rfl⟩; exact ⟨v, ⟨h1, h2⟩, rfl⟩
theorem mem_sorted (g : Gr) (n r : Nat) : (g.mem n r).Pairwise (· < ·) := by
 rw [Gr.mem, List.pairwise_map]
 exact (List.pairwise_lt_range.filter _).imp fun h => by omega
theorem comp_mem {g : Gr} (hv : g.valid = true) {i v : Nat} (hi : i < g.order.length) (h : v < g.nodes.length) : (v : Int) ∈ g.gcomps.getD i [] ↔ g.cpos v = i := by
 obtain ⟨r, h1, h2, h3, h4⟩ := gcomps_get hv hi
 rw [List.getD_eq_getElem?_getD, h4, Option.getD_some, mem_mem]
 constructor
 ·rintro ⟨u, _, h5, h6⟩
  obtain rfl : u = v := by omega
  rw [Gr.cpos, h5, ← h3]
  exact (order_nodup hv).idxOf_getElem i hi
 ·intro e
  refine ⟨v, h, ?_, rfl⟩
  have h5 := cpos_get hv h
  simp only [e] at h5
  rw [h3] at h5
  exact rank_inj (grp_grp hv h) h2 (by omega)
theorem comp_in {g : Gr} (hv : g.valid = true) {i : Nat} (hi : i < g.order.length) {x : Int} (hx : x ∈ g.gcomps.getD i []) : inR g.nodes.length x := by
 obtain ⟨r, h1, h2, h3, h4⟩ := gcomps_get hv hi
 rw [List.getD_eq_getElem?_getD, h4, Option.getD_some, mem_mem] at hx
 obtain ⟨v, hv, _, rfl⟩ := hx
 exact ⟨by omega, by omega⟩
def atL (g : Gr) (i j : Nat) : List Int := (List.range g.nodes.length).map fun v : Nat => if g.cpos v < i ∨ (g.cpos v = i ∧ (v : Int) ∈ (g.gcomps.getD i []).take j) then (g.cpos v : Int) + 1 else 0
theorem both_cpos {g : Gr} (hv : g.valid = true) {u v : Nat} (hu : u < g.nodes.length) (h : v < g.nodes.length) : g.cpos u = g.cpos v ↔ ((v : Int) ∈ g.reach [(u : Int)] ∧ (u : Int) ∈ g.reach [(v : Int)]) := by
 rw [cpos_inj hv hu h, grp_eq hv hu h, reach_mem hv (fun x hx => by simp at hx; subst hx; exact ⟨by omega, by omega⟩), reach_mem hv (fun x hx => by simp at hx; subst hx; exact ⟨by omega, by omega⟩)]
 exact Iff.rfl
end Go.Proofs.Yteifhcohmipdcaa

namespace Go.Proofs.Yteifhcohmipdcaa
open Go.Abs
set_option linter.unusedSimpArgs false
set_option linter.unusedVariables false
def mxL (lev : List Int) (xs : List Int) : Int := xs.foldl (fun m x => max m (gt lev x + 1)) 0
theorem foldl_max_ge (f : Int → Int) : ∀ (xs : List Int) (a : Int), a ≤ xs.foldl (fun m x => max m (f x)) a ∧ ∀ x ∈ xs, f x ≤ xs.foldl (fun m x => max m (f x)) a
 | [], a => ⟨Int.le_refl _, fun x h => by cases h⟩
 | y :: xs, a => by
  obtain ⟨h1, h2⟩ := foldl_max_ge f xs (max a (f y))
  rw [List.foldl_cons]
  refine ⟨by omega, fun x hx => ?_⟩
  rcases List.mem_cons.1 hx with rfl | hx
  ·omega
  ·exact h2 x hx
theorem mxL_ge (lev xs : List Int) : 0 ≤ mxL lev xs ∧ ∀ x ∈ xs, gt lev x + 1 ≤ mxL lev xs := foldl_max_ge (fun x => gt lev x + 1) xs 0
theorem foldl_max_congr {f h : Int → Int} : ∀ (xs : List Int) (a : Int), (∀ x ∈ xs, f x = h x) → xs.foldl (fun m x => max m (f x)) a = xs.foldl (fun m x => max m (h x)) a
 | [], _, _ => rfl
 | y :: xs, a, e => by rw [List.foldl_cons, List.foldl_cons, e y (by simp), foldl_max_congr xs _ fun x hx => e x (List.mem_cons_of_mem _ hx)]
theorem mxL_congr {lev lev' xs : List Int} (h : ∀ x ∈ xs, gt lev x = gt lev' x) : mxL lev xs = mxL lev' xs := foldl_max_congr xs 0 fun x hx => by rw [h x hx]
theorem lvIn_len (lev : List Int) (k : Int) : ∀ xs : List Int, (lvIn lev k xs).length = lev.length := by
 intro xs
 rw [lvIn]
 induction xs generalizing lev with
 | nil => rfl
 | cons x xs ih => rw [List.foldl_cons, ih]; simp
theorem lvIn_gt {M : Nat} {k : Int} (hk : inR M k) : ∀ (xs : List Int) (lev : List Int), lev.length = M → (∀ x ∈ xs, inR M x ∧ x ≠ k) →
  ∀ y, inR M y → gt (lvIn lev k xs) y = if y = k then xs.foldl (fun m x => max m (gt lev x + 1)) (gt lev k) else gt lev y
 | [], lev, hl, _, y, hy => by
  simp only [lvIn, List.foldl_nil]
  split
  ·rename_i e; rw [e]
  ·rfl
 | x :: xs, lev, hl, hx, y, hy => by
  obtain ⟨hx1, hx2⟩ := hx x (by simp)
  have hl2 : (lev.set k.toNat (max (gt lev k) (gt lev x + 1))).length = M := by rw [List.length_set, hl]
  have ih := lvIn_gt hk xs _ hl2 (fun z hz => hx z (List.mem_cons_of_mem _ hz)) y hy
  have e1 : lvIn lev k (x :: xs) = lvIn (lev.set k.toNat (max (gt lev k) (gt lev x + 1))) k xs := rfl
  have hkl : inR lev.length k := by rw [hl]; exact hk
  rw [e1, ih]
  have hg : ∀ z, inR M z → z ≠ k → gt (lev.set k.toNat (max (gt lev k) (gt lev x + 1))) z = gt lev z := fun z hz hzk => by
   rw [gt_set hkl (by rw [hl]; exact hz), if_neg hzk]
  have hgk : gt (lev.set k.toNat (max (gt lev k) (gt lev x + 1))) k = max (gt lev k) (gt lev x + 1) := by rw [gt_set hkl hkl, if_pos rfl]
  split
  ·rw [hgk, List.foldl_cons]
   exact foldl_max_congr xs _ fun z hz => by rw [hg z (hx z (List.mem_cons_of_mem _ hz)).1 (hx z (List.mem_cons_of_mem _ hz)).2]
  ·rename_i hyk; exact hg y hy hyk
structure Topo (ce : List (List Int)) (l : List Int) : Prop where
 nodup : l.Nodup
 inn : ∀ x ∈ l, inR ce.length x
 inn2 : ∀ k : Nat, ∀ x ∈ ce.getD k [], inR ce.length x
 before : ∀ i : Nat, ∀ k, l[i]? = some k → ∀ x ∈ ce.getD k.toNat [], x ∈ l.take i
section
variable {ce cs : List (List Int)} {l : List Int}
theorem lv2_len (ht : Topo ce l) : ∀ i, i ≤ l.length → (lv2 ce cs (l.take i)).1.length = ce.length
 | 0, _ => by simp [lv2]
 | i + 1, h => by
  rw [lv2_succ (by omega), lvStep]
  simp only
  rw [lvIn_len, lv2_len ht i (by omega)]
theorem lv2_gt (ht : Topo ce l) : ∀ i, i ≤ l.length → ∀ y, inR ce.length y → (y ∉ l.take i → gt (lv2 ce cs (l.take i)).1 y = 0)
 | 0, _, y, hy, _ => by
  have : y.toNat < ce.length := in_toNat hy
  simp [lv2, gt, this]
 | i + 1, h, y, hy, hn => by
  have hi : i < l.length := by omega
  rw [lv2_succ hi, lvStep]
  simp only
  have hk := ht.inn l[i] (List.getElem_mem hi)
  have hb := ht.before i l[i] (List.getElem?_eq_getElem hi)
  rw [List.take_succ_eq_append_getElem hi] at hn
  simp only [List.mem_append, List.mem_singleton, not_or] at hn
  have hki : l[i] ∉ l.take i := fun hm => by
   obtain ⟨j, hj, he⟩ := List.mem_take_iff_getElem.1 hm
   have := (List.getElem?_inj (by omega : j < l.length) ht.nodup).1 (by rw [List.getElem?_eq_getElem (by omega), List.getElem?_eq_getElem hi, he] : l[j]? = l[i]?)
   omega
  rw [lvIn_gt hk _ _ (lv2_len ht i (by omega)) (fun x hx => ⟨ht.inn2 _ x hx, fun e => hki (e ▸ hb x hx)⟩) y hy, if_neg hn.2]
  exact lv2_gt ht i (by omega) y hy hn.1
theorem notin_take (ht : Topo ce l) {i : Nat} (hi : i < l.length) : l[i] ∉ l.take i := fun hm => by
 obtain ⟨j, hj, he⟩ := List.mem_take_iff_getElem.1 hm
 have := (List.getElem?_inj (by omega : j < l.length) ht.nodup).1 (by rw [List.getElem?_eq_getElem (by omega), List.getElem?_eq_getElem hi, he] : l[j]? = l[i]?)
 omega
theorem lv2_step (ht : Topo ce l) {i : Nat} (hi : i < l.length) {y : Int} (hy : inR ce.length y) :
  gt (lv2 ce cs (l.take (i + 1))).1 y = if y = l[i] then mxL (lv2 ce cs (l.take i)).1 (ce.getD (l[i]).toNat []) else gt (lv2 ce cs (l.take i)).1 y := by
 rw [lv2_succ hi, lvStep]
 simp only
 have hk := ht.inn l[i] (List.getElem_mem hi)
 have hb := ht.before i l[i] (List.getElem?_eq_getElem hi)
 have hki := notin_take ht hi
 rw [lvIn_gt hk _ _ (lv2_len ht i (by omega)) (fun x hx => ⟨ht.inn2 _ x hx, fun e => hki (e ▸ hb x hx)⟩) y hy, lv2_gt ht i (by omega) _ hk hki]; rfl
theorem lv2_stable (ht : Topo ce l) {i : Nat} {y : Int} (hm : y ∈ l.take i) : ∀ d, i + d ≤ l.length → gt (lv2 ce cs (l.take (i + d))).1 y = gt (lv2 ce cs (l.take i)).1 y
 | 0, _ => rfl
 | d + 1, h => by
  have hi : i + d < l.length := by omega
  have hm2 : y ∈ l.take (i + d) := by rw [List.take_add]; exact List.mem_append_left _ hm
  have hne : ¬ y = l[i + d] := fun e => by rw [e] at hm2; exact notin_take ht hi hm2
  rw [show i + (d + 1) = i + d + 1 by omega, lv2_step ht hi (ht.inn y (List.mem_of_mem_take hm)), if_neg hne, lv2_stable ht hm d (by omega)]
theorem lv2_stable2 (ht : Topo ce l) {i : Nat} (hi : i ≤ l.length) {y : Int} (hm : y ∈ l.take i) : gt (lv2 ce cs (l.take i)).1 y = gt (lv2 ce cs l).1 y := by
 have := lv2_stable (cs := cs) ht hm (l.length - i) (by omega)
 rw [show i + (l.length - i) = l.length by omega, List.take_length] at this
 exact this.symm
theorem lv2_at (ht : Topo ce l) {i : Nat} (hi : i < l.length) : gt (lv2 ce cs (l.take (i + 1))).1 l[i] = gt (lv2 ce cs l).1 l[i] :=
 lv2_stable2 ht (by omega) (by rw [List.take_succ_eq_append_getElem hi]; exact List.mem_append_right _ (List.mem_singleton.2 rfl))
theorem lv2_rec (ht : Topo ce l) {i : Nat} (hi : i < l.length) : gt (lv2 ce cs l).1 l[i] = mxL (lv2 ce cs l).1 (ce.getD (l[i]).toNat []) := by
 rw [← lv2_at ht hi, lv2_step ht hi (ht.inn _ (List.getElem_mem hi)), if_pos rfl]
 exact mxL_congr fun x hx => lv2_stable2 ht (by omega) (ht.before i _ (List.getElem?_eq_getElem hi) x hx)
structure OutOk (ce cs : List (List Int)) (l : List Int) (i : Nat) (out : List (List Int)) : Prop where
 lt : ∀ j (h : j < l.length), j < i → (gt (lv2 ce cs l).1 l[j]).toNat < out.length
 top : out.length = 0 ∨ ∃ j, ∃ h : j < l.length, j < i ∧ (gt (lv2 ce cs l).1 l[j]).toNat + 1 = out.length
 mem : ∀ d, d < out.length → ∀ x, x ∈ out.getD d [] ↔ ∃ j, ∃ h : j < l.length, j < i ∧ (gt (lv2 ce cs l).1 l[j]).toNat = d ∧ x ∈ cs.getD (l[j]).toNat []
 nodup : ∀ d, d < out.length → (out.getD d []).Nodup
theorem padL_getD {out : List (List Int)} {m d : Nat} : (padL out m).getD d [] = out.getD d [] := by
 rw [padL, List.getD_eq_getElem?_getD, List.getD_eq_getElem?_getD, List.getElem?_append]
 split
 ·rfl
 ·rename_i h
  rw [List.getElem?_eq_none (l := out) (by omega), List.getElem?_replicate]
  split <;> rfl
theorem lv2_out (ht : Topo ce l) (hdis : ∀ i j (hi : i < l.length) (hj : j < l.length), i ≠ j → ∀ x ∈ cs.getD (l[i]).toNat [], x ∉ cs.getD (l[j]).toNat []) (hnd : ∀ k, (cs.getD k []).Nodup) :
  ∀ i, i ≤ l.length → OutOk ce cs l i (lv2 ce cs (l.take i)).2
 | 0, _ => ⟨fun j _ h => by omega, .inl (by simp [lv2]), fun d h => by simp [lv2] at h, fun d h => by simp [lv2] at h⟩
 | i + 1, h => by
  have hi : i < l.length := by omega
  have ih := lv2_out ht hdis hnd i (by omega)
  have hlv := lv2_at (cs := cs) ht hi
  rw [lv2_succ hi, lvStep] at hlv ⊢
  simp only at hlv ⊢
  rw [hlv]
  obtain ⟨out, hout⟩ : ∃ out, (lv2 ce cs (l.take i)).2 = out := ⟨_, rfl⟩
  obtain ⟨D, hD⟩ : ∃ D, (gt (lv2 ce cs l).1 l[i]).toNat = D := ⟨_, rfl⟩
  rw [hout] at ih ⊢
  rw [hD]
  have hlen := stepOut_len (cs := cs) (out := out) (d := D) (k := l[i])
  have hget : ∀ d, d < (stepOut cs out D l[i]).length → (stepOut cs out D l[i]).getD d [] = if d = D then out.getD D [] ++ cs.getD (l[i]).toNat [] else out.getD d [] := by
   intro d hd
   rw [stepOut, padL_getD, List.getD_eq_getElem?_getD, List.getElem?_set]
   split
   ·rename_i e
    subst e
    rw [if_pos (by rw [padL_len]; omega), if_pos rfl]; rfl
   ·rename_i e
    rw [if_neg (fun h => e h.symm), ← List.getD_eq_getElem?_getD, padL_getD]
  have hge : ∀ d, ¬ d < out.length → out.getD d [] = [] := fun d hd => by rw [List.getD_eq_getElem?_getD, List.getElem?_eq_none (by omega)]; rfl
  refine ⟨fun j hj hji => ?_, ?_, fun d hd x => ?_, fun d hd => ?_⟩
  ·rw [hlen]
   by_cases e : j = i
   ·subst e; rw [hD]; omega
   ·have := ih.lt j hj (by omega); omega
  ·right
   rw [hlen]
   rcases Nat.lt_or_ge D out.length with h1 | h1
   ·rcases ih.top with h2 | ⟨j, hj, h2, h3⟩
    ·omega
    ·exact ⟨j, hj, by omega, by omega⟩
   ·exact ⟨i, hi, by omega, by rw [hD]; omega⟩
  ·rw [hget d hd]
   split
   ·rename_i e
    subst e
    rw [List.mem_append]
    constructor
    ·rintro (h1 | h1)
     ·by_cases hdo : d < out.length
      ·obtain ⟨j, hj, h2, h3⟩ := (ih.mem d hdo x).1 h1
       exact ⟨j, hj, by omega, h3⟩
      ·rw [hge d hdo] at h1; cases h1
     ·exact ⟨i, hi, by omega, hD, h1⟩
    ·rintro ⟨j, hj, h2, h3, h4⟩
     by_cases e : j = i
     ·subst e; exact .inr h4
     ·left
      have := ih.lt j hj (by omega)
      exact (ih.mem d (by omega) x).2 ⟨j, hj, by omega, h3, h4⟩
   ·rename_i e
    by_cases hdo : d < out.length
    ·rw [ih.mem d hdo x]
     constructor
     ·rintro ⟨j, hj, h2, h3⟩; exact ⟨j, hj, by omega, h3⟩
     ·rintro ⟨j, hj, h2, h3, h4⟩
      refine ⟨j, hj, ?_, h3, h4⟩
      by_cases e2 : j = i
      ·subst e2; omega
      ·omega
    ·rw [hge d hdo]
     constructor
     ·intro h1; cases h1
     ·rintro ⟨j, hj, h2, h3, h4⟩
      exfalso
      by_cases e2 : j = i
      ·subst e2; omega
      ·have := ih.lt j hj (by omega); omega
  ·rw [hget d hd]
   split
   ·rename_i e
    subst e
    rw [List.nodup_append]
    refine ⟨?_, hnd _, fun a ha b hb e => ?_⟩
    ·by_cases hdo : d < out.length
     ·exact ih.nodup d hdo
     ·rw [hge d hdo]; exact List.nodup_nil
    ·subst e
     by_cases hdo : d < out.length
     ·obtain ⟨j, hj, h2, h3, h4⟩ := (ih.mem d hdo a).1 ha
      exact hdis i j hi hj (by omega) a hb h4
     ·rw [hge d hdo] at ha; cases ha
   ·by_cases hdo : d < out.length
    ·exact ih.nodup d hdo
    ·rw [hge d hdo]; exact List.nodup_nil
end
end Go.Proofs.Yteifhcohmipdcaa

namespace Go.Proofs.Yteifhcohmipdcaa
open Go.Abs
set_option linter.unusedSimpArgs false
set_option linter.unusedVariables false
theorem topo {g : Gr} (hv : g.valid = true) : Topo g.cedges g.order := by
 have hok := listed_ok2 (comps_progress hv) (Nat.le_refl g.cedges.length)
 refine ⟨hok.nodup, hok.inn, fun k x hx => ?_, fun i k hk x hx => ?_⟩
 ·rw [List.getD_eq_getElem?_getD] at hx
  cases h : g.cedges[k]? with
  | none => rw [h] at hx; cases hx
  | some l => rw [h] at hx; exact (cedges_ok hv l (List.mem_of_getElem? h)).2 x hx
 ·have hi : i < g.cedges.length := by have := (List.getElem?_eq_some_iff.1 hk).1; rwa [order_len] at this
  have h1 := listedL_get g.cedges hi
  have h2 : (pickN g.cedges (listedL g.cedges i) : Int) = k := Option.some.inj (h1.symm.trans hk)
  have hr := hok.ready i hi
  simp only [readyAt, Bool.and_eq_true, List.all_eq_true, decide_eq_true_eq] at hr
  have h3 := hr.2 x (by rw [← h2] at hx; exact hx)
  rw [Gr.order, listedL_take _ _ _ (by omega)]; exact h3
def Gr.lvF (g : Gr) : List Int := (lv2 g.cedges g.comps g.order).1
def Gr.lv (g : Gr) (v : Nat) : Nat := (gt g.lvF (g.rank (g.grp v))).toNat
theorem lvF_rec {g : Gr} (hv : g.valid = true) {v : Nat} (h : v < g.nodes.length) : gt g.lvF (g.rank (g.grp v)) = mxL g.lvF (g.cedges.getD (g.rank (g.grp v)) []) := by
 have h1 := lv2_rec (cs := g.comps) (topo hv) (cpos_lt hv h)
 rw [cpos_get hv h] at h1
 exact h1
theorem lvF_nn {g : Gr} (hv : g.valid = true) {v : Nat} (h : v < g.nodes.length) : (g.lv v : Int) = gt g.lvF (g.rank (g.grp v)) := by
 have := lvF_rec hv h
 have h2 := (mxL_ge g.lvF (g.cedges.getD (g.rank (g.grp v)) [])).1
 rw [Gr.lv, Int.toNat_of_nonneg (by omega)]
theorem edge_dep {g : Gr} (hv : g.valid = true) {u w : Int} (he : (u, w) ∈ g.edges) (h : ¬ g.grp u.toNat = g.grp w.toNat) : (g.rank (g.grp w.toNat) : Int) ∈ g.cedges.getD (g.rank (g.grp u.toNat)) [] := by
 obtain ⟨hu, hw⟩ := valid_edge hv he
 have h1 := ceU_get hv (i := g.nodes.length) (in_toNat hu)
 rw [Gr.cedges, List.getD_eq_getElem?_getD, h1, Option.getD_some, ceR_mem]
 exact ⟨u.toNat, in_toNat hu, rfl, w, (succ_mem hv).2 (by rw [toNat_cast hu]; exact he), fun e => h e.symm, rfl⟩
theorem lv_edge {g : Gr} (hv : g.valid = true) {u w : Int} (he : (u, w) ∈ g.edges) : g.lv w.toNat ≤ g.lv u.toNat ∧ (g.lv w.toNat = g.lv u.toNat → g.grp u.toNat = g.grp w.toNat) := by
 obtain ⟨hu, hw⟩ := valid_edge hv he
 by_cases e : g.grp u.toNat = g.grp w.toNat
 ·exact ⟨by rw [Gr.lv, Gr.lv, e]; exact Nat.le_refl _, fun _ => e⟩
 ·have h1 := (mxL_ge g.lvF (g.cedges.getD (g.rank (g.grp u.toNat)) [])).2 _ (edge_dep hv he e)
  rw [← lvF_rec hv (in_toNat hu), ← lvF_nn hv (in_toNat hu), ← lvF_nn hv (in_toNat hw)] at h1
  simp only at h1
  exact ⟨by omega, fun h => by omega⟩
theorem lv_reach {g : Gr} (hv : g.valid = true) {u : Int} (hu : inR g.nodes.length u) {w : Int} (h : g.Reach [u] w) : g.lv w.toNat ≤ g.lv u.toNat ∧ (g.lv w.toNat = g.lv u.toNat → g.grp u.toNat = g.grp w.toNat) := by
 induction h with
 | base h => simp at h; subst h; exact ⟨Nat.le_refl _, fun _ => rfl⟩
 | step h1 he ih =>
  have h2 := lv_edge hv he
  exact ⟨by omega, fun h => (ih.2 (by omega)).trans (h2.2 (by omega))⟩
theorem comps_at2 {g : Gr} (hv : g.valid = true) {i : Nat} (hi : i < g.order.length) : g.comps.getD (g.order[i]).toNat [] = g.gcomps.getD i [] := by
 rw [Gr.gcomps, if_pos hv, List.getD_eq_getElem?_getD (l := g.order.map _), List.getElem?_map, List.getElem?_eq_getElem hi]; rfl
theorem levels_out {g : Gr} (hv : g.valid = true) : OutOk g.cedges g.comps g.order g.order.length (lv2 g.cedges g.comps g.order).2 := by
 have h := lv2_out (cs := g.comps) (topo hv) (fun i j hi hj hij x hx hy => ?_) (fun k => ?_) g.order.length (Nat.le_refl _)
 ·rwa [List.take_length] at h
 ·rw [comps_at2 hv hi] at hx
  rw [comps_at2 hv hj] at hy
  have hr := comp_in hv hi hx
  have h1 := (comp_mem hv hi (in_toNat hr)).1 (by rw [toNat_cast hr]; exact hx)
  have h2 := (comp_mem hv hj (in_toNat hr)).1 (by rw [toNat_cast hr]; exact hy)
  omega
 ·rw [List.getD_eq_getElem?_getD]
  cases h : g.comps[k]? with
  | none => exact List.nodup_nil
  | some l =>
   obtain ⟨r, _, rfl⟩ := List.mem_map.1 (List.mem_of_getElem? h)
   exact (mem_sorted ..).imp fun h => by omega
def levN (g : Gr) (d : Nat) : List Int := ((List.range g.nodes.length).filter fun v => decide (g.lv v = d)).map fun v : Nat => (v : Int)
theorem levN_sorted (g : Gr) (d : Nat) : (levN g d).Pairwise (· < ·) := by
 rw [levN, List.pairwise_map]
 exact (List.pairwise_lt_range.filter _).imp fun h => by omega
theorem levN_mem {g : Gr} {d : Nat} {x : Int} : x ∈ levN g d ↔ ∃ v : Nat, v < g.nodes.length ∧ g.lv v = d ∧ x = v := by
 simp only [levN, List.mem_map, List.mem_filter, List.mem_range, decide_eq_true_eq]
 constructor
 ·rintro ⟨v, ⟨h1, h2⟩, rfl⟩; exact ⟨v, h1, h2, rfl⟩
 ·rintro ⟨v, h1, h2, rfl⟩; exact ⟨v, ⟨h1, h2⟩, rfl⟩
theorem glevels_len {g : Gr} (hv : g.valid = true) : g.glevels.length = (lv2 g.cedges g.comps g.order).2.length := by rw [Gr.glevels, if_pos hv, List.length_map]
theorem lv_lt {g : Gr} (hv : g.valid = true) {v : Nat} (h : v < g.nodes.length) : g.lv v < g.glevels.length := by
 have h1 := (levels_out hv).lt (g.cpos v) (cpos_lt hv h) (cpos_lt hv h)
 rw [cpos_get hv h] at h1
 rw [glevels_len hv]; exact h1
theorem foldl_max_le (f : Int → Int) (b : Int) : ∀ (xs : List Int) (a : Int), a ≤ b → (∀ x ∈ xs, f x ≤ b) → xs.foldl (fun m x => max m (f x)) a ≤ b
 | [], a, h, _ => h
 | y :: xs, a, h, hx => by
  rw [List.foldl_cons]
  have := hx y (by simp)
  exact foldl_max_le f b xs _ (by omega) fun x h => hx x (List.mem_cons_of_mem _ h)
theorem lv2_le {ce cs : List (List Int)} {l : List Int} (ht : Topo ce l) (i : Nat) : ∀ (hi : i < l.length), gt (lv2 ce cs l).1 l[i] ≤ i := by
 induction i using Nat.strongRecOn with
 | _ i ih =>
  intro hi
  rw [lv2_rec ht hi]
  refine foldl_max_le (fun x => gt (lv2 ce cs l).1 x + 1) i _ 0 (by omega) fun x hx => ?_
  obtain ⟨j, hj, he⟩ := List.mem_take_iff_getElem.1 (ht.before i _ (List.getElem?_eq_getElem hi) x hx)
  have := ih j (by omega) (by omega)
  rw [he] at this
  omega
theorem glevels_le {g : Gr} (hv : g.valid = true) {b : Nat} (hb : g.nodes.length ≤ b) : g.glevels.length ≤ b := by
 rw [glevels_len hv]
 have hol : g.order.length ≤ g.nodes.length := by rw [order_len, cedges_len]; exact reps_len _ _
 rcases (levels_out hv).top with h | ⟨j, hj, _, h⟩
 ·omega
 ·have := lv2_le (cs := g.comps) (topo hv) j hj
  omega
theorem levels_get {g : Gr} (hv : g.valid = true) {d : Nat} (hd : d < g.glevels.length) : g.glevels[d] = levN g d := by
 have hout := levels_out hv
 have hd2 : d < (lv2 g.cedges g.comps g.order).2.length := by rw [← glevels_len hv]; exact hd
 have he : g.glevels[d] = sortI ((lv2 g.cedges g.comps g.order).2.getD d []) := by
  have : g.glevels[d]? = some (sortI ((lv2 g.cedges g.comps g.order).2.getD d [])) := by
   rw [Gr.glevels, if_pos hv, List.getElem?_map, List.getD_eq_getElem?_getD, List.getElem?_eq_getElem hd2]; rfl
  rw [List.getElem?_eq_getElem hd] at this
  exact Option.some.inj this
 rw [he]
 refine strict_eq ?_ (levN_sorted g d) fun x => ?_
 ·have hn : (sortI ((lv2 g.cedges g.comps g.order).2.getD d [])).Nodup := (List.mergeSort_perm _ _).nodup_iff.2 (hout.nodup d hd2)
  have hs := sortI_sorted ((lv2 g.cedges g.comps g.order).2.getD d [])
  exact (hs.and hn).imp fun h => by omega
 ·rw [sortI_mem, hout.mem d hd2 x, levN_mem]
  constructor
  ·rintro ⟨j, hj, _, h2, h3⟩
   rw [comps_at2 hv hj] at h3
   have hr := comp_in hv hj h3
   have hc := (comp_mem hv hj (in_toNat hr)).1 (by rw [toNat_cast hr]; exact h3)
   refine ⟨x.toNat, in_toNat hr, ?_, (toNat_cast hr).symm⟩
   have h4 := cpos_get hv (in_toNat hr)
   simp only [hc] at h4
   rw [h4] at h2; exact h2
  ·rintro ⟨v, h1, h2, rfl⟩
   refine ⟨g.cpos v, cpos_lt hv h1, cpos_lt hv h1, ?_, ?_⟩
   ·rw [cpos_get hv h1]; exact h2
   ·rw [comps_at2 hv (cpos_lt hv h1)]; exact (comp_mem hv (cpos_lt hv h1) h1).2 rfl
theorem levN_in {g : Gr} {d : Nat} {x : Int} (h : x ∈ levN g d) : inR g.nodes.length x ∧ g.lv x.toNat = d := by
 obtain ⟨v, h1, h2, rfl⟩ := levN_mem.1 h
 exact ⟨⟨by omega, by omega⟩, h2⟩
theorem levN_len (g : Gr) (d : Nat) : (levN g d).length ≤ g.nodes.length := by
 rw [levN, List.length_map]; exact Nat.le_trans (List.length_filter_le _ _) (by simp)
def lvT (g : Gr) (i j : Nat) : List Int := (List.range g.nodes.length).map fun v : Nat => if g.lv v < i ∨ (g.lv v = i ∧ (v : Int) ∈ (levN g i).take j) then (g.lv v : Int) + 1 else 0
theorem lvT_len (g : Gr) (i j : Nat) : (lvT g i j).length = g.nodes.length := by simp [lvT]
theorem lvT_zero (g : Gr) : lvT g 0 0 = List.replicate g.nodes.length 0 := by
 refine List.ext_getElem (by simp [lvT]) fun i h1 h2 => by simp [lvT]
theorem lvT_get {g : Gr} {i j v : Nat} {h : v < (lvT g i j).length} : (lvT g i j)[v] = if g.lv v < i ∨ (g.lv v = i ∧ (v : Int) ∈ (levN g i).take j) then (g.lv v : Int) + 1 else 0 := by simp [lvT]
theorem lvT_next (g : Gr) (i : Nat) : lvT g i (levN g i).length = lvT g (i + 1) 0 := by
 refine List.ext_getElem (by simp [lvT]) fun v h1 h2 => ?_
 have hvn : v < g.nodes.length := by rw [lvT_len] at h1; exact h1
 have hm : (v : Int) ∈ levN g i ↔ g.lv v = i := by
  rw [levN_mem]
  constructor
  ·rintro ⟨u, _, h5, h6⟩; obtain rfl : v = u := by omega
   exact h5
  ·intro e; exact ⟨v, hvn, e, rfl⟩
 rw [lvT_get, lvT_get, List.take_length]
 simp only [hm]
 by_cases h : g.lv v < i + 1
 ·rw [if_pos (by omega), if_pos (.inl h)]
 ·rw [if_neg (by omega), if_neg (by rintro (h5 | ⟨_, h5⟩); exact h h5; simp at h5)]
theorem lvT_fresh {g : Gr} {i j : Nat} {x : Int} (hx : (levN g i)[j]? = some x) : (lvT g i j)[x.toNat]? = some 0 ∧ (lvT g i j).set x.toNat ((i : Int) + 1) = lvT g i (j + 1) := by
 have hjl := (List.getElem?_eq_some_iff.1 hx).1
 have hxm := List.mem_of_getElem? hx
 obtain ⟨hr, hc⟩ := levN_in hxm
 have hnd : (levN g i).Nodup := (levN_sorted g i).imp fun h => by omega
 have hnt : x ∉ (levN g i).take j := by
  intro h
  obtain ⟨q, hq, he⟩ := List.mem_take_iff_getElem.1 h
  have h2 : (levN g i)[q]? = some x := by rw [List.getElem?_eq_getElem (by omega), he]
  have hq2 : q < (levN g i).length := (List.getElem?_eq_some_iff.1 h2).1
  have := (List.getElem?_inj hq2 hnd).1 (h2.trans hx.symm)
  omega
 have hlen : x.toNat < (lvT g i j).length := by rw [lvT_len]; exact in_toNat hr
 constructor
 ·rw [List.getElem?_eq_getElem hlen, lvT_get, toNat_cast hr, if_neg]
  rintro (h | ⟨_, h⟩)
  ·omega
  ·exact hnt h
 ·refine List.ext_getElem (by simp [lvT]) fun v h1 h2 => ?_
  have hvn : v < g.nodes.length := by rw [lvT_len] at h2; exact h2
  rw [List.getElem_set, lvT_get]
  split
  ·rename_i e
   subst e
   rw [lvT_get, toNat_cast hr, if_pos (.inr ⟨hc, List.mem_take_iff_getElem.2 ⟨j, by omega, (List.getElem?_eq_some_iff.1 hx).2⟩⟩), hc]
  ·rename_i e
   rw [lvT_get]
   have : (v : Int) ∈ (levN g i).take (j + 1) ↔ (v : Int) ∈ (levN g i).take j := by
    rw [List.take_add_one, hx]
    simp only [Option.toList_some, List.mem_append, List.mem_singleton]
    constructor
    ·rintro (h | h)
     ·exact h
     ·exfalso; apply e; rw [← h]; rfl
    ·exact Or.inl
   simp only [this]
theorem lvT_full {g : Gr} (hv : g.valid = true) {v : Nat} (hvn : v < g.nodes.length) {h : v < (lvT g g.glevels.length 0).length} : (lvT g g.glevels.length 0)[v] = (g.lv v : Int) + 1 := by
 rw [lvT_get, if_pos (.inl (lv_lt hv hvn))]
theorem rev_reach {g : Gr} (hv : g.valid = true) {u v : Nat} (hu : u < g.nodes.length) (h : v < g.nodes.length) : (v : Int) ∈ g.reach [(u : Int)] ↔ (u : Int) ∈ g.rev.reach [(v : Int)] := by
 have hn := rev_nodes hv
 rw [reach_mem hv (fun x hx => by simp at hx; subst hx; exact ⟨by omega, by omega⟩), reach_mem (rev_valid hv) (fun x hx => by simp at hx; subst hx; rw [hn]; exact ⟨by omega, by omega⟩)]
 exact (rev_R hv (a := (v : Int)) (b := (u : Int))).symm
theorem lv_reach2 {g : Gr} (hv : g.valid = true) {u v : Nat} (hu : u < g.nodes.length) (h : v < g.nodes.length) (hr : (v : Int) ∈ g.reach [(u : Int)]) : g.lv v ≤ g.lv u ∧ (g.lv v = g.lv u → (u : Int) ∈ g.reach [(v : Int)]) := by
 have hui : inR g.nodes.length (u : Int) := ⟨by omega, by omega⟩
 rw [reach_mem hv (fun x hx => by simp at hx; subst hx; exact hui)] at hr
 have h1 := lv_reach hv hui hr
 simp only [Int.toNat_natCast] at h1
 refine ⟨h1.1, fun e => ?_⟩
 exact ((both_cpos hv hu h).1 ((cpos_inj hv hu h).2 (h1.2 e))).2
end Go.Proofs.Yteifhcohmipdcaa

namespace Go.Proofs.Yteifhcohmipdcaa
open Go.Abs
set_option linter.unusedSimpArgs false
set_option linter.unusedVariables false
set_option maxHeartbeats 1000000 in
theorem converse0 (g : Gr) : ACalls Try.prog 7 [encG g] AHeap.nil (fun r _ => r = .bool true) := by
 refine acalls_body TT_ok Try.func7 rfl rfl (by simp [Try.ntmps7]) ?_
 rw [Try.ntmps7]
 obtain ⟨σ, hσ⟩ : ∃ σ, σ = st0 [encG g] := ⟨_, rfl⟩
 rw [← hσ]
 have h0_0 := congrFun hσ 0
 simp [st0] at h0_0
 clear hσ
 obtain ⟨H, hH⟩ : ∃ H, H = AHeap.nil := ⟨_, rfl⟩
 rw [← hH]
 have hn_0 : H.n = 0 := by rw [hH]; rfl
 have hst_0 : H.st = 1 := by rw [hH]; rfl
 clear hH
 refine stp_reg TT_ok (by rfl) fun K hK => ?_
 simp [h0_0, hn_0, hst_0, encG]
 try refine And.intro (by first | omega | rfl) ?_
 refine hK _ _ fun σ1 hσ H1 hH => ?_
 clear hK K
 have h1_1 := congrFun hσ 1
 simp [] at h1_1
 clear hσ
 have g0_1 := gt_of hH 0
 simp [hn_0, hst_0] at g0_1
 have hn_1 := congrArg AHeap.n hH
 simp [hn_0, hst_0] at hn_1
 have hst_1 := congrArg AHeap.st hH
 simp [hn_0, hst_0] at hst_1
 clear hH
 refine awp_seq ?_
 refine stp_reg TT_ok (by rfl) fun K hK => ?_
 simp [g0_1, encG]
 try refine And.intro (by first | omega | rfl) ?_
 refine stp_call (awake_ok) ?_
 simp [g0_1, encG]
 try refine And.intro (by first | omega | rfl) ?_
 refine hK _ _ fun σ2 hσ H2 hH => ?_
 clear hK K
 obtain ⟨h1_2, h13_2⟩ := fs2 hσ 1 13
 simp [h1_1] at h1_2 h13_2
 clear hσ
 replace hH : H1 = H2 := Eq.symm hH
 subst hH
 refine stp_false (by simp [aeval_tmp, h13_2, encG]) ?_
 refine awp_skip ?_
 refine q_seq ?_
 refine awp_seq ?_
 by_cases hf : g.nodes.length ≤ 14 ∧ g.edges.length ≤ 60
 ·skip
  by_cases hv : g.valid = true
  ·skip
   have hFF0 := an5 h1_2 g0_1 hf hv (beq_iff_eq.2 hv)
   refine stp_reg TT_ok (by rfl) fun K hK => ?_
   simp [hFF0, encG]
   try refine And.intro (by first | omega | rfl) ?_
   refine stp_call (few_ok g) ?_
   simp [hFF0, encG]
   try refine And.intro (by first | omega | rfl) ?_
   refine stp_call (refValid_ok g) ?_
   simp [hFF0, encG]
   try refine And.intro (by first | omega | rfl) ?_
   refine hK _ _ fun σ3 hσ H3 hH => ?_
   clear hK K hFF0
   obtain ⟨h1_3, h21_3⟩ := fs2 hσ 1 21
   simp [h1_2] at h1_3 h21_3
   clear hσ
   replace hH : H1 = H3 := Eq.symm hH
   subst hH
   refine stp_false (by simp [aeval_tmp, h21_3, hf, hv, beq_iff_eq.2 hv, encG]) ?_
   refine awp_skip ?_
   refine q_seq ?_
   have hFF0 := an7 h1_3 g0_1 hn_1 hst_1 hf hv (beq_iff_eq.2 hv)
   refine stp_reg TT_ok (by rfl) fun K hK => ?_
   simp [hFF0, encG]
   try refine And.intro (by first | omega | rfl) ?_
   refine stp_call (reverse_ok g) ?_
   simp [hFF0, encG]
   try refine And.intro (by first | omega | rfl) ?_
   refine hK _ _ fun σ4 hσ H4 hH => ?_
   clear hK K hFF0
   obtain ⟨h1_4, h3_4⟩ := fs2 hσ 1 3
   simp [h1_3] at h1_4 h3_4
   clear hσ
   have g0_4 := gt_of hH 0
   have g1_4 := gt_of hH 1
   simp [g0_1, hn_1, hst_1, hf, hv, beq_iff_eq.2 hv] at g0_4 g1_4
   have hn_4 := congrArg AHeap.n hH
   simp [hn_1, hst_1] at hn_4
   have hst_4 := congrArg AHeap.st hH
   simp [hn_1, hst_1] at hst_4
   clear hH
   refine stp_reg TT_ok (by rfl) fun K hK => ?_
   simp [h1_4, g0_4, g1_4, hn_4, hst_4, hf, hv, beq_iff_eq.2 hv, encG, show (g.nodes.length : Int) ≤ 281474976710656 by omega]
   try refine And.intro (by first | omega | rfl) ?_
   refine hK _ _ fun σ5 hσ H5 hH => ?_
   clear hK K
   obtain ⟨h1_5, h3_5, h4_5⟩ := fs3 hσ 1 3 4
   simp [h1_4, h3_4] at h1_5 h3_5 h4_5
   clear hσ
   have g0_5 := gt_of hH 0
   have g1_5 := gt_of hH 1
   have g2_5 := gt_of hH 2
   simp [g0_4, g1_4, hn_4, hst_4, hf, hv, beq_iff_eq.2 hv] at g0_5 g1_5 g2_5
   have hn_5 := congrArg AHeap.n hH
   simp [hn_4, hst_4] at hn_5
   have hst_5 := congrArg AHeap.st hH
   simp [hn_4, hst_4] at hst_5
   clear hH
   refine awp_seq ?_
   have hFF0 := an7 h1_5 g0_5 g1_5 g2_5 hf hv (beq_iff_eq.2 hv)
   refine stp_reg TT_ok (by rfl) fun K hK => ?_
   simp [hFF0, encG, encS]
   try refine And.intro (by first | omega | rfl) ?_
   refine stp_call (levels_ok g) ?_
   simp [hFF0, encG, encS]
   try refine And.intro (by first | omega | rfl) ?_
   refine hK _ _ fun σ6 hσ H6 hH => ?_
   clear hK K hFF0
   obtain ⟨h1_6, h3_6, h4_6, h29_6, h30_6, h31_6⟩ := fs6 hσ 1 3 4 29 30 31
   simp [h1_5, h3_5, h4_5] at h1_6 h3_6 h4_6 h29_6 h30_6 h31_6
   clear hσ
   replace hH : H5 = H6 := Eq.symm hH
   subst hH
   refine awp_block ?_
   refine awp_loopV (fun n σ' H' => ∃ (i : Nat), n = g.glevels.length - i ∧ σ' 1 = σ6 1 ∧ σ' 3 = σ6 3 ∧ σ' 4 = σ6 4 ∧ σ' 29 = σ6 29 ∧ σ' 30 = σ6 30 ∧ σ' 31 = (AV.int IntKind.i64) i ∧ H'.get 0 = H5.get 0 ∧ H'.get 1 = H5.get 1 ∧ H'.get 2 = some (.row 3 1 0 ((lvT g i 0).map (AV.int IntKind.i64))) ∧ H'.n = H5.n ∧ H'.st = H5.st ∧ (i ≤ g.glevels.length)) ?_ ?_
   ·refine ⟨_, 0, rfl, rfl, rfl, rfl, rfl, rfl, (by simp [h31_6, lvT_zero]), rfl, rfl, (by simp [g2_5, lvT_zero]), rfl, rfl, ?_⟩
    ·first | omega | (simp; done) | assumption
   ·rintro n1 σ7 H7 ⟨i, hn1, q1_7, q3_7, q4_7, q29_7, q30_7, h31_7, qg0_7, qg1_7, g2_7, qn_7, qst_7, p1⟩
    have h1_7 := q1_7.trans h1_6
    have h3_7 := q3_7.trans h3_6
    have h4_7 := q4_7.trans h4_6
    have h29_7 := q29_7.trans h29_6
    have h30_7 := q30_7.trans h30_6
    have g0_7 := qg0_7.trans g0_5
    have g1_7 := qg1_7.trans g1_5
    have hst_7 := qst_7.trans hst_5
    have hn_7 := qn_7.trans hn_5
    refine stp_reg TT_ok (by rfl) fun K hK => ?_
    simp [h30_7, h31_7, g0_7, g1_7, g2_7, hf, hv, beq_iff_eq.2 hv, encG]
    try refine And.intro (by first | omega | rfl) ?_
    refine hK _ _ fun σ8 hσ H8 hH => ?_
    clear hK K
    obtain ⟨h1_8, h3_8, h4_8, h29_8, h30_8, h31_8, h32_8⟩ := fs7 hσ 1 3 4 29 30 31 32
    simp [h1_7, h3_7, h4_7, h29_7, h30_7, h31_7] at h1_8 h3_8 h4_8 h29_8 h30_8 h31_8 h32_8
    clear hσ
    replace hH : H7 = H8 := Eq.symm hH
    subst hH
    refine awp_seq ?_
    refine awp_cond _ (by simp only [aeval_tmp]; exact h32_8) (fun hc32 => ?_) (fun hc32 => ?_)
    ·try simp at hc32
     have hlt : i < g.glevels.length := by simpa using hc32
     have hcg := levels_get hv hlt
     have hll0 := levN_len g i
     have hfr := fun j x hx => lvT_fresh (g := g) (i := i) (j := j) (x := x) hx
     have hin := fun x hx => (levN_in (g := g) (d := i) (x := x) hx).1
     have hnx := lvT_next g i
     obtain ⟨c, hc⟩ : ∃ c, levN g i = c := ⟨_, rfl⟩
     rw [hc] at hcg hll0 hfr hin hnx
     have hil : (i : Int) ≤ 1000000 := by
      have : g.glevels.length ≤ 1000000 := glevels_le hv (by omega)
      omega
     refine awp_skip ?_
     refine q_seq ?_
     refine awp_seq ?_
     refine awp_block ?_
     refine stp_reg TT_ok (by rfl) fun K hK => ?_
     simp [h29_8, h31_8, g0_7, g1_7, g2_7, hf, hv, beq_iff_eq.2 hv, encG, hlt, hcg]
     try refine And.intro (by first | omega | rfl) ?_
     refine hK _ _ fun σ9 hσ H9 hH => ?_
     clear hK K
     obtain ⟨h1_9, h3_9, h4_9, h5_9, h6_9, h29_9, h30_9, h31_9⟩ := fs8 hσ 1 3 4 5 6 29 30 31
     simp [h1_8, h3_8, h4_8, h29_8, h30_8, h31_8] at h1_9 h3_9 h4_9 h5_9 h6_9 h29_9 h30_9 h31_9
     clear hσ
     replace hH : H7 = H9 := Eq.symm hH
     subst hH
     refine stp_reg TT_ok (by rfl) fun K hK => ?_
     simp [h6_9, g0_7, g1_7, g2_7, hf, hv, beq_iff_eq.2 hv, encG]
     try refine And.intro (by first | omega | rfl) ?_
     refine hK _ _ fun σ10 hσ H10 hH => ?_
     clear hK K
     obtain ⟨h1_10, h3_10, h4_10, h5_10, h29_10, h30_10, h31_10, h36_10, h37_10, h38_10⟩ := fs10 hσ 1 3 4 5 29 30 31 36 37 38
     simp [h1_9, h3_9, h4_9, h5_9, h29_9, h30_9, h31_9] at h1_10 h3_10 h4_10 h5_10 h29_10 h30_10 h31_10 h36_10 h37_10 h38_10
     clear hσ
     replace hH : H7 = H10 := Eq.symm hH
     subst hH
     refine awp_block ?_
     refine awp_loopV (fun n σ' H' => ∃ (j : Nat), n = c.length - j ∧ σ' 1 = σ10 1 ∧ σ' 3 = σ10 3 ∧ σ' 4 = σ10 4 ∧ σ' 5 = σ10 5 ∧ σ' 29 = σ10 29 ∧ σ' 30 = σ10 30 ∧ σ' 31 = σ10 31 ∧ σ' 36 = σ10 36 ∧ σ' 37 = σ10 37 ∧ σ' 38 = (AV.int IntKind.i64) j ∧ H'.get 0 = H7.get 0 ∧ H'.get 1 = H7.get 1 ∧ H'.get 2 = some (.row 3 1 0 ((lvT g i j).map (AV.int IntKind.i64))) ∧ H'.n = H7.n ∧ H'.st = H7.st ∧ (j ≤ c.length)) ?_ ?_
     ·refine ⟨_, 0, rfl, rfl, rfl, rfl, rfl, rfl, rfl, rfl, rfl, rfl, (by simp [h38_10]), rfl, rfl, (by simp [g2_7]), rfl, rfl, ?_⟩
      ·first | omega | (simp; done) | assumption
     ·rintro n2 σ11 H11 ⟨j, hn2, q1_11, q3_11, q4_11, q5_11, q29_11, q30_11, q31_11, q36_11, q37_11, h38_11, qg0_11, qg1_11, g2_11, qn_11, qst_11, q1⟩
      have h1_11 := q1_11.trans h1_10
      have h3_11 := q3_11.trans h3_10
      have h4_11 := q4_11.trans h4_10
      have h5_11 := q5_11.trans h5_10
      have h29_11 := q29_11.trans h29_10
      have h30_11 := q30_11.trans h30_10
      have h31_11 := q31_11.trans h31_10
      have h36_11 := q36_11.trans h36_10
      have h37_11 := q37_11.trans h37_10
      have g0_11 := qg0_11.trans g0_7
      have g1_11 := qg1_11.trans g1_7
      have hst_11 := qst_11.trans hst_7
      have hn_11 := qn_11.trans hn_7
      refine stp_reg TT_ok (by rfl) fun K hK => ?_
      simp [h37_11, h38_11, g0_11, g1_11, g2_11, hf, hv, beq_iff_eq.2 hv, encG]
      try refine And.intro (by first | omega | rfl) ?_
      refine hK _ _ fun σ12 hσ H12 hH => ?_
      clear hK K
      obtain ⟨h1_12, h3_12, h4_12, h5_12, h29_12, h30_12, h31_12, h36_12, h37_12, h38_12, h39_12⟩ := fs11 hσ 1 3 4 5 29 30 31 36 37 38 39
      simp [h1_11, h3_11, h4_11, h5_11, h29_11, h30_11, h31_11, h36_11, h37_11, h38_11] at h1_12 h3_12 h4_12 h5_12 h29_12 h30_12 h31_12 h36_12 h37_12 h38_12 h39_12
      clear hσ
      replace hH : H11 = H12 := Eq.symm hH
      subst hH
      refine awp_seq ?_
      refine awp_cond _ (by simp only [aeval_tmp]; exact h39_12) (fun hc39 => ?_) (fun hc39 => ?_)
      ·try simp at hc39
       have hjt : j < c.length := by simpa using hc39
       have hcj : c[j]? = some c[j] := by rw [List.getElem?_eq_getElem]
       obtain ⟨x1, x2⟩ := hin _ (List.getElem_mem hjt)
       obtain ⟨f1, f2⟩ := hfr j _ hcj
       have hll := lvT_len g i j
       have x3 : c[j].toNat < g.nodes.length := by omega
       have f3 : (lvT g i j)[c[j].toNat]'(by omega) = 0 := by rw [List.getElem?_eq_getElem (by omega)] at f1; exact Option.some.inj f1
       have f4 : ((lvT g i j).map (AV.int IntKind.i64)).set c[j].toNat ((AV.int IntKind.i64) ((i : Int) + 1)) = (lvT g i (j + 1)).map (AV.int IntKind.i64) := by rw [← List.map_set, f2]
       refine awp_skip ?_
       refine q_seq ?_
       refine awp_seq ?_
       refine awp_block ?_
       refine stp_reg TT_ok (by rfl) fun K hK => ?_
       simp [h36_12, h38_12, g0_11, g1_11, g2_11, hf, hv, beq_iff_eq.2 hv, encG, hjt]
       try refine And.intro (by first | omega | rfl) ?_
       refine hK _ _ fun σ13 hσ H13 hH => ?_
       clear hK K
       obtain ⟨h1_13, h3_13, h4_13, h5_13, h8_13, h29_13, h30_13, h31_13, h36_13, h37_13, h38_13⟩ := fs11 hσ 1 3 4 5 8 29 30 31 36 37 38
       simp [h1_12, h3_12, h4_12, h5_12, h29_12, h30_12, h31_12, h36_12, h37_12, h38_12] at h1_13 h3_13 h4_13 h5_13 h8_13 h29_13 h30_13 h31_13 h36_13 h37_13 h38_13
       clear hσ
       replace hH : H11 = H13 := Eq.symm hH
       subst hH
       refine awp_seq ?_
       refine stp_reg TT_ok (by rfl) fun K hK => ?_
       simp [h4_13, h8_13, g0_11, g1_11, g2_11, hf, hv, beq_iff_eq.2 hv, encG, x1, x2, x3, f3, hll, show ¬ c[j] < 0 by omega, show ¬ (g.nodes.length : Int) ≤ c[j] by omega]
       try refine And.intro (by first | omega | rfl) ?_
       refine hK _ _ fun σ14 hσ H14 hH => ?_
       clear hK K
       obtain ⟨h1_14, h3_14, h4_14, h5_14, h8_14, h29_14, h30_14, h31_14, h36_14, h37_14, h38_14, h56_14⟩ := fs12 hσ 1 3 4 5 8 29 30 31 36 37 38 56
       simp [h1_13, h3_13, h4_13, h5_13, h8_13, h29_13, h30_13, h31_13, h36_13, h37_13, h38_13] at h1_14 h3_14 h4_14 h5_14 h8_14 h29_14 h30_14 h31_14 h36_14 h37_14 h38_14 h56_14
       clear hσ
       replace hH : H11 = H14 := Eq.symm hH
       subst hH
       refine stp_false (by simp [aeval_tmp, h56_14, hf, hv, beq_iff_eq.2 hv, encG]) ?_
       refine awp_skip ?_
       refine q_seq ?_
       refine stp_regl TT_ok (by rfl) fun K hK => ?_
       simp [h4_14, h5_14, h8_14, g0_11, g1_11, g2_11, hf, hv, beq_iff_eq.2 hv, encG, x1, x2, x3, hll, wrap_ok (n := (i : Int) + 1) (by omega) (by omega)]
       try refine And.intro (by first | omega | rfl) ?_
       refine hK _ _ fun σ15 hσ H15 hH => ?_
       clear hK K
       obtain ⟨h1_15, h3_15, h4_15, h5_15, h29_15, h30_15, h31_15, h36_15, h37_15, h38_15⟩ := fs10 hσ 1 3 4 5 29 30 31 36 37 38
       simp [h1_14, h3_14, h4_14, h5_14, h29_14, h30_14, h31_14, h36_14, h37_14, h38_14] at h1_15 h3_15 h4_15 h5_15 h29_15 h30_15 h31_15 h36_15 h37_15 h38_15
       clear hσ
       have g0_15 := gt_of hH 0
       have g1_15 := gt_of hH 1
       have g2_15 := gt_of hH 2
       simp [g0_11, g1_11, g2_11, hn_11, hst_11, hf, hv, beq_iff_eq.2 hv] at g0_15 g1_15 g2_15
       have hn_15 : H15.n = _ := (congrArg AHeap.n hH).trans hn_11
       have hst_15 : H15.st = _ := (congrArg AHeap.st hH).trans hst_11
       clear hH
       refine q_block ?_
       refine q_seq ?_
       refine stp_regl TT_ok (by rfl) fun K hK => ?_
       simp [h38_15, g0_15, g1_15, g2_15, hf, hv, beq_iff_eq.2 hv, encG, wrap_ok (n := (j : Int) + 1) (by omega) (by omega)]
       try refine And.intro (by first | omega | rfl) ?_
       refine hK _ _ fun σ16 hσ H16 hH => ?_
       clear hK K
       obtain ⟨h1_16, h3_16, h4_16, h5_16, h29_16, h30_16, h31_16, h36_16, h37_16, h38_16⟩ := fs10 hσ 1 3 4 5 29 30 31 36 37 38
       simp [h1_15, h3_15, h4_15, h5_15, h29_15, h30_15, h31_15, h36_15, h37_15] at h1_16 h3_16 h4_16 h5_16 h29_16 h30_16 h31_16 h36_16 h37_16 h38_16
       clear hσ
       replace hH : H15 = H16 := Eq.symm hH
       subst hH
       refine ⟨_, ?_, j + 1, rfl, (h1_16.trans h1_10.symm), (h3_16.trans h3_10.symm), (h4_16.trans h4_10.symm), (h5_16.trans h5_10.symm), (h29_16.trans h29_10.symm), (h30_16.trans h30_10.symm), (h31_16.trans h31_10.symm), (h36_16.trans h36_10.symm), (h37_16.trans h37_10.symm), (by simp [h38_16, f4]), (g0_15.trans g0_7.symm), (g1_15.trans g1_7.symm), (by simp [g2_15, f4]), (hn_15.trans hn_7.symm), (hst_15.trans hst_7.symm), ?_⟩
       ·subst hn2; omega
       ·first | omega | assumption | (simp; done)
      ·try simp at hc39
       refine awp_exit ?_
       refine q_seq_exit ?_
       refine q_loop_exit ?_
       refine q_block_hit ?_
       refine q_block ?_
       refine q_seq ?_
       refine stp_regl TT_ok (by rfl) fun K hK => ?_
       simp [h31_12, g0_11, g1_11, g2_11, hf, hv, beq_iff_eq.2 hv, encG, wrap_ok (n := (i : Int) + 1) (by omega) (by omega)]
       try refine And.intro (by first | omega | rfl) ?_
       refine hK _ _ fun σ17 hσ H17 hH => ?_
       clear hK K
       obtain ⟨h1_17, h3_17, h4_17, h29_17, h30_17, h31_17⟩ := fs6 hσ 1 3 4 29 30 31
       simp [h1_12, h3_12, h4_12, h29_12, h30_12] at h1_17 h3_17 h4_17 h29_17 h30_17 h31_17
       clear hσ
       replace hH : H11 = H17 := Eq.symm hH
       subst hH
       have hje : j = c.length := by have := hc39; omega
       subst hje
       refine ⟨_, ?_, i + 1, rfl, (h1_17.trans h1_6.symm), (h3_17.trans h3_6.symm), (h4_17.trans h4_6.symm), (h29_17.trans h29_6.symm), (h30_17.trans h30_6.symm), (by simp [h31_17, hnx]), (g0_11.trans g0_5.symm), (g1_11.trans g1_5.symm), (by simp [g2_11, hnx]), (hn_11.trans hn_5.symm), (hst_11.trans hst_5.symm), ?_⟩
       ·subst hn1; omega
       ·first | omega | assumption | (simp; done)
    ·try simp at hc32
     have hie : i = g.glevels.length := by have := hc32; omega
     subst hie
     have hll := lvT_len g g.glevels.length 0
     refine awp_exit ?_
     refine q_seq_exit ?_
     refine q_loop_exit ?_
     refine q_block_hit ?_
     refine q_seq ?_
     refine awp_seq ?_
     refine stp_reg TT_ok (by rfl) fun K hK => ?_
     simp [h1_8, g0_7, g1_7, g2_7, hf, hv, beq_iff_eq.2 hv, encG]
     try refine And.intro (by first | omega | rfl) ?_
     refine hK _ _ fun σ18 hσ H18 hH => ?_
     clear hK K
     obtain ⟨h1_18, h3_18, h4_18, h66_18, h67_18⟩ := fs5 hσ 1 3 4 66 67
     simp [h1_8, h3_8, h4_8] at h1_18 h3_18 h4_18 h66_18 h67_18
     clear hσ
     replace hH : H7 = H18 := Eq.symm hH
     subst hH
     refine awp_block ?_
     refine awp_loopV (fun n σ' H' => ∃ (i : Nat), n = g.nodes.length - i ∧ σ' 1 = σ18 1 ∧ σ' 3 = σ18 3 ∧ σ' 4 = σ18 4 ∧ σ' 66 = σ18 66 ∧ σ' 67 = (AV.int IntKind.i64) i ∧ H'.get 0 = H7.get 0 ∧ H'.get 1 = H7.get 1 ∧ H'.get 2 = H7.get 2 ∧ H'.st = H7.st ∧ (i ≤ g.nodes.length)) ?_ ?_
     ·refine ⟨_, 0, rfl, rfl, rfl, rfl, rfl, (by simp [h67_18]), rfl, rfl, rfl, rfl, ?_⟩
      ·first | omega | (simp; done) | assumption
     ·rintro n3 σ19 H19 ⟨i, hn3, q1_19, q3_19, q4_19, q66_19, h67_19, qg0_19, qg1_19, qg2_19, qst_19, q1⟩
      have h1_19 := q1_19.trans h1_18
      have h3_19 := q3_19.trans h3_18
      have h4_19 := q4_19.trans h4_18
      have h66_19 := q66_19.trans h66_18
      have g0_19 := qg0_19.trans g0_7
      have g1_19 := qg1_19.trans g1_7
      have g2_19 := qg2_19.trans g2_7
      have hst_19 := qst_19.trans hst_7
      refine stp_reg TT_ok (by rfl) fun K hK => ?_
      simp [h66_19, h67_19, g0_19, g1_19, g2_19, hf, hv, beq_iff_eq.2 hv, encG]
      try refine And.intro (by first | omega | rfl) ?_
      refine hK _ _ fun σ20 hσ H20 hH => ?_
      clear hK K
      obtain ⟨h1_20, h3_20, h4_20, h66_20, h67_20, h68_20⟩ := fs6 hσ 1 3 4 66 67 68
      simp [h1_19, h3_19, h4_19, h66_19, h67_19] at h1_20 h3_20 h4_20 h66_20 h67_20 h68_20
      clear hσ
      replace hH : H19 = H20 := Eq.symm hH
      subst hH
      refine awp_seq ?_
      refine awp_cond _ (by simp only [aeval_tmp]; exact h68_20) (fun hc68 => ?_) (fun hc68 => ?_)
      ·try simp at hc68
       have hlt : i < g.nodes.length := by simpa using hc68
       have hnz : ¬ (g.lv i : Int) + 1 = 0 := by omega
       refine awp_skip ?_
       refine q_seq ?_
       refine awp_seq ?_
       refine awp_block ?_
       refine stp_reg TT_ok (by rfl) fun K hK => ?_
       simp [h67_20, g0_19, g1_19, g2_19, hf, hv, beq_iff_eq.2 hv, encG]
       try refine And.intro (by first | omega | rfl) ?_
       refine hK _ _ fun σ21 hσ H21 hH => ?_
       clear hK K
       obtain ⟨h1_21, h3_21, h4_21, h9_21, h66_21, h67_21⟩ := fs6 hσ 1 3 4 9 66 67
       simp [h1_20, h3_20, h4_20, h66_20, h67_20] at h1_21 h3_21 h4_21 h9_21 h66_21 h67_21
       clear hσ
       replace hH : H19 = H21 := Eq.symm hH
       subst hH
       refine awp_seq ?_
       refine stp_reg TT_ok (by rfl) fun K hK => ?_
       simp [h4_21, h9_21, g0_19, g1_19, g2_19, hf, hv, beq_iff_eq.2 hv, encG, hlt, hll, lvT_full hv hlt, hnz]
       try refine And.intro (by first | omega | rfl) ?_
       refine hK _ _ fun σ22 hσ H22 hH => ?_
       clear hK K
       obtain ⟨h1_22, h3_22, h4_22, h9_22, h66_22, h67_22, h74_22⟩ := fs7 hσ 1 3 4 9 66 67 74
       simp [h1_21, h3_21, h4_21, h9_21, h66_21, h67_21] at h1_22 h3_22 h4_22 h9_22 h66_22 h67_22 h74_22
       clear hσ
       replace hH : H19 = H22 := Eq.symm hH
       subst hH
       refine stp_false (by simp [aeval_tmp, h74_22, hf, hv, beq_iff_eq.2 hv, encG, hnz]) ?_
       refine awp_skip ?_
       refine q_seq ?_
       refine stp_reg TT_ok (by rfl) fun K hK => ?_
       simp [h1_22, g0_19, g1_19, g2_19, hf, hv, beq_iff_eq.2 hv, encG]
       try refine And.intro (by first | omega | rfl) ?_
       refine hK _ _ fun σ23 hσ H23 hH => ?_
       clear hK K
       obtain ⟨h1_23, h3_23, h4_23, h9_23, h66_23, h67_23, h77_23, h78_23⟩ := fs8 hσ 1 3 4 9 66 67 77 78
       simp [h1_22, h3_22, h4_22, h9_22, h66_22, h67_22] at h1_23 h3_23 h4_23 h9_23 h66_23 h67_23 h77_23 h78_23
       clear hσ
       replace hH : H19 = H23 := Eq.symm hH
       subst hH
       refine awp_block ?_
       refine awp_loopV (fun n σ' H' => ∃ (k : Nat), n = g.nodes.length - k ∧ σ' 1 = σ23 1 ∧ σ' 3 = σ23 3 ∧ σ' 4 = σ23 4 ∧ σ' 9 = σ23 9 ∧ σ' 66 = σ23 66 ∧ σ' 67 = σ23 67 ∧ σ' 77 = σ23 77 ∧ σ' 78 = (AV.int IntKind.i64) k ∧ H'.get 0 = H19.get 0 ∧ H'.get 1 = H19.get 1 ∧ H'.get 2 = H19.get 2 ∧ H'.st = H19.st ∧ (k ≤ g.nodes.length)) ?_ ?_
       ·refine ⟨_, 0, rfl, rfl, rfl, rfl, rfl, rfl, rfl, rfl, (by simp [h78_23]), rfl, rfl, rfl, rfl, ?_⟩
        ·first | omega | (simp; done) | assumption
       ·rintro n4 σ24 H24 ⟨k, hn4, q1_24, q3_24, q4_24, q9_24, q66_24, q67_24, q77_24, h78_24, qg0_24, qg1_24, qg2_24, qst_24, q2⟩
        have h1_24 := q1_24.trans h1_23
        have h3_24 := q3_24.trans h3_23
        have h4_24 := q4_24.trans h4_23
        have h9_24 := q9_24.trans h9_23
        have h66_24 := q66_24.trans h66_23
        have h67_24 := q67_24.trans h67_23
        have h77_24 := q77_24.trans h77_23
        have g0_24 := qg0_24.trans g0_19
        have g1_24 := qg1_24.trans g1_19
        have g2_24 := qg2_24.trans g2_19
        have hst_24 := qst_24.trans hst_19
        refine stp_reg TT_ok (by rfl) fun K hK => ?_
        simp [h77_24, h78_24, g0_24, g1_24, g2_24, hf, hv, beq_iff_eq.2 hv, encG]
        try refine And.intro (by first | omega | rfl) ?_
        refine hK _ _ fun σ25 hσ H25 hH => ?_
        clear hK K
        obtain ⟨h1_25, h3_25, h4_25, h9_25, h66_25, h67_25, h77_25, h78_25, h79_25⟩ := fs9 hσ 1 3 4 9 66 67 77 78 79
        simp [h1_24, h3_24, h4_24, h9_24, h66_24, h67_24, h77_24, h78_24] at h1_25 h3_25 h4_25 h9_25 h66_25 h67_25 h77_25 h78_25 h79_25
        clear hσ
        replace hH : H24 = H25 := Eq.symm hH
        subst hH
        refine awp_seq ?_
        refine awp_cond _ (by simp only [aeval_tmp]; exact h79_25) (fun hc79 => ?_) (fun hc79 => ?_)
        ·try simp at hc79
         have hkt : k < g.nodes.length := by simpa using hc79
         have hrn : g.rev.nodes.length = g.nodes.length := by rw [rev_nodes hv]
         have hr1 := reach_len g [(i : Int)]
         have hr2 := reach_len g.rev [(k : Int)]
         have hr3 := reach_len g [(k : Int)]
         have hrr := rev_reach hv hlt hkt
         have hlr := lv_reach2 hv hlt hkt
         refine awp_skip ?_
         refine q_seq ?_
         refine awp_seq ?_
         refine awp_block ?_
         refine stp_reg TT_ok (by rfl) fun K hK => ?_
         simp [h78_25, g0_24, g1_24, g2_24, hf, hv, beq_iff_eq.2 hv, encG]
         try refine And.intro (by first | omega | rfl) ?_
         refine hK _ _ fun σ26 hσ H26 hH => ?_
         clear hK K
         obtain ⟨h1_26, h3_26, h4_26, h9_26, h10_26, h66_26, h67_26, h77_26, h78_26⟩ := fs9 hσ 1 3 4 9 10 66 67 77 78
         simp [h1_25, h3_25, h4_25, h9_25, h66_25, h67_25, h77_25, h78_25] at h1_26 h3_26 h4_26 h9_26 h10_26 h66_26 h67_26 h77_26 h78_26
         clear hσ
         replace hH : H24 = H26 := Eq.symm hH
         subst hH
         refine awp_ok fun hok => ?_
         obtain ⟨m27, hn_m27⟩ : ∃ m, H24.n = m := ⟨_, rfl⟩
         have hf_m27_0 := hok.free 0
         simp [hn_m27, hst_24] at hf_m27_0
         have nx1 := ne_get hf_m27_0 g0_24
         have nx2 := ne_get hf_m27_0 g1_24
         have nx3 := ne_get hf_m27_0 g2_24
         have hFF0 := an14 h1_26 h9_26 h10_26 g0_24 g1_24 g2_24 hn_m27 hst_24 hf hv (beq_iff_eq.2 hv) nx1 nx2 nx3
         refine stp_reg TT_ok (by rfl) fun K hK => ?_
         simp [hFF0, encG]
         try refine And.intro (by first | omega | rfl) ?_
         refine FunW.at (reach_w g [(i : Int)] (by simp)) ?hf ?_
         case hf => exact FrzL.cons (.pure (pu_graph g)) (FrzL.cons (frz_ints (xs := [(i : Int)]) (e := 3) (g := 0) (id := m27) (by simp [hFF0, encG]) rfl) (FrzL.nil _))
         simp [hFF0, encG]
         try refine And.intro (by first | omega | rfl) ?_
         refine FunW.at (containsI_w (g.reach [(i : Int)]) k (by omega)) ?hf ?_
         case hf => exact FrzL.cons (.pure (pu_ints _)) (FrzL.cons (.pure (pu_int _ _)) (FrzL.nil _))
         simp [hFF0, encG]
         try refine And.intro (by first | omega | rfl) ?_
         refine hK _ _ fun σ28 hσ H28 hH => ?_
         clear hK K hFF0
         obtain ⟨h1_28, h3_28, h4_28, h9_28, h10_28, h11_28, h66_28, h67_28, h77_28, h78_28⟩ := fs10 hσ 1 3 4 9 10 11 66 67 77 78
         simp [h1_26, h3_26, h4_26, h9_26, h10_26, h66_26, h67_26, h77_26, h78_26] at h1_28 h3_28 h4_28 h9_28 h10_28 h11_28 h66_28 h67_28 h77_28 h78_28
         clear hσ
         have g0_28 := gt_of hH 0
         have g1_28 := gt_of hH 1
         have g2_28 := gt_of hH 2
         have gm27_28 := gt_of hH m27
         simp [g0_24, g1_24, g2_24, hn_m27, hst_24, hf, hv, beq_iff_eq.2 hv, nx1, nx2, nx3] at g0_28 g1_28 g2_28 gm27_28
         have hst_28 := congrArg AHeap.st hH
         simp [hst_24] at hst_28
         clear hH
         refine awp_seq ?_
         by_cases hb1 : (k : Int) ∈ g.reach [(i : Int)]
         ·skip
          have hb1r := hrr.1 hb1
          refine awp_ok fun hok => ?_
          obtain ⟨m29, hn_m29⟩ : ∃ m, H28.n = m := ⟨_, rfl⟩
          have hf_m29_0 := hok.free 0
          simp [hn_m29, hst_28] at hf_m29_0
          have nx4 := ne_get hf_m29_0 g0_28
          have nx5 := ne_get hf_m29_0 g1_28
          have nx6 := ne_get hf_m29_0 g2_28
          have nx7 := ne_get hf_m29_0 gm27_28
          have hFF0 := an21 h3_28 h9_28 h10_28 h11_28 g0_28 g1_28 g2_28 gm27_28 hn_m29 hst_28 hf hv (beq_iff_eq.2 hv) nx1 nx2 nx3 hb1 nx4 nx5 nx6 nx7
          refine stp_reg TT_ok (by rfl) fun K hK => ?_
          simp [hFF0, encG, hb1r]
          try refine And.intro (by first | omega | rfl) ?_
          refine FunW.at (reach_w g.rev [(k : Int)] (by simp)) ?hf ?_
          case hf => exact FrzL.cons (.pure (pu_graph g.rev)) (FrzL.cons (frz_ints (xs := [(k : Int)]) (e := 3) (g := 0) (id := m29) (by simp [hFF0, encG, hb1r]) rfl) (FrzL.nil _))
          simp [hFF0, encG, hb1r]
          try refine And.intro (by first | omega | rfl) ?_
          refine FunW.at (containsI_w (g.rev.reach [(k : Int)]) i (by omega)) ?hf ?_
          case hf => exact FrzL.cons (.pure (pu_ints _)) (FrzL.cons (.pure (pu_int _ _)) (FrzL.nil _))
          simp [hFF0, encG, hb1r]
          try refine And.intro (by first | omega | rfl) ?_
          refine hK _ _ fun σ30 hσ H30 hH => ?_
          clear hK K hFF0
          obtain ⟨h1_30, h3_30, h4_30, h9_30, h10_30, h11_30, h66_30, h67_30, h77_30, h78_30, h94_30⟩ := fs11 hσ 1 3 4 9 10 11 66 67 77 78 94
          simp [h1_28, h3_28, h4_28, h9_28, h10_28, h11_28, h66_28, h67_28, h77_28, h78_28] at h1_30 h3_30 h4_30 h9_30 h10_30 h11_30 h66_30 h67_30 h77_30 h78_30 h94_30
          clear hσ
          have g0_30 := gt_of hH 0
          have g1_30 := gt_of hH 1
          have g2_30 := gt_of hH 2
          have gm27_30 := gt_of hH m27
          have gm29_30 := gt_of hH m29
          simp [g0_28, g1_28, g2_28, gm27_28, hn_m29, hst_28, hf, hv, beq_iff_eq.2 hv, nx1, nx2, nx3, hb1, nx4, nx5, nx6, nx7] at g0_30 g1_30 g2_30 gm27_30 gm29_30
          have hst_30 := congrArg AHeap.st hH
          simp [hst_28] at hst_30
          clear hH
          refine stp_false (by simp [aeval_tmp, h94_30, hf, hv, beq_iff_eq.2 hv, nx1, nx2, nx3, hb1, nx4, nx5, nx6, nx7, encG]) ?_
          refine awp_skip ?_
          refine q_seq ?_
          by_cases hb2 : (g.lv k : Int) = g.lv i
          ·skip
           obtain ⟨l1, l2⟩ := hlr hb1
           have hb3 : (i : Int) ∈ g.reach [(k : Int)] := l2 (by omega)
           refine awp_ok fun hok => ?_
           obtain ⟨m31, hn_m31⟩ : ∃ m, H30.n = m := ⟨_, rfl⟩
           have hf_m31_24 := hok.free 24
           simp [hn_m31, hst_30] at hf_m31_24
           have nx8 := ne_get hf_m31_24 g0_30
           have nx9 := ne_get hf_m31_24 g1_30
           have nx10 := ne_get hf_m31_24 g2_30
           have nx11 := ne_get hf_m31_24 gm27_30
           have nx12 := ne_get hf_m31_24 gm29_30
           have hFF0 := an24 h1_30 h4_30 h9_30 h10_30 h11_30 g0_30 g1_30 g2_30 gm27_30 gm29_30 hn_m31 hst_30 hf hv (beq_iff_eq.2 hv) nx1 nx2 nx3 hb1 nx4 nx5 nx6 nx7 hb2
           have hFF1 := an6 (beq_iff_eq.2 hb2) nx8 nx9 nx10 nx11 nx12
           refine stp_lex true TT_ok mixed (by rfl) (by rfl) (by kernel_rfl) (by rfl) fun U hU K hK => ?_
           simp [hFF0, hFF1, encG, hlt, hkt, hll, lvT_full hv hlt, lvT_full hv hkt, hb3, hb2]
           try refine And.intro (by first | omega | rfl) ?_
           refine lex_callW (reach_w g [(k : Int)] (by simp)) [m31 + 24] (fun H' hH' => FrzL.cons (.pure (pu_graph _)) (FrzL.cons (frz_ints (xs := [(k : Int)]) (by rw [hH' (m31 + 24) (by simp)]; simp [hFF0, hFF1, encG, hlt, hkt, hll, lvT_full hv hlt, lvT_full hv hkt, hb3, hb2]; rfl) rfl) (FrzL.nil _))) ?_
           simp [hFF0, hFF1, encG, hlt, hkt, hll, lvT_full hv hlt, lvT_full hv hkt, hb3, hb2]
           try refine And.intro (by first | omega | rfl) ?_
           refine lex_callW (containsI_w (g.reach [(k : Int)]) i (by omega)) [] (fun H' hH' => FrzL.cons (.pure (pu_ints _)) (FrzL.cons (.pure (pu_int _ _)) (FrzL.nil _))) ?_
           simp [hFF0, hFF1, encG, hlt, hkt, hll, lvT_full hv hlt, lvT_full hv hkt, hb3, hb2]
           try refine And.intro (by first | omega | rfl) ?_
           refine hK _ _ _ (by rw [hU.trans (by kernel_rfl : _ = [(2, 3), (2, 6), (3, 6), (4, 6), (5, 6), (2, 7), (3, 7), (4, 7), (5, 7), (6, 7), (2, 8), (3, 8), (4, 8), (5, 8), (2, 9), (3, 9), (4, 9), (5, 9), (12, 13), (12, 16), (13, 16), (14, 16), (15, 16), (12, 17), (13, 17), (14, 17), (15, 17), (16, 17), (12, 18), (13, 18), (14, 18), (15, 18), (12, 19), (13, 19), (14, 19), (15, 19), (22, 23), (22, 24), (22, 26), (23, 26), (24, 26), (25, 26)])]; simp [logOk, ftFree, hFF0, hFF1, encG, hlt, hkt, hll, lvT_full hv hlt, lvT_full hv hkt, hb3, hb2]) fun σ32 hσ H32 hH => ?_
           clear hK K hU U hFF0 hFF1
           obtain ⟨h1_32, h3_32, h4_32, h9_32, h66_32, h67_32, h77_32, h78_32, h126_32⟩ := fs9 hσ 1 3 4 9 66 67 77 78 126
           simp [h1_30, h3_30, h4_30, h9_30, h66_30, h67_30, h77_30, h78_30] at h1_32 h3_32 h4_32 h9_32 h66_32 h67_32 h77_32 h78_32 h126_32
           clear hσ
           have g0_32 := gt_of hH 0
           have g1_32 := gt_of hH 1
           have g2_32 := gt_of hH 2
           have gm27_32 := gt_of hH m27
           have gm29_32 := gt_of hH m29
           have g_m31_24__32 := gt_of hH (m31 + 24)
           simp [g0_30, g1_30, g2_30, gm27_30, gm29_30, hn_m31, hst_30, hf, hv, beq_iff_eq.2 hv, nx1, nx2, nx3, hb1, nx4, nx5, nx6, nx7, hb2, beq_iff_eq.2 hb2, nx8, nx9, nx10, nx11, nx12] at g0_32 g1_32 g2_32 gm27_32 gm29_32 g_m31_24__32
           have hst_32 := congrArg AHeap.st hH
           simp [hst_30] at hst_32
           clear hH
           refine stp_false (by simp [aeval_tmp, h126_32, hf, hv, beq_iff_eq.2 hv, nx1, nx2, nx3, hb1, nx4, nx5, nx6, nx7, hb2, beq_iff_eq.2 hb2, nx8, nx9, nx10, nx11, nx12, encG]) ?_
           refine awp_skip ?_
           refine q_block ?_
           refine q_seq ?_
           refine stp_regl TT_ok (by rfl) fun K hK => ?_
           simp [h78_32, g0_32, g1_32, g2_32, gm27_32, gm29_32, g_m31_24__32, hf, hv, beq_iff_eq.2 hv, nx1, nx2, nx3, hb1, nx4, nx5, nx6, nx7, hb2, beq_iff_eq.2 hb2, nx8, nx9, nx10, nx11, nx12, encG, wrap_ok (n := (k : Int) + 1) (by omega) (by omega)]
           try refine And.intro (by first | omega | rfl) ?_
           refine hK _ _ fun σ33 hσ H33 hH => ?_
           clear hK K
           obtain ⟨h1_33, h3_33, h4_33, h9_33, h66_33, h67_33, h77_33, h78_33⟩ := fs8 hσ 1 3 4 9 66 67 77 78
           simp [h1_32, h3_32, h4_32, h9_32, h66_32, h67_32, h77_32] at h1_33 h3_33 h4_33 h9_33 h66_33 h67_33 h77_33 h78_33
           clear hσ
           replace hH : H32 = H33 := Eq.symm hH
           subst hH
           refine ⟨_, ?_, k + 1, rfl, (h1_33.trans h1_23.symm), (h3_33.trans h3_23.symm), (h4_33.trans h4_23.symm), (h9_33.trans h9_23.symm), (h66_33.trans h66_23.symm), (h67_33.trans h67_23.symm), (h77_33.trans h77_23.symm), (by simp [h78_33]), (g0_32.trans g0_19.symm), (g1_32.trans g1_19.symm), (g2_32.trans g2_19.symm), (hst_32.trans hst_19.symm), ?_⟩
           ·subst hn4; omega
           ·first | omega | assumption | (simp; done)
          ·skip
           obtain ⟨l1, l2⟩ := hlr hb1
           refine stp_lex true TT_ok mixed (by rfl) (by rfl) (by kernel_rfl) (by rfl) fun U hU K hK => ?_
           simp [h1_30, h4_30, h9_30, h10_30, h11_30, g0_30, g1_30, g2_30, gm27_30, gm29_30, hst_30, hf, hv, beq_iff_eq.2 hv, nx1, nx2, nx3, hb1, nx4, nx5, nx6, nx7, hb2, beq_eq_false_iff_ne.2 hb2, encG, hlt, hkt, hll, lvT_full hv hlt, lvT_full hv hkt, show ¬ (g.lv i : Int) < (g.lv k : Int) by omega, show ¬ g.lv i < g.lv k by omega, show ((g.lv k : Int) + 1 == (g.lv i : Int) + 1) = false by simp only [beq_eq_false_iff_ne]; omega]
           try refine And.intro (by first | omega | rfl) ?_
           refine hK _ _ _ (by subst hU; kernel_rfl) fun σ34 hσ H34 hH => ?_
           clear hK K hU U
           obtain ⟨h1_34, h3_34, h4_34, h9_34, h66_34, h67_34, h77_34, h78_34, h126_34⟩ := fs9 hσ 1 3 4 9 66 67 77 78 126
           simp [h1_30, h3_30, h4_30, h9_30, h66_30, h67_30, h77_30, h78_30] at h1_34 h3_34 h4_34 h9_34 h66_34 h67_34 h77_34 h78_34 h126_34
           clear hσ
           have g0_34 := gt_of hH 0
           have g1_34 := gt_of hH 1
           have g2_34 := gt_of hH 2
           have gm27_34 := gt_of hH m27
           have gm29_34 := gt_of hH m29
           simp [g0_30, g1_30, g2_30, gm27_30, gm29_30, hst_30, hf, hv, beq_iff_eq.2 hv, nx1, nx2, nx3, hb1, nx4, nx5, nx6, nx7, hb2, beq_eq_false_iff_ne.2 hb2] at g0_34 g1_34 g2_34 gm27_34 gm29_34
           have hst_34 := congrArg AHeap.st hH
           simp [hst_30] at hst_34
           clear hH
           refine stp_false (by simp [aeval_tmp, h126_34, hf, hv, beq_iff_eq.2 hv, nx1, nx2, nx3, hb1, nx4, nx5, nx6, nx7, hb2, beq_eq_false_iff_ne.2 hb2, encG]) ?_
           refine awp_skip ?_
           refine q_block ?_
           refine q_seq ?_
           refine stp_regl TT_ok (by rfl) fun K hK => ?_
           simp [h78_34, g0_34, g1_34, g2_34, gm27_34, gm29_34, hf, hv, beq_iff_eq.2 hv, nx1, nx2, nx3, hb1, nx4, nx5, nx6, nx7, hb2, beq_eq_false_iff_ne.2 hb2, encG, wrap_ok (n := (k : Int) + 1) (by omega) (by omega)]
           try refine And.intro (by first | omega | rfl) ?_
           refine hK _ _ fun σ35 hσ H35 hH => ?_
           clear hK K
           obtain ⟨h1_35, h3_35, h4_35, h9_35, h66_35, h67_35, h77_35, h78_35⟩ := fs8 hσ 1 3 4 9 66 67 77 78
           simp [h1_34, h3_34, h4_34, h9_34, h66_34, h67_34, h77_34] at h1_35 h3_35 h4_35 h9_35 h66_35 h67_35 h77_35 h78_35
           clear hσ
           replace hH : H34 = H35 := Eq.symm hH
           subst hH
           refine ⟨_, ?_, k + 1, rfl, (h1_35.trans h1_23.symm), (h3_35.trans h3_23.symm), (h4_35.trans h4_23.symm), (h9_35.trans h9_23.symm), (h66_35.trans h66_23.symm), (h67_35.trans h67_23.symm), (h77_35.trans h77_23.symm), (by simp [h78_35]), (g0_34.trans g0_19.symm), (g1_34.trans g1_19.symm), (g2_34.trans g2_19.symm), (hst_34.trans hst_19.symm), ?_⟩
           ·subst hn4; omega
           ·first | omega | assumption | (simp; done)
         ·skip
          have hb1r : ¬ (i : Int) ∈ g.rev.reach [(k : Int)] := fun h => hb1 (hrr.2 h)
          refine awp_ok fun hok => ?_
          obtain ⟨m36, hn_m36⟩ : ∃ m, H28.n = m := ⟨_, rfl⟩
          have hf_m36_0 := hok.free 0
          simp [hn_m36, hst_28] at hf_m36_0
          have nx13 := ne_get hf_m36_0 g0_28
          have nx14 := ne_get hf_m36_0 g1_28
          have nx15 := ne_get hf_m36_0 g2_28
          have nx16 := ne_get hf_m36_0 gm27_28
          have hFF0 := an21 h3_28 h9_28 h10_28 h11_28 g0_28 g1_28 g2_28 gm27_28 hn_m36 hst_28 hf hv (beq_iff_eq.2 hv) nx1 nx2 nx3 hb1 nx13 nx14 nx15 nx16
          refine stp_reg TT_ok (by rfl) fun K hK => ?_
          simp [hFF0, encG, hb1r]
          try refine And.intro (by first | omega | rfl) ?_
          refine FunW.at (reach_w g.rev [(k : Int)] (by simp)) ?hf ?_
          case hf => exact FrzL.cons (.pure (pu_graph g.rev)) (FrzL.cons (frz_ints (xs := [(k : Int)]) (e := 3) (g := 0) (id := m36) (by simp [hFF0, encG, hb1r]) rfl) (FrzL.nil _))
          simp [hFF0, encG, hb1r]
          try refine And.intro (by first | omega | rfl) ?_
          refine FunW.at (containsI_w (g.rev.reach [(k : Int)]) i (by omega)) ?hf ?_
          case hf => exact FrzL.cons (.pure (pu_ints _)) (FrzL.cons (.pure (pu_int _ _)) (FrzL.nil _))
          simp [hFF0, encG, hb1r]
          try refine And.intro (by first | omega | rfl) ?_
          refine hK _ _ fun σ37 hσ H37 hH => ?_
          clear hK K hFF0
          obtain ⟨h1_37, h3_37, h4_37, h9_37, h10_37, h11_37, h66_37, h67_37, h77_37, h78_37, h94_37⟩ := fs11 hσ 1 3 4 9 10 11 66 67 77 78 94
          simp [h1_28, h3_28, h4_28, h9_28, h10_28, h11_28, h66_28, h67_28, h77_28, h78_28] at h1_37 h3_37 h4_37 h9_37 h10_37 h11_37 h66_37 h67_37 h77_37 h78_37 h94_37
          clear hσ
          have g0_37 := gt_of hH 0
          have g1_37 := gt_of hH 1
          have g2_37 := gt_of hH 2
          have gm27_37 := gt_of hH m27
          have gm36_37 := gt_of hH m36
          simp [g0_28, g1_28, g2_28, gm27_28, hn_m36, hst_28, hf, hv, beq_iff_eq.2 hv, nx1, nx2, nx3, hb1, nx13, nx14, nx15, nx16] at g0_37 g1_37 g2_37 gm27_37 gm36_37
          have hst_37 := congrArg AHeap.st hH
          simp [hst_28] at hst_37
          clear hH
          refine stp_false (by simp [aeval_tmp, h94_37, hf, hv, beq_iff_eq.2 hv, nx1, nx2, nx3, hb1, nx13, nx14, nx15, nx16, encG]) ?_
          refine awp_skip ?_
          refine q_seq ?_
          refine stp_lex true TT_ok mixed (by rfl) (by rfl) (by kernel_rfl) (by rfl) fun U hU K hK => ?_
          simp [h1_37, h4_37, h9_37, h10_37, h11_37, g0_37, g1_37, g2_37, gm27_37, gm36_37, hst_37, hf, hv, beq_iff_eq.2 hv, nx1, nx2, nx3, hb1, nx13, nx14, nx15, nx16, encG]
          try refine And.intro (by first | omega | rfl) ?_
          refine hK _ _ _ (by subst hU; kernel_rfl) fun σ38 hσ H38 hH => ?_
          clear hK K hU U
          obtain ⟨h1_38, h3_38, h4_38, h9_38, h66_38, h67_38, h77_38, h78_38, h126_38⟩ := fs9 hσ 1 3 4 9 66 67 77 78 126
          simp [h1_37, h3_37, h4_37, h9_37, h66_37, h67_37, h77_37, h78_37] at h1_38 h3_38 h4_38 h9_38 h66_38 h67_38 h77_38 h78_38 h126_38
          clear hσ
          have g0_38 := gt_of hH 0
          have g1_38 := gt_of hH 1
          have g2_38 := gt_of hH 2
          have gm27_38 := gt_of hH m27
          have gm36_38 := gt_of hH m36
          simp [g0_37, g1_37, g2_37, gm27_37, gm36_37, hst_37, hf, hv, beq_iff_eq.2 hv, nx1, nx2, nx3, hb1, nx13, nx14, nx15, nx16] at g0_38 g1_38 g2_38 gm27_38 gm36_38
          have hst_38 := congrArg AHeap.st hH
          simp [hst_37] at hst_38
          clear hH
          refine stp_false (by simp [aeval_tmp, h126_38, hf, hv, beq_iff_eq.2 hv, nx1, nx2, nx3, hb1, nx13, nx14, nx15, nx16, encG]) ?_
          refine awp_skip ?_
          refine q_block ?_
          refine q_seq ?_
          refine stp_regl TT_ok (by rfl) fun K hK => ?_
          simp [h78_38, g0_38, g1_38, g2_38, gm27_38, gm36_38, hf, hv, beq_iff_eq.2 hv, nx1, nx2, nx3, hb1, nx13, nx14, nx15, nx16, encG, wrap_ok (n := (k : Int) + 1) (by omega) (by omega)]
          try refine And.intro (by first | omega | rfl) ?_
          refine hK _ _ fun σ39 hσ H39 hH => ?_
          clear hK K
          obtain ⟨h1_39, h3_39, h4_39, h9_39, h66_39, h67_39, h77_39, h78_39⟩ := fs8 hσ 1 3 4 9 66 67 77 78
          simp [h1_38, h3_38, h4_38, h9_38, h66_38, h67_38, h77_38] at h1_39 h3_39 h4_39 h9_39 h66_39 h67_39 h77_39 h78_39
          clear hσ
          replace hH : H38 = H39 := Eq.symm hH
          subst hH
          refine ⟨_, ?_, k + 1, rfl, (h1_39.trans h1_23.symm), (h3_39.trans h3_23.symm), (h4_39.trans h4_23.symm), (h9_39.trans h9_23.symm), (h66_39.trans h66_23.symm), (h67_39.trans h67_23.symm), (h77_39.trans h77_23.symm), (by simp [h78_39]), (g0_38.trans g0_19.symm), (g1_38.trans g1_19.symm), (g2_38.trans g2_19.symm), (hst_38.trans hst_19.symm), ?_⟩
          ·subst hn4; omega
          ·first | omega | assumption | (simp; done)
        ·try simp at hc79
         refine awp_exit ?_
         refine q_seq_exit ?_
         refine q_loop_exit ?_
         refine q_block_hit ?_
         refine q_block ?_
         refine q_seq ?_
         refine stp_regl TT_ok (by rfl) fun K hK => ?_
         simp [h67_25, g0_24, g1_24, g2_24, hf, hv, beq_iff_eq.2 hv, encG, wrap_ok (n := (i : Int) + 1) (by omega) (by omega)]
         try refine And.intro (by first | omega | rfl) ?_
         refine hK _ _ fun σ40 hσ H40 hH => ?_
         clear hK K
         obtain ⟨h1_40, h3_40, h4_40, h66_40, h67_40⟩ := fs5 hσ 1 3 4 66 67
         simp [h1_25, h3_25, h4_25, h66_25] at h1_40 h3_40 h4_40 h66_40 h67_40
         clear hσ
         replace hH : H24 = H40 := Eq.symm hH
         subst hH
         refine ⟨_, ?_, i + 1, rfl, (h1_40.trans h1_18.symm), (h3_40.trans h3_18.symm), (h4_40.trans h4_18.symm), (h66_40.trans h66_18.symm), (by simp [h67_40]), (g0_24.trans g0_7.symm), (g1_24.trans g1_7.symm), (g2_24.trans g2_7.symm), (hst_24.trans hst_7.symm), ?_⟩
         ·subst hn3; omega
         ·first | omega | assumption | (simp; done)
      ·try simp at hc68
       refine awp_exit ?_
       refine q_seq_exit ?_
       refine q_loop_exit ?_
       refine q_block_hit ?_
       refine q_seq ?_
       refine stp_reg TT_ok (by rfl) fun K hK => ?_
       simp [g0_19, g1_19, g2_19, hf, hv, beq_iff_eq.2 hv, encG]
       try refine And.intro (by first | omega | rfl) ?_
       refine hK _ _ fun σ41 hσ H41 hH => ?_
       clear hK K
       have h2_41 := congrFun hσ 2
       simp [] at h2_41
       clear hσ
       replace hH : H19 = H41 := Eq.symm hH
       subst hH
       refine awp_ret ?_
       refine q_fin1 h2_41 ?_
       first | rfl | (simp; done)
  ·skip
   have hFF0 := an5 h1_2 g0_1 hf hv (beq_eq_false_iff_ne.2 hv)
   refine stp_reg TT_ok (by rfl) fun K hK => ?_
   simp [hFF0, encG]
   try refine And.intro (by first | omega | rfl) ?_
   refine stp_call (few_ok g) ?_
   simp [hFF0, encG]
   try refine And.intro (by first | omega | rfl) ?_
   refine stp_call (refValid_ok g) ?_
   simp [hFF0, encG]
   try refine And.intro (by first | omega | rfl) ?_
   refine hK _ _ fun σ42 hσ H42 hH => ?_
   clear hK K hFF0
   obtain ⟨h1_42, h21_42⟩ := fs2 hσ 1 21
   simp [h1_2] at h1_42 h21_42
   clear hσ
   replace hH : H1 = H42 := Eq.symm hH
   subst hH
   refine stp_true (by simp [aeval_tmp, h21_42, hf, hv, beq_eq_false_iff_ne.2 hv, encG]) ?_
   refine stp_reg TT_ok (by rfl) fun K hK => ?_
   simp [g0_1, hf, hv, beq_eq_false_iff_ne.2 hv, encG]
   try refine And.intro (by first | omega | rfl) ?_
   refine hK _ _ fun σ43 hσ H43 hH => ?_
   clear hK K
   have h2_43 := congrFun hσ 2
   simp [] at h2_43
   clear hσ
   replace hH : H1 = H43 := Eq.symm hH
   subst hH
   refine awp_ret ?_
   refine q_seq_ret ?_
   refine q_fin1 h2_43 ?_
   first | rfl | (simp; done)
 ·skip
  have hFF0 := an3 h1_2 g0_1 hf
  refine stp_reg TT_ok (by rfl) fun K hK => ?_
  simp [hFF0, encG]
  try refine And.intro (by first | omega | rfl) ?_
  refine stp_call (few_ok g) ?_
  simp [hFF0, encG]
  try refine And.intro (by first | omega | rfl) ?_
  refine hK _ _ fun σ44 hσ H44 hH => ?_
  clear hK K hFF0
  obtain ⟨h1_44, h21_44⟩ := fs2 hσ 1 21
  simp [h1_2] at h1_44 h21_44
  clear hσ
  replace hH : H1 = H44 := Eq.symm hH
  subst hH
  refine stp_true (by simp [aeval_tmp, h21_44, hf, encG]) ?_
  refine stp_reg TT_ok (by rfl) fun K hK => ?_
  simp [g0_1, hf, encG]
  try refine And.intro (by first | omega | rfl) ?_
  refine hK _ _ fun σ45 hσ H45 hH => ?_
  clear hK K
  have h2_45 := congrFun hσ 2
  simp [] at h2_45
  clear hσ
  replace hH : H1 = H45 := Eq.symm hH
  subst hH
  refine awp_ret ?_
  refine q_seq_ret ?_
  refine q_fin1 h2_45 ?_
  first | rfl | (simp; done)
set_option maxRecDepth 100000 in
theorem graphConverse_lifted (os : Os) (started : os.Started) (H : Type) (enc : TypeId × Value → H) :
  ReturnsInHanded {} Try.checked os 7 .any (Rows.graphConverseSpec.pre6 enc Try.prog Try.f7 Rows.graphConverseRow.domain false) (Rows.graphConverseSpec.post enc Try.prog Try.f7 false true false false) := by
 refine returnsInHanded_of_change (C := Try.checked) own started (by kernel_rfl) Try.func7
  (ChangeSpec.witness6 (enc := enc) (C := Try.checked) false ⟨#[], #[.agg #[.slice none 0 0, .slice none 0 0]], []⟩ 9 (by kernel_rfl) (by kernel_rfl) (by kernel_rfl) (by kernel_rfl)) ?_
 intro W base args ds gs before hval hW hcnd _
 refine law_calls2 TT_ok laid (fn := Try.f7) (s := Rows.graphConverseSpec) (tb := 4) 9 rfl rfl Try.underlying4 (by kernel_rfl) (fun ds h => ?_) (fun avs ha => ?_) hval hW
 ·match ds, h with
  | [d0], _ => rfl
 ·have ha0 := ha
  obtain ⟨v0, r0, rfl, hv0, ha⟩ := Args.cons ha
  obtain rfl := Args.nil ha
  obtain ⟨g, rfl⟩ := ty_graph hv0
  exact converse0 g
theorem graphConverse_over : Rows.graphConverseRow.holds Try.pinned (OpenSpec.ofChange Rows.graphConverseSpec) :=
 OpenClaim.holds_of_wide 7 Try.f7 rfl rfl rfl rfl rfl rfl rfl ⟨rfl, rfl, rfl, rfl, rfl⟩ rfl rfl rfl rfl rfl (by kernel_rfl) Try.func7 (by kernel_rfl)
  (of_decide_eq_true (by kernel_rfl)) (by unfold Func.isWrapper; first | (rw [if_pos (by decide +kernel)]; kernel_rfl) | (rw [if_neg (by decide +kernel)]; exact ⟨rfl, rfl⟩))
  (fun os started H enc _ => graphConverse_lifted os started H enc)
theorem graphConverse_holds : Rows.GraphConverseSaid := graphConverse_over
end Go.Proofs.Yteifhcohmipdcaa
