/-
  GraphReaches answers true, whatever the input: part 3 of the proof. Conditions: none.
-/
import Derived.Test.YteifhcohmipdcaaKGraphReaches2
import Derived.Sort.Grow
import Derived.Shelf.Small.Bits
import Derived.Shelf.Strconv.Itoa0
import Derived.Shelf.Sort.Plain
import Derived.Shelf.Bits.Mul64
import Derived.Ground.Names2Prog
import Derived.Shelf.Slices.CompactI
import Derived.Test.YteifhcohmipdcaaProg
import Derived.Lib.RowBridge
/-
  THE GRAPH FUNCTIONS, plain law 2: marks, computed. Conditions: none.
-/
namespace Go.Proofs.Yteifhcohmipdcaa
open Go.Abs
set_option linter.unusedSimpArgs false
set_option linter.unusedVariables false

def growL (es : List (Int × Int)) (bs : List Bool) : List Bool := es.foldl (fun bs e => if bs.getD e.1.toNat false then bs.set e.2.toNat true else bs) bs
def growN (es : List (Int × Int)) : Nat → List Bool → List Bool
  | 0, bs => bs
  | n + 1, bs => growN es n (growL es bs)
/-- What is reached from some nodes, as marks. -/
def Gr.marks (g : Gr) (l : List Int) : List Bool := growN g.edges g.nodes.length (l.foldl (fun bs x => bs.set x.toNat true) (List.replicate g.nodes.length false))

theorem growL_len (es : List (Int × Int)) (bs : List Bool) : (growL es bs).length = bs.length := by
  unfold growL
  induction es generalizing bs with
  | nil => rfl
  | cons e es ih => simp only [List.foldl_cons]; rw [ih]; split <;> simp
theorem growL_mono {es : List (Int × Int)} {bs : List Bool} {j : Nat} (h : bs[j]? = some true) : (growL es bs)[j]? = some true := by
  unfold growL
  induction es generalizing bs with
  | nil => exact h
  | cons e es ih => simp only [List.foldl_cons]; exact ih (by split; exact set_true_mono h; exact h)
theorem getD_true {bs : List Bool} {k : Nat} : bs.getD k false = true ↔ bs[k]? = some true := by
  rw [List.getD_eq_getElem?_getD]; cases bs[k]? with
  | none => simp
  | some b => simp
theorem count_set_le (bs : List Bool) (k : Nat) : (bs.set k true).count false ≤ bs.count false := by
  induction bs generalizing k with
  | nil => simp
  | cons b bs ih =>
    cases k with
    | zero => simp [List.count_cons]
    | succ k => simp only [List.set_cons_succ, List.count_cons]; have := ih k; omega
theorem growL_count (es : List (Int × Int)) (bs : List Bool) : (growL es bs).count false ≤ bs.count false := by
  unfold growL
  induction es generalizing bs with
  | nil => exact Nat.le_refl _
  | cons e es ih => simp only [List.foldl_cons]; refine Nat.le_trans (ih _) ?_; split; exact count_set_le _ _; exact Nat.le_refl _
theorem growL_step (es : List (Int × Int)) (bs : List Bool) (hr : ∀ e ∈ es, e.2.toNat < bs.length) : (growL es bs = bs ∧ MClosed es bs) ∨ (growL es bs).count false < bs.count false := by
  unfold growL
  induction es generalizing bs with
  | nil => exact .inl ⟨rfl, fun _ h => by cases h⟩
  | cons e es ih =>
    simp only [List.foldl_cons]
    have hc := growL_count es (if bs.getD e.1.toNat false then bs.set e.2.toNat true else bs)
    unfold growL at hc
    have he := hr e (by simp)
    cases h1 : bs.getD e.1.toNat false with
    | false =>
      simp only [h1, Bool.false_eq_true, if_false] at hc ⊢
      rcases ih bs (fun e he => hr e (by simp [he])) with ⟨h2, h3⟩ | h2
      · refine .inl ⟨h2, fun x hx => ?_⟩
        rcases List.mem_cons.1 hx with rfl | hx
        · intro h; rw [getD_true.2 h] at h1; cases h1
        · exact h3 x hx
      · exact .inr h2
    | true =>
      simp only [h1, if_true] at hc ⊢
      cases h4 : bs[e.2.toNat] with
      | false =>
        have := count_set (bs := bs) (k := e.2.toNat) (by rw [List.getElem?_eq_getElem he, h4])
        exact .inr (by omega)
      | true =>
        have hsame : bs.set e.2.toNat true = bs := by
          refine List.ext_getElem (by simp) fun i q1 q2 => ?_
          rw [List.getElem_set]; split
          · rename_i e'; subst e'; exact h4.symm
          · rfl
        rw [hsame]
        rcases ih bs (fun e he => hr e (by simp [he])) with ⟨h2, h3⟩ | h2
        · refine .inl ⟨h2, fun x hx => ?_⟩
          rcases List.mem_cons.1 hx with rfl | hx
          · intro _; rw [List.getElem?_eq_getElem he, h4]
          · exact h3 x hx
        · exact .inr h2
theorem growN_fix {es : List (Int × Int)} {bs : List Bool} (h : growL es bs = bs) : ∀ n, growN es n bs = bs
  | 0 => rfl
  | n + 1 => by rw [growN, h]; exact growN_fix h n
theorem growN_closed {es : List (Int × Int)} : ∀ (n : Nat) (bs : List Bool), (∀ e ∈ es, e.2.toNat < bs.length) → bs.count false ≤ n → MClosed es (growN es n bs)
  | 0, bs, hr, hc => fun e he _ => by
    have h := hr e he
    rw [growN, List.getElem?_eq_getElem h]
    cases hb : bs[e.2.toNat] with
    | true => rfl
    | false =>
      have : 0 < bs.count false := List.count_pos_iff.2 (hb ▸ List.getElem_mem h)
      omega
  | n + 1, bs, hr, hc => by
    rw [growN]
    rcases growL_step es bs hr with ⟨h1, h2⟩ | h1
    · rw [h1, growN_fix h1]; exact h2
    · exact growN_closed n _ (by rw [growL_len]; exact hr) (by omega)
theorem growL_sound {g : Gr} (hv : g.valid = true) {l : List Int} : ∀ (es : List (Int × Int)) (bs : List Bool), (∀ e ∈ es, e ∈ g.edges) → MSound g l bs → MSound g l (growL es bs)
  | [], _, _, h => h
  | e :: es, bs, he, h => by
    unfold growL
    simp only [List.foldl_cons]
    refine growL_sound hv es _ (fun x hx => he x (by simp [hx])) ?_
    split
    · rename_i h1
      have h2 := he e (by simp)
      obtain ⟨⟨q1, _⟩, q2⟩ := valid_edge hv h2
      exact h.set (.step (h.sound _ (getD_true.1 h1)) (by rw [Int.toNat_of_nonneg q1]; exact h2)) q2
    · exact h
theorem growN_keeps {g : Gr} (hv : g.valid = true) {l : List Int} : ∀ (n : Nat) (bs : List Bool), MSound g l bs → MBase l bs → MSound g l (growN g.edges n bs) ∧ MBase l (growN g.edges n bs)
  | 0, _, h, hb => ⟨h, hb⟩
  | n + 1, bs, h, hb => growN_keeps hv n _ (growL_sound hv _ _ (fun _ h => h) h) fun x hx => growL_mono (hb x hx)
theorem marks_is {g : Gr} (hv : g.valid = true) {l : List Int} (hl : ∀ x ∈ l, inR g.nodes.length x) : IsMarks g l (g.marks l) := by
  have h0 : ∀ (l' : List Int) (bs : List Bool) (l0 : List Int), (∀ x ∈ l', x ∈ l) → MSound g l bs → MBase l0 bs → MSound g l (l'.foldl (fun bs x => bs.set x.toNat true) bs) ∧ MBase (l0 ++ l') (l'.foldl (fun bs x => bs.set x.toNat true) bs) := by
    intro l'
    induction l' with
    | nil => intro bs l0 _ h1 h2; exact ⟨h1, by simpa using h2⟩
    | cons x l' ih =>
      intro bs l0 hx h1 h2
      have hx' := hl x (hx x (by simp))
      have := ih (bs.set x.toNat true) (l0 ++ [x]) (fun y hy => hx y (by simp [hy])) (h1.set (.base (hx x (by simp))) hx') (h2.snoc (by rw [h1.len]; exact in_toNat hx'))
      simpa using this
  obtain ⟨h1, h2⟩ := h0 l (List.replicate g.nodes.length false) [] (fun _ h => h) ⟨by simp, fun v hv => by simp [List.getElem?_replicate] at hv⟩ (fun x hx => by cases hx)
  obtain ⟨h3, h4⟩ := growN_keeps hv g.nodes.length _ h1 (by simpa using h2)
  refine isMarks_of hv hl h3 h4 (growN_closed _ _ (fun e he => ?_) ?_)
  · rw [h1.len]; exact in_toNat (valid_edge hv he).2
  · exact Nat.le_trans List.count_le_length (Nat.le_of_eq h1.len)
theorem marks_ok (g : Gr) (hv : g.valid = true) (l : List Int) (hl : ∀ x ∈ l, inR g.nodes.length x) (hll : l.length ≤ 1000000) :
    Fun1 Try.prog 45 [encG g, .ro (l.map (.int .i64))] (.ro ((g.marks l).map .bool)) :=
  fun1_row ((marks0 g hv l hl hll).mono fun r H ⟨bs, h1, h2⟩ => by rw [← h1.uniq (marks_is hv hl)]; exact h2) (pu_cons (pu_graph _) (pu_cons (pu_ints _) pu_nil)) (fun _ => pu_of_bools) (fun _ => one_bools)
theorem marks_w (g : Gr) (hv : g.valid = true) (l : List Int) (hl : ∀ x ∈ l, inR g.nodes.length x) (hll : l.length ≤ 1000000) :
    FunW Try.prog 45 [encG g, .ro (l.map (.int .i64))] (.ro ((g.marks l).map .bool)) :=
  funW_row ((marks0 g hv l hl hll).mono fun r H ⟨bs, h1, h2⟩ => by rw [← h1.uniq (marks_is hv hl)]; exact h2) (pu_cons (pu_graph _) (pu_cons (pu_ints _) pu_nil)) (fun _ => pu_of_bools) (fun _ => scal_bools) (fun _ => one_bools)
end Go.Proofs.Yteifhcohmipdcaa

/-
  THE GRAPH FUNCTIONS, 4: the reference's distances. Conditions: a valid graph, a node in range. (Printed by w4.py.)
-/
namespace Go.Proofs.Yteifhcohmipdcaa
open Go.Abs
set_option linter.unusedSimpArgs false
set_option linter.unusedVariables false
/-- One edge's turn at one distance. -/
def dstep (k : Int) (d : List Int) (e : Int × Int) : List Int := if d.getD e.2.toNat 0 = k ∧ d.getD e.1.toNat 0 < 0 then d.set e.1.toNat (k + 1) else d
def drounds (g : Gr) (n : Nat) (d : List Int) : List Int := (List.range n).foldl (fun d k => g.edges.foldl (dstep (k : Nat)) d) d
/-- The distances to a node, as the reference computes them. -/
def Gr.dist (g : Gr) (to : Int) : List Int := drounds g g.nodes.length ((List.replicate g.nodes.length (-1)).set to.toNat 0)
theorem dstep_len (k : Int) (d : List Int) (e : Int × Int) : (dstep k d e).length = d.length := by unfold dstep; split <;> simp
theorem dfold_len (k : Int) (es : List (Int × Int)) (d : List Int) : (es.foldl (dstep k) d).length = d.length := by
  induction es generalizing d with
  | nil => rfl
  | cons e es ih => simp only [List.foldl_cons]; rw [ih, dstep_len]
theorem drounds_succ (g : Gr) (n : Nat) (d : List Int) : drounds g (n + 1) d = g.edges.foldl (dstep (n : Nat)) (drounds g n d) := by simp [drounds, List.range_succ]
theorem drounds_len (g : Gr) (n : Nat) (d : List Int) : (drounds g n d).length = d.length := by
  induction n with
  | zero => rfl
  | succ n ih => rw [drounds_succ, dfold_len, ih]
theorem foldl_take_succ {α β : Type} {f : β → α → β} {l : List α} {i : Nat} (h : i < l.length) (b : β) : (l.take (i + 1)).foldl f b = f ((l.take i).foldl f b) l[i] := by
  rw [List.take_succ_eq_append_getElem h, List.foldl_append]; rfl

set_option maxHeartbeats 1000000 in
theorem dist0 (g : Gr) (hv : g.valid = true) (to : Int) (ht : inR g.nodes.length to) : ACalls Try.prog 48 [encG g, (AV.int IntKind.i64) to] AHeap.nil (RowOut 3 1 ((g.dist to).map (AV.int IntKind.i64))) := by
  refine acalls_body TT_ok Try.func48 rfl rfl (by simp [Try.ntmps48]) ?_
  rw [Try.ntmps48]
  obtain ⟨σ, hσ⟩ : ∃ σ, σ = st0 [encG g, (AV.int IntKind.i64) to] := ⟨_, rfl⟩
  rw [← hσ]
  have h0_0 := congrFun hσ 0
  simp [st0] at h0_0
  have h1_0 := congrFun hσ 1
  simp [st0] at h1_0
  clear hσ
  obtain ⟨H, hH⟩ : ∃ H, H = AHeap.nil := ⟨_, rfl⟩
  rw [← hH]
  have hn_0 : H.n = 0 := by rw [hH]; rfl
  have hst_0 : H.st = 1 := by rw [hH]; rfl
  clear hH
  refine stp_reg TT_ok (by rfl) fun K hK => ?_
  simp [h0_0, hn_0, hst_0, encG]
  try refine And.intro (by first | omega | rfl) ?_
  refine hK _ _ fun σ1 hσ H1 hH => ?_
  clear hK K
  have h1_1 := congrFun hσ 1
  have h2_1 := congrFun hσ 2
  simp [h1_0] at h1_1 h2_1
  clear hσ
  have g0_1 := gt_of hH 0
  simp [hn_0, hst_0] at g0_1
  have hn_1 := congrArg AHeap.n hH
  simp [hn_0, hst_0] at hn_1
  have hst_1 := congrArg AHeap.st hH
  simp [hn_0, hst_0] at hst_1
  clear hH
  refine stp_reg TT_ok (by rfl) fun K hK => ?_
  simp [g0_1, hn_1, hst_1, encG]
  try refine And.intro (by first | omega | rfl) ?_
  refine hK _ _ fun σ2 hσ H2 hH => ?_
  clear hK K
  have h1_2 := congrFun hσ 1
  have h2_2 := congrFun hσ 2
  have h5_2 := congrFun hσ 5
  simp [h1_1, h2_1] at h1_2 h2_2 h5_2
  clear hσ
  have g0_2 := gt_of hH 0
  have g1_2 := gt_of hH 1
  simp [g0_1, hn_1, hst_1] at g0_2 g1_2
  have hn_2 := congrArg AHeap.n hH
  simp [hn_1, hst_1] at hn_2
  have hst_2 := congrArg AHeap.st hH
  simp [hn_1, hst_1] at hst_2
  clear hH
  refine awp_seq ?_
  refine stp_reg TT_ok (by rfl) fun K hK => ?_
  simp [g0_2, g1_2, encG]
  try refine And.intro (by first | omega | rfl) ?_
  refine hK _ _ fun σ3 hσ H3 hH => ?_
  clear hK K
  have h1_3 := congrFun hσ 1
  have h2_3 := congrFun hσ 2
  have h5_3 := congrFun hσ 5
  have h6_3 := congrFun hσ 6
  simp [h1_2, h2_2, h5_2] at h1_3 h2_3 h5_3 h6_3
  clear hσ
  replace hH : H2 = H3 := Eq.symm hH
  subst hH
  refine awp_block ?_
  obtain ⟨hn1, hn2⟩ := valid_nodes hv
  obtain ⟨ht1, ht2⟩ := ht
  refine awp_loopV (fun n σ' H' => ∃ (i : Nat) (gn : Nat), n = g.nodes.length - i ∧ σ' 1 = σ3 1 ∧ σ' 2 = σ3 2 ∧ σ' 5 = .sl 1 gn 0 i ∧ σ' 6 = (AV.int IntKind.i64) i ∧ H'.get 0 = H2.get 0 ∧ H'.get 1 = some (.row 3 1 gn ((List.replicate i (-1)).map (AV.int IntKind.i64))) ∧ H'.st = H2.st ∧ (i ≤ g.nodes.length)) ?_ ?_
  · refine ⟨_, 0, 0, rfl, rfl, rfl, (by simp [h5_3]), (by simp [h6_3]), rfl, (by simp [g1_2]), rfl, ?_⟩
    · first | omega | (simp; done) | assumption
  · rintro n1 σ4 H4 ⟨i, gn, hn1, q1_4, q2_4, h5_4, h6_4, qg0_4, g1_4, qst_4, p1⟩
    have h1_4 := q1_4.trans h1_3
    have h2_4 := q2_4.trans h2_3
    have g0_4 := qg0_4.trans g0_2
    have hst_4 := qst_4.trans hst_2
    refine awp_seq ?_
    refine stp_reg TT_ok (by rfl) fun K hK => ?_
    simp [h2_4, h6_4, g0_4, g1_4, encG]
    try refine And.intro (by first | omega | rfl) ?_
    refine hK _ _ fun σ5 hσ H5 hH => ?_
    clear hK K
    have h1_5 := congrFun hσ 1
    have h2_5 := congrFun hσ 2
    have h5_5 := congrFun hσ 5
    have h6_5 := congrFun hσ 6
    have h15_5 := congrFun hσ 15
    simp [h1_4, h2_4, h5_4, h6_4] at h1_5 h2_5 h5_5 h6_5 h15_5
    clear hσ
    replace hH : H4 = H5 := Eq.symm hH
    subst hH
    refine awp_cond _ (by simp only [aeval_tmp]; exact h15_5) (fun hc15 => ?_) (fun hc15 => ?_)
    · try simp at hc15
      have hlt : i < g.nodes.length := by simpa using hc15
      refine awp_skip ?_
      refine q_seq ?_
      refine awp_seq ?_
      refine awp_block ?_
      refine awp_ok fun hok => ?_
      obtain ⟨m6, hn_m6⟩ : ∃ m, H4.n = m := ⟨_, rfl⟩
      have hf_m6_0 := hok.free 0
      simp [hn_m6, hst_4] at hf_m6_0
      have nx1 := ne_get hf_m6_0 g0_4
      have nx2 := ne_get hf_m6_0 g1_4
      refine stp_regl TT_ok (by rfl) fun K hK => ?_
      simp [h5_5, g0_4, g1_4, hn_m6, hst_4, nx1, nx2, encG, show (i + 1) * 8 ≤ 140737488355328 by omega, show i ≤ 9223372036854775806 by omega]
      try refine And.intro (by first | omega | rfl) ?_
      refine hK _ _ fun σ7 hσ H7 hH => ?_
      clear hK K
      have h1_7 := congrFun hσ 1
      have h2_7 := congrFun hσ 2
      have h5_7 := congrFun hσ 5
      have h6_7 := congrFun hσ 6
      simp [h1_5, h2_5, h6_5] at h1_7 h2_7 h5_7 h6_7
      clear hσ
      have g0_7 := gt_of hH 0
      have g1_7 := gt_of hH 1
      have gm6_7 := gt_of hH m6
      simp [g0_4, g1_4, hn_m6, hst_4, nx1, nx2] at g0_7 g1_7 gm6_7
      have hst_7 := congrArg AHeap.st hH
      simp [hst_4] at hst_7
      clear hH
      refine q_block ?_
      refine q_seq ?_
      refine stp_regl TT_ok (by rfl) fun K hK => ?_
      simp [h6_7, g0_7, g1_7, gm6_7, nx1, nx2, encG, wrap_ok (n := (i : Int) + 1) (by omega) (by omega)]
      try refine And.intro (by first | omega | rfl) ?_
      refine hK _ _ fun σ8 hσ H8 hH => ?_
      clear hK K
      have h1_8 := congrFun hσ 1
      have h2_8 := congrFun hσ 2
      have h5_8 := congrFun hσ 5
      have h6_8 := congrFun hσ 6
      simp [h1_7, h2_7, h5_7] at h1_8 h2_8 h5_8 h6_8
      clear hσ
      replace hH : H7 = H8 := Eq.symm hH
      subst hH
      refine ⟨_, ?_, i + 1, gn + 1, rfl, (h1_8.trans h1_3.symm), (h2_8.trans h2_3.symm), (by simp [h5_8, List.replicate_succ']), (by simp [h6_8, List.replicate_succ']), (g0_7.trans g0_2.symm), (by simp [g1_7, List.replicate_succ']), (hst_7.trans hst_2.symm), ?_⟩
      · subst hn1; omega
      · first | omega | assumption | (simp; done)
    · try simp at hc15
      refine awp_exit ?_
      refine q_seq_exit ?_
      refine q_loop_exit ?_
      refine q_block_hit ?_
      refine q_seq ?_
      have hi : i = g.nodes.length := by have := hc15; omega
      subst hi
      have ht3 : to.toNat < g.nodes.length := by omega
      refine stp_reg TT_ok (by rfl) fun K hK => ?_
      simp [h1_5, h5_5, g0_4, g1_4, encG, ht1, ht2, ht3]
      try refine And.intro (by first | omega | rfl) ?_
      refine hK _ _ fun σ9 hσ H9 hH => ?_
      clear hK K
      have h2_9 := congrFun hσ 2
      have h5_9 := congrFun hσ 5
      simp [h2_5, h5_5] at h2_9 h5_9
      clear hσ
      have g0_9 := gt_of hH 0
      have g1_9 := gt_of hH 1
      simp [g0_4, g1_4, hst_4] at g0_9 g1_9
      have hst_9 := congrArg AHeap.st hH
      simp [hst_4] at hst_9
      clear hH
      refine awp_seq ?_
      refine stp_reg TT_ok (by rfl) fun K hK => ?_
      simp [g0_9, g1_9, encG]
      try refine And.intro (by first | omega | rfl) ?_
      refine hK _ _ fun σ10 hσ H10 hH => ?_
      clear hK K
      have h2_10 := congrFun hσ 2
      have h5_10 := congrFun hσ 5
      have h7_10 := congrFun hσ 7
      simp [h2_9, h5_9] at h2_10 h5_10 h7_10
      clear hσ
      replace hH : H9 = H10 := Eq.symm hH
      subst hH
      refine awp_block ?_
      refine awp_loopV (fun n σ' H' => ∃ (k : Nat) (d : List Int), n = g.nodes.length - k ∧ σ' 2 = σ10 2 ∧ σ' 5 = σ10 5 ∧ σ' 7 = (AV.int IntKind.i64) k ∧ H'.get 0 = H9.get 0 ∧ H'.get 1 = some (.row 3 1 gn (d.map (AV.int IntKind.i64))) ∧ H'.st = H9.st ∧ (k ≤ g.nodes.length) ∧ (d = drounds g k ((List.replicate g.nodes.length (-1)).set to.toNat 0))) ?_ ?_
      · refine ⟨_, 0, ((List.replicate g.nodes.length (-1)).set to.toNat 0), rfl, rfl, rfl, (by simp [h7_10]), rfl, (by simp [g1_9]), rfl, ?_, ?_⟩
        · first | omega | (simp; done) | assumption
        · rfl
      · rintro n2 σ11 H11 ⟨k, d, hn2, q2_11, q5_11, h7_11, qg0_11, g1_11, qst_11, r1, r2⟩
        have h2_11 := q2_11.trans h2_10
        have h5_11 := q5_11.trans h5_10
        have g0_11 := qg0_11.trans g0_9
        have hst_11 := qst_11.trans hst_9
        have hdl : d.length = g.nodes.length := by rw [r2, drounds_len]; simp
        refine awp_seq ?_
        refine stp_reg TT_ok (by rfl) fun K hK => ?_
        simp [h2_11, h7_11, g0_11, g1_11, encG]
        try refine And.intro (by first | omega | rfl) ?_
        refine hK _ _ fun σ12 hσ H12 hH => ?_
        clear hK K
        have h2_12 := congrFun hσ 2
        have h5_12 := congrFun hσ 5
        have h7_12 := congrFun hσ 7
        have h28_12 := congrFun hσ 28
        simp [h2_11, h5_11, h7_11] at h2_12 h5_12 h7_12 h28_12
        clear hσ
        replace hH : H11 = H12 := Eq.symm hH
        subst hH
        refine awp_cond _ (by simp only [aeval_tmp]; exact h28_12) (fun hc28 => ?_) (fun hc28 => ?_)
        · try simp at hc28
          refine awp_skip ?_
          refine q_seq ?_
          refine awp_seq ?_
          refine awp_block ?_
          refine stp_reg TT_ok (by rfl) fun K hK => ?_
          simp [g0_11, g1_11, encG]
          try refine And.intro (by first | omega | rfl) ?_
          refine hK _ _ fun σ13 hσ H13 hH => ?_
          clear hK K
          have h2_13 := congrFun hσ 2
          have h5_13 := congrFun hσ 5
          have h7_13 := congrFun hσ 7
          have h8_13 := congrFun hσ 8
          simp [h2_12, h5_12, h7_12] at h2_13 h5_13 h7_13 h8_13
          clear hσ
          replace hH : H11 = H13 := Eq.symm hH
          subst hH
          refine awp_block ?_
          refine awp_loopV (fun n σ' H' => ∃ (i : Nat) (d2 : List Int), n = g.edges.length - i ∧ σ' 2 = σ13 2 ∧ σ' 5 = σ13 5 ∧ σ' 7 = σ13 7 ∧ σ' 8 = (AV.int IntKind.i64) i ∧ H'.get 0 = H11.get 0 ∧ H'.get 1 = some (.row 3 1 gn (d2.map (AV.int IntKind.i64))) ∧ H'.st = H11.st ∧ (i ≤ g.edges.length) ∧ (d2 = (g.edges.take i).foldl (dstep k) d)) ?_ ?_
          · refine ⟨_, 0, d, rfl, rfl, rfl, rfl, (by simp [h8_13]), rfl, (by simp [g1_11]), rfl, ?_, ?_⟩
            · first | omega | (simp; done) | assumption
            · rfl
          · rintro n3 σ14 H14 ⟨i, d2, hn3, q2_14, q5_14, q7_14, h8_14, qg0_14, g1_14, qst_14, q1, q2⟩
            have h2_14 := q2_14.trans h2_13
            have h5_14 := q5_14.trans h5_13
            have h7_14 := q7_14.trans h7_13
            have g0_14 := qg0_14.trans g0_11
            have hst_14 := qst_14.trans hst_11
            have hd2 : d2.length = g.nodes.length := by rw [q2, dfold_len, hdl]
            refine awp_seq ?_
            refine stp_reg TT_ok (by rfl) fun K hK => ?_
            simp [h2_14, h8_14, g0_14, g1_14, encG]
            try refine And.intro (by first | omega | rfl) ?_
            refine hK _ _ fun σ15 hσ H15 hH => ?_
            clear hK K
            have h2_15 := congrFun hσ 2
            have h5_15 := congrFun hσ 5
            have h7_15 := congrFun hσ 7
            have h8_15 := congrFun hσ 8
            have h35_15 := congrFun hσ 35
            simp [h2_14, h5_14, h7_14, h8_14] at h2_15 h5_15 h7_15 h8_15 h35_15
            clear hσ
            replace hH : H14 = H15 := Eq.symm hH
            subst hH
            refine awp_cond _ (by simp only [aeval_tmp]; exact h35_15) (fun hc35 => ?_) (fun hc35 => ?_)
            · try simp at hc35
              have hlt : i < g.edges.length := by simpa using hc35
              have hge : (g.edges.map encE)[i]? = some (encE g.edges[i]) := by simp [hlt]
              obtain ⟨⟨e1, e2⟩, e3, e4⟩ := valid_edge hv (List.getElem_mem hlt)
              have e5 : g.edges[i].1.toNat < d2.length := by omega
              have e6 : g.edges[i].2.toNat < d2.length := by omega
              have e7 : d2.getD g.edges[i].1.toNat 0 = d2[g.edges[i].1.toNat] := by simp [e5]
              have e8 : d2.getD g.edges[i].2.toNat 0 = d2[g.edges[i].2.toNat] := by simp [e6]
              refine awp_skip ?_
              refine q_seq ?_
              refine awp_seq ?_
              refine awp_block ?_
              refine awp_ok fun hok => ?_
              obtain ⟨m16, hn_m16⟩ : ∃ m, H14.n = m := ⟨_, rfl⟩
              have hf_m16_0 := hok.free 0
              simp [hn_m16, hst_14] at hf_m16_0
              have nx3 := ne_get hf_m16_0 g0_14
              have nx4 := ne_get hf_m16_0 g1_14
              refine stp_reg TT_ok (by rfl) fun K hK => ?_
              simp [h2_15, h8_15, g0_14, g1_14, hn_m16, hst_14, nx3, nx4, encG, hge, hlt, encE]
              try refine And.intro (by first | omega | rfl) ?_
              refine hK _ _ fun σ17 hσ H17 hH => ?_
              clear hK K
              have h2_17 := congrFun hσ 2
              have h5_17 := congrFun hσ 5
              have h7_17 := congrFun hσ 7
              have h8_17 := congrFun hσ 8
              have h9_17 := congrFun hσ 9
              simp [h2_15, h5_15, h7_15, h8_15] at h2_17 h5_17 h7_17 h8_17 h9_17
              clear hσ
              have g0_17 := gt_of hH 0
              have g1_17 := gt_of hH 1
              have gm16_17 := gt_of hH m16
              simp [g0_14, g1_14, hn_m16, hst_14, nx3, nx4] at g0_17 g1_17 gm16_17
              have hst_17 := congrArg AHeap.st hH
              simp [hst_14] at hst_17
              clear hH
              by_cases ha : d2[g.edges[i].2.toNat] = (k : Int)
              · skip
                by_cases hb : d2[g.edges[i].1.toNat] < 0
                · skip
                  refine stp_reg TT_ok (by rfl) fun K hK => ?_
                  simp [h5_17, h7_17, h9_17, g0_17, g1_17, gm16_17, nx3, nx4, ha, beq_iff_eq.2 ha, hb, encG, e1, e2, e3, e4, e5, e6, hd2]
                  try refine And.intro (by first | omega | rfl) ?_
                  refine hK _ _ fun σ18 hσ H18 hH => ?_
                  clear hK K
                  have h2_18 := congrFun hσ 2
                  have h5_18 := congrFun hσ 5
                  have h7_18 := congrFun hσ 7
                  have h8_18 := congrFun hσ 8
                  have h9_18 := congrFun hσ 9
                  have h57_18 := congrFun hσ 57
                  simp [h2_17, h5_17, h7_17, h8_17, h9_17] at h2_18 h5_18 h7_18 h8_18 h9_18 h57_18
                  clear hσ
                  replace hH : H17 = H18 := Eq.symm hH
                  subst hH
                  refine stp_true (by simp [aeval_tmp, h57_18, nx3, nx4, ha, beq_iff_eq.2 ha, hb, encG]) ?_
                  refine stp_regl TT_ok (by rfl) fun K hK => ?_
                  simp [h5_18, h7_18, h9_18, g0_17, g1_17, gm16_17, nx3, nx4, ha, beq_iff_eq.2 ha, hb, encG, e1, e2, e3, e4, e5, e6, hd2, wrap_ok (n := (k : Int) + 1) (by omega) (by omega)]
                  try refine And.intro (by first | omega | rfl) ?_
                  refine hK _ _ fun σ19 hσ H19 hH => ?_
                  clear hK K
                  have h2_19 := congrFun hσ 2
                  have h5_19 := congrFun hσ 5
                  have h7_19 := congrFun hσ 7
                  have h8_19 := congrFun hσ 8
                  simp [h2_18, h5_18, h7_18, h8_18] at h2_19 h5_19 h7_19 h8_19
                  clear hσ
                  have g0_19 := gt_of hH 0
                  have g1_19 := gt_of hH 1
                  have gm16_19 := gt_of hH m16
                  simp [g0_17, g1_17, gm16_17, hst_17, nx3, nx4, ha, beq_iff_eq.2 ha, hb] at g0_19 g1_19 gm16_19
                  have hst_19 := congrArg AHeap.st hH
                  simp [hst_17] at hst_19
                  clear hH
                  refine q_block ?_
                  refine q_seq ?_
                  refine stp_regl TT_ok (by rfl) fun K hK => ?_
                  simp [h8_19, g0_19, g1_19, gm16_19, nx3, nx4, ha, beq_iff_eq.2 ha, hb, encG, wrap_ok (n := (i : Int) + 1) (by omega) (by omega)]
                  try refine And.intro (by first | omega | rfl) ?_
                  refine hK _ _ fun σ20 hσ H20 hH => ?_
                  clear hK K
                  have h2_20 := congrFun hσ 2
                  have h5_20 := congrFun hσ 5
                  have h7_20 := congrFun hσ 7
                  have h8_20 := congrFun hσ 8
                  simp [h2_19, h5_19, h7_19] at h2_20 h5_20 h7_20 h8_20
                  clear hσ
                  replace hH : H19 = H20 := Eq.symm hH
                  subst hH
                  refine ⟨_, ?_, i + 1, d2.set g.edges[i].1.toNat (k + 1), rfl, (h2_20.trans h2_13.symm), (h5_20.trans h5_13.symm), (h7_20.trans h7_13.symm), (by simp [h8_20]), (g0_19.trans g0_11.symm), (by simp [g1_19]), (hst_19.trans hst_11.symm), ?_, ?_⟩
                  · subst hn3; omega
                  · first | omega | assumption | (simp; done)
                  · rw [foldl_take_succ hlt, ← q2]; unfold dstep; rw [if_pos (by rw [e7, e8]; exact ⟨ha, hb⟩)]
                · skip
                  refine stp_reg TT_ok (by rfl) fun K hK => ?_
                  simp [h5_17, h7_17, h9_17, g0_17, g1_17, gm16_17, nx3, nx4, ha, beq_iff_eq.2 ha, hb, encG, e1, e2, e3, e4, e5, e6, hd2]
                  try refine And.intro (by first | omega | rfl) ?_
                  refine hK _ _ fun σ21 hσ H21 hH => ?_
                  clear hK K
                  have h2_21 := congrFun hσ 2
                  have h5_21 := congrFun hσ 5
                  have h7_21 := congrFun hσ 7
                  have h8_21 := congrFun hσ 8
                  have h9_21 := congrFun hσ 9
                  have h57_21 := congrFun hσ 57
                  simp [h2_17, h5_17, h7_17, h8_17, h9_17] at h2_21 h5_21 h7_21 h8_21 h9_21 h57_21
                  clear hσ
                  replace hH : H17 = H21 := Eq.symm hH
                  subst hH
                  refine stp_false (by simp [aeval_tmp, h57_21, nx3, nx4, ha, beq_iff_eq.2 ha, hb, encG]) ?_
                  refine awp_skip ?_
                  refine q_block ?_
                  refine q_seq ?_
                  refine stp_regl TT_ok (by rfl) fun K hK => ?_
                  simp [h8_21, g0_17, g1_17, gm16_17, nx3, nx4, ha, beq_iff_eq.2 ha, hb, encG, wrap_ok (n := (i : Int) + 1) (by omega) (by omega)]
                  try refine And.intro (by first | omega | rfl) ?_
                  refine hK _ _ fun σ22 hσ H22 hH => ?_
                  clear hK K
                  have h2_22 := congrFun hσ 2
                  have h5_22 := congrFun hσ 5
                  have h7_22 := congrFun hσ 7
                  have h8_22 := congrFun hσ 8
                  simp [h2_21, h5_21, h7_21] at h2_22 h5_22 h7_22 h8_22
                  clear hσ
                  replace hH : H17 = H22 := Eq.symm hH
                  subst hH
                  refine ⟨_, ?_, i + 1, d2, rfl, (h2_22.trans h2_13.symm), (h5_22.trans h5_13.symm), (h7_22.trans h7_13.symm), (by simp [h8_22]), (g0_17.trans g0_11.symm), (by simp [g1_17]), (hst_17.trans hst_11.symm), ?_, ?_⟩
                  · subst hn3; omega
                  · first | omega | assumption | (simp; done)
                  · rw [foldl_take_succ hlt, ← q2]; unfold dstep; rw [if_neg (by rw [e7]; exact fun h => hb h.2)]
              · skip
                refine stp_reg TT_ok (by rfl) fun K hK => ?_
                simp [h5_17, h7_17, h9_17, g0_17, g1_17, gm16_17, nx3, nx4, ha, beq_eq_false_iff_ne.2 ha, encG, e1, e2, e3, e4, e5, e6, hd2]
                try refine And.intro (by first | omega | rfl) ?_
                refine hK _ _ fun σ23 hσ H23 hH => ?_
                clear hK K
                have h2_23 := congrFun hσ 2
                have h5_23 := congrFun hσ 5
                have h7_23 := congrFun hσ 7
                have h8_23 := congrFun hσ 8
                have h9_23 := congrFun hσ 9
                have h57_23 := congrFun hσ 57
                simp [h2_17, h5_17, h7_17, h8_17, h9_17] at h2_23 h5_23 h7_23 h8_23 h9_23 h57_23
                clear hσ
                replace hH : H17 = H23 := Eq.symm hH
                subst hH
                refine stp_false (by simp [aeval_tmp, h57_23, nx3, nx4, ha, beq_eq_false_iff_ne.2 ha, encG]) ?_
                refine awp_skip ?_
                refine q_block ?_
                refine q_seq ?_
                refine stp_regl TT_ok (by rfl) fun K hK => ?_
                simp [h8_23, g0_17, g1_17, gm16_17, nx3, nx4, ha, beq_eq_false_iff_ne.2 ha, encG, wrap_ok (n := (i : Int) + 1) (by omega) (by omega)]
                try refine And.intro (by first | omega | rfl) ?_
                refine hK _ _ fun σ24 hσ H24 hH => ?_
                clear hK K
                have h2_24 := congrFun hσ 2
                have h5_24 := congrFun hσ 5
                have h7_24 := congrFun hσ 7
                have h8_24 := congrFun hσ 8
                simp [h2_23, h5_23, h7_23] at h2_24 h5_24 h7_24 h8_24
                clear hσ
                replace hH : H17 = H24 := Eq.symm hH
                subst hH
                refine ⟨_, ?_, i + 1, d2, rfl, (h2_24.trans h2_13.symm), (h5_24.trans h5_13.symm), (h7_24.trans h7_13.symm), (by simp [h8_24]), (g0_17.trans g0_11.symm), (by simp [g1_17]), (hst_17.trans hst_11.symm), ?_, ?_⟩
                · subst hn3; omega
                · first | omega | assumption | (simp; done)
                · rw [foldl_take_succ hlt, ← q2]; unfold dstep; rw [if_neg (by rw [e8]; exact fun h => ha h.1)]
            · try simp at hc35
              refine awp_exit ?_
              refine q_seq_exit ?_
              refine q_loop_exit ?_
              refine q_block_hit ?_
              refine q_block ?_
              refine q_seq ?_
              refine stp_regl TT_ok (by rfl) fun K hK => ?_
              simp [h7_15, g0_14, g1_14, encG, wrap_ok (n := (k : Int) + 1) (by omega) (by omega)]
              try refine And.intro (by first | omega | rfl) ?_
              refine hK _ _ fun σ25 hσ H25 hH => ?_
              clear hK K
              have h2_25 := congrFun hσ 2
              have h5_25 := congrFun hσ 5
              have h7_25 := congrFun hσ 7
              simp [h2_15, h5_15] at h2_25 h5_25 h7_25
              clear hσ
              replace hH : H14 = H25 := Eq.symm hH
              subst hH
              have hi : i = g.edges.length := by have := hc35; omega
              subst hi
              rw [List.take_length] at q2
              have hk : k < g.nodes.length := by simpa using hc28
              refine ⟨_, ?_, k + 1, d2, rfl, (h2_25.trans h2_10.symm), (h5_25.trans h5_10.symm), (by simp [h7_25]), (g0_14.trans g0_9.symm), (by simp [g1_14]), (hst_14.trans hst_9.symm), ?_, ?_⟩
              · subst hn2; omega
              · first | omega | assumption | (simp; done)
              · rw [drounds_succ, ← r2, q2]
        · try simp at hc28
          refine awp_exit ?_
          refine q_seq_exit ?_
          refine q_loop_exit ?_
          refine q_block_hit ?_
          refine q_seq ?_
          refine stp_reg TT_ok (by rfl) fun K hK => ?_
          simp [h5_12, g0_11, g1_11, encG]
          try refine And.intro (by first | omega | rfl) ?_
          refine hK _ _ fun σ26 hσ H26 hH => ?_
          clear hK K
          have h4_26 := congrFun hσ 4
          simp [] at h4_26
          clear hσ
          replace hH : H11 = H26 := Eq.symm hH
          subst hH
          refine awp_ret ?_
          have hk : k = g.nodes.length := by have := hc28; omega
          subst hk
          refine q_fin1 h4_26 ?_
          exact ⟨1, gn, by simp [Gr.dist, drounds_len], by rw [g1_11, r2]; rfl⟩

theorem dist_ok (g : Gr) (hv : g.valid = true) (to : Int) (ht : inR g.nodes.length to) : Fun1 Try.prog 48 [encG g, (AV.int IntKind.i64) to] (.ro ((g.dist to).map (AV.int IntKind.i64))) :=
  fun1_row (dist0 g hv to ht) (pu_cons (pu_graph _) (pu_cons (pu_int _ _) pu_nil)) (fun _ => pu_of_ints) (fun _ => one_ints)
end Go.Proofs.Yteifhcohmipdcaa

/-
  THE GRAPH FUNCTIONS, plain law 3: distances. Conditions: none.
-/
namespace Go.Proofs.Yteifhcohmipdcaa
open Go.Abs
set_option linter.unusedSimpArgs false
set_option linter.unusedVariables false

/-- A way of k edges to a node, over nodes that are allowed. -/
inductive Gr.Walk (g : Gr) (ok : Int → Prop) (to : Int) : Nat → Int → Prop
  | nil : Gr.Walk g ok to 0 to
  | cons {a b : Int} {k : Nat} (he : (a, b) ∈ g.edges) (ha : ok a) (h : Gr.Walk g ok to k b) : Gr.Walk g ok to (k + 1) a
/-- The shortest way has k edges. -/
def Gr.Far (g : Gr) (ok : Int → Prop) (to : Int) (k : Nat) (v : Int) : Prop := g.Walk ok to k v ∧ ∀ j, j < k → ¬ g.Walk ok to j v
theorem Gr.Walk.far {g : Gr} {ok : Int → Prop} {to : Int} {k : Nat} {v : Int} (h : g.Walk ok to k v) : ∃ j, j ≤ k ∧ g.Far ok to j v := by
  induction k using Nat.strongRecOn with
  | _ k ih =>
    by_cases hj : ∃ j, j < k ∧ g.Walk ok to j v
    · obtain ⟨j, h1, h2⟩ := hj
      obtain ⟨i, h3, h4⟩ := ih j h1 h2
      exact ⟨i, by omega, h4⟩
    · exact ⟨k, Nat.le_refl _, h, fun j h1 h2 => hj ⟨j, h1, h2⟩⟩
theorem Gr.Far.uniq {g : Gr} {ok : Int → Prop} {to : Int} {j k : Nat} {v : Int} (h : g.Far ok to j v) (h' : g.Far ok to k v) : j = k := by
  rcases Nat.lt_trichotomy j k with h1 | h1 | h1
  · exact absurd h.1 (h'.2 j h1)
  · exact h1
  · exact absurd h'.1 (h.2 k h1)
theorem Gr.Far.pred {g : Gr} {ok : Int → Prop} {to : Int} {k : Nat} {v : Int} (h : g.Far ok to (k + 1) v) : ∃ w, (v, w) ∈ g.edges ∧ ok v ∧ g.Far ok to k w := by
  obtain ⟨h1, h2⟩ := h
  cases h1 with
  | @cons _ b _ he ha hw =>
    refine ⟨b, he, ha, hw, fun j hj hw' => ?_⟩
    exact h2 (j + 1) (by omega) (.cons he ha hw')
theorem Gr.Far.zero {g : Gr} {ok : Int → Prop} {to v : Int} (h : g.Far ok to 0 v) : v = to := by
  obtain ⟨h1, _⟩ := h; cases h1; rfl
theorem Gr.far_to (g : Gr) (ok : Int → Prop) (to : Int) : g.Far ok to 0 to := ⟨.nil, fun j h => by omega⟩
/-- What d says after the distances under and at n. -/
structure Dn (g : Gr) (ok : Int → Prop) (to : Int) (n : Nat) (d : List Int) : Prop where
  len : d.length = g.nodes.length
  val : ∀ (v : Nat) (x : Int), d[v]? = some x → x = -1 ∨ ∃ k : Nat, x = k ∧ k ≤ n ∧ g.Far ok to k v
  all : ∀ (v k : Nat), v < g.nodes.length → k ≤ n → g.Far ok to k v → d[v]? = some (k : Int)
/-- The distances. -/
structure IsDist (g : Gr) (ok : Int → Prop) (to : Int) (d : List Int) : Prop where
  len : d.length = g.nodes.length
  val : ∀ (v : Nat) (x : Int), d[v]? = some x → x = -1 ∨ ∃ k : Nat, x = k ∧ g.Far ok to k v
  all : ∀ (v k : Nat), v < g.nodes.length → g.Far ok to k v → d[v]? = some (k : Int)
theorem IsDist.uniq {g : Gr} {ok : Int → Prop} {to : Int} {d d' : List Int} (h : IsDist g ok to d) (h' : IsDist g ok to d') : d = d' := by
  refine List.ext_getElem (h.len.trans h'.len.symm) fun i h1 h2 => ?_
  have hi : i < g.nodes.length := h.len ▸ h1
  have e1 := List.getElem?_eq_getElem h1
  have e2 := List.getElem?_eq_getElem h2
  rcases h.val i _ e1 with q | ⟨k, q, hk⟩
  · rcases h'.val i _ e2 with q' | ⟨k, q', hk⟩
    · rw [q, q']
    · have := h.all i k hi hk
      rw [e1] at this
      rw [q'] ; simpa using this
  · have := h'.all i k hi hk
    rw [e2] at this
    rw [q]; simpa using this.symm

/-! ### The reference's distances -/
theorem php : ∀ (n k : Nat) (f : Nat → Nat), (∀ j, j ≤ k → f j < n) → (∀ i j, i ≤ k → j ≤ k → f i = f j → i = j) → k < n
  | 0, k, f, h, _ => absurd (h 0 (Nat.zero_le _)) (by omega)
  | n + 1, 0, f, _, _ => Nat.succ_pos _
  | n + 1, k + 1, f, h, hi => by
    have := php n k (fun j => if f j = n then f (k + 1) else f j) (fun j hj => ?_) (fun i j h1 h2 e => ?_)
    · omega
    · have h1 := h j (by omega)
      have h2 := h (k + 1) (Nat.le_refl _)
      split
      · rename_i e
        have : f (k + 1) ≠ n := fun e' => by have := hi j (k + 1) (by omega) (Nat.le_refl _) (by omega); omega
        omega
      · omega
    · split at e
      · split at e
        · exact hi i j (by omega) (by omega) (by omega)
        · have := hi (k + 1) j (Nat.le_refl _) (by omega) e; omega
      · split at e
        · have := hi i (k + 1) (by omega) (Nat.le_refl _) e; omega
        · exact hi i j (by omega) (by omega) e
theorem Gr.Far.down {g : Gr} {ok : Int → Prop} {to : Int} (hv : g.valid = true) : ∀ {k : Nat} {v : Int}, inR g.nodes.length v → g.Far ok to k v → ∀ j, j ≤ k → ∃ w : Nat, w < g.nodes.length ∧ g.Far ok to j w
  | 0, v, hr, h, j, hj => by
    have : j = 0 := by omega
    subst this
    exact ⟨v.toNat, in_toNat hr, by rw [Int.toNat_of_nonneg hr.1]; exact h⟩
  | k + 1, v, hr, h, j, hj => by
    by_cases e : j = k + 1
    · subst e; exact ⟨v.toNat, in_toNat hr, by rw [Int.toNat_of_nonneg hr.1]; exact h⟩
    · obtain ⟨w, he, _, hw⟩ := h.pred
      exact hw.down hv (valid_edge hv he).2 j (by omega)
theorem Gr.Far.lt {g : Gr} {ok : Int → Prop} {to : Int} (hv : g.valid = true) {k : Nat} {v : Int} (hr : inR g.nodes.length v) (h : g.Far ok to k v) : k < g.nodes.length := by
  have hd := h.down hv hr
  let f : Nat → Nat := fun j => if hj : j ≤ k then (hd j hj).choose else 0
  have hf : ∀ j, j ≤ k → f j < g.nodes.length ∧ g.Far ok to j (f j) := fun j hj => by simp only [f, hj, dif_pos]; exact (hd j hj).choose_spec
  exact php _ k f (fun j hj => (hf j hj).1) fun i j hi hj e => by
    have h1 := (hf i hi).2
    rw [e] at h1
    exact h1.uniq (hf j hj).2
/-- In the middle of a round. -/
structure Dm (g : Gr) (ok : Int → Prop) (to : Int) (n : Nat) (pre : List (Int × Int)) (d : List Int) : Prop where
  len : d.length = g.nodes.length
  val : ∀ (v : Nat) (x : Int), d[v]? = some x → x = -1 ∨ ∃ k : Nat, x = k ∧ k ≤ n + 1 ∧ g.Far ok to k v
  all : ∀ (v k : Nat), v < g.nodes.length → k ≤ n → g.Far ok to k v → d[v]? = some (k : Int)
  pre : ∀ (a b : Nat), a < g.nodes.length → ((a : Int), (b : Int)) ∈ pre → g.Far ok to n b → g.Far ok to (n + 1) a → d[a]? = some ((n + 1 : Nat) : Int)
theorem Dm.step {g : Gr} {to : Int} {n : Nat} {pre : List (Int × Int)} {d : List Int} (hv : g.valid = true) (h : Dm g (fun _ => True) to n pre d) {e : Int × Int} (he : e ∈ g.edges) : Dm g (fun _ => True) to n (pre ++ [e]) (dstep n d e) := by
  obtain ⟨a, b⟩ := e
  obtain ⟨ha, hb⟩ := valid_edge hv he
  simp only at ha hb
  have ha1 : a.toNat < d.length := by rw [h.len]; exact in_toNat ha
  have hb1 : b.toNat < d.length := by rw [h.len]; exact in_toNat hb
  have ea : (a.toNat : Int) = a := Int.toNat_of_nonneg ha.1
  have eb : (b.toNat : Int) = b := Int.toNat_of_nonneg hb.1
  have hda : d.getD a.toNat 0 = d[a.toNat] := by simp [ha1]
  have hdb : d.getD b.toNat 0 = d[b.toNat] := by simp [hb1]
  unfold dstep
  simp only [hda, hdb]
  by_cases hc : d[b.toNat] = (n : Int) ∧ d[a.toNat] < 0
  · rw [if_pos hc]
    have hfb : g.Far (fun _ => True) to n b := by
      rcases h.val b.toNat _ (List.getElem?_eq_getElem hb1) with q | ⟨k, q, _, hk⟩
      · rw [hc.1] at q; omega
      · have : k = n := by rw [hc.1] at q; omega
        subst this; rwa [eb] at hk
    have hno : ∀ j, j ≤ n → ¬ g.Walk (fun _ => True) to j a := fun j hj hw => by
      obtain ⟨i, hi, hf⟩ := hw.far
      have := h.all a.toNat i (in_toNat ha) (by omega) (by rw [ea]; exact hf)
      rw [List.getElem?_eq_getElem ha1] at this
      have h2 := hc.2
      simp only [Option.some.injEq] at this
      omega
    have hfa : g.Far (fun _ => True) to (n + 1) a := ⟨.cons he trivial hfb.1, fun j hj => hno j (by omega)⟩
    refine ⟨by simpa using h.len, fun v x hx => ?_, fun v k hvn hk hf => ?_, fun u w hu hm hw hf => ?_⟩
    · rw [List.getElem?_set] at hx
      split at hx
      · rename_i e; subst e
        simp [ha1] at hx
        exact .inr ⟨n + 1, by omega, Nat.le_refl _, by rw [ea]; exact hfa⟩
      · exact h.val v x hx
    · rw [List.getElem?_set]
      split
      · rename_i e; subst e
        rw [ea] at hf
        exact absurd hf.1 (hno k hk)
      · exact h.all v k hvn hk hf
    · rw [List.getElem?_set]
      split
      · rename_i e; subst e; simp [ha1]
      · rename_i e
        rcases List.mem_append.1 hm with hm | hm
        · exact h.pre u w hu hm hw hf
        · simp at hm; omega
  · rw [if_neg hc]
    refine ⟨h.len, h.val, h.all, fun u w hu hm hw hf => ?_⟩
    rcases List.mem_append.1 hm with hm | hm
    · exact h.pre u w hu hm hw hf
    · simp at hm
      obtain ⟨rfl, rfl⟩ := hm
      have hu2 : u < d.length := by rw [h.len]; exact hu
      have hw2 : w < d.length := by simpa using hb1
      simp only [Int.toNat_natCast] at hc
      have hb2 := h.all w n (by have := hb.2; omega) (Nat.le_refl _) hw
      rw [List.getElem?_eq_getElem hw2] at hb2
      simp only [Option.some.injEq] at hb2
      have hge : ¬ d[u] < 0 := fun h' => hc ⟨hb2, h'⟩
      rcases h.val u _ (List.getElem?_eq_getElem hu2) with q | ⟨k, q, _, hk⟩
      · omega
      · rw [List.getElem?_eq_getElem hu2, q, hk.uniq hf]
theorem Dn.next {g : Gr} {to : Int} {n : Nat} {d : List Int} (hv : g.valid = true) (h : Dn g (fun _ => True) to n d) : Dn g (fun _ => True) to (n + 1) (g.edges.foldl (dstep n) d) := by
  have key : ∀ (es pre : List (Int × Int)) (d : List Int), (∀ e ∈ es, e ∈ g.edges) → Dm g (fun _ => True) to n pre d → Dm g (fun _ => True) to n (pre ++ es) (es.foldl (dstep n) d) := by
    intro es
    induction es with
    | nil => intro pre d _ h; simpa using h
    | cons e es ih =>
      intro pre d he h
      have := ih (pre ++ [e]) _ (fun x hx => he x (by simp [hx])) (h.step hv (he e (by simp)))
      simpa using this
  have hm := key g.edges [] d (fun _ h => h) ⟨h.len, fun v x hx => by
    rcases h.val v x hx with q | ⟨k, q, hk, hf⟩
    · exact .inl q
    · exact .inr ⟨k, q, by omega, hf⟩, h.all, fun a b _ hm => by cases hm⟩
  refine ⟨hm.len, hm.val, fun v k hvn hk hf => ?_⟩
  by_cases e : k = n + 1
  · subst e
    obtain ⟨w, he, _, hw⟩ := hf.pred
    obtain ⟨_, hwr⟩ := valid_edge hv he
    have ew : (w.toNat : Int) = w := Int.toNat_of_nonneg hwr.1
    refine hm.pre v w.toNat hvn ?_ (by rw [ew]; exact hw) hf
    simpa [ew] using he
  · exact hm.all v k hvn (by omega) hf
theorem dist_is {g : Gr} (hv : g.valid = true) {to : Int} (ht : inR g.nodes.length to) : IsDist g (fun _ => True) to (g.dist to) := by
  have h0 : Dn g (fun _ => True) to 0 ((List.replicate g.nodes.length (-1)).set to.toNat 0) := by
    have e0 : (to.toNat : Int) = to := Int.toNat_of_nonneg ht.1
    refine ⟨by simp, fun v x hx => ?_, fun v k hvn hk hf => ?_⟩
    · rw [List.getElem?_set] at hx
      split at hx
      · rename_i e; subst e
        simp [in_toNat ht] at hx
        exact .inr ⟨0, by omega, Nat.le_refl _, by rw [e0]; exact g.far_to _ _⟩
      · rw [List.getElem?_replicate] at hx
        split at hx
        · simp at hx; exact .inl hx.symm
        · cases hx
    · have : k = 0 := by omega
      subst this
      have := hf.zero
      have : v = to.toNat := by omega
      subst this
      rw [List.getElem?_set_self (by simpa using hvn)]; rfl
  have hn : ∀ n, Dn g (fun _ => True) to n (drounds g n ((List.replicate g.nodes.length (-1)).set to.toNat 0)) := by
    intro n
    induction n with
    | zero => exact h0
    | succ n ih => rw [drounds_succ]; exact ih.next hv
  have hN := hn g.nodes.length
  refine ⟨hN.len, fun v x hx => ?_, fun v k hvn hf => hN.all v k hvn ?_ hf⟩
  · rcases hN.val v x hx with q | ⟨k, q, _, hf⟩
    · exact .inl q
    · exact .inr ⟨k, q, hf⟩
  · exact Nat.le_of_lt (hf.lt hv ⟨by omega, by omega⟩)
end Go.Proofs.Yteifhcohmipdcaa

/-
  THE GRAPH FUNCTIONS, plain law 4: shortest ways. Conditions: none.
-/
namespace Go.Proofs.Yteifhcohmipdcaa
open Go.Abs
set_option linter.unusedSimpArgs false
set_option linter.unusedVariables false

/-- May the way go on from a to i? -/
def Gr.onward (g : Gr) (d : List Int) (a : Int) (i : Nat) : Bool := decide (d.getD i 0 = d.getD a.toNat 0 - 1) && g.hasEdge a i
/-- The least such node from j on, or -1. -/
def Gr.nextFrom (g : Gr) (d : List Int) (a : Int) : Nat → Nat → Int
  | 0, _ => -1
  | m + 1, j => if g.onward d a j then (j : Int) else g.nextFrom d a m (j + 1)
def Gr.next (g : Gr) (d : List Int) (a : Int) : Int := g.nextFrom d a g.nodes.length 0
/-- The way down the distances. -/
def Gr.way (g : Gr) (d : List Int) : Nat → Int → List Int
  | 0, a => [a]
  | k + 1, a => a :: g.way d k (g.next d a)
theorem way_head {g : Gr} {d : List Int} {k : Nat} {a : Int} : g.way d k a = a :: (g.way d k a).tail := by cases k <;> rfl
/-- The shortest way from a node to another one, the least of them. -/
def Gr.path (g : Gr) (a b : Int) : List Int :=
  if g.exist [a, b] then (if (g.dist b).getD a.toNat 0 < 0 then [] else g.way (g.dist b) ((g.dist b).getD a.toNat 0).toNat a) else []
theorem hasEdge_iff {g : Gr} {a b : Int} : g.hasEdge a b = true ↔ (a, b) ∈ g.edges := by
  simp only [Gr.hasEdge, List.any_eq_true, Bool.and_eq_true, decide_eq_true_eq]
  constructor
  · rintro ⟨⟨x, y⟩, h, rfl, rfl⟩; exact h
  · intro h; exact ⟨_, h, rfl, rfl⟩
theorem nextFrom_some {g : Gr} {d : List Int} {a : Int} : ∀ {m j : Nat}, (∃ i, j ≤ i ∧ i < j + m ∧ g.onward d a i = true) → ∃ i : Nat, g.nextFrom d a m j = i ∧ j ≤ i ∧ i < j + m ∧ g.onward d a i = true
  | 0, j, ⟨i, h1, h2, _⟩ => by omega
  | m + 1, j, ⟨i, h1, h2, h3⟩ => by
    simp only [Gr.nextFrom]
    split
    · rename_i h; exact ⟨j, rfl, Nat.le_refl _, by omega, h⟩
    · rename_i h
      have : i ≠ j := fun e => h (e ▸ h3)
      obtain ⟨q, q1, q2, q3, q4⟩ := nextFrom_some (g := g) (d := d) (a := a) (m := m) (j := j + 1) ⟨i, by omega, by omega, h3⟩
      exact ⟨q, q1, by omega, by omega, q4⟩
theorem nextFrom_step {g : Gr} {d : List Int} {a : Int} {n j : Nat} (h : j < n) : g.nextFrom d a (n - j) j = if g.onward d a j then (j : Int) else g.nextFrom d a (n - (j + 1)) (j + 1) := by
  rw [show n - j = n - (j + 1) + 1 by omega]; rfl
theorem exist_iff {g : Gr} {l : List Int} : g.exist l = true ↔ (∀ x ∈ l, inR g.nodes.length x) ∧ g.valid = true := by
  simp only [Gr.exist, Bool.and_eq_true, List.all_eq_true, decide_eq_true_eq, inR]
theorem next_far {g : Gr} (hv : g.valid = true) {to : Int} {d : List Int} (hd : IsDist g (fun _ => True) to d) {k : Nat} {a : Int} (ha : inR g.nodes.length a) (hf : g.Far (fun _ => True) to (k + 1) a) :
    inR g.nodes.length (g.next d a) ∧ (a, g.next d a) ∈ g.edges ∧ g.Far (fun _ => True) to k (g.next d a) := by
  obtain ⟨w, he, _, hw⟩ := hf.pred
  have hwr := (valid_edge hv he).2
  have ew : (w.toNat : Int) = w := Int.toNat_of_nonneg hwr.1
  have ea : (a.toNat : Int) = a := Int.toNat_of_nonneg ha.1
  have h1 := hd.all w.toNat k (in_toNat hwr) (by rw [ew]; exact hw)
  have h2 := hd.all a.toNat (k + 1) (in_toNat ha) (by rw [ea]; exact hf)
  have hon : ∀ i : Nat, g.onward d a i = true ↔ d[i]?.getD 0 = (k : Int) ∧ (a, (i : Int)) ∈ g.edges := fun i => by
    simp only [Gr.onward, Bool.and_eq_true, decide_eq_true_eq, hasEdge_iff, List.getD_eq_getElem?_getD, h2, Option.getD_some]
    constructor
    · rintro ⟨q1, q2⟩; exact ⟨by omega, q2⟩
    · rintro ⟨q1, q2⟩; exact ⟨by omega, q2⟩
  obtain ⟨i, q1, q2, q3, q4⟩ := nextFrom_some (g := g) (d := d) (a := a) (m := g.nodes.length) (j := 0) ⟨w.toNat, Nat.zero_le _, by have := in_toNat hwr; omega, (hon _).2 ⟨by rw [h1]; rfl, by rw [ew]; exact he⟩⟩
  have hq : g.next d a = i := q1
  obtain ⟨r1, r2⟩ := (hon i).1 q4
  have hi : i < g.nodes.length := by omega
  rw [hq]
  refine ⟨⟨by omega, by omega⟩, r2, ?_⟩
  have hi' : i < d.length := by rw [hd.len]; exact hi
  rw [List.getElem?_eq_getElem hi'] at r1
  simp only [Option.getD_some] at r1
  rcases hd.val i _ (List.getElem?_eq_getElem hi') with q | ⟨j, q, hj⟩
  · omega
  · have : j = k := by omega
    subst this; exact hj
end Go.Proofs.Yteifhcohmipdcaa

/-
  THE GRAPH FUNCTIONS, 5: the reference's Path. Conditions: a list of edges under a bound. (Printed by w5.py.)
-/
namespace Go.Proofs.Yteifhcohmipdcaa
open Go.Abs
set_option linter.unusedSimpArgs false
set_option linter.unusedVariables false
theorem dist_range {g : Gr} (hv : g.valid = true) {to : Int} {d : List Int} (hd : IsDist g (fun _ => True) to d) {i : Nat} (hi : i < d.length) : -1 ≤ d[i] ∧ d[i] < g.nodes.length := by
  rcases hd.val i _ (List.getElem?_eq_getElem hi) with q | ⟨k, q, hk⟩
  · omega
  · have := hk.lt hv ⟨by omega, by rw [hd.len] at hi; omega⟩
    omega

set_option maxHeartbeats 1000000 in
theorem path0 (g : Gr) (a b : Int) (hg : g.edges.length ≤ 1000000) : ACalls Try.prog 16 [encG g, (AV.int IntKind.i64) a, (AV.int IntKind.i64) b] AHeap.nil (RowN 3 1 ((g.path a b).map (AV.int IntKind.i64))) := by
  refine acalls_body TT_ok Try.func16 rfl rfl (by simp [Try.ntmps16]) ?_
  rw [Try.ntmps16]
  obtain ⟨σ, hσ⟩ : ∃ σ, σ = st0 [encG g, (AV.int IntKind.i64) a, (AV.int IntKind.i64) b] := ⟨_, rfl⟩
  rw [← hσ]
  have h0_0 := congrFun hσ 0
  simp [st0] at h0_0
  have h1_0 := congrFun hσ 1
  simp [st0] at h1_0
  have h2_0 := congrFun hσ 2
  simp [st0] at h2_0
  clear hσ
  obtain ⟨H, hH⟩ : ∃ H, H = AHeap.nil := ⟨_, rfl⟩
  rw [← hH]
  have hn_0 : H.n = 0 := by rw [hH]; rfl
  have hst_0 : H.st = 1 := by rw [hH]; rfl
  clear hH
  refine stp_reg TT_ok (by rfl) fun K hK => ?_
  simp [h0_0, hn_0, hst_0, encG]
  try refine And.intro (by first | omega | rfl) ?_
  refine hK _ _ fun σ1 hσ H1 hH => ?_
  clear hK K
  have h1_1 := congrFun hσ 1
  have h2_1 := congrFun hσ 2
  have h3_1 := congrFun hσ 3
  simp [h1_0, h2_0] at h1_1 h2_1 h3_1
  clear hσ
  have g0_1 := gt_of hH 0
  simp [hn_0, hst_0] at g0_1
  have hn_1 := congrArg AHeap.n hH
  simp [hn_0, hst_0] at hn_1
  have hst_1 := congrArg AHeap.st hH
  simp [hn_0, hst_0] at hst_1
  clear hH
  refine awp_seq ?_
  refine stp_reg TT_ok (by rfl) fun K hK => ?_
  simp [h1_1, h2_1, h3_1, g0_1, hn_1, hst_1, encG]
  try refine And.intro (by first | omega | rfl) ?_
  refine FunW.at (refExist_w g [a, b] (by simp)) ?hf ?_
  case hf => exact FrzL.cons (.pure (pu_graph g)) (FrzL.cons (frz_ints (xs := [a, b]) (by simp [h1_1, h2_1, h3_1, g0_1, hn_1, hst_1, encG]; rfl) rfl) (FrzL.nil _))
  simp [h1_1, h2_1, h3_1, g0_1, hn_1, hst_1, encG]
  try refine And.intro (by first | omega | rfl) ?_
  refine hK _ _ fun σ2 hσ H2 hH => ?_
  clear hK K
  have h1_2 := congrFun hσ 1
  have h2_2 := congrFun hσ 2
  have h3_2 := congrFun hσ 3
  have h17_2 := congrFun hσ 17
  simp [h1_1, h2_1, h3_1] at h1_2 h2_2 h3_2 h17_2
  clear hσ
  have g0_2 := gt_of hH 0
  have g1_2 := gt_of hH 1
  simp [g0_1, hn_1, hst_1] at g0_2 g1_2
  have hn_2 := congrArg AHeap.n hH
  simp [hn_1, hst_1] at hn_2
  have hst_2 := congrArg AHeap.st hH
  simp [hn_1, hst_1] at hst_2
  clear hH
  refine awp_cond _ (by simp only [aeval_tmp]; exact h17_2) (fun hc17 => ?_) (fun hc17 => ?_)
  · try simp at hc17
    refine stp_reg TT_ok (by rfl) fun K hK => ?_
    simp [g0_2, g1_2, encG]
    try refine And.intro (by first | omega | rfl) ?_
    refine hK _ _ fun σ3 hσ H3 hH => ?_
    clear hK K
    have h6_3 := congrFun hσ 6
    simp [] at h6_3
    clear hσ
    replace hH : H2 = H3 := Eq.symm hH
    subst hH
    refine awp_ret ?_
    refine q_seq_ret ?_
    refine q_fin1 h6_3 ?_
    exact .inl ⟨rfl, by simp [Gr.path, hc17]⟩
  · try simp at hc17
    obtain ⟨hin, hv⟩ := exist_iff.1 hc17
    have ha := hin a (by simp)
    have hb := hin b (by simp)
    have hD := dist_is hv hb
    obtain ⟨d, hd⟩ : ∃ d, d = g.dist b := ⟨_, rfl⟩
    rw [← hd] at hD
    obtain ⟨a1, a2⟩ := ha
    obtain ⟨b1, b2⟩ := hb
    have hal : a.toNat < d.length := by rw [hD.len]; omega
    have hdl := hD.len
    refine awp_skip ?_
    refine q_seq ?_
    refine stp_reg TT_ok (by rfl) fun K hK => ?_
    simp [h2_2, h3_2, g0_2, g1_2, encG]
    try refine And.intro (by first | omega | rfl) ?_
    refine stp_call (dist_ok g hv b ⟨b1, b2⟩) ?_
    simp [h2_2, h3_2, g0_2, g1_2, encG]
    try refine And.intro (by first | omega | rfl) ?_
    refine hK _ _ fun σ4 hσ H4 hH => ?_
    clear hK K
    have h1_4 := congrFun hσ 1
    have h2_4 := congrFun hσ 2
    have h3_4 := congrFun hσ 3
    have h7_4 := congrFun hσ 7
    simp [h1_2, h2_2, h3_2] at h1_4 h2_4 h3_4 h7_4
    clear hσ
    replace hH : H2 = H4 := Eq.symm hH
    subst hH
    refine awp_seq ?_
    rw [← hd] at h7_4
    refine stp_reg TT_ok (by rfl) fun K hK => ?_
    simp [h1_4, h7_4, g0_2, g1_2, encG, a1, a2, hal, hdl]
    try refine And.intro (by first | omega | rfl) ?_
    refine hK _ _ fun σ5 hσ H5 hH => ?_
    clear hK K
    have h1_5 := congrFun hσ 1
    have h2_5 := congrFun hσ 2
    have h3_5 := congrFun hσ 3
    have h7_5 := congrFun hσ 7
    have h25_5 := congrFun hσ 25
    simp [h1_4, h2_4, h3_4, h7_4] at h1_5 h2_5 h3_5 h7_5 h25_5
    clear hσ
    replace hH : H2 = H5 := Eq.symm hH
    subst hH
    refine awp_cond _ (by simp only [aeval_tmp]; exact h25_5) (fun hc25 => ?_) (fun hc25 => ?_)
    · try simp at hc25
      refine stp_reg TT_ok (by rfl) fun K hK => ?_
      simp [g0_2, g1_2, encG]
      try refine And.intro (by first | omega | rfl) ?_
      refine hK _ _ fun σ6 hσ H6 hH => ?_
      clear hK K
      have h6_6 := congrFun hσ 6
      simp [] at h6_6
      clear hσ
      replace hH : H2 = H6 := Eq.symm hH
      subst hH
      refine awp_ret ?_
      refine q_seq_ret ?_
      refine q_fin1 h6_6 ?_
      exact .inl ⟨rfl, by simp [Gr.path, hc17, ← hd, hal, hc25]⟩
    · try simp at hc25
      refine awp_skip ?_
      refine q_seq ?_
      refine stp_reg TT_ok (by rfl) fun K hK => ?_
      simp [h1_5, g0_2, g1_2, hn_2, hst_2, encG]
      try refine And.intro (by first | omega | rfl) ?_
      refine hK _ _ fun σ7 hσ H7 hH => ?_
      clear hK K
      have h1_7 := congrFun hσ 1
      have h2_7 := congrFun hσ 2
      have h3_7 := congrFun hσ 3
      have h7_7 := congrFun hσ 7
      have h8_7 := congrFun hσ 8
      simp [h1_5, h2_5, h3_5, h7_5] at h1_7 h2_7 h3_7 h7_7 h8_7
      clear hσ
      have g0_7 := gt_of hH 0
      have g1_7 := gt_of hH 1
      have g2_7 := gt_of hH 2
      simp [g0_2, g1_2, hn_2, hst_2] at g0_7 g1_7 g2_7
      have hn_7 := congrArg AHeap.n hH
      simp [hn_2, hst_2] at hn_7
      have hst_7 := congrArg AHeap.st hH
      simp [hn_2, hst_2] at hst_7
      clear hH
      refine awp_seq ?_
      refine stp_reg TT_ok (by rfl) fun K hK => ?_
      simp [h1_7, g0_7, g1_7, g2_7, encG]
      try refine And.intro (by first | omega | rfl) ?_
      refine hK _ _ fun σ8 hσ H8 hH => ?_
      clear hK K
      have h2_8 := congrFun hσ 2
      have h3_8 := congrFun hσ 3
      have h7_8 := congrFun hσ 7
      have h8_8 := congrFun hσ 8
      have h9_8 := congrFun hσ 9
      simp [h2_7, h3_7, h7_7, h8_7] at h2_8 h3_8 h7_8 h8_8 h9_8
      clear hσ
      replace hH : H7 = H8 := Eq.symm hH
      subst hH
      refine awp_block ?_
      obtain ⟨hn1, hn2⟩ := valid_nodes hv
      obtain ⟨K0, hK0, hF0⟩ : ∃ k : Nat, d[a.toNat] = k ∧ g.Far (fun _ => True) b k a := by
        rcases hD.val a.toNat _ (List.getElem?_eq_getElem hal) with q | ⟨k, q, hk⟩
        · omega
        · exact ⟨k, q, by rwa [Int.toNat_of_nonneg a1] at hk⟩
      have hK1 := hF0.lt hv ⟨a1, a2⟩
      refine awp_loopV (fun n σ' H' => ∃ (k : Nat) (at_ : Int) (es : List Int) (gn : Nat), n = k ∧ σ' 2 = σ8 2 ∧ σ' 3 = σ8 3 ∧ σ' 7 = σ8 7 ∧ σ' 8 = .sl 2 gn 0 es.length ∧ σ' 9 = (AV.int IntKind.i64) at_ ∧ H'.get 0 = H7.get 0 ∧ H'.get 1 = H7.get 1 ∧ H'.get 2 = some (.row 3 1 gn (es.map (AV.int IntKind.i64))) ∧ H'.st = H7.st ∧ (inR g.nodes.length at_) ∧ (g.Far (fun _ => True) b k at_) ∧ (es ++ (g.way d k at_).tail = g.way d K0 a) ∧ (es.length + k ≤ 1024)) ?_ ?_
      · refine ⟨_, K0, a, [a], 0, rfl, rfl, rfl, rfl, (by simp [h8_8]), (by simp [h9_8]), rfl, rfl, (by simp [g2_7]), rfl, ?_, ?_, ?_, ?_⟩
        · exact ⟨a1, a2⟩
        · exact hF0
        · cases K0 <;> simp [Gr.way]
        · simp; omega
      · rintro n1 σ9 H9 ⟨k, at_, es, gn, hn1, q2_9, q3_9, q7_9, h8_9, h9_9, qg0_9, qg1_9, g2_9, qst_9, p1, p2, p3, p4⟩
        have h2_9 := q2_9.trans h2_8
        have h3_9 := q3_9.trans h3_8
        have h7_9 := q7_9.trans h7_8
        have g0_9 := qg0_9.trans g0_7
        have g1_9 := qg1_9.trans g1_7
        have hst_9 := qst_9.trans hst_7
        refine awp_seq ?_
        refine stp_reg TT_ok (by rfl) fun K hK => ?_
        simp [h2_9, h9_9, g0_9, g1_9, g2_9, encG]
        try refine And.intro (by first | omega | rfl) ?_
        refine hK _ _ fun σ10 hσ H10 hH => ?_
        clear hK K
        have h2_10 := congrFun hσ 2
        have h3_10 := congrFun hσ 3
        have h7_10 := congrFun hσ 7
        have h8_10 := congrFun hσ 8
        have h9_10 := congrFun hσ 9
        have h31_10 := congrFun hσ 31
        simp [h2_9, h3_9, h7_9, h8_9, h9_9] at h2_10 h3_10 h7_10 h8_10 h9_10 h31_10
        clear hσ
        replace hH : H9 = H10 := Eq.symm hH
        subst hH
        refine awp_cond _ (by simp only [aeval_tmp]; exact h31_10) (fun hc31 => ?_) (fun hc31 => ?_)
        · try simp at hc31
          obtain ⟨k2, rfl⟩ : ∃ k2, k = k2 + 1 := by
            cases k with
            | zero => exact absurd p2.zero hc31
            | succ k => exact ⟨k, rfl⟩
          obtain ⟨t1, t2⟩ := p1
          have tl : at_.toNat < d.length := by omega
          have tl2 : at_.toNat < g.nodes.length := by omega
          have tr := dist_range hv hD tl
          refine awp_skip ?_
          refine q_seq ?_
          refine awp_block ?_
          refine stp_reg TT_ok (by rfl) fun K hK => ?_
          simp [g0_9, g1_9, g2_9, encG]
          try refine And.intro (by first | omega | rfl) ?_
          refine hK _ _ fun σ11 hσ H11 hH => ?_
          clear hK K
          have h2_11 := congrFun hσ 2
          have h3_11 := congrFun hσ 3
          have h7_11 := congrFun hσ 7
          have h8_11 := congrFun hσ 8
          have h9_11 := congrFun hσ 9
          have h10_11 := congrFun hσ 10
          simp [h2_10, h3_10, h7_10, h8_10, h9_10] at h2_11 h3_11 h7_11 h8_11 h9_11 h10_11
          clear hσ
          replace hH : H9 = H11 := Eq.symm hH
          subst hH
          refine awp_seq ?_
          refine stp_reg TT_ok (by rfl) fun K hK => ?_
          simp [h3_11, g0_9, g1_9, g2_9, encG, wrap_ok (n := (g.nodes.length : Int) - 1) (by omega) (by omega)]
          try refine And.intro (by first | omega | rfl) ?_
          refine hK _ _ fun σ12 hσ H12 hH => ?_
          clear hK K
          have h2_12 := congrFun hσ 2
          have h3_12 := congrFun hσ 3
          have h7_12 := congrFun hσ 7
          have h8_12 := congrFun hσ 8
          have h9_12 := congrFun hσ 9
          have h10_12 := congrFun hσ 10
          have h11_12 := congrFun hσ 11
          simp [h2_11, h3_11, h7_11, h8_11, h9_11, h10_11] at h2_12 h3_12 h7_12 h8_12 h9_12 h10_12 h11_12
          clear hσ
          replace hH : H9 = H12 := Eq.symm hH
          subst hH
          refine awp_block ?_
          refine awp_loopV (fun n σ' H' => ∃ (j : Nat), n = j ∧ σ' 2 = σ12 2 ∧ σ' 3 = σ12 3 ∧ σ' 7 = σ12 7 ∧ σ' 8 = σ12 8 ∧ σ' 9 = σ12 9 ∧ σ' 10 = (AV.int IntKind.i64) (g.nextFrom d at_ (g.nodes.length - j) j) ∧ σ' 11 = (AV.int IntKind.i64) ((j : Int) - 1) ∧ H' = H9 ∧ (j ≤ g.nodes.length)) ?_ ?_
          · refine ⟨_, g.nodes.length, rfl, rfl, rfl, rfl, rfl, rfl, (by simp [h10_12, Gr.nextFrom]), (by simp [h11_12, Gr.nextFrom]), rfl, ?_⟩
            · first | omega | (simp; done) | assumption
          · rintro n2 σ13 H13 ⟨j, hn2, q2_13, q3_13, q7_13, q8_13, q9_13, h10_13, h11_13, hHq, r1⟩
            have h2_13 := q2_13.trans h2_12
            have h3_13 := q3_13.trans h3_12
            have h7_13 := q7_13.trans h7_12
            have h8_13 := q8_13.trans h8_12
            have h9_13 := q9_13.trans h9_12
            replace hHq := hHq.symm
            subst hHq
            refine awp_seq ?_
            refine stp_reg TT_ok (by rfl) fun K hK => ?_
            simp [h11_13, g0_9, g1_9, g2_9, encG]
            try refine And.intro (by first | omega | rfl) ?_
            refine hK _ _ fun σ14 hσ H14 hH => ?_
            clear hK K
            have h2_14 := congrFun hσ 2
            have h3_14 := congrFun hσ 3
            have h7_14 := congrFun hσ 7
            have h8_14 := congrFun hσ 8
            have h9_14 := congrFun hσ 9
            have h10_14 := congrFun hσ 10
            have h11_14 := congrFun hσ 11
            have h37_14 := congrFun hσ 37
            simp [h2_13, h3_13, h7_13, h8_13, h9_13, h10_13, h11_13] at h2_14 h3_14 h7_14 h8_14 h9_14 h10_14 h11_14 h37_14
            clear hσ
            replace hH : H9 = H14 := Eq.symm hH
            subst hH
            refine awp_cond _ (by simp only [aeval_tmp]; exact h37_14) (fun hc37 => ?_) (fun hc37 => ?_)
            · try simp at hc37
              obtain ⟨j2, rfl⟩ : ∃ j2, j = j2 + 1 := ⟨j - 1, by omega⟩
              have jl : j2 < d.length := by omega
              have jl2 : j2 < g.nodes.length := by omega
              have jr := dist_range hv hD jl
              rw [show (((j2 + 1 : Nat) : Int) - 1) = j2 by omega] at h11_14
              refine awp_skip ?_
              refine q_seq ?_
              refine awp_seq ?_
              refine awp_block ?_
              by_cases hj : d[j2] = d[at_.toNat] - 1
              · skip
                refine stp_lex false TT_ok mixed (by rfl) (by rfl) (by kernel_rfl) (by rfl) fun U hU K hK => ?_
                simp [h3_14, h7_14, h9_14, h11_14, g0_9, g1_9, g2_9, hj, beq_iff_eq.2 hj, encG, t1, t2, tl, jl, tl2, jl2, hdl, wrap_ok (n := d[at_.toNat] - 1) (by omega) (by omega)]
                try refine And.intro (by first | omega | rfl) ?_
                refine lex_call (edge_ok g at_ j2 hg) ?_
                simp [h3_14, h7_14, h9_14, h11_14, g0_9, g1_9, g2_9, hj, beq_iff_eq.2 hj, encG, t1, t2, tl, jl, tl2, jl2, hdl, wrap_ok (n := d[at_.toNat] - 1) (by omega) (by omega)]
                try refine And.intro (by first | omega | rfl) ?_
                refine hK _ _ _ (by subst hU; kernel_rfl) fun σ15 hσ H15 hH => ?_
                clear hK K hU U
                have h2_15 := congrFun hσ 2
                have h3_15 := congrFun hσ 3
                have h7_15 := congrFun hσ 7
                have h8_15 := congrFun hσ 8
                have h9_15 := congrFun hσ 9
                have h10_15 := congrFun hσ 10
                have h11_15 := congrFun hσ 11
                have h55_15 := congrFun hσ 55
                simp [h2_14, h3_14, h7_14, h8_14, h9_14, h10_14, h11_14] at h2_15 h3_15 h7_15 h8_15 h9_15 h10_15 h11_15 h55_15
                clear hσ
                replace hH : H9 = H15 := Eq.symm hH
                subst hH
                refine awp_cond _ (by simp only [aeval_tmp]; exact h55_15) (fun hc55 => ?_) (fun hc55 => ?_)
                · try simp at hc55
                  refine stp_regl TT_ok (by rfl) fun K hK => ?_
                  simp [h11_15, g0_9, g1_9, g2_9, hj, beq_iff_eq.2 hj, encG]
                  try refine And.intro (by first | omega | rfl) ?_
                  refine hK _ _ fun σ16 hσ H16 hH => ?_
                  clear hK K
                  have h2_16 := congrFun hσ 2
                  have h3_16 := congrFun hσ 3
                  have h7_16 := congrFun hσ 7
                  have h8_16 := congrFun hσ 8
                  have h9_16 := congrFun hσ 9
                  have h10_16 := congrFun hσ 10
                  have h11_16 := congrFun hσ 11
                  simp [h2_15, h3_15, h7_15, h8_15, h9_15, h11_15] at h2_16 h3_16 h7_16 h8_16 h9_16 h10_16 h11_16
                  clear hσ
                  replace hH : H9 = H16 := Eq.symm hH
                  subst hH
                  refine q_block ?_
                  refine q_seq ?_
                  refine stp_regl TT_ok (by rfl) fun K hK => ?_
                  simp [h11_16, g0_9, g1_9, g2_9, hj, beq_iff_eq.2 hj, encG, wrap_ok (n := (j2 : Int) - 1) (by omega) (by omega)]
                  try refine And.intro (by first | omega | rfl) ?_
                  refine hK _ _ fun σ17 hσ H17 hH => ?_
                  clear hK K
                  have h2_17 := congrFun hσ 2
                  have h3_17 := congrFun hσ 3
                  have h7_17 := congrFun hσ 7
                  have h8_17 := congrFun hσ 8
                  have h9_17 := congrFun hσ 9
                  have h10_17 := congrFun hσ 10
                  have h11_17 := congrFun hσ 11
                  simp [h2_16, h3_16, h7_16, h8_16, h9_16, h10_16] at h2_17 h3_17 h7_17 h8_17 h9_17 h10_17 h11_17
                  clear hσ
                  replace hH : H9 = H17 := Eq.symm hH
                  subst hH
                  refine ⟨_, ?_, j2, rfl, (h2_17.trans h2_12.symm), (h3_17.trans h3_12.symm), (h7_17.trans h7_12.symm), (h8_17.trans h8_12.symm), (h9_17.trans h9_12.symm), (by simp [h10_17, show g.nextFrom d at_ (g.nodes.length - j2) j2 = (j2 : Int) from (nextFrom_step (by omega)).trans (if_pos (by simp [Gr.onward, jl, tl, hj, hc55]))]), (by simp [h11_17, show g.nextFrom d at_ (g.nodes.length - j2) j2 = (j2 : Int) from (nextFrom_step (by omega)).trans (if_pos (by simp [Gr.onward, jl, tl, hj, hc55]))]), rfl, ?_⟩
                  · subst hn2; omega
                  · first | omega | assumption | (simp; done)
                · try simp at hc55
                  refine awp_skip ?_
                  refine q_block ?_
                  refine q_seq ?_
                  refine stp_regl TT_ok (by rfl) fun K hK => ?_
                  simp [h11_15, g0_9, g1_9, g2_9, hj, beq_iff_eq.2 hj, encG, wrap_ok (n := (j2 : Int) - 1) (by omega) (by omega)]
                  try refine And.intro (by first | omega | rfl) ?_
                  refine hK _ _ fun σ18 hσ H18 hH => ?_
                  clear hK K
                  have h2_18 := congrFun hσ 2
                  have h3_18 := congrFun hσ 3
                  have h7_18 := congrFun hσ 7
                  have h8_18 := congrFun hσ 8
                  have h9_18 := congrFun hσ 9
                  have h10_18 := congrFun hσ 10
                  have h11_18 := congrFun hσ 11
                  simp [h2_15, h3_15, h7_15, h8_15, h9_15, h10_15] at h2_18 h3_18 h7_18 h8_18 h9_18 h10_18 h11_18
                  clear hσ
                  replace hH : H9 = H18 := Eq.symm hH
                  subst hH
                  refine ⟨_, ?_, j2, rfl, (h2_18.trans h2_12.symm), (h3_18.trans h3_12.symm), (h7_18.trans h7_12.symm), (h8_18.trans h8_12.symm), (h9_18.trans h9_12.symm), (by simp [h10_18, show g.nextFrom d at_ (g.nodes.length - j2) j2 = g.nextFrom d at_ (g.nodes.length - (j2 + 1)) (j2 + 1) from (nextFrom_step (by omega)).trans (if_neg (by simp [Gr.onward, jl, tl, hj, hc55]))]), (by simp [h11_18, show g.nextFrom d at_ (g.nodes.length - j2) j2 = g.nextFrom d at_ (g.nodes.length - (j2 + 1)) (j2 + 1) from (nextFrom_step (by omega)).trans (if_neg (by simp [Gr.onward, jl, tl, hj, hc55]))]), rfl, ?_⟩
                  · subst hn2; omega
                  · first | omega | assumption | (simp; done)
              · skip
                refine stp_lex false TT_ok mixed (by rfl) (by rfl) (by kernel_rfl) (by rfl) fun U hU K hK => ?_
                simp [h3_14, h7_14, h9_14, h11_14, g0_9, g1_9, g2_9, hj, beq_eq_false_iff_ne.2 hj, encG, t1, t2, tl, jl, tl2, jl2, hdl, wrap_ok (n := d[at_.toNat] - 1) (by omega) (by omega)]
                try refine And.intro (by first | omega | rfl) ?_
                refine hK _ _ _ (by subst hU; kernel_rfl) fun σ19 hσ H19 hH => ?_
                clear hK K hU U
                have h2_19 := congrFun hσ 2
                have h3_19 := congrFun hσ 3
                have h7_19 := congrFun hσ 7
                have h8_19 := congrFun hσ 8
                have h9_19 := congrFun hσ 9
                have h10_19 := congrFun hσ 10
                have h11_19 := congrFun hσ 11
                have h55_19 := congrFun hσ 55
                simp [h2_14, h3_14, h7_14, h8_14, h9_14, h10_14, h11_14] at h2_19 h3_19 h7_19 h8_19 h9_19 h10_19 h11_19 h55_19
                clear hσ
                replace hH : H9 = H19 := Eq.symm hH
                subst hH
                refine stp_false (by simp [aeval_tmp, h55_19, hj, beq_eq_false_iff_ne.2 hj, encG]) ?_
                refine awp_skip ?_
                refine q_block ?_
                refine q_seq ?_
                refine stp_regl TT_ok (by rfl) fun K hK => ?_
                simp [h11_19, g0_9, g1_9, g2_9, hj, beq_eq_false_iff_ne.2 hj, encG, wrap_ok (n := (j2 : Int) - 1) (by omega) (by omega)]
                try refine And.intro (by first | omega | rfl) ?_
                refine hK _ _ fun σ20 hσ H20 hH => ?_
                clear hK K
                have h2_20 := congrFun hσ 2
                have h3_20 := congrFun hσ 3
                have h7_20 := congrFun hσ 7
                have h8_20 := congrFun hσ 8
                have h9_20 := congrFun hσ 9
                have h10_20 := congrFun hσ 10
                have h11_20 := congrFun hσ 11
                simp [h2_19, h3_19, h7_19, h8_19, h9_19, h10_19] at h2_20 h3_20 h7_20 h8_20 h9_20 h10_20 h11_20
                clear hσ
                replace hH : H9 = H20 := Eq.symm hH
                subst hH
                refine ⟨_, ?_, j2, rfl, (h2_20.trans h2_12.symm), (h3_20.trans h3_12.symm), (h7_20.trans h7_12.symm), (h8_20.trans h8_12.symm), (h9_20.trans h9_12.symm), (by simp [h10_20, show g.nextFrom d at_ (g.nodes.length - j2) j2 = g.nextFrom d at_ (g.nodes.length - (j2 + 1)) (j2 + 1) from (nextFrom_step (by omega)).trans (if_neg (by simp [Gr.onward, jl, tl, hj]))]), (by simp [h11_20, show g.nextFrom d at_ (g.nodes.length - j2) j2 = g.nextFrom d at_ (g.nodes.length - (j2 + 1)) (j2 + 1) from (nextFrom_step (by omega)).trans (if_neg (by simp [Gr.onward, jl, tl, hj]))]), rfl, ?_⟩
                · subst hn2; omega
                · first | omega | assumption | (simp; done)
            · try simp at hc37
              obtain rfl : j = 0 := by omega
              rw [Nat.sub_zero] at h10_14
              obtain ⟨u1, u2, u3⟩ := next_far hv hD ⟨t1, t2⟩ p2
              have u4 : g.nextFrom d at_ g.nodes.length 0 = g.next d at_ := rfl
              rw [u4] at h10_14
              refine awp_exit ?_
              refine q_seq_exit ?_
              refine q_loop_exit ?_
              refine q_block_hit ?_
              refine q_seq ?_
              refine stp_reg TT_ok (by rfl) fun K hK => ?_
              simp [h10_14, g0_9, g1_9, g2_9, encG]
              try refine And.intro (by first | omega | rfl) ?_
              refine hK _ _ fun σ21 hσ H21 hH => ?_
              clear hK K
              have h2_21 := congrFun hσ 2
              have h3_21 := congrFun hσ 3
              have h7_21 := congrFun hσ 7
              have h8_21 := congrFun hσ 8
              have h9_21 := congrFun hσ 9
              simp [h2_14, h3_14, h7_14, h8_14] at h2_21 h3_21 h7_21 h8_21 h9_21
              clear hσ
              replace hH : H9 = H21 := Eq.symm hH
              subst hH
              refine awp_ok fun hok => ?_
              obtain ⟨m22, hn_m22⟩ : ∃ m, H9.n = m := ⟨_, rfl⟩
              have hf_m22_0 := hok.free 0
              simp [hn_m22, hst_9] at hf_m22_0
              have nx1 := ne_get hf_m22_0 g0_9
              have nx2 := ne_get hf_m22_0 g1_9
              have nx3 := ne_get hf_m22_0 g2_9
              refine stp_regl TT_ok (by rfl) fun K hK => ?_
              simp [h8_21, h9_21, g0_9, g1_9, g2_9, hn_m22, hst_9, nx1, nx2, nx3, encG, take_map_len, show (es.length + 1) * 8 ≤ 140737488355328 by omega, show es.length ≤ 9223372036854775806 by omega]
              try refine And.intro (by first | omega | rfl) ?_
              refine hK _ _ fun σ23 hσ H23 hH => ?_
              clear hK K
              have h2_23 := congrFun hσ 2
              have h3_23 := congrFun hσ 3
              have h7_23 := congrFun hσ 7
              have h8_23 := congrFun hσ 8
              have h9_23 := congrFun hσ 9
              simp [h2_21, h3_21, h7_21, h9_21] at h2_23 h3_23 h7_23 h8_23 h9_23
              clear hσ
              have g0_23 := gt_of hH 0
              have g1_23 := gt_of hH 1
              have g2_23 := gt_of hH 2
              have gm22_23 := gt_of hH m22
              simp [g0_9, g1_9, g2_9, hn_m22, hst_9, nx1, nx2, nx3] at g0_23 g1_23 g2_23 gm22_23
              have hst_23 := congrArg AHeap.st hH
              simp [hst_9] at hst_23
              clear hH
              refine q_block ?_
              refine ⟨_, ?_, k2, g.next d at_, es ++ [g.next d at_], gn + 1, rfl, (h2_23.trans h2_8.symm), (h3_23.trans h3_8.symm), (h7_23.trans h7_8.symm), (by simp [h8_23]), (by simp [h9_23]), (g0_23.trans g0_7.symm), (g1_23.trans g1_7.symm), (by simp [g2_23]), (hst_23.trans hst_7.symm), ?_, ?_, ?_, ?_⟩
              · omega
              · exact u1
              · exact u3
              · rw [← p3]; simp only [Gr.way, List.tail_cons, List.append_assoc, List.singleton_append]; rw [← way_head]
              · simp; omega
        · try simp at hc31
          obtain rfl : k = 0 := by rw [hc31] at p2; exact p2.uniq (g.far_to _ _)
          refine awp_exit ?_
          refine q_seq_exit ?_
          refine q_loop_exit ?_
          refine q_block_hit ?_
          refine q_seq ?_
          refine stp_reg TT_ok (by rfl) fun K hK => ?_
          simp [h8_10, g0_9, g1_9, g2_9, encG]
          try refine And.intro (by first | omega | rfl) ?_
          refine hK _ _ fun σ24 hσ H24 hH => ?_
          clear hK K
          have h6_24 := congrFun hσ 6
          simp [] at h6_24
          clear hσ
          replace hH : H9 = H24 := Eq.symm hH
          subst hH
          refine awp_ret ?_
          have hD0 : d.getD a.toNat 0 = K0 := by rw [List.getD_eq_getElem?_getD, List.getElem?_eq_getElem hal]; exact hK0
          have e : g.path a b = es := by simp only [Gr.path, hc17, if_true, ← hd]; rw [hD0, if_neg (by omega), Int.toNat_natCast, ← p3]; simp [Gr.way]
          refine q_fin1 h6_24 ?_
          exact .inr ⟨2, gn, by rw [e]; simp, by rw [g2_9, e]⟩

theorem refPath_ok (g : Gr) (a b : Int) (hg : g.edges.length ≤ 1000000) : Fun1 Try.prog 16 [encG g, (AV.int IntKind.i64) a, (AV.int IntKind.i64) b] (.ro ((g.path a b).map (AV.int IntKind.i64))) :=
  fun1_rowN (path0 g a b hg) (pu_cons (pu_graph _) (pu_cons (pu_int _ _) (pu_cons (pu_int _ _) pu_nil))) (fun _ => pu_of_ints) (fun _ => one_ints)
end Go.Proofs.Yteifhcohmipdcaa

/-
  THE GRAPH FUNCTIONS, 6: the program's Valid and exist, and what they call. Conditions: lengths under a bound, where said. (Printed by w6.py.)
-/
namespace Go.Proofs.Yteifhcohmipdcaa
open Go.Abs
set_option linter.unusedSimpArgs false
set_option linter.unusedVariables false
/-- The first place at which something holds, or -1. -/
def idxOf {α : Type} (p : α → Bool) (l : List α) : Int := match l.findIdx? p with | some i => (i : Int) | none => -1
theorem idxOf_at {α : Type} {p : α → Bool} {l : List α} {i : Nat} (h : i < l.length) (h1 : (l.take i).any p = false) (h2 : p l[i] = true) : idxOf p l = i := by
  have : l.findIdx? p = some i := by
    rw [List.findIdx?_eq_some_iff_getElem]
    refine ⟨h, h2, fun j hj => ?_⟩
    have := List.any_eq_false.1 h1 l[j] (by rw [List.mem_take_iff_getElem]; exact ⟨j, by omega, rfl⟩)
    simpa using this
  simp [idxOf, this]
theorem idxOf_none {α : Type} {p : α → Bool} {l : List α} (h1 : l.any p = false) : idxOf p l = -1 := by
  have : l.findIdx? p = none := by
    rw [List.findIdx?_eq_none_iff]; intro x hx
    simpa using List.any_eq_false.1 h1 x hx
  simp [idxOf, this]
theorem idxOf_nonneg {α : Type} {p : α → Bool} {l : List α} : decide (0 ≤ idxOf p l) = l.any p := by
  cases h : l.any p with
  | false => rw [idxOf_none h]; rfl
  | true =>
    have : (l.findIdx? p).isSome = true := by rw [List.findIdx?_isSome]; exact h
    obtain ⟨i, hi⟩ := Option.isSome_iff_exists.1 this
    simp [idxOf, hi]
theorem idxOf_range {α : Type} {p : α → Bool} {l : List α} : -1 ≤ idxOf p l ∧ idxOf p l < l.length := by
  simp only [idxOf]
  split
  · rename_i i hi
    have := (List.findIdx?_eq_some_iff_getElem.1 hi).1
    omega
  · omega

set_option maxHeartbeats 1000000 in
theorem indexFuncE0 (es : List (Int × Int)) (f : FuncId) (caps : List AV) (p : (Int × Int) → Bool) (hp : ∀ e ∈ es, Fun1 Try.prog f (encE e :: caps) (.bool (p e))) (hl : es.length ≤ 1000000) : ACalls Try.prog 59 [.ro (es.map encE), .fn f caps] AHeap.nil (fun r _ => r = .int .i64 (idxOf p es)) := by
  refine acalls_body TT_ok Try.func59 rfl rfl (by simp [Try.ntmps59]) ?_
  rw [Try.ntmps59]
  obtain ⟨σ, hσ⟩ : ∃ σ, σ = st0 [.ro (es.map encE), .fn f caps] := ⟨_, rfl⟩
  rw [← hσ]
  have h0_0 := congrFun hσ 0
  simp [st0] at h0_0
  have h1_0 := congrFun hσ 1
  simp [st0] at h1_0
  clear hσ
  obtain ⟨H, hH⟩ : ∃ H, H = AHeap.nil := ⟨_, rfl⟩
  rw [← hH]
  have hn_0 : H.n = 0 := by rw [hH]; rfl
  have hst_0 : H.st = 1 := by rw [hH]; rfl
  clear hH
  refine stp_reg TT_ok (by rfl) fun K hK => ?_
  simp []
  try refine And.intro (by first | omega | rfl) ?_
  refine hK _ _ fun σ1 hσ H1 hH => ?_
  clear hK K
  have h0_1 := congrFun hσ 0
  have h1_1 := congrFun hσ 1
  simp [h0_0, h1_0] at h0_1 h1_1
  clear hσ
  replace hH : H = H1 := Eq.symm hH
  subst hH
  refine awp_seq ?_
  refine stp_reg TT_ok (by rfl) fun K hK => ?_
  simp [h0_1]
  try refine And.intro (by first | omega | rfl) ?_
  refine hK _ _ fun σ2 hσ H2 hH => ?_
  clear hK K
  have h0_2 := congrFun hσ 0
  have h1_2 := congrFun hσ 1
  have h7_2 := congrFun hσ 7
  have h8_2 := congrFun hσ 8
  simp [h0_1, h1_1] at h0_2 h1_2 h7_2 h8_2
  clear hσ
  replace hH : H = H2 := Eq.symm hH
  subst hH
  refine awp_block ?_
  refine awp_loopV (fun n σ' H' => ∃ (i : Nat), n = es.length - i ∧ σ' 0 = σ2 0 ∧ σ' 1 = σ2 1 ∧ σ' 7 = .int .i64 es.length ∧ σ' 8 = .int .i64 i ∧ H' = H ∧ (i ≤ es.length) ∧ ((es.take i).any p = false)) ?_ ?_
  · refine ⟨_, 0, rfl, rfl, rfl, (by simp [h7_2]), (by simp [h8_2]), rfl, ?_, ?_⟩
    · first | omega | (simp; done) | assumption
    · first | omega | (simp; done) | assumption
  · rintro n1 σ3 H3 ⟨i, hn1, q0_3, q1_3, h7_3, h8_3, hHq, p1, p2⟩
    have h0_3 := q0_3.trans h0_2
    have h1_3 := q1_3.trans h1_2
    replace hHq := hHq.symm
    subst hHq
    refine stp_reg TT_ok (by rfl) fun K hK => ?_
    simp [h7_3, h8_3]
    try refine And.intro (by first | omega | rfl) ?_
    refine hK _ _ fun σ4 hσ H4 hH => ?_
    clear hK K
    have h0_4 := congrFun hσ 0
    have h1_4 := congrFun hσ 1
    have h7_4 := congrFun hσ 7
    have h8_4 := congrFun hσ 8
    have h9_4 := congrFun hσ 9
    simp [h0_3, h1_3, h7_3, h8_3] at h0_4 h1_4 h7_4 h8_4 h9_4
    clear hσ
    replace hH : H = H4 := Eq.symm hH
    subst hH
    refine awp_seq ?_
    refine awp_cond _ (by simp only [aeval_tmp]; exact h9_4) (fun hc9 => ?_) (fun hc9 => ?_)
    · try simp at hc9
      have hlt : i < es.length := by simpa using hc9
      have hge : (es.map encE)[i]? = some (encE es[i]) := by simp [hlt]
      refine awp_skip ?_
      refine q_seq ?_
      refine awp_seq ?_
      refine awp_block ?_
      refine stp_reg TT_ok (by rfl) fun K hK => ?_
      simp [h8_4]
      try refine And.intro (by first | omega | rfl) ?_
      refine hK _ _ fun σ5 hσ H5 hH => ?_
      clear hK K
      have h0_5 := congrFun hσ 0
      have h1_5 := congrFun hσ 1
      have h5_5 := congrFun hσ 5
      have h7_5 := congrFun hσ 7
      have h8_5 := congrFun hσ 8
      simp [h0_4, h1_4, h7_4, h8_4] at h0_5 h1_5 h5_5 h7_5 h8_5
      clear hσ
      replace hH : H = H5 := Eq.symm hH
      subst hH
      refine stp_reg TT_ok (by rfl) fun K hK => ?_
      simp [h0_5, h1_5, h5_5, hge, hlt, encE]
      try refine And.intro (by first | omega | rfl) ?_
      refine stp_call (hp es[i] (List.getElem_mem hlt)) ?_
      simp [h0_5, h1_5, h5_5, hge, hlt, encE]
      try refine And.intro (by first | omega | rfl) ?_
      refine hK _ _ fun σ6 hσ H6 hH => ?_
      clear hK K
      have h0_6 := congrFun hσ 0
      have h1_6 := congrFun hσ 1
      have h5_6 := congrFun hσ 5
      have h7_6 := congrFun hσ 7
      have h8_6 := congrFun hσ 8
      have h16_6 := congrFun hσ 16
      simp [h0_5, h1_5, h5_5, h7_5, h8_5] at h0_6 h1_6 h5_6 h7_6 h8_6 h16_6
      clear hσ
      replace hH : H = H6 := Eq.symm hH
      subst hH
      refine awp_cond _ (by simp only [aeval_tmp]; exact h16_6) (fun hc16 => ?_) (fun hc16 => ?_)
      · try simp at hc16
        refine stp_reg TT_ok (by rfl) fun K hK => ?_
        simp [h5_6]
        try refine And.intro (by first | omega | rfl) ?_
        refine hK _ _ fun σ7 hσ H7 hH => ?_
        clear hK K
        have h4_7 := congrFun hσ 4
        simp [] at h4_7
        clear hσ
        replace hH : H = H7 := Eq.symm hH
        subst hH
        refine awp_ret ?_
        refine q_block_ret ?_
        refine q_seq_ret ?_
        refine q_loop_ret ?_
        refine q_block_ret ?_
        refine q_seq_ret ?_
        refine q_fin1 h4_7 ?_
        rw [idxOf_at hlt p2 hc16]
      · try simp at hc16
        refine awp_skip ?_
        refine q_block ?_
        refine q_seq ?_
        refine stp_regl TT_ok (by rfl) fun K hK => ?_
        simp [h8_6, wrap_ok (n := (i : Int) + 1) (by omega) (by omega)]
        try refine And.intro (by first | omega | rfl) ?_
        refine hK _ _ fun σ8 hσ H8 hH => ?_
        clear hK K
        have h0_8 := congrFun hσ 0
        have h1_8 := congrFun hσ 1
        have h7_8 := congrFun hσ 7
        have h8_8 := congrFun hσ 8
        simp [h0_6, h1_6, h7_6] at h0_8 h1_8 h7_8 h8_8
        clear hσ
        replace hH : H = H8 := Eq.symm hH
        subst hH
        refine ⟨_, ?_, i + 1, rfl, (h0_8.trans h0_2.symm), (h1_8.trans h1_2.symm), (by simp [h7_8]), (by simp [h8_8]), rfl, ?_, ?_⟩
        · subst hn1; omega
        · first | omega | assumption | (simp; done)
        · exact any_take_succ hlt p2 hc16
    · try simp at hc9
      refine awp_exit ?_
      refine q_seq_exit ?_
      refine q_loop_exit ?_
      refine q_block_hit ?_
      refine q_seq ?_
      refine stp_reg TT_ok (by rfl) fun K hK => ?_
      simp []
      try refine And.intro (by first | omega | rfl) ?_
      refine hK _ _ fun σ9 hσ H9 hH => ?_
      clear hK K
      have h4_9 := congrFun hσ 4
      simp [] at h4_9
      clear hσ
      replace hH : H = H9 := Eq.symm hH
      subst hH
      refine awp_ret ?_
      refine q_fin1 h4_9 ?_
      have : i = es.length := by have := hc9; omega
      subst this
      rw [List.take_length] at p2
      rw [idxOf_none p2]
theorem indexFuncE_ok (es : List (Int × Int)) (f : FuncId) (caps : List AV) (p : (Int × Int) → Bool) (hp : ∀ e ∈ es, Fun1 Try.prog f (encE e :: caps) (.bool (p e))) (hl : es.length ≤ 1000000) (hc : ∀ c ∈ caps, Pu c) : Fun1 Try.prog 59 [.ro (es.map encE), .fn f caps] (.int .i64 (idxOf p es)) :=
  fun1_pure (indexFuncE0 es f caps p hp hl) (pu_cons (.ro fun v hv => by obtain ⟨x, _, rfl⟩ := List.mem_map.1 hv; exact pu_edge _) (pu_cons (.fn hc) pu_nil)) (.int _ _)
theorem indexFuncE_w (es : List (Int × Int)) (f : FuncId) (caps : List AV) (p : (Int × Int) → Bool) (hp : ∀ e ∈ es, Fun1 Try.prog f (encE e :: caps) (.bool (p e))) (hl : es.length ≤ 1000000) (hc : ∀ c ∈ caps, Pu c) : FunW Try.prog 59 [.ro (es.map encE), .fn f caps] (.int .i64 (idxOf p es)) :=
  funW_pure (indexFuncE0 es f caps p hp hl) (pu_cons (.ro fun v hv => by obtain ⟨x, _, rfl⟩ := List.mem_map.1 hv; exact pu_edge _) (pu_cons (.fn hc) pu_nil)) (.int _ _) (.int _ _)

set_option maxHeartbeats 1000000 in
theorem containsFuncE0 (es : List (Int × Int)) (f : FuncId) (caps : List AV) (p : (Int × Int) → Bool) (hp : ∀ e ∈ es, Fun1 Try.prog f (encE e :: caps) (.bool (p e))) (hl : es.length ≤ 1000000) (hc : ∀ c ∈ caps, Pu c) : ACalls Try.prog 34 [.ro (es.map encE), .fn f caps] AHeap.nil (fun r _ => r = .bool (es.any p)) := by
  refine acalls_body TT_ok Try.func34 rfl rfl (by simp [Try.ntmps34]) ?_
  rw [Try.ntmps34]
  obtain ⟨σ, hσ⟩ : ∃ σ, σ = st0 [.ro (es.map encE), .fn f caps] := ⟨_, rfl⟩
  rw [← hσ]
  have h0_0 := congrFun hσ 0
  simp [st0] at h0_0
  have h1_0 := congrFun hσ 1
  simp [st0] at h1_0
  clear hσ
  obtain ⟨H, hH⟩ : ∃ H, H = AHeap.nil := ⟨_, rfl⟩
  rw [← hH]
  have hn_0 : H.n = 0 := by rw [hH]; rfl
  have hst_0 : H.st = 1 := by rw [hH]; rfl
  clear hH
  refine stp_reg TT_ok (by rfl) fun K hK => ?_
  simp []
  try refine And.intro (by first | omega | rfl) ?_
  refine hK _ _ fun σ1 hσ H1 hH => ?_
  clear hK K
  have h0_1 := congrFun hσ 0
  have h1_1 := congrFun hσ 1
  simp [h0_0, h1_0] at h0_1 h1_1
  clear hσ
  replace hH : H = H1 := Eq.symm hH
  subst hH
  refine stp_reg TT_ok (by rfl) fun K hK => ?_
  simp [h0_1, h1_1]
  try refine And.intro (by first | omega | rfl) ?_
  refine stp_call (indexFuncE_ok es f caps p hp hl hc) ?_
  simp [h0_1, h1_1]
  try refine And.intro (by first | omega | rfl) ?_
  refine hK _ _ fun σ2 hσ H2 hH => ?_
  clear hK K
  have h4_2 := congrFun hσ 4
  simp [] at h4_2
  clear hσ
  replace hH : H = H2 := Eq.symm hH
  subst hH
  refine awp_ret ?_
  refine q_fin1 h4_2 ?_
  rw [idxOf_nonneg]
theorem containsFuncE_ok (es : List (Int × Int)) (f : FuncId) (caps : List AV) (p : (Int × Int) → Bool) (hp : ∀ e ∈ es, Fun1 Try.prog f (encE e :: caps) (.bool (p e))) (hl : es.length ≤ 1000000) (hc : ∀ c ∈ caps, Pu c) : Fun1 Try.prog 34 [.ro (es.map encE), .fn f caps] (.bool (es.any p)) :=
  fun1_pure (containsFuncE0 es f caps p hp hl hc) (pu_cons (.ro fun v hv => by obtain ⟨x, _, rfl⟩ := List.mem_map.1 hv; exact pu_edge _) (pu_cons (.fn hc) pu_nil)) (.bool _)
theorem containsFuncE_w (es : List (Int × Int)) (f : FuncId) (caps : List AV) (p : (Int × Int) → Bool) (hp : ∀ e ∈ es, Fun1 Try.prog f (encE e :: caps) (.bool (p e))) (hl : es.length ≤ 1000000) (hc : ∀ c ∈ caps, Pu c) : FunW Try.prog 34 [.ro (es.map encE), .fn f caps] (.bool (es.any p)) :=
  funW_pure (containsFuncE0 es f caps p hp hl hc) (pu_cons (.ro fun v hv => by obtain ⟨x, _, rfl⟩ := List.mem_map.1 hv; exact pu_edge _) (pu_cons (.fn hc) pu_nil)) (.bool _) (.bool _)

set_option maxHeartbeats 1000000 in
theorem indexFuncI0 (es : List Int) (f : FuncId) (caps : List AV) (p : Int → Bool) (hp : ∀ e ∈ es, Fun1 Try.prog f ((AV.int .i64) e :: caps) (.bool (p e))) (hl : es.length ≤ 1000000) : ACalls Try.prog 71 [.ro (es.map (AV.int .i64)), .fn f caps] AHeap.nil (fun r _ => r = .int .i64 (idxOf p es)) := by
  refine acalls_body TT_ok Try.func71 rfl rfl (by simp [Try.ntmps71]) ?_
  rw [Try.ntmps71]
  obtain ⟨σ, hσ⟩ : ∃ σ, σ = st0 [.ro (es.map (AV.int .i64)), .fn f caps] := ⟨_, rfl⟩
  rw [← hσ]
  have h0_0 := congrFun hσ 0
  simp [st0] at h0_0
  have h1_0 := congrFun hσ 1
  simp [st0] at h1_0
  clear hσ
  obtain ⟨H, hH⟩ : ∃ H, H = AHeap.nil := ⟨_, rfl⟩
  rw [← hH]
  have hn_0 : H.n = 0 := by rw [hH]; rfl
  have hst_0 : H.st = 1 := by rw [hH]; rfl
  clear hH
  refine stp_reg TT_ok (by rfl) fun K hK => ?_
  simp []
  try refine And.intro (by first | omega | rfl) ?_
  refine hK _ _ fun σ1 hσ H1 hH => ?_
  clear hK K
  have h0_1 := congrFun hσ 0
  have h1_1 := congrFun hσ 1
  simp [h0_0, h1_0] at h0_1 h1_1
  clear hσ
  replace hH : H = H1 := Eq.symm hH
  subst hH
  refine awp_seq ?_
  refine stp_reg TT_ok (by rfl) fun K hK => ?_
  simp [h0_1]
  try refine And.intro (by first | omega | rfl) ?_
  refine hK _ _ fun σ2 hσ H2 hH => ?_
  clear hK K
  have h0_2 := congrFun hσ 0
  have h1_2 := congrFun hσ 1
  have h7_2 := congrFun hσ 7
  have h8_2 := congrFun hσ 8
  simp [h0_1, h1_1] at h0_2 h1_2 h7_2 h8_2
  clear hσ
  replace hH : H = H2 := Eq.symm hH
  subst hH
  refine awp_block ?_
  refine awp_loopV (fun n σ' H' => ∃ (i : Nat), n = es.length - i ∧ σ' 0 = σ2 0 ∧ σ' 1 = σ2 1 ∧ σ' 7 = .int .i64 es.length ∧ σ' 8 = .int .i64 i ∧ H' = H ∧ (i ≤ es.length) ∧ ((es.take i).any p = false)) ?_ ?_
  · refine ⟨_, 0, rfl, rfl, rfl, (by simp [h7_2]), (by simp [h8_2]), rfl, ?_, ?_⟩
    · first | omega | (simp; done) | assumption
    · first | omega | (simp; done) | assumption
  · rintro n1 σ3 H3 ⟨i, hn1, q0_3, q1_3, h7_3, h8_3, hHq, p1, p2⟩
    have h0_3 := q0_3.trans h0_2
    have h1_3 := q1_3.trans h1_2
    replace hHq := hHq.symm
    subst hHq
    refine stp_reg TT_ok (by rfl) fun K hK => ?_
    simp [h7_3, h8_3]
    try refine And.intro (by first | omega | rfl) ?_
    refine hK _ _ fun σ4 hσ H4 hH => ?_
    clear hK K
    have h0_4 := congrFun hσ 0
    have h1_4 := congrFun hσ 1
    have h7_4 := congrFun hσ 7
    have h8_4 := congrFun hσ 8
    have h9_4 := congrFun hσ 9
    simp [h0_3, h1_3, h7_3, h8_3] at h0_4 h1_4 h7_4 h8_4 h9_4
    clear hσ
    replace hH : H = H4 := Eq.symm hH
    subst hH
    refine awp_seq ?_
    refine awp_cond _ (by simp only [aeval_tmp]; exact h9_4) (fun hc9 => ?_) (fun hc9 => ?_)
    · try simp at hc9
      have hlt : i < es.length := by simpa using hc9
      have hge : (es.map (AV.int .i64))[i]? = some ((AV.int .i64) es[i]) := by simp [hlt]
      refine awp_skip ?_
      refine q_seq ?_
      refine awp_seq ?_
      refine awp_block ?_
      refine stp_reg TT_ok (by rfl) fun K hK => ?_
      simp [h8_4]
      try refine And.intro (by first | omega | rfl) ?_
      refine hK _ _ fun σ5 hσ H5 hH => ?_
      clear hK K
      have h0_5 := congrFun hσ 0
      have h1_5 := congrFun hσ 1
      have h5_5 := congrFun hσ 5
      have h7_5 := congrFun hσ 7
      have h8_5 := congrFun hσ 8
      simp [h0_4, h1_4, h7_4, h8_4] at h0_5 h1_5 h5_5 h7_5 h8_5
      clear hσ
      replace hH : H = H5 := Eq.symm hH
      subst hH
      refine stp_reg TT_ok (by rfl) fun K hK => ?_
      simp [h0_5, h1_5, h5_5, hge, hlt]
      try refine And.intro (by first | omega | rfl) ?_
      refine stp_call (hp es[i] (List.getElem_mem hlt)) ?_
      simp [h0_5, h1_5, h5_5, hge, hlt]
      try refine And.intro (by first | omega | rfl) ?_
      refine hK _ _ fun σ6 hσ H6 hH => ?_
      clear hK K
      have h0_6 := congrFun hσ 0
      have h1_6 := congrFun hσ 1
      have h5_6 := congrFun hσ 5
      have h7_6 := congrFun hσ 7
      have h8_6 := congrFun hσ 8
      have h16_6 := congrFun hσ 16
      simp [h0_5, h1_5, h5_5, h7_5, h8_5] at h0_6 h1_6 h5_6 h7_6 h8_6 h16_6
      clear hσ
      replace hH : H = H6 := Eq.symm hH
      subst hH
      refine awp_cond _ (by simp only [aeval_tmp]; exact h16_6) (fun hc16 => ?_) (fun hc16 => ?_)
      · try simp at hc16
        refine stp_reg TT_ok (by rfl) fun K hK => ?_
        simp [h5_6]
        try refine And.intro (by first | omega | rfl) ?_
        refine hK _ _ fun σ7 hσ H7 hH => ?_
        clear hK K
        have h4_7 := congrFun hσ 4
        simp [] at h4_7
        clear hσ
        replace hH : H = H7 := Eq.symm hH
        subst hH
        refine awp_ret ?_
        refine q_block_ret ?_
        refine q_seq_ret ?_
        refine q_loop_ret ?_
        refine q_block_ret ?_
        refine q_seq_ret ?_
        refine q_fin1 h4_7 ?_
        rw [idxOf_at hlt p2 hc16]
      · try simp at hc16
        refine awp_skip ?_
        refine q_block ?_
        refine q_seq ?_
        refine stp_regl TT_ok (by rfl) fun K hK => ?_
        simp [h8_6, wrap_ok (n := (i : Int) + 1) (by omega) (by omega)]
        try refine And.intro (by first | omega | rfl) ?_
        refine hK _ _ fun σ8 hσ H8 hH => ?_
        clear hK K
        have h0_8 := congrFun hσ 0
        have h1_8 := congrFun hσ 1
        have h7_8 := congrFun hσ 7
        have h8_8 := congrFun hσ 8
        simp [h0_6, h1_6, h7_6] at h0_8 h1_8 h7_8 h8_8
        clear hσ
        replace hH : H = H8 := Eq.symm hH
        subst hH
        refine ⟨_, ?_, i + 1, rfl, (h0_8.trans h0_2.symm), (h1_8.trans h1_2.symm), (by simp [h7_8]), (by simp [h8_8]), rfl, ?_, ?_⟩
        · subst hn1; omega
        · first | omega | assumption | (simp; done)
        · exact any_take_succ hlt p2 hc16
    · try simp at hc9
      refine awp_exit ?_
      refine q_seq_exit ?_
      refine q_loop_exit ?_
      refine q_block_hit ?_
      refine q_seq ?_
      refine stp_reg TT_ok (by rfl) fun K hK => ?_
      simp []
      try refine And.intro (by first | omega | rfl) ?_
      refine hK _ _ fun σ9 hσ H9 hH => ?_
      clear hK K
      have h4_9 := congrFun hσ 4
      simp [] at h4_9
      clear hσ
      replace hH : H = H9 := Eq.symm hH
      subst hH
      refine awp_ret ?_
      refine q_fin1 h4_9 ?_
      have : i = es.length := by have := hc9; omega
      subst this
      rw [List.take_length] at p2
      rw [idxOf_none p2]
theorem indexFuncI_ok (es : List Int) (f : FuncId) (caps : List AV) (p : Int → Bool) (hp : ∀ e ∈ es, Fun1 Try.prog f ((AV.int .i64) e :: caps) (.bool (p e))) (hl : es.length ≤ 1000000) (hc : ∀ c ∈ caps, Pu c) : Fun1 Try.prog 71 [.ro (es.map (AV.int .i64)), .fn f caps] (.int .i64 (idxOf p es)) :=
  fun1_pure (indexFuncI0 es f caps p hp hl) (pu_cons (.ro fun v hv => by obtain ⟨x, _, rfl⟩ := List.mem_map.1 hv; exact pu_int _ _) (pu_cons (.fn hc) pu_nil)) (.int _ _)
theorem indexFuncI_w (es : List Int) (f : FuncId) (caps : List AV) (p : Int → Bool) (hp : ∀ e ∈ es, Fun1 Try.prog f ((AV.int .i64) e :: caps) (.bool (p e))) (hl : es.length ≤ 1000000) (hc : ∀ c ∈ caps, Pu c) : FunW Try.prog 71 [.ro (es.map (AV.int .i64)), .fn f caps] (.int .i64 (idxOf p es)) :=
  funW_pure (indexFuncI0 es f caps p hp hl) (pu_cons (.ro fun v hv => by obtain ⟨x, _, rfl⟩ := List.mem_map.1 hv; exact pu_int _ _) (pu_cons (.fn hc) pu_nil)) (.int _ _) (.int _ _)

set_option maxHeartbeats 1000000 in
theorem containsFuncI0 (es : List Int) (f : FuncId) (caps : List AV) (p : Int → Bool) (hp : ∀ e ∈ es, Fun1 Try.prog f ((AV.int .i64) e :: caps) (.bool (p e))) (hl : es.length ≤ 1000000) (hc : ∀ c ∈ caps, Pu c) : ACalls Try.prog 61 [.ro (es.map (AV.int .i64)), .fn f caps] AHeap.nil (fun r _ => r = .bool (es.any p)) := by
  refine acalls_body TT_ok Try.func61 rfl rfl (by simp [Try.ntmps61]) ?_
  rw [Try.ntmps61]
  obtain ⟨σ, hσ⟩ : ∃ σ, σ = st0 [.ro (es.map (AV.int .i64)), .fn f caps] := ⟨_, rfl⟩
  rw [← hσ]
  have h0_0 := congrFun hσ 0
  simp [st0] at h0_0
  have h1_0 := congrFun hσ 1
  simp [st0] at h1_0
  clear hσ
  obtain ⟨H, hH⟩ : ∃ H, H = AHeap.nil := ⟨_, rfl⟩
  rw [← hH]
  have hn_0 : H.n = 0 := by rw [hH]; rfl
  have hst_0 : H.st = 1 := by rw [hH]; rfl
  clear hH
  refine stp_reg TT_ok (by rfl) fun K hK => ?_
  simp []
  try refine And.intro (by first | omega | rfl) ?_
  refine hK _ _ fun σ1 hσ H1 hH => ?_
  clear hK K
  have h0_1 := congrFun hσ 0
  have h1_1 := congrFun hσ 1
  simp [h0_0, h1_0] at h0_1 h1_1
  clear hσ
  replace hH : H = H1 := Eq.symm hH
  subst hH
  refine stp_reg TT_ok (by rfl) fun K hK => ?_
  simp [h0_1, h1_1]
  try refine And.intro (by first | omega | rfl) ?_
  refine stp_call (indexFuncI_ok es f caps p hp hl hc) ?_
  simp [h0_1, h1_1]
  try refine And.intro (by first | omega | rfl) ?_
  refine hK _ _ fun σ2 hσ H2 hH => ?_
  clear hK K
  have h4_2 := congrFun hσ 4
  simp [] at h4_2
  clear hσ
  replace hH : H = H2 := Eq.symm hH
  subst hH
  refine awp_ret ?_
  refine q_fin1 h4_2 ?_
  rw [idxOf_nonneg]
theorem containsFuncI_ok (es : List Int) (f : FuncId) (caps : List AV) (p : Int → Bool) (hp : ∀ e ∈ es, Fun1 Try.prog f ((AV.int .i64) e :: caps) (.bool (p e))) (hl : es.length ≤ 1000000) (hc : ∀ c ∈ caps, Pu c) : Fun1 Try.prog 61 [.ro (es.map (AV.int .i64)), .fn f caps] (.bool (es.any p)) :=
  fun1_pure (containsFuncI0 es f caps p hp hl hc) (pu_cons (.ro fun v hv => by obtain ⟨x, _, rfl⟩ := List.mem_map.1 hv; exact pu_int _ _) (pu_cons (.fn hc) pu_nil)) (.bool _)
theorem containsFuncI_w (es : List Int) (f : FuncId) (caps : List AV) (p : Int → Bool) (hp : ∀ e ∈ es, Fun1 Try.prog f ((AV.int .i64) e :: caps) (.bool (p e))) (hl : es.length ≤ 1000000) (hc : ∀ c ∈ caps, Pu c) : FunW Try.prog 61 [.ro (es.map (AV.int .i64)), .fn f caps] (.bool (es.any p)) :=
  funW_pure (containsFuncI0 es f caps p hp hl hc) (pu_cons (.ro fun v hv => by obtain ⟨x, _, rfl⟩ := List.mem_map.1 hv; exact pu_int _ _) (pu_cons (.fn hc) pu_nil)) (.bool _) (.bool _)

/-- The graph as a closure sees it. -/
def capG (g : Gr) : AV := .rop [.ro (g.nodes.map .str), .ro (g.edges.map encE)]
theorem pu_capG (g : Gr) : Pu (capG g) := .rop fun v hv => by
  simp only [List.mem_cons, List.not_mem_nil, or_false] at hv
  rcases hv with rfl | rfl
  · exact .ro fun v hv => by obtain ⟨x, _, rfl⟩ := List.mem_map.1 hv; exact .str _
  · exact .ro fun v hv => by obtain ⟨x, _, rfl⟩ := List.mem_map.1 hv; exact pu_edge _

set_option maxHeartbeats 1000000 in
theorem valid1_0 (g : Gr) (i : Int) : ACalls Try.prog 51 [(AV.int IntKind.i64) i, capG g] AHeap.nil (fun r _ => r = .bool (decide (0 ≤ i ∧ i < g.nodes.length))) := by
  refine acalls_body TT_ok Try.func51 rfl rfl (by simp [Try.ntmps51]) ?_
  rw [Try.ntmps51]
  obtain ⟨σ, hσ⟩ : ∃ σ, σ = st0 [(AV.int IntKind.i64) i, capG g] := ⟨_, rfl⟩
  rw [← hσ]
  have h0_0 := congrFun hσ 0
  simp [st0] at h0_0
  have h1_0 := congrFun hσ 1
  simp [st0] at h1_0
  clear hσ
  obtain ⟨H, hH⟩ : ∃ H, H = AHeap.nil := ⟨_, rfl⟩
  rw [← hH]
  have hn_0 : H.n = 0 := by rw [hH]; rfl
  have hst_0 : H.st = 1 := by rw [hH]; rfl
  clear hH
  refine stp_reg TT_ok (by rfl) fun K hK => ?_
  simp [capG]
  try refine And.intro (by first | omega | rfl) ?_
  refine hK _ _ fun σ1 hσ H1 hH => ?_
  clear hK K
  have h0_1 := congrFun hσ 0
  have h1_1 := congrFun hσ 1
  simp [h0_0, h1_0] at h0_1 h1_1
  clear hσ
  replace hH : H = H1 := Eq.symm hH
  subst hH
  by_cases hs : 0 ≤ i
  · skip
    refine stp_reg TT_ok (by rfl) fun K hK => ?_
    simp [h0_1, h1_1, hs, capG]
    try refine And.intro (by first | omega | rfl) ?_
    refine hK _ _ fun σ2 hσ H2 hH => ?_
    clear hK K
    have h3_2 := congrFun hσ 3
    simp [] at h3_2
    clear hσ
    replace hH : H = H2 := Eq.symm hH
    subst hH
    refine awp_ret ?_
    refine q_fin1 h3_2 ?_
    simp [hs]
  · skip
    refine stp_reg TT_ok (by rfl) fun K hK => ?_
    simp [h0_1, h1_1, hs, capG]
    try refine And.intro (by first | omega | rfl) ?_
    refine hK _ _ fun σ3 hσ H3 hH => ?_
    clear hK K
    have h3_3 := congrFun hσ 3
    simp [] at h3_3
    clear hσ
    replace hH : H = H3 := Eq.symm hH
    subst hH
    refine awp_ret ?_
    refine q_fin1 h3_3 ?_
    have : ¬ (0 ≤ i ∧ i < g.nodes.length) := by omega
    simp [this]

theorem valid1_ok (g : Gr) (i : Int) : Fun1 Try.prog 51 [(AV.int IntKind.i64) i, capG g] (.bool (decide (0 ≤ i ∧ i < g.nodes.length))) :=
  fun1_pure (valid1_0 g i) (pu_cons (pu_int _ _) (pu_cons (pu_capG g) pu_nil)) (.bool _)
def capV (g : Gr) : AV := .rop [.fn 51 [capG g]]
theorem pu_capV (g : Gr) : Pu (capV g) := .rop (pu_cons (.fn (pu_cons (pu_capG g) pu_nil)) pu_nil)

set_option maxHeartbeats 1000000 in
theorem valid2_0 (g : Gr) (e : Int × Int) : ACalls Try.prog 52 [encE e, capV g] AHeap.nil (fun r _ => r = .bool (!okE g.nodes.length e)) := by
  refine acalls_body TT_ok Try.func52 rfl rfl (by simp [Try.ntmps52]) ?_
  rw [Try.ntmps52]
  obtain ⟨σ, hσ⟩ : ∃ σ, σ = st0 [encE e, capV g] := ⟨_, rfl⟩
  rw [← hσ]
  have h0_0 := congrFun hσ 0
  simp [st0] at h0_0
  have h1_0 := congrFun hσ 1
  simp [st0] at h1_0
  clear hσ
  obtain ⟨H, hH⟩ : ∃ H, H = AHeap.nil := ⟨_, rfl⟩
  rw [← hH]
  have hn_0 : H.n = 0 := by rw [hH]; rfl
  have hst_0 : H.st = 1 := by rw [hH]; rfl
  clear hH
  refine stp_reg TT_ok (by rfl) fun K hK => ?_
  simp [h0_0, hn_0, hst_0, encE, capV]
  try refine And.intro (by first | omega | rfl) ?_
  refine hK _ _ fun σ1 hσ H1 hH => ?_
  clear hK K
  have h1_1 := congrFun hσ 1
  have h2_1 := congrFun hσ 2
  simp [h1_0] at h1_1 h2_1
  clear hσ
  have g0_1 := gt_of hH 0
  simp [hn_0, hst_0] at g0_1
  have hn_1 := congrArg AHeap.n hH
  simp [hn_0, hst_0] at hn_1
  have hst_1 := congrArg AHeap.st hH
  simp [hn_0, hst_0] at hst_1
  clear hH
  by_cases hs : (0 ≤ e.1 ∧ e.1 < g.nodes.length)
  · skip
    refine stp_reg TT_ok (by rfl) fun K hK => ?_
    simp [h1_1, h2_1, g0_1, hs, encE, capV]
    try refine And.intro (by first | omega | rfl) ?_
    refine stp_call (valid1_ok g e.1) ?_
    simp [h1_1, h2_1, g0_1, hs, encE, capV]
    try refine And.intro (by first | omega | rfl) ?_
    refine stp_call (valid1_ok g e.2) ?_
    simp [h1_1, h2_1, g0_1, hs, encE, capV]
    try refine And.intro (by first | omega | rfl) ?_
    refine hK _ _ fun σ2 hσ H2 hH => ?_
    clear hK K
    have h3_2 := congrFun hσ 3
    simp [] at h3_2
    clear hσ
    replace hH : H1 = H2 := Eq.symm hH
    subst hH
    refine awp_ret ?_
    refine q_fin1 h3_2 ?_
    obtain ⟨a, b⟩ := hs
    simp [okE, a, b]
  · skip
    refine stp_reg TT_ok (by rfl) fun K hK => ?_
    simp [h1_1, h2_1, g0_1, hs, encE, capV]
    try refine And.intro (by first | omega | rfl) ?_
    refine stp_call (valid1_ok g e.1) ?_
    simp [h1_1, h2_1, g0_1, hs, encE, capV]
    try refine And.intro (by first | omega | rfl) ?_
    refine hK _ _ fun σ3 hσ H3 hH => ?_
    clear hK K
    have h3_3 := congrFun hσ 3
    simp [] at h3_3
    clear hσ
    replace hH : H1 = H3 := Eq.symm hH
    subst hH
    refine awp_ret ?_
    refine q_fin1 h3_3 ?_
    have : okE g.nodes.length e = false := by simp only [okE, decide_eq_false_iff_not]; omega
    simp [this]

theorem valid2_ok (g : Gr) (e : Int × Int) : Fun1 Try.prog 52 [encE e, capV g] (.bool (!okE g.nodes.length e)) :=
  fun1_pure (valid2_0 g e) (pu_cons (pu_edge _) (pu_cons (pu_capV g) pu_nil)) (.bool _)

theorem frz_g {H : AHeap} {id k sz : Nat} {e : TypeId} {g : Gr} (hb : H.get id = some (.row e sz k [.agg [.ro (g.nodes.map .str), .ro (g.edges.map encE)]])) : Frz H (.ptr id k 0 0) (capG g) :=
  frz_box hb (FrzL.cons (.pure (pu_strs _)) (FrzL.cons (.pure (pu_edges _)) (FrzL.nil _))) (by simp [AV.one])
theorem frz_v {H : AHeap} {id id' k k' sz : Nat} {e : TypeId} {g : Gr} (hb : Frz H (.ptr id k 0 0) (capG g)) (hb' : H.get id' = some (.row e sz k' [.fn 51 [.ptr id k 0 0]])) : Frz H (.ptr id' k' 0 0) (capV g) :=
  frz_box hb' (FrzL.cons (frz_fn (FrzL.cons hb (FrzL.nil _))) (FrzL.nil _)) (by simp [AV.one])

set_option maxHeartbeats 1000000 in
theorem valid0 (g : Gr) : ACalls Try.prog 19 [encG g] AHeap.nil (fun r _ => r = .bool g.valid) := by
  refine acalls_body TT_ok Try.func19 rfl rfl (by simp [Try.ntmps19]) ?_
  rw [Try.ntmps19]
  obtain ⟨σ, hσ⟩ : ∃ σ, σ = st0 [encG g] := ⟨_, rfl⟩
  rw [← hσ]
  have h0_0 := congrFun hσ 0
  simp [st0] at h0_0
  clear hσ
  obtain ⟨H, hH⟩ : ∃ H, H = AHeap.nil := ⟨_, rfl⟩
  rw [← hH]
  have hn_0 : H.n = 0 := by rw [hH]; rfl
  have hst_0 : H.st = 1 := by rw [hH]; rfl
  clear hH
  refine stp_reg TT_ok (by rfl) fun K hK => ?_
  simp [h0_0, hn_0, hst_0, encG]
  try refine And.intro (by first | omega | rfl) ?_
  refine hK _ _ fun σ1 hσ H1 hH => ?_
  clear hK K
  have h1_1 := congrFun hσ 1
  simp [] at h1_1
  clear hσ
  have g0_1 := gt_of hH 0
  simp [hn_0, hst_0] at g0_1
  have hn_1 := congrArg AHeap.n hH
  simp [hn_0, hst_0] at hn_1
  have hst_1 := congrArg AHeap.st hH
  simp [hn_0, hst_0] at hst_1
  clear hH
  refine stp_reg TT_ok (by rfl) fun K hK => ?_
  simp [h1_1, g0_1, hn_1, hst_1, encG]
  try refine And.intro (by first | omega | rfl) ?_
  refine hK _ _ fun σ2 hσ H2 hH => ?_
  clear hK K
  have h1_2 := congrFun hσ 1
  have h3_2 := congrFun hσ 3
  simp [h1_1] at h1_2 h3_2
  clear hσ
  have g0_2 := gt_of hH 0
  have g1_2 := gt_of hH 1
  simp [g0_1, hn_1, hst_1] at g0_2 g1_2
  have hn_2 := congrArg AHeap.n hH
  simp [hn_1, hst_1] at hn_2
  have hst_2 := congrArg AHeap.st hH
  simp [hn_1, hst_1] at hst_2
  clear hH
  by_cases hn1 : (g.nodes.length : Int) ≤ 1024
  · skip
    by_cases hn2 : (g.edges.length : Int) ≤ 4096
    · skip
      refine stp_reg TT_ok (by rfl) fun K hK => ?_
      simp [h1_2, h3_2, g0_2, g1_2, hn1, hn2, encG]
      try refine And.intro (by first | omega | rfl) ?_
      refine FunW.at (containsFuncE_w g.edges 52 [capV g] (fun e => !okE g.nodes.length e) (fun e _ => valid2_ok g e) (by omega) (pu_cons (pu_capV g) pu_nil)) ?hf ?_
      case hf => exact FrzL.cons (.pure (pu_edges _)) (FrzL.cons (frz_fn (FrzL.cons (frz_v (frz_g g0_2) g1_2) (FrzL.nil _))) (FrzL.nil _))
      simp [h1_2, h3_2, g0_2, g1_2, hn1, hn2, encG]
      try refine And.intro (by first | omega | rfl) ?_
      refine hK _ _ fun σ3 hσ H3 hH => ?_
      clear hK K
      have h2_3 := congrFun hσ 2
      simp [] at h2_3
      clear hσ
      replace hH : H2 = H3 := Eq.symm hH
      subst hH
      refine awp_ret ?_
      refine q_fin1 h2_3 ?_
      have h1 : g.nodes.length ≤ 1024 := by omega
      have h2 : g.edges.length ≤ 4096 := by omega
      simp [Gr.valid, h1, h2, List.all_eq_not_any_not]
    · skip
      refine stp_reg TT_ok (by rfl) fun K hK => ?_
      simp [h1_2, h3_2, g0_2, g1_2, hn1, hn2, encG]
      try refine And.intro (by first | omega | rfl) ?_
      refine hK _ _ fun σ4 hσ H4 hH => ?_
      clear hK K
      have h2_4 := congrFun hσ 2
      simp [] at h2_4
      clear hσ
      replace hH : H2 = H4 := Eq.symm hH
      subst hH
      refine awp_ret ?_
      refine q_fin1 h2_4 ?_
      have : ¬ g.edges.length ≤ 4096 := by omega
      simp [Gr.valid, this]
  · skip
    refine stp_reg TT_ok (by rfl) fun K hK => ?_
    simp [h1_2, h3_2, g0_2, g1_2, hn1, encG]
    try refine And.intro (by first | omega | rfl) ?_
    refine hK _ _ fun σ5 hσ H5 hH => ?_
    clear hK K
    have h2_5 := congrFun hσ 2
    simp [] at h2_5
    clear hσ
    replace hH : H2 = H5 := Eq.symm hH
    subst hH
    refine awp_ret ?_
    refine q_fin1 h2_5 ?_
    have : ¬ g.nodes.length ≤ 1024 := by omega
    simp [Gr.valid, this]

theorem valid_ok (g : Gr) : Fun1 Try.prog 19 [encG g] (.bool g.valid) := fun1_pure (valid0 g) (pu_cons (pu_graph _) pu_nil) (.bool _)

set_option maxHeartbeats 1000000 in
theorem exist1_0 (g : Gr) (i : Int) : ACalls Try.prog 62 [(AV.int IntKind.i64) i, capG g] AHeap.nil (fun r _ => r = .bool (!decide (0 ≤ i ∧ i < g.nodes.length))) := by
  refine acalls_body TT_ok Try.func62 rfl rfl (by simp [Try.ntmps62]) ?_
  rw [Try.ntmps62]
  obtain ⟨σ, hσ⟩ : ∃ σ, σ = st0 [(AV.int IntKind.i64) i, capG g] := ⟨_, rfl⟩
  rw [← hσ]
  have h0_0 := congrFun hσ 0
  simp [st0] at h0_0
  have h1_0 := congrFun hσ 1
  simp [st0] at h1_0
  clear hσ
  obtain ⟨H, hH⟩ : ∃ H, H = AHeap.nil := ⟨_, rfl⟩
  rw [← hH]
  have hn_0 : H.n = 0 := by rw [hH]; rfl
  have hst_0 : H.st = 1 := by rw [hH]; rfl
  clear hH
  refine stp_reg TT_ok (by rfl) fun K hK => ?_
  simp [capG]
  try refine And.intro (by first | omega | rfl) ?_
  refine hK _ _ fun σ1 hσ H1 hH => ?_
  clear hK K
  have h0_1 := congrFun hσ 0
  have h1_1 := congrFun hσ 1
  simp [h0_0, h1_0] at h0_1 h1_1
  clear hσ
  replace hH : H = H1 := Eq.symm hH
  subst hH
  by_cases hs : i < 0
  · skip
    refine stp_reg TT_ok (by rfl) fun K hK => ?_
    simp [h0_1, h1_1, hs, capG]
    try refine And.intro (by first | omega | rfl) ?_
    refine hK _ _ fun σ2 hσ H2 hH => ?_
    clear hK K
    have h3_2 := congrFun hσ 3
    simp [] at h3_2
    clear hσ
    replace hH : H = H2 := Eq.symm hH
    subst hH
    refine awp_ret ?_
    refine q_fin1 h3_2 ?_
    have : ¬ (0 ≤ i ∧ i < g.nodes.length) := by omega
    simp [this]
  · skip
    refine stp_reg TT_ok (by rfl) fun K hK => ?_
    simp [h0_1, h1_1, hs, capG]
    try refine And.intro (by first | omega | rfl) ?_
    refine hK _ _ fun σ3 hσ H3 hH => ?_
    clear hK K
    have h3_3 := congrFun hσ 3
    simp [] at h3_3
    clear hσ
    replace hH : H = H3 := Eq.symm hH
    subst hH
    refine awp_ret ?_
    refine q_fin1 h3_3 ?_
    have : 0 ≤ i := by omega
    simp [this, ← Int.not_lt]

theorem exist1_ok (g : Gr) (i : Int) : Fun1 Try.prog 62 [(AV.int IntKind.i64) i, capG g] (.bool (!decide (0 ≤ i ∧ i < g.nodes.length))) :=
  fun1_pure (exist1_0 g i) (pu_cons (pu_int _ _) (pu_cons (pu_capG g) pu_nil)) (.bool _)

set_option maxHeartbeats 1000000 in
theorem exist0 (g : Gr) (l : List Int) (hl : l.length ≤ 1000000) : ACalls Try.prog 39 [encG g, .ro (l.map (AV.int IntKind.i64))] AHeap.nil (fun r _ => r = .bool (g.exist l)) := by
  refine acalls_body TT_ok Try.func39 rfl rfl (by simp [Try.ntmps39]) ?_
  rw [Try.ntmps39]
  obtain ⟨σ, hσ⟩ : ∃ σ, σ = st0 [encG g, .ro (l.map (AV.int IntKind.i64))] := ⟨_, rfl⟩
  rw [← hσ]
  have h0_0 := congrFun hσ 0
  simp [st0] at h0_0
  have h1_0 := congrFun hσ 1
  simp [st0] at h1_0
  clear hσ
  obtain ⟨H, hH⟩ : ∃ H, H = AHeap.nil := ⟨_, rfl⟩
  rw [← hH]
  have hn_0 : H.n = 0 := by rw [hH]; rfl
  have hst_0 : H.st = 1 := by rw [hH]; rfl
  clear hH
  refine stp_reg TT_ok (by rfl) fun K hK => ?_
  simp [h0_0, hn_0, hst_0, encG]
  try refine And.intro (by first | omega | rfl) ?_
  refine hK _ _ fun σ1 hσ H1 hH => ?_
  clear hK K
  have h1_1 := congrFun hσ 1
  have h2_1 := congrFun hσ 2
  simp [h1_0] at h1_1 h2_1
  clear hσ
  have g0_1 := gt_of hH 0
  simp [hn_0, hst_0] at g0_1
  have hn_1 := congrArg AHeap.n hH
  simp [hn_0, hst_0] at hn_1
  have hst_1 := congrArg AHeap.st hH
  simp [hn_0, hst_0] at hst_1
  clear hH
  by_cases hv : g.valid = true
  · skip
    refine stp_reg TT_ok (by rfl) fun K hK => ?_
    simp [h1_1, h2_1, g0_1, hv, beq_iff_eq.2 hv, encG]
    try refine And.intro (by first | omega | rfl) ?_
    refine stp_call (valid_ok g) ?_
    simp [h1_1, h2_1, g0_1, hv, beq_iff_eq.2 hv, encG]
    try refine And.intro (by first | omega | rfl) ?_
    refine FunW.at (containsFuncI_w l 62 [capG g] (fun i => !decide (0 ≤ i ∧ i < g.nodes.length)) (fun i _ => exist1_ok g i) hl (pu_cons (pu_capG g) pu_nil)) ?hf ?_
    case hf => exact FrzL.cons (.pure (pu_ints _)) (FrzL.cons (frz_fn (FrzL.cons (frz_g g0_1) (FrzL.nil _))) (FrzL.nil _))
    simp [h1_1, h2_1, g0_1, hv, beq_iff_eq.2 hv, encG]
    try refine And.intro (by first | omega | rfl) ?_
    refine hK _ _ fun σ2 hσ H2 hH => ?_
    clear hK K
    have h4_2 := congrFun hσ 4
    simp [] at h4_2
    clear hσ
    replace hH : H1 = H2 := Eq.symm hH
    subst hH
    refine awp_ret ?_
    refine q_fin1 h4_2 ?_
    simp [Gr.exist, hv, List.all_eq_not_any_not]
  · skip
    refine stp_reg TT_ok (by rfl) fun K hK => ?_
    simp [h1_1, h2_1, g0_1, hv, beq_eq_false_iff_ne.2 hv, encG]
    try refine And.intro (by first | omega | rfl) ?_
    refine stp_call (valid_ok g) ?_
    simp [h1_1, h2_1, g0_1, hv, beq_eq_false_iff_ne.2 hv, encG]
    try refine And.intro (by first | omega | rfl) ?_
    refine hK _ _ fun σ3 hσ H3 hH => ?_
    clear hK K
    have h4_3 := congrFun hσ 4
    simp [] at h4_3
    clear hσ
    replace hH : H1 = H3 := Eq.symm hH
    subst hH
    refine awp_ret ?_
    refine q_fin1 h4_3 ?_
    simp [Gr.exist, hv]

theorem exist_ok (g : Gr) (l : List Int) (hl : l.length ≤ 1000000) : Fun1 Try.prog 39 [encG g, .ro (l.map (AV.int IntKind.i64))] (.bool (g.exist l)) :=
  fun1_pure (exist0 g l hl) (pu_cons (pu_graph _) (pu_cons (pu_ints _) pu_nil)) (.bool _)
theorem exist_w (g : Gr) (l : List Int) (hl : l.length ≤ 1000000) : FunW Try.prog 39 [encG g, .ro (l.map (AV.int IntKind.i64))] (.bool (g.exist l)) :=
  funW_pure (exist0 g l hl) (pu_cons (pu_graph _) (pu_cons (pu_ints _) pu_nil)) (.bool _) (.bool _)

set_option maxHeartbeats 1000000 in
theorem cloneS_nil  : ACalls Try.prog 50 [.nils] AHeap.nil (fun r H => Frw H r (.ro [])) := by
  refine acalls_body TT_ok Try.func50 rfl rfl (by simp [Try.ntmps50]) ?_
  rw [Try.ntmps50]
  obtain ⟨σ, hσ⟩ : ∃ σ, σ = st0 [.nils] := ⟨_, rfl⟩
  rw [← hσ]
  have h0_0 := congrFun hσ 0
  simp [st0] at h0_0
  clear hσ
  obtain ⟨H, hH⟩ : ∃ H, H = AHeap.nil := ⟨_, rfl⟩
  rw [← hH]
  have hn_0 : H.n = 0 := by rw [hH]; rfl
  have hst_0 : H.st = 1 := by rw [hH]; rfl
  clear hH
  refine stp_reg TT_ok (by rfl) fun K hK => ?_
  simp []
  try refine And.intro (by first | omega | rfl) ?_
  refine hK _ _ fun σ1 hσ H1 hH => ?_
  clear hK K
  have h0_1 := congrFun hσ 0
  simp [h0_0] at h0_1
  clear hσ
  replace hH : H = H1 := Eq.symm hH
  subst hH
  refine awp_seq ?_
  refine stp_reg TT_ok (by rfl) fun K hK => ?_
  simp [h0_1]
  try refine And.intro (by first | omega | rfl) ?_
  refine hK _ _ fun σ2 hσ H2 hH => ?_
  clear hK K
  have h0_2 := congrFun hσ 0
  have h4_2 := congrFun hσ 4
  simp [h0_1] at h0_2 h4_2
  clear hσ
  replace hH : H = H2 := Eq.symm hH
  subst hH
  refine stp_true (by simp [aeval_tmp, h4_2]) ?_
  refine stp_reg TT_ok (by rfl) fun K hK => ?_
  simp []
  try refine And.intro (by first | omega | rfl) ?_
  refine hK _ _ fun σ3 hσ H3 hH => ?_
  clear hK K
  have h2_3 := congrFun hσ 2
  simp [] at h2_3
  clear hσ
  replace hH : H = H3 := Eq.symm hH
  subst hH
  refine awp_ret ?_
  refine q_seq_ret ?_
  refine q_fin1 h2_3 ?_
  exact .nils

set_option maxHeartbeats 1000000 in
theorem cloneS_roe  : ACalls Try.prog 50 [.roe] AHeap.nil (fun r H => Frw H r (.ro [])) := by
  refine acalls_body TT_ok Try.func50 rfl rfl (by simp [Try.ntmps50]) ?_
  rw [Try.ntmps50]
  obtain ⟨σ, hσ⟩ : ∃ σ, σ = st0 [.roe] := ⟨_, rfl⟩
  rw [← hσ]
  have h0_0 := congrFun hσ 0
  simp [st0] at h0_0
  clear hσ
  obtain ⟨H, hH⟩ : ∃ H, H = AHeap.nil := ⟨_, rfl⟩
  rw [← hH]
  have hn_0 : H.n = 0 := by rw [hH]; rfl
  have hst_0 : H.st = 1 := by rw [hH]; rfl
  clear hH
  refine stp_reg TT_ok (by rfl) fun K hK => ?_
  simp []
  try refine And.intro (by first | omega | rfl) ?_
  refine hK _ _ fun σ1 hσ H1 hH => ?_
  clear hK K
  have h0_1 := congrFun hσ 0
  simp [h0_0] at h0_1
  clear hσ
  replace hH : H = H1 := Eq.symm hH
  subst hH
  refine awp_seq ?_
  refine stp_reg TT_ok (by rfl) fun K hK => ?_
  simp [h0_1]
  try refine And.intro (by first | omega | rfl) ?_
  refine hK _ _ fun σ2 hσ H2 hH => ?_
  clear hK K
  have h0_2 := congrFun hσ 0
  have h4_2 := congrFun hσ 4
  simp [h0_1] at h0_2 h4_2
  clear hσ
  replace hH : H = H2 := Eq.symm hH
  subst hH
  refine stp_false (by simp [aeval_tmp, h4_2]) ?_
  refine awp_skip ?_
  refine q_seq ?_
  refine stp_reg TT_ok (by rfl) fun K hK => ?_
  simp [h0_2, hn_0, hst_0]
  try refine And.intro (by first | omega | rfl) ?_
  refine hK _ _ fun σ3 hσ H3 hH => ?_
  clear hK K
  have h2_3 := congrFun hσ 2
  simp [] at h2_3
  clear hσ
  have g0_3 := gt_of hH 0
  simp [hn_0, hst_0] at g0_3
  have hn_3 := congrArg AHeap.n hH
  simp [hn_0, hst_0] at hn_3
  have hst_3 := congrArg AHeap.st hH
  simp [hn_0, hst_0] at hst_3
  clear hH
  refine awp_ret ?_
  refine q_fin1 h2_3 ?_
  exact frw_row g0_3 rfl (by simp) (by simp)

set_option maxHeartbeats 1000000 in
theorem cloneS_some (s : ByteArray) (ss : List ByteArray) (hl : ss.length ≤ 1000000) : ACalls Try.prog 50 [.ro ((s :: ss).map .str)] AHeap.nil (fun r H => Frw H r (.ro ((s :: ss).map .str))) := by
  refine acalls_body TT_ok Try.func50 rfl rfl (by simp [Try.ntmps50]) ?_
  rw [Try.ntmps50]
  obtain ⟨σ, hσ⟩ : ∃ σ, σ = st0 [.ro ((s :: ss).map .str)] := ⟨_, rfl⟩
  rw [← hσ]
  have h0_0 := congrFun hσ 0
  simp [st0] at h0_0
  clear hσ
  obtain ⟨H, hH⟩ : ∃ H, H = AHeap.nil := ⟨_, rfl⟩
  rw [← hH]
  have hn_0 : H.n = 0 := by rw [hH]; rfl
  have hst_0 : H.st = 1 := by rw [hH]; rfl
  clear hH
  refine stp_reg TT_ok (by rfl) fun K hK => ?_
  simp []
  try refine And.intro (by first | omega | rfl) ?_
  refine hK _ _ fun σ1 hσ H1 hH => ?_
  clear hK K
  have h0_1 := congrFun hσ 0
  simp [h0_0] at h0_1
  clear hσ
  replace hH : H = H1 := Eq.symm hH
  subst hH
  refine awp_seq ?_
  refine stp_reg TT_ok (by rfl) fun K hK => ?_
  simp [h0_1]
  try refine And.intro (by first | omega | rfl) ?_
  refine hK _ _ fun σ2 hσ H2 hH => ?_
  clear hK K
  have h0_2 := congrFun hσ 0
  have h4_2 := congrFun hσ 4
  simp [h0_1] at h0_2 h4_2
  clear hσ
  replace hH : H = H2 := Eq.symm hH
  subst hH
  refine stp_false (by simp [aeval_tmp, h4_2]) ?_
  refine awp_skip ?_
  refine q_seq ?_
  refine stp_reg TT_ok (by rfl) fun K hK => ?_
  simp [h0_2, hn_0, hst_0, show (ss.length + 1) * 16 ≤ 140737488355328 by omega, show ss.length ≤ 9223372036854775806 by omega]
  try refine And.intro (by first | omega | rfl) ?_
  refine hK _ _ fun σ3 hσ H3 hH => ?_
  clear hK K
  have h2_3 := congrFun hσ 2
  simp [] at h2_3
  clear hσ
  have g0_3 := gt_of hH 0
  simp [hn_0, hst_0] at g0_3
  have hn_3 := congrArg AHeap.n hH
  simp [hn_0, hst_0] at hn_3
  have hst_3 := congrArg AHeap.st hH
  simp [hn_0, hst_0] at hst_3
  clear hH
  refine awp_ret ?_
  refine q_fin1 h2_3 ?_
  exact frw_row g0_3 (by simp) (fun _ => scal_strs (ss := s :: ss)) (fun _ => one_strs (ss := s :: ss))

theorem cloneS_w (ss : List ByteArray) (hl : ss.length ≤ 1000000) : FunW Try.prog 50 [.ro (ss.map .str)] (.ro (ss.map .str)) := by
  refine funW_frw ?_ (pu_cons (pu_strs _) pu_nil) (pu_strs _)
  cases ss with
  | nil => exact ACalls.ro_split cloneS_nil cloneS_roe
  | cons s ss => exact cloneS_some s ss (by simp at hl; omega)
theorem cloneS_ok (ss : List ByteArray) (hl : ss.length ≤ 1000000) : Fun1 Try.prog 50 [.ro (ss.map .str)] (.ro (ss.map .str)) := (cloneS_w ss hl).fun1 (pu_cons (pu_strs _) pu_nil)
def Gr.rev (g : Gr) : Gr := if g.valid then ⟨g.nodes, g.edges.map fun e => (e.2, e.1)⟩ else ⟨[], []⟩

end Go.Proofs.Yteifhcohmipdcaa

/-
  THE GRAPH FUNCTIONS, 7: Reverse, the program's and the reference's. Conditions: none. (Printed by w7.py.)
-/
namespace Go.Proofs.Yteifhcohmipdcaa
open Go.Abs
set_option linter.unusedSimpArgs false
set_option linter.unusedVariables false
def swapE (e : Int × Int) : Int × Int := (e.2, e.1)
theorem rev_of {g : Gr} (hv : g.valid = true) : g.rev = ⟨g.nodes, g.edges.map swapE⟩ := by simp only [Gr.rev, hv, if_true]; rfl
theorem frz_graph {H : AHeap} {g : Gr} {v w : AV} (h1 : Frz H v (.ro (g.nodes.map .str))) (h2 : Frz H w (.ro (g.edges.map encE))) : Frz H (.agg [v, w]) (encG g) :=
  .agg rfl (by simp [AV.one]) fun j x y hx hy => by
    match j, hx, hy with
    | 0, hx, hy => simp at hx hy; subst hx; subst hy; exact h1
    | 1, hx, hy => simp at hx hy; subst hx; subst hy; exact h2
theorem map_take_succ {α : Type} {es : List (Int × Int)} {f : Int × Int → α} {i : Nat} (h : i < es.length) : (es.take (i + 1)).map f = (es.take i).map f ++ [f es[i]] := by
  rw [List.take_succ_eq_append_getElem h, List.map_append]; rfl

set_option maxHeartbeats 1000000 in
theorem reverse0 (g : Gr) : ACalls Try.prog 17 [encG g] AHeap.nil (fun r H => Frz H r (encG g.rev)) := by
  refine acalls_body TT_ok Try.func17 rfl rfl (by simp [Try.ntmps17]) ?_
  rw [Try.ntmps17]
  obtain ⟨σ, hσ⟩ : ∃ σ, σ = st0 [encG g] := ⟨_, rfl⟩
  rw [← hσ]
  have h0_0 := congrFun hσ 0
  simp [st0] at h0_0
  clear hσ
  obtain ⟨H, hH⟩ : ∃ H, H = AHeap.nil := ⟨_, rfl⟩
  rw [← hH]
  have hn_0 : H.n = 0 := by rw [hH]; rfl
  have hst_0 : H.st = 1 := by rw [hH]; rfl
  clear hH
  refine stp_reg TT_ok (by rfl) fun K hK => ?_
  simp [h0_0, hn_0, hst_0, encG]
  try refine And.intro (by first | omega | rfl) ?_
  refine hK _ _ fun σ1 hσ H1 hH => ?_
  clear hK K
  have h1_1 := congrFun hσ 1
  have h2_1 := congrFun hσ 2
  simp [] at h1_1 h2_1
  clear hσ
  have g0_1 := gt_of hH 0
  have g1_1 := gt_of hH 1
  simp [hn_0, hst_0] at g0_1 g1_1
  have hn_1 := congrArg AHeap.n hH
  simp [hn_0, hst_0] at hn_1
  have hst_1 := congrArg AHeap.st hH
  simp [hn_0, hst_0] at hst_1
  clear hH
  refine awp_seq ?_
  refine stp_reg TT_ok (by rfl) fun K hK => ?_
  simp [h1_1, g0_1, g1_1, encG]
  try refine And.intro (by first | omega | rfl) ?_
  refine stp_call (valid_ok g) ?_
  simp [h1_1, g0_1, g1_1, encG]
  try refine And.intro (by first | omega | rfl) ?_
  refine hK _ _ fun σ2 hσ H2 hH => ?_
  clear hK K
  have h1_2 := congrFun hσ 1
  have h2_2 := congrFun hσ 2
  have h8_2 := congrFun hσ 8
  simp [h1_1, h2_1] at h1_2 h2_2 h8_2
  clear hσ
  replace hH : H1 = H2 := Eq.symm hH
  subst hH
  refine awp_cond _ (by simp only [aeval_tmp]; exact h8_2) (fun hc8 => ?_) (fun hc8 => ?_)
  · try simp at hc8
    refine stp_reg TT_ok (by rfl) fun K hK => ?_
    simp [h2_2, g0_1, g1_1, encG]
    try refine And.intro (by first | omega | rfl) ?_
    refine hK _ _ fun σ3 hσ H3 hH => ?_
    clear hK K
    have h2_3 := congrFun hσ 2
    simp [h2_2] at h2_3
    clear hσ
    have g0_3 := gt_of hH 0
    have g1_3 := gt_of hH 1
    simp [g0_1, g1_1, hn_1, hst_1] at g0_3 g1_3
    have hn_3 : H3.n = _ := (congrArg AHeap.n hH).trans hn_1
    have hst_3 : H3.st = _ := (congrArg AHeap.st hH).trans hst_1
    clear hH
    refine awp_ret ?_
    refine q_seq_ret ?_
    refine q_finC (H' := H3) (v := .agg [.nils, .nils]) (by rfl) (by simp [h2_3, g0_3, g1_3]) ?_
    rw [show g.rev = ⟨[], []⟩ by simp only [Gr.rev, hc8]; rfl]; exact frz_graph .nils .nils
  · try simp at hc8
    obtain ⟨hn1, hn2⟩ := valid_nodes hc8
    refine awp_skip ?_
    refine q_seq ?_
    refine stp_reg TT_ok (by rfl) fun K hK => ?_
    simp [h1_2, g0_1, g1_1, hn_1, hst_1, encG]
    try refine And.intro (by first | omega | rfl) ?_
    refine stp_call (cloneS_ok g.nodes (by omega)) ?_
    simp [h1_2, g0_1, g1_1, hn_1, hst_1, encG]
    try refine And.intro (by first | omega | rfl) ?_
    refine hK _ _ fun σ4 hσ H4 hH => ?_
    clear hK K
    have h1_4 := congrFun hσ 1
    have h2_4 := congrFun hσ 2
    have h3_4 := congrFun hσ 3
    simp [h1_2, h2_2] at h1_4 h2_4 h3_4
    clear hσ
    have g0_4 := gt_of hH 0
    have g1_4 := gt_of hH 1
    have g2_4 := gt_of hH 2
    simp [g0_1, g1_1, hn_1, hst_1] at g0_4 g1_4 g2_4
    have hn_4 := congrArg AHeap.n hH
    simp [hn_1, hst_1] at hn_4
    have hst_4 := congrArg AHeap.st hH
    simp [hn_1, hst_1] at hst_4
    clear hH
    refine awp_seq ?_
    refine stp_reg TT_ok (by rfl) fun K hK => ?_
    simp [h1_4, g0_4, g1_4, g2_4, encG]
    try refine And.intro (by first | omega | rfl) ?_
    refine hK _ _ fun σ5 hσ H5 hH => ?_
    clear hK K
    have h2_5 := congrFun hσ 2
    have h3_5 := congrFun hσ 3
    have h15_5 := congrFun hσ 15
    have h16_5 := congrFun hσ 16
    have h17_5 := congrFun hσ 17
    simp [h2_4, h3_4] at h2_5 h3_5 h15_5 h16_5 h17_5
    clear hσ
    replace hH : H4 = H5 := Eq.symm hH
    subst hH
    refine awp_block ?_
    refine awp_loopV (fun n σ' H' => ∃ (i : Nat) (v : AV), n = g.edges.length - i ∧ σ' 2 = σ5 2 ∧ σ' 3 = σ5 3 ∧ σ' 15 = σ5 15 ∧ σ' 16 = σ5 16 ∧ σ' 17 = (AV.int IntKind.i64) i ∧ H'.get 0 = H4.get 0 ∧ H'.get 1 = H4.get 1 ∧ H'.get 2 = some (.row 25 2 0 [.agg [.ro (g.nodes.map .str), v]]) ∧ H'.st = H4.st ∧ (i ≤ g.edges.length) ∧ (Own 39 2 3 (((g.edges.take i).map swapE).map encE) v H')) ?_ ?_
    · refine ⟨_, 0, .nils, rfl, rfl, rfl, rfl, rfl, (by simp [h17_5]), rfl, rfl, (by simp [g2_4]), rfl, ?_, ?_⟩
      · first | omega | (simp; done) | assumption
      · exact .inl ⟨rfl, by simp⟩
    · rintro n1 σ6 H6 ⟨i, v, hn1, q2_6, q3_6, q15_6, q16_6, h17_6, qg0_6, qg1_6, g2_6, qst_6, p1, p2⟩
      have h2_6 := q2_6.trans h2_5
      have h3_6 := q3_6.trans h3_5
      have h15_6 := q15_6.trans h15_5
      have h16_6 := q16_6.trans h16_5
      have g0_6 := qg0_6.trans g0_4
      have g1_6 := qg1_6.trans g1_4
      have hst_6 := qst_6.trans hst_4
      refine stp_reg TT_ok (by rfl) fun K hK => ?_
      simp [h16_6, h17_6, g0_6, g1_6, g2_6, encG]
      try refine And.intro (by first | omega | rfl) ?_
      refine hK _ _ fun σ7 hσ H7 hH => ?_
      clear hK K
      have h2_7 := congrFun hσ 2
      have h3_7 := congrFun hσ 3
      have h15_7 := congrFun hσ 15
      have h16_7 := congrFun hσ 16
      have h17_7 := congrFun hσ 17
      have h18_7 := congrFun hσ 18
      simp [h2_6, h3_6, h15_6, h16_6, h17_6] at h2_7 h3_7 h15_7 h16_7 h17_7 h18_7
      clear hσ
      replace hH : H6 = H7 := Eq.symm hH
      subst hH
      refine awp_seq ?_
      refine awp_cond _ (by simp only [aeval_tmp]; exact h18_7) (fun hc18 => ?_) (fun hc18 => ?_)
      · try simp at hc18
        have hlt : i < g.edges.length := by simpa using hc18
        have hge : (g.edges.map encE)[i]? = some (encE g.edges[i]) := by simp [hlt]
        have hsn := map_take_succ (f := swapE) hlt
        have hln : (((g.edges.take i).map swapE).map encE).length = i := by simp; omega
        have hln2 : min i g.edges.length = i := by omega
        refine awp_skip ?_
        refine q_seq ?_
        refine awp_seq ?_
        refine awp_block ?_
        rcases p2 with ⟨rfl, hnil⟩ | ⟨id, gn, rfl, hb, hid⟩
        · skip
          have hi0 : i = 0 := by rw [hnil] at hln; simpa using hln.symm
          refine awp_ok fun hok => ?_
          obtain ⟨m8, hn_m8⟩ : ∃ m, H6.n = m := ⟨_, rfl⟩
          have hf_m8_0 := hok.free 0
          simp [hn_m8, hst_6] at hf_m8_0
          have nx1 := ne_get hf_m8_0 g0_6
          have nx2 := ne_get hf_m8_0 g1_6
          have nx3 := ne_get hf_m8_0 g2_6
          refine stp_reg TT_ok (by rfl) fun K hK => ?_
          simp [h15_7, h17_7, g0_6, g1_6, g2_6, hn_m8, hst_6, nx1, nx2, nx3, encG, hge, hlt, encE]
          try refine And.intro (by first | omega | rfl) ?_
          refine hK _ _ fun σ9 hσ H9 hH => ?_
          clear hK K
          have h2_9 := congrFun hσ 2
          have h3_9 := congrFun hσ 3
          have h5_9 := congrFun hσ 5
          have h15_9 := congrFun hσ 15
          have h16_9 := congrFun hσ 16
          have h17_9 := congrFun hσ 17
          simp [h2_7, h3_7, h15_7, h16_7, h17_7] at h2_9 h3_9 h5_9 h15_9 h16_9 h17_9
          clear hσ
          have g0_9 := gt_of hH 0
          have g1_9 := gt_of hH 1
          have g2_9 := gt_of hH 2
          have gm8_9 := gt_of hH m8
          simp [g0_6, g1_6, g2_6, hn_m8, hst_6, nx1, nx2, nx3] at g0_9 g1_9 g2_9 gm8_9
          have hst_9 := congrArg AHeap.st hH
          simp [hst_6] at hst_9
          clear hH
          refine awp_ok fun hok => ?_
          obtain ⟨m10, hn_m10⟩ : ∃ m, H9.n = m := ⟨_, rfl⟩
          have hf_m10_0 := hok.free 0
          simp [hn_m10, hst_9] at hf_m10_0
          have nx4 := ne_get hf_m10_0 g0_9
          have nx5 := ne_get hf_m10_0 g1_9
          have nx6 := ne_get hf_m10_0 g2_9
          have nx7 := ne_get hf_m10_0 gm8_9
          have hf_m10_1 := hok.free 1
          simp [hn_m10, hst_9] at hf_m10_1
          have nx8 := ne_get hf_m10_1 g0_9
          have nx9 := ne_get hf_m10_1 g1_9
          have nx10 : ¬ m10 = 0 ∧ ¬ 0 = m10 := by omega
          have nx11 := ne_get hf_m10_1 g2_9
          have nx12 : ¬ m10 = 1 ∧ ¬ 1 = m10 := by omega
          have nx13 := ne_get hf_m10_1 gm8_9
          refine stp_regl TT_ok (by rfl) fun K hK => ?_
          simp [h3_9, h5_9, g0_9, g1_9, g2_9, gm8_9, hn_m10, hst_9, nx1, nx2, nx3, nx4, nx5, nx6, nx7, nx8, nx9, nx10, nx11, nx12, nx13, encG, hge, hlt, encE]
          try refine And.intro (by first | omega | rfl) ?_
          refine hK _ _ fun σ11 hσ H11 hH => ?_
          clear hK K
          have h2_11 := congrFun hσ 2
          have h3_11 := congrFun hσ 3
          have h15_11 := congrFun hσ 15
          have h16_11 := congrFun hσ 16
          have h17_11 := congrFun hσ 17
          simp [h2_9, h3_9, h15_9, h16_9, h17_9] at h2_11 h3_11 h15_11 h16_11 h17_11
          clear hσ
          have g0_11 := gt_of hH 0
          have g1_11 := gt_of hH 1
          have g2_11 := gt_of hH 2
          have gm8_11 := gt_of hH m8
          have gm10_11 := gt_of hH m10
          have g_m10_1__11 := gt_of hH (m10 + 1)
          simp [g0_9, g1_9, g2_9, gm8_9, hn_m10, hst_9, nx1, nx2, nx3, nx4, nx5, nx6, nx7, nx8, nx9, nx10, nx11, nx12, nx13] at g0_11 g1_11 g2_11 gm8_11 gm10_11 g_m10_1__11
          have hst_11 := congrArg AHeap.st hH
          simp [hst_9] at hst_11
          clear hH
          refine q_block ?_
          refine q_seq ?_
          refine stp_regl TT_ok (by rfl) fun K hK => ?_
          simp [h17_11, g0_11, g1_11, g2_11, gm8_11, gm10_11, g_m10_1__11, nx1, nx2, nx3, nx4, nx5, nx6, nx7, nx8, nx9, nx10, nx11, nx12, nx13, encG, wrap_ok (n := (i : Int) + 1) (by omega) (by omega)]
          try refine And.intro (by first | omega | rfl) ?_
          refine hK _ _ fun σ12 hσ H12 hH => ?_
          clear hK K
          have h2_12 := congrFun hσ 2
          have h3_12 := congrFun hσ 3
          have h15_12 := congrFun hσ 15
          have h16_12 := congrFun hσ 16
          have h17_12 := congrFun hσ 17
          simp [h2_11, h3_11, h15_11, h16_11] at h2_12 h3_12 h15_12 h16_12 h17_12
          clear hσ
          replace hH : H11 = H12 := Eq.symm hH
          subst hH
          refine ⟨_, ?_, i + 1, .sl (m10 + 1) 0 0 1, rfl, (h2_12.trans h2_5.symm), (h3_12.trans h3_5.symm), (h15_12.trans h15_5.symm), (h16_12.trans h16_5.symm), (by simp [h17_12]), (g0_11.trans g0_4.symm), (g1_11.trans g1_4.symm), (by simp [g2_11]), (hst_11.trans hst_4.symm), ?_, ?_⟩
          · subst hn1; omega
          · first | omega | assumption | (simp; done)
          · exact Own.mk g_m10_1__11 (by rw [hsn, List.map_append, hnil]; simp [encE, swapE]) (by simp; omega) (by omega)
        · skip
          rw [hln] at g2_6
          have nx14 : ¬ id = 0 ∧ ¬ 0 = id := by omega
          have nx15 : ¬ id = 1 ∧ ¬ 1 = id := by omega
          have nx16 : ¬ id = 2 ∧ ¬ 2 = id := by omega
          refine awp_ok fun hok => ?_
          obtain ⟨m13, hn_m13⟩ : ∃ m, H6.n = m := ⟨_, rfl⟩
          have hf_m13_0 := hok.free 0
          simp [hn_m13, hst_6] at hf_m13_0
          have nx17 := ne_get hf_m13_0 g0_6
          have nx18 := ne_get hf_m13_0 g1_6
          have nx19 := ne_get hf_m13_0 g2_6
          have nx20 := ne_get hf_m13_0 hb
          refine stp_reg TT_ok (by rfl) fun K hK => ?_
          simp [h15_7, h17_7, g0_6, g1_6, g2_6, hb, hn_m13, hst_6, nx14, nx15, nx16, nx17, nx18, nx19, nx20, encG, hge, hlt, encE]
          try refine And.intro (by first | omega | rfl) ?_
          refine hK _ _ fun σ14 hσ H14 hH => ?_
          clear hK K
          have h2_14 := congrFun hσ 2
          have h3_14 := congrFun hσ 3
          have h5_14 := congrFun hσ 5
          have h15_14 := congrFun hσ 15
          have h16_14 := congrFun hσ 16
          have h17_14 := congrFun hσ 17
          simp [h2_7, h3_7, h15_7, h16_7, h17_7] at h2_14 h3_14 h5_14 h15_14 h16_14 h17_14
          clear hσ
          have g0_14 := gt_of hH 0
          have g1_14 := gt_of hH 1
          have g2_14 := gt_of hH 2
          have gid_14 := gt_of hH id
          have gm13_14 := gt_of hH m13
          simp [g0_6, g1_6, g2_6, hb, hn_m13, hst_6, nx14, nx15, nx16, nx17, nx18, nx19, nx20] at g0_14 g1_14 g2_14 gid_14 gm13_14
          have hst_14 := congrArg AHeap.st hH
          simp [hst_6] at hst_14
          clear hH
          refine awp_ok fun hok => ?_
          obtain ⟨m15, hn_m15⟩ : ∃ m, H14.n = m := ⟨_, rfl⟩
          have hf_m15_0 := hok.free 0
          simp [hn_m15, hst_14] at hf_m15_0
          have nx21 := ne_get hf_m15_0 g0_14
          have nx22 := ne_get hf_m15_0 g1_14
          have nx23 := ne_get hf_m15_0 g2_14
          have nx24 := ne_get hf_m15_0 gid_14
          have nx25 := ne_get hf_m15_0 gm13_14
          refine stp_regl TT_ok (by rfl) fun K hK => ?_
          simp [h3_14, h5_14, g0_14, g1_14, g2_14, gid_14, gm13_14, hn_m15, hst_14, nx14, nx15, nx16, nx17, nx18, nx19, nx20, nx21, nx22, nx23, nx24, nx25, encG, hge, hlt, encE, hln, hln2, show (i + 1) * 16 ≤ 140737488355328 by omega, show i ≤ 9223372036854775806 by omega]
          try refine And.intro (by first | omega | rfl) ?_
          refine hK _ _ fun σ16 hσ H16 hH => ?_
          clear hK K
          have h2_16 := congrFun hσ 2
          have h3_16 := congrFun hσ 3
          have h15_16 := congrFun hσ 15
          have h16_16 := congrFun hσ 16
          have h17_16 := congrFun hσ 17
          simp [h2_14, h3_14, h15_14, h16_14, h17_14] at h2_16 h3_16 h15_16 h16_16 h17_16
          clear hσ
          have g0_16 := gt_of hH 0
          have g1_16 := gt_of hH 1
          have g2_16 := gt_of hH 2
          have gid_16 := gt_of hH id
          have gm13_16 := gt_of hH m13
          have gm15_16 := gt_of hH m15
          simp [g0_14, g1_14, g2_14, gid_14, gm13_14, hn_m15, hst_14, nx14, nx15, nx16, nx17, nx18, nx19, nx20, nx21, nx22, nx23, nx24, nx25] at g0_16 g1_16 g2_16 gid_16 gm13_16 gm15_16
          have hst_16 := congrArg AHeap.st hH
          simp [hst_14] at hst_16
          clear hH
          refine q_block ?_
          refine q_seq ?_
          refine stp_regl TT_ok (by rfl) fun K hK => ?_
          simp [h17_16, g0_16, g1_16, g2_16, gid_16, gm13_16, gm15_16, nx14, nx15, nx16, nx17, nx18, nx19, nx20, nx21, nx22, nx23, nx24, nx25, encG, wrap_ok (n := (i : Int) + 1) (by omega) (by omega)]
          try refine And.intro (by first | omega | rfl) ?_
          refine hK _ _ fun σ17 hσ H17 hH => ?_
          clear hK K
          have h2_17 := congrFun hσ 2
          have h3_17 := congrFun hσ 3
          have h15_17 := congrFun hσ 15
          have h16_17 := congrFun hσ 16
          have h17_17 := congrFun hσ 17
          simp [h2_16, h3_16, h15_16, h16_16] at h2_17 h3_17 h15_17 h16_17 h17_17
          clear hσ
          replace hH : H16 = H17 := Eq.symm hH
          subst hH
          refine ⟨_, ?_, i + 1, .sl id (gn + 1) 0 (i + 1), rfl, (h2_17.trans h2_5.symm), (h3_17.trans h3_5.symm), (h15_17.trans h15_5.symm), (h16_17.trans h16_5.symm), (by simp [h17_17]), (g0_16.trans g0_4.symm), (g1_16.trans g1_4.symm), (by simp [g2_16]), (hst_16.trans hst_4.symm), ?_, ?_⟩
          · subst hn1; omega
          · first | omega | assumption | (simp; done)
          · exact Own.mk gid_16 (by rw [hsn, List.map_append]; simp [encE, swapE, List.take_take]) (by simp; omega) (by omega)
      · try simp at hc18
        refine awp_exit ?_
        refine q_seq_exit ?_
        refine q_loop_exit ?_
        refine q_block_hit ?_
        refine q_seq ?_
        have hvo := p2.one
        simp [AV.one] at hvo
        have hie : i = g.edges.length := by have := hc18; omega
        subst hie
        rw [List.take_length] at p2
        refine stp_reg TT_ok (by rfl) fun K hK => ?_
        simp [h2_7, h3_7, g0_6, g1_6, g2_6, encG, hvo]
        try refine And.intro (by first | omega | rfl) ?_
        refine hK _ _ fun σ18 hσ H18 hH => ?_
        clear hK K
        have h2_18 := congrFun hσ 2
        simp [h2_7] at h2_18
        clear hσ
        have g0_18 := gt_of hH 0
        have g1_18 := gt_of hH 1
        have g2_18 := gt_of hH 2
        simp [g0_6, g1_6, g2_6, hst_6] at g0_18 g1_18 g2_18
        have hst_18 := congrArg AHeap.st hH
        simp [hst_6] at hst_18
        have hall : ∀ j, 3 ≤ j → H18.get j = H6.get j := fun j hj => by rw [hH, put_getH, if_neg (by omega)]
        clear hH
        refine awp_ret ?_
        refine q_finC (H' := H18) (v := .agg [.ro (g.nodes.map .str), v]) (by rfl) (by simp [h2_18, g0_18, g1_18, g2_18]) ?_
        rw [rev_of hc8]; exact frz_graph (.pure (pu_strs _)) ((p2.keep hall).frz (fun _ => pu_of_edges) (fun _ => one_edge))

theorem reverse_ok (g : Gr) : Fun1 Try.prog 17 [encG g] (encG g.rev) := fun1_frz (reverse0 g) (pu_cons (pu_graph _) pu_nil) (pu_graph _)

end Go.Proofs.Yteifhcohmipdcaa

/-
  THE ABSTRACT LAYER, 23: contracts off the kit's shelf as contracts of this layer. Conditions: none. Generic in the program.
-/
namespace Go.Abs
set_option linter.unusedSimpArgs false
set_option linter.unusedVariables false
open Go.Sort
section
variable {P : Program} {T : TypeId → Option TE}

/-- A function that answers one value and leaves the world alone, of plain values. -/
theorem Fun1.of_calls {f : FuncId} {args : List AV} {cargs : Array Value} {r : AV} {c : Value} (hcall : Callable P f) (hs : cargs.size = args.length)
    (ha : ∀ (j : Nat) (v : AV) (u : Value), args[j]? = some v → cargs[j]? = some u → ∀ (G : Gh) (w : World) (u' : Value), VRel G w v u' → u' = u)
    (hr : ∀ (G : Gh) (w : World), VRel G w r c) (h : ∀ w, Calls P f cargs w fun e w' => e = .returned c ∧ w' = w) : Fun1 P f args r := by
  intro H
  refine ⟨hcall, fun G w cs hrel hcs hv => ?_⟩
  have : cs = cargs := by
    apply Array.ext (by omega)
    intro i h1 h2
    have hi : i < args.length := by omega
    exact ha i args[i] cargs[i] (by simp [hi]) (by simp [h2]) G w _ (hv i args[i] cs[i] (by simp [hi]) (by simp [h1]))
  subst this
  refine (h w).mono ?_
  rintro e w' ⟨rfl, rfl⟩
  exact ⟨c, r, H, G, rfl, ⟨rfl, rfl⟩, hr G _, .refl hrel⟩

/-- A function that turns a row of one-cell values in place. -/
theorem ACalls.of_putRow {α : Type} [Inhabited α] {f : FuncId} {enc : α → Value} {encA : α → AV} (hcall : Callable P f)
    (he : ∀ (G : Gh) (w : World) (x : α) (c : Value), VRel G w (encA x) c ↔ c = enc x) (h1 : ∀ x, (encA x).cells = [encA x] ∧ (encA x).one = true)
    {zs ys : List α} (hlen : ys.length = zs.length) (rv : Nat → Nat → Nat → Value) (ra : AV) {H : AHeap} {id e g n : Nat} {rest : List AV}
    (hra : ∀ (G : Gh) (w : World) (o c : Nat), G.dom id → g ≤ G.gm id → c ≤ G.cap id g → zs.length ≤ c → (o = G.base id g ∨ c = 0) → VRel G w ra (rv (G.blk id g) o c))
    (h : ∀ (blk off cap : Nat) (w : World), Holds enc w blk off zs.toArray → blk < w.heap.size → zs.length ≤ cap →
      Calls P f #[.slice (some ⟨blk, off, none⟩) zs.length cap] w fun e w' => e = .returned (rv blk off cap) ∧ ∃ n os, w' = grow (putRow enc (Sort.ahead w n) blk off ys.toArray) os)
    (hb : H.get id = some (.row e 1 g (zs.map encA ++ rest))) (hn : n = zs.length) {K : AV → AHeap → Prop}
    (hK : K ra (H.put id (.row e 1 g (ys.map encA ++ rest)))) : ACalls P f [.sl id g 0 n] H K := by
  subst hn
  refine ⟨hcall, fun G w cargs hr hs hv => ?_⟩
  have h0 : 0 < cargs.size := by rw [hs]; simp
  have hv0 := hv 0 _ cargs[0] rfl (by simp [h0])
  have hca : cargs = #[cargs[0]] := by
    apply Array.ext (by simpa using hs)
    intro i h1 h2
    have : i = 0 := by simp at h2; omega
    subst this; rfl
  rw [hca]
  generalize cargs[0] = c0 at hv0
  cases hv0 with
  | @sl _ _ _ _ o c hid hg hc hl ho =>
    obtain ⟨_, hgm, hszz, hpos, hlen', hcapm, hro, cur, hcur, hsize, hrel⟩ := hr.blk id _ hb
    have hlt : G.blk id g < w.heap.size := (Array.getElem?_eq_some_iff.1 hcur).1
    have hcell : ∀ (i : Nat) (x : α), zs[i]? = some x → cur[G.base id g + i]? = some (enc x) := by
      intro i x hx
      have hil := (List.getElem?_eq_some_iff.1 hx).1
      obtain ⟨cc, h2, h3⟩ := hrel i (encA x) 0 (encA x) (by rw [List.getElem?_append_left (by simpa using hil), List.getElem?_map, hx]; rfl) (by rw [(h1 x).1]; rfl)
      rw [Nat.mul_one, Nat.add_zero] at h2
      rw [h2, (he G w x cc).1 h3]
    have hoo : zs.length = 0 ∨ o = G.base id g := by
      rcases ho with ho | ho
      · right; rw [ho]; omega
      · left; omega
    have hH : Holds enc w (G.blk id g) o zs.toArray := by
      intro j hj
      have hj' : j < zs.length := by simpa using hj
      have hoo' : o = G.base id g := by rcases hoo with h | h; · omega
                                        · exact h
      subst hoo'
      have hx : zs[j]? = some zs[j] := by simp [hj']
      refine ⟨?_, ?_⟩
      · simp only [World.cell?, hcur]
        rw [hcell j _ hx]; simp [hj']
      · simp [World.frozen?, hcur]
    refine (h _ o c w hH hlt hl).mono ?_
    rintro ee w' ⟨rfl, k, os, rfl⟩
    let cur2 := putCells enc o ys.toArray cur
    have hheap : ∀ b, b < w.heap.size → (grow (putRow enc (Sort.ahead w k) (G.blk id g) o ys.toArray) os).heap[b]? = if b = G.blk id g then some (.cells cur2 e (0, 0)) else w.heap[b]? := by
      intro b hbl
      simp only [grow, putRow, mapBlock, Sort.ahead]
      rw [Array.getElem?_append_left (by simpa using hbl), Array.getElem?_modify]
      by_cases hbb : b = G.blk id g
      · subst hbb; simp [hcur, onCells, cur2]
      · rw [if_neg (Ne.symm hbb), if_neg hbb]
    have hold : ∀ b, b < w.heap.size → b ≠ G.blk id g → (grow (putRow enc (Sort.ahead w k) (G.blk id g) o ys.toArray) os).heap[b]? = w.heap[b]? := fun b hb1 hb2 => by rw [hheap b hb1, if_neg hb2]
    have hI : ∀ b, G.I b → (grow (putRow enc (Sort.ahead w k) (G.blk id g) o ys.toArray) os).heap[b]? = w.heap[b]? := fun b hb1 => hold b (hr.ilt b hb1) (fun e' => hr.imm id _ hb (by simpa [Blk.gen] using e' ▸ hb1))
    refine ⟨_, ra, _, G, rfl, hK, hra G _ o c hid hg (by omega) hl (ho.imp (fun ho => by omega) (fun ho => ho)), ?_⟩
    refine Run.put hr hb (.refl G) (fun _ h => h) (fun _ => Iff.rfl) (fun _ _ _ => rfl) ?_ rfl rfl rfl (by simp [grow, putRow, mapBlock, Sort.ahead]) hold (.inl rfl)
    refine ⟨hgm, hszz, hpos, by simpa [hlen] using hlen', hcapm, ?_, cur2, by rw [hheap _ hlt, if_pos rfl], by simp [cur2, putCells, hsize], ?_⟩
    · intro x hx
      rcases List.mem_append.1 hx with hx | hx
      · obtain ⟨y, _, rfl⟩ := List.mem_map.1 hx
        refine ⟨by rw [(h1 y).1]; rfl, fun v hv => ?_⟩
        rw [(h1 y).1] at hv; simp at hv; subst hv; exact (h1 y).2
      · exact hro x (List.mem_append.2 (.inr hx))
    · intro i x j v hx hv
      have hcur2 : ∀ q, cur2[q]? = (cur[q]?).map fun u => if o ≤ q ∧ q < o + ys.length then enc (ys.toArray)[q - o]! else u := by
        intro q; simp [cur2, putCells, Array.getElem?_mapIdx]
      by_cases hi : i < ys.length
      · rw [List.getElem?_append_left (by simpa using hi), List.getElem?_map, List.getElem?_eq_getElem hi] at hx
        simp only [Option.map_some, Option.some.injEq] at hx
        subst hx
        rw [(h1 _).1] at hv
        have hj : j = 0 := by
          have := (List.getElem?_eq_some_iff.1 hv).1; simp at this; exact this
        subst hj
        simp at hv; subst hv
        have hoo' : o = G.base id g := by rcases hoo with h | h; · omega
                                          · exact h
        have hzi : i < zs.length := by omega
        have hc' := hcell i zs[i] (by simp [hzi])
        refine ⟨enc ys[i], ?_, (he G _ _ _).2 rfl⟩
        rw [Nat.mul_one, Nat.add_zero, hcur2, hc', Option.map_some, if_pos (by omega), hoo', Nat.add_sub_cancel_left]
        simp [hi]
      · rw [List.getElem?_append_right (by simpa using Nat.le_of_not_lt hi)] at hx
        simp only [List.length_map] at hx
        have hx' : (zs.map encA ++ rest)[i]? = some x := by
          rw [List.getElem?_append_right (by simp; omega)]; simpa [hlen] using hx
        obtain ⟨cc, h2, h3⟩ := hrel i x j v hx' hv
        refine ⟨cc, ?_, h3.mono (.refl G) hI⟩
        rw [hcur2, h2, Option.map_some]
        rcases hoo with h | h
        · rw [if_neg (by omega)]
        · rw [if_neg (by omega)]
theorem callable_of {f : FuncId} {fn : Func} {c : Code} (h : P.funcs[f]? = some fn) (hb : fn.body = some c) (hn : (fn.name == "runtime.NumGoroutine") = false) : Callable P f := ⟨fn, c, h, hb, hn⟩
theorem vrel_int {k : IntKind} {x : Int} {c : Value} {G : Gh} {w : World} : VRel G w (.int k x) c ↔ c = .int k x := ⟨fun h => by cases h; rfl, fun h => by subst h; exact .int _ _⟩
theorem vrel_str {x : ByteArray} {c : Value} {G : Gh} {w : World} : VRel G w (.str x) c ↔ c = .string x := ⟨fun h => by cases h; rfl, fun h => by subst h; exact .str _⟩
end
end Go.Abs

/-
  CONTRACTS OF GO's LIBRARY AT THIS PROGRAM's NUMBERS, laid by the shelf's tools (shelf.py). Conditions: as each says.
-/
namespace Go.Proofs
open Go.Shelf
def Try.lays125_ren : Go.Shelf.Ren := ⟨fun | 125 => 69 | 128 => 82 | 129 => 83 | n => n, fun | 46 => 83 | 3 => 3 | 51 => 96 | 53 => 98 | 4 => 4 | 5 => 5 | 9 => 9 | n => n, fun | n => n⟩
theorem Try.lays125 : Go.Proofs.Lays.n125 Try.prog Try.lays125_ren := {
  mixed := by kernel_rfl
  f125 := Try.func69.trans (congrArg some (by kernel_rfl))
  f128 := Try.func82.trans (congrArg some (by kernel_rfl))
  f129 := Try.func83.trans (congrArg some (by kernel_rfl))
  t3 := Try.underlying3
  a3 := Try.isAgg3
  z3 := Try.sizeOf3
  v3 := Try.zeroValue3
  t4 := Try.underlying4
  a4 := Try.isAgg4
  z4 := Try.sizeOf4
  v4 := Try.zeroValue4
  t5 := Try.underlying5
  a5 := Try.isAgg5
  z5 := Try.sizeOf5
  v5 := Try.zeroValue5
  t9 := Try.underlying9
  a9 := Try.isAgg9
  z9 := Try.sizeOf9
  v9 := Try.zeroValue9
  t46 := Try.underlying83
  a46 := Try.isAgg83
  z46 := Try.sizeOf83
  v46 := Try.zeroValue83
  t51 := Try.underlying96
  a51 := Try.isAgg96
  z51 := Try.sizeOf96
  v51 := Try.zeroValue96
  t53 := Try.underlying98
  a53 := Try.isAgg98
  z53 := Try.sizeOf98
  v53 := Try.zeroValue98 }
theorem Try.bits_Len (x : Int) (w : World) (h0 : 0 ≤ x) (h1 : x ≤ 18446744073709551615) :
    Calls Try.prog 69 #[.int .u64 x] w fun e w' => e = .returned (.int .i64 (Lib.bitLen x.toNat)) ∧ w' = w := Any.bits_Len Try.lays125 x w h0 h1
def Try.lays189_ren : Go.Shelf.Ren := ⟨fun | 189 => 57 | 125 => 69 | 257 => 68 | 128 => 82 | 129 => 83 | 294 => 74 | 295 => 75 | 296 => 76 | 297 => 77 | 298 => 78 | 299 => 79 | 216 => 60 | 300 => 80 | 301 => 81 | 328 => 86 | 329 => 87 | 330 => 88 | 331 => 89 | 332 => 90 | 215 => 70 | 343 => 91 | n => n, fun | 28 => 26 | 3 => 3 | 46 => 83 | 0 => 0 | 51 => 96 | 53 => 98 | 4 => 4 | 183 => 89 | 182 => 88 | 131 => 93 | 5 => 5 | 9 => 9 | 218 => 103 | 222 => 107 | 228 => 109 | 229 => 110 | n => n, fun | n => n⟩
theorem Try.lays189 : Go.Proofs.Lays.n189 Try.prog Try.lays189_ren := {
  mixed := by kernel_rfl
  f125 := Try.func69.trans (congrArg some (by kernel_rfl))
  f128 := Try.func82.trans (congrArg some (by kernel_rfl))
  f129 := Try.func83.trans (congrArg some (by kernel_rfl))
  f189 := Try.func57.trans (congrArg some (by kernel_rfl))
  f215 := Try.func70.trans (congrArg some (by kernel_rfl))
  f216 := Try.func60.trans (congrArg some (by kernel_rfl))
  f257 := Try.func68.trans (congrArg some (by kernel_rfl))
  f294 := Try.func74.trans (congrArg some (by kernel_rfl))
  f295 := Try.func75.trans (congrArg some (by kernel_rfl))
  f296 := Try.func76.trans (congrArg some (by kernel_rfl))
  f297 := Try.func77.trans (congrArg some (by kernel_rfl))
  f298 := Try.func78.trans (congrArg some (by kernel_rfl))
  f299 := Try.func79.trans (congrArg some (by kernel_rfl))
  f300 := Try.func80.trans (congrArg some (by kernel_rfl))
  f301 := Try.func81.trans (congrArg some (by kernel_rfl))
  f328 := Try.func86.trans (congrArg some (by kernel_rfl))
  f329 := Try.func87.trans (congrArg some (by kernel_rfl))
  f330 := Try.func88.trans (congrArg some (by kernel_rfl))
  f331 := Try.func89.trans (congrArg some (by kernel_rfl))
  f332 := Try.func90.trans (congrArg some (by kernel_rfl))
  f343 := Try.func91.trans (congrArg some (by kernel_rfl))
  t0 := Try.underlying0
  a0 := Try.isAgg0
  z0 := Try.sizeOf0
  v0 := Try.zeroValue0
  t3 := Try.underlying3
  a3 := Try.isAgg3
  z3 := Try.sizeOf3
  v3 := Try.zeroValue3
  t4 := Try.underlying4
  a4 := Try.isAgg4
  z4 := Try.sizeOf4
  v4 := Try.zeroValue4
  t5 := Try.underlying5
  a5 := Try.isAgg5
  z5 := Try.sizeOf5
  v5 := Try.zeroValue5
  t9 := Try.underlying9
  a9 := Try.isAgg9
  z9 := Try.sizeOf9
  v9 := Try.zeroValue9
  t28 := Try.underlying26
  a28 := Try.isAgg26
  z28 := Try.sizeOf26
  v28 := Try.zeroValue26
  t46 := Try.underlying83
  a46 := Try.isAgg83
  z46 := Try.sizeOf83
  v46 := Try.zeroValue83
  t51 := Try.underlying96
  a51 := Try.isAgg96
  z51 := Try.sizeOf96
  v51 := Try.zeroValue96
  t53 := Try.underlying98
  a53 := Try.isAgg98
  z53 := Try.sizeOf98
  v53 := Try.zeroValue98
  t131 := Try.underlying93
  a131 := Try.isAgg93
  z131 := Try.sizeOf93
  v131 := Try.zeroValue93
  t182 := Try.underlying88
  a182 := Try.isAgg88
  z182 := Try.sizeOf88
  v182 := Try.zeroValue88
  t183 := Try.underlying89
  a183 := Try.isAgg89
  z183 := Try.sizeOf89
  v183 := Try.zeroValue89
  t218 := Try.underlying103
  a218 := Try.isAgg103
  z218 := Try.sizeOf103
  v218 := Try.zeroValue103
  t222 := Try.underlying107
  a222 := Try.isAgg107
  z222 := Try.sizeOf107
  v222 := Try.zeroValue107
  t228 := Try.underlying109
  a228 := Try.isAgg109
  z228 := Try.sizeOf109
  v228 := Try.zeroValue109
  t229 := Try.underlying110
  a229 := Try.isAgg110
  z229 := Try.sizeOf110
  v229 := Try.zeroValue110 }
open Go.Sort Go.RowKit in
theorem Try.slices_Sort_int (blk off cap : Nat) (zs : List Int) (w : World) (hH : Holds (Value.int .i64) w blk off zs.toArray) (hblk : blk < w.heap.size) (hsz : zs.length < 4611686018427387904) :
    Calls Try.prog 57 #[.slice (some ⟨blk, off, none⟩) zs.length cap] w fun e w' =>
      e = .returned (.tuple #[]) ∧ ∃ n os, w' = grow (putRow (Value.int .i64) (Sort.ahead w n) blk off (zs.mergeSort fun x y => decide (x ≤ y)).toArray) os := Any.slices_Sort_int Try.lays189 blk off cap zs w hH hblk hsz
def Try.lays212_ren : Go.Shelf.Ren := ⟨fun | 212 => 72 | 263 => 84 | 264 => 85 | n => n, fun | 46 => 83 | 51 => 96 | 146 => 99 | 53 => 98 | 148 => 101 | n => n, fun | n => n⟩
theorem Try.lays212 : Go.Proofs.Lays.n212 Try.prog Try.lays212_ren := {
  mixed := by kernel_rfl
  f212 := Try.func72.trans (congrArg some (by kernel_rfl))
  f263 := Try.func84.trans (congrArg some (by kernel_rfl))
  f264 := Try.func85.trans (congrArg some (by kernel_rfl))
  t46 := Try.underlying83
  a46 := Try.isAgg83
  z46 := Try.sizeOf83
  v46 := Try.zeroValue83
  t51 := Try.underlying96
  a51 := Try.isAgg96
  z51 := Try.sizeOf96
  v51 := Try.zeroValue96
  t53 := Try.underlying98
  a53 := Try.isAgg98
  z53 := Try.sizeOf98
  v53 := Try.zeroValue98
  t146 := Try.underlying99
  a146 := Try.isAgg99
  z146 := Try.sizeOf99
  v146 := Try.zeroValue99
  t148 := Try.underlying101
  a148 := Try.isAgg101
  z148 := Try.sizeOf101
  v148 := Try.zeroValue101 }
open Go.RowKit Go.Lib in
theorem Try.bits_Mul (x y : Nat) (hx : x < 18446744073709551616) (hy : y < 18446744073709551616) (w : World) :
    Calls Try.prog 72 #[.int .u64 x, .int .u64 y] w fun e w' => e = .returned (.tuple #[.int .u64 ((x * y / 18446744073709551616 : Nat) : Int), .int .u64 ((x * y % 18446744073709551616 : Nat) : Int)]) ∧ w' = w := Any.bits_Mul Try.lays212 x y hx hy w
def Try.laysNm220_ren : Go.Shelf.Ren := ⟨fun | 20 => 63 | n => n, fun | 22 => 26 | 3 => 3 | 4 => 4 | 0 => 0 | n => n, fun | n => n⟩
theorem Try.laysNm220 : Go.Proofs.Lays2.n20 Try.prog Try.laysNm220_ren := {
  mixed := by kernel_rfl
  f20 := Try.func63.trans (congrArg some (by kernel_rfl))
  t0 := Try.underlying0
  a0 := Try.isAgg0
  z0 := Try.sizeOf0
  v0 := Try.zeroValue0
  t3 := Try.underlying3
  a3 := Try.isAgg3
  z3 := Try.sizeOf3
  v3 := Try.zeroValue3
  t4 := Try.underlying4
  a4 := Try.isAgg4
  z4 := Try.sizeOf4
  v4 := Try.zeroValue4
  t22 := Try.underlying26
  a22 := Try.isAgg26
  z22 := Try.sizeOf26
  v22 := Try.zeroValue26
  i3 := by kernel_rfl }
open Go.RowKit Go.Lib Go.Sort in
theorem Try.slices_Compact_int (blk off cap : Nat) (zs : List Int) (w : World) (hH : Holds (Value.int .i64) w blk off zs.toArray) (hsz : zs.length ≤ 9223372036854775807) (hcap : zs.length ≤ cap) :
    Calls Try.prog 63 #[.slice (some ⟨blk, off, none⟩) zs.length cap] w fun e w' => e = .returned (.slice (some ⟨blk, off, none⟩) (Lib.compact zs).length cap) ∧ ∃ q, w' = putRow (Value.int .i64) (Sort.ahead w q) blk off (Lib.compact zs ++ List.replicate (zs.length - (Lib.compact zs).length) 0).toArray := Any.slices_Compact_int Try.laysNm220 blk off cap zs w hH hsz hcap
open Go.RowKit Go.Lib Go.Sort in
theorem Try.slices_Compact_int_empty (a : Option Addr) (cap : Nat) (w : World) :
    Calls Try.prog 63 #[.slice a 0 cap] w fun e w' => e = .returned (.slice a 0 cap) ∧ w' = w := Any.slices_Compact_int_empty Try.laysNm220 a cap w
end Go.Proofs

/-
  THE GRAPH FUNCTIONS: sorting and compacting; rows of rows. Conditions: none.
-/
namespace Go.Proofs.Yteifhcohmipdcaa
open Go.Abs
set_option linter.unusedSimpArgs false
set_option linter.unusedVariables false
def sortI (l : List Int) : List Int := l.mergeSort fun x y => decide (x ≤ y)
theorem sortI_len (l : List Int) : (sortI l).length = l.length := by simp [sortI]
theorem sort_row {l : List Int} (hl : l.length ≤ 1000000) {H : AHeap} {id e g n : Nat} {rest : List AV} (hb : H.get id = some (.row e 1 g (l.map (AV.int IntKind.i64) ++ rest))) (hn : n = l.length) {K : AV → AHeap → Prop}
    (hK : K (.tup []) (H.put id (.row e 1 g ((sortI l).map (AV.int IntKind.i64) ++ rest)))) : ACalls Try.prog 57 [.sl id g 0 n] H K :=
  ACalls.of_putRow (enc := Value.int .i64) (encA := (AV.int IntKind.i64)) (callable_of Try.func57 rfl rfl) (fun G w x c => vrel_int) (fun x => ⟨rfl, rfl⟩) (sortI_len l) (fun _ _ _ => .tuple #[]) (.tup []) (fun _ _ _ _ _ _ _ _ _ => .tup rfl (fun j v c hj => by simp at hj))
    (fun blk off cap w hH hblk _ => Try.slices_Sort_int blk off cap l w hH hblk (by omega)) hb hn hK
theorem compact_len (l : List Int) : (Lib.compact l).length ≤ l.length := Lib.compact_length_le l
theorem compact_row {l : List Int} (hl : l.length ≤ 1000000) {H : AHeap} {id e g n : Nat} {rest : List AV} (hb : H.get id = some (.row e 1 g (l.map (AV.int IntKind.i64) ++ rest))) (hn : n = l.length) {K : AV → AHeap → Prop}
    (hK : K (.sl id g 0 (Lib.compact l).length) (H.put id (.row e 1 g ((Lib.compact l ++ List.replicate (l.length - (Lib.compact l).length) 0).map (AV.int IntKind.i64) ++ rest)))) : ACalls Try.prog 63 [.sl id g 0 n] H K :=
  ACalls.of_putRow (enc := Value.int .i64) (encA := (AV.int IntKind.i64)) (callable_of Try.func63 rfl rfl) (fun G w x c => vrel_int) (fun x => ⟨rfl, rfl⟩)
    (ys := Lib.compact l ++ List.replicate (l.length - (Lib.compact l).length) 0) (by have := compact_len l; simp; omega) (fun b o c => .slice (some ⟨b, o, none⟩) (Lib.compact l).length c) (.sl id g 0 (Lib.compact l).length)
    (fun G w o c h1 h2 h3 h4 h5 => .sl h1 h2 (by have := compact_len l; omega) (Nat.le_trans (compact_len l) h4) (h5.imp (fun h => by omega) (fun h => h)))
    (fun blk off cap w hH hblk hcap => (Try.slices_Compact_int blk off cap l w hH (by omega) hcap).mono fun e w' ⟨h1, q, h2⟩ => ⟨h1, q, #[], by rw [Sort.grow_empty]; exact h2⟩) hb hn hK
theorem mul_ok {x y : Nat} (hx : x < 18446744073709551616) (hy : y < 18446744073709551616) : Fun1 Try.prog 72 [.int .u64 x, .int .u64 y] (.tup [.int .u64 ((x * y / 18446744073709551616 : Nat) : Int), .int .u64 ((x * y % 18446744073709551616 : Nat) : Int)]) :=
  Fun1.of_calls (cargs := #[.int .u64 x, .int .u64 y]) (callable_of Try.func72 rfl rfl) rfl (fun j v u hj hu G w u' h => by
    match j, hj, hu with
    | 0, hj, hu => simp at hj hu; subst hj; subst hu; exact vrel_int.1 h
    | 1, hj, hu => simp at hj hu; subst hj; subst hu; exact vrel_int.1 h)
    (fun G w => .tup rfl fun j v c hj hc => by
      match j, hj, hc with
      | 0, hj, hc => simp at hj hc; subst hj; subst hc; exact .int _ _
      | 1, hj, hc => simp at hj hc; subst hj; subst hc; exact .int _ _) (fun w => Try.bits_Mul x y hx hy w)
theorem len64_ok : Fun1 Try.prog 69 [.int .u64 0] (.int .i64 0) :=
  Fun1.of_calls (cargs := #[.int .u64 0]) (callable_of Try.func69 rfl rfl) rfl (fun j v u hj hu G w u' h => by
    match j, hj, hu with
    | 0, hj, hu => simp at hj hu; subst hj; subst hu; exact vrel_int.1 h)
    (fun G w => .int _ _) (fun w => Try.bits_Len 0 w (by omega) (by omega))
end Go.Proofs.Yteifhcohmipdcaa

/-
  THE GRAPH FUNCTIONS, plain law 5: the successors of a node, in increasing order. Conditions: none.
-/
namespace Go.Proofs.Yteifhcohmipdcaa
open Go.Abs
set_option linter.unusedSimpArgs false
set_option linter.unusedVariables false

theorem strict_eq : ∀ {l m : List Int}, l.Pairwise (· < ·) → m.Pairwise (· < ·) → (∀ x, x ∈ l ↔ x ∈ m) → l = m
  | [], [], _, _, _ => rfl
  | [], b :: m, _, _, h => by have := (h b).2 (by simp); simp at this
  | a :: l, [], _, _, h => by have := (h a).1 (by simp); simp at this
  | a :: l, b :: m, hl, hm, h => by
    have hl' := List.pairwise_cons.1 hl
    have hm' := List.pairwise_cons.1 hm
    have hab : a = b := by
      have h1 : a ∈ b :: m := (h a).1 (by simp)
      have h2 : b ∈ a :: l := (h b).2 (by simp)
      simp only [List.mem_cons] at h1 h2
      rcases h1 with h1 | h1
      · exact h1
      · rcases h2 with h2 | h2
        · exact h2.symm
        · have := hl'.1 b h2; have := hm'.1 a h1; omega
    subst hab
    rw [strict_eq hl'.2 hm'.2 fun x => ?_]
    have hx := h x
    simp only [List.mem_cons] at hx
    constructor
    · intro q
      rcases hx.1 (.inr q) with e | e
      · have := hl'.1 x q; omega
      · exact e
    · intro q
      rcases hx.2 (.inr q) with e | e
      · have := hm'.1 x q; omega
      · exact e

theorem compact_mem {l : List Int} {x : Int} : x ∈ Lib.compact l ↔ x ∈ l := by
  simp only [Lib.compact, Lib.compactUpTo, List.mem_map, List.mem_filter, List.mem_range]
  constructor
  · rintro ⟨j, ⟨hj, _⟩, rfl⟩
    simp [hj]
  · intro hx
    obtain ⟨j, hj⟩ := List.mem_iff_getElem?.1 hx
    induction j using Nat.strongRecOn with
    | _ j ih =>
      have hjl := (List.getElem?_eq_some_iff.1 hj).1
      have hv := (List.getElem?_eq_some_iff.1 hj).2
      by_cases hk : Lib.keeps l.toArray j = true
      · exact ⟨j, ⟨hjl, hk⟩, by simp [hjl, hv]⟩
      · simp only [Lib.keeps, decide_eq_true_eq, not_or, ne_eq, Decidable.not_not] at hk
        refine ih (j - 1) (by omega) ?_
        have h1 : j - 1 < l.length := by omega
        have := hk.2
        simp [hjl, h1, hv] at this
        rw [List.getElem?_eq_getElem h1, this]
theorem compact_strict {l : List Int} (hs : l.Pairwise (· ≤ ·)) : (Lib.compact l).Pairwise (· < ·) := by
  simp only [Lib.compact, Lib.compactUpTo]
  rw [List.pairwise_map, List.pairwise_filter]
  refine List.Pairwise.imp_of_mem ?_ (List.pairwise_lt_range)
  intro i j hi hj hij h1 h2
  have hjl : j < l.length := List.mem_range.1 hj
  have hil : i < l.length := List.mem_range.1 hi
  simp only [Lib.keeps, decide_eq_true_eq] at h2
  rcases h2 with h2 | h2
  · omega
  · have h3 : j - 1 < l.length := by omega
    simp only [List.getElem!_toArray] at h2 ⊢
    simp [hjl, h3, hil] at h2 ⊢
    have hle : ∀ a b : Nat, (ha : a < l.length) → (hb : b < l.length) → a ≤ b → l[a] ≤ l[b] := fun a b ha hb hab => by
      rcases Nat.lt_or_eq_of_le hab with h | h
      · exact List.pairwise_iff_getElem.1 hs a b ha hb h
      · subst h; exact Int.le_refl _
    have q1 := hle i (j - 1) hil h3 (by omega)
    have q2 := hle (j - 1) j h3 hjl (by omega)
    omega
theorem sortI_sorted (l : List Int) : (sortI l).Pairwise (· ≤ ·) := by
  have := List.pairwise_mergeSort (le := fun x y : Int => decide (x ≤ y)) (fun a b c h1 h2 => by simp at *; omega) (fun a b => by simp; omega) l
  exact this.imp (fun h => by simpa using h)
theorem sortI_mem {l : List Int} {x : Int} : x ∈ sortI l ↔ x ∈ l := List.mem_mergeSort

/-- The nodes to which edges lead from a node. -/
def targets (es : List (Int × Int)) (i : Nat) : List Int := (es.filter fun e => decide (e.1 = (i : Int))).map Prod.snd
def Gr.succ (g : Gr) (i : Nat) : List Int := ((List.range g.nodes.length).filter fun k => g.hasEdge i (k : Nat)).map fun k : Nat => (k : Int)
def Gr.succs (g : Gr) : List (List Int) := (List.range g.nodes.length).map g.succ
theorem succ_mem {g : Gr} (hv : g.valid = true) {i : Nat} {x : Int} : x ∈ g.succ i ↔ ((i : Int), x) ∈ g.edges := by
  simp only [Gr.succ, List.mem_map, List.mem_filter, List.mem_range, hasEdge_iff]
  constructor
  · rintro ⟨k, ⟨_, h⟩, rfl⟩; exact h
  · intro h
    have hx := (valid_edge hv h).2
    have e : (x.toNat : Int) = x := Int.toNat_of_nonneg hx.1
    exact ⟨x.toNat, ⟨in_toNat hx, by rw [e]; exact h⟩, e⟩
theorem succ_strict (g : Gr) (i : Nat) : (g.succ i).Pairwise (· < ·) := by
  simp only [Gr.succ]
  rw [List.pairwise_map]
  refine List.Pairwise.imp ?_ (List.Pairwise.filter _ List.pairwise_lt_range)
  intro a b h; omega
theorem targets_mem {es : List (Int × Int)} {i : Nat} {x : Int} : x ∈ targets es i ↔ ((i : Int), x) ∈ es := by
  simp only [targets, List.mem_map, List.mem_filter, decide_eq_true_eq]
  constructor
  · rintro ⟨⟨a, b⟩, ⟨h, rfl⟩, rfl⟩; exact h
  · intro h; exact ⟨_, ⟨h, rfl⟩, rfl⟩
theorem succ_eq {g : Gr} (hv : g.valid = true) (i : Nat) : Lib.compact (sortI (targets g.edges i)) = g.succ i :=
  strict_eq (compact_strict (sortI_sorted _)) (succ_strict g i) fun x => by rw [compact_mem, sortI_mem, targets_mem, succ_mem hv]
theorem succ_len (g : Gr) (i : Nat) : (g.succ i).length ≤ g.nodes.length := by
  simp only [Gr.succ, List.length_map]
  exact Nat.le_trans (List.length_filter_le _ _) (by simp)
end Go.Proofs.Yteifhcohmipdcaa

/-
  THE GRAPH FUNCTIONS: rows of rows in memory. Conditions: none.
-/
namespace Go.Proofs.Yteifhcohmipdcaa
open Go.Abs
set_option linter.unusedSimpArgs false
set_option linter.unusedVariables false
/-- A row of the call's own with room behind it, or nil. -/
def OwnR (e sz lo : Nat) (es : List AV) (v : AV) (H : AHeap) : Prop := (v = .nils ∧ es = []) ∨ ∃ id g rest, v = .sl id g 0 es.length ∧ H.get id = some (.row e sz g (es ++ rest)) ∧ lo ≤ id
theorem OwnR.mk {e sz lo id g n : Nat} {es rest es' : List AV} {H : AHeap} (hb : H.get id = some (.row e sz g es')) (he : es' = es ++ rest) (hn : n = es.length) (hlo : lo ≤ id) : OwnR e sz lo es (.sl id g 0 n) H := by
  subst he; subst hn; exact .inr ⟨id, g, rest, rfl, hb, hlo⟩
theorem OwnR.frz {e sz lo : Nat} {es : List AV} {v : AV} {H : AHeap} (h : OwnR e sz lo es v H) (hv : ∀ x ∈ es, Pu x) (h1 : ∀ x ∈ es, ∀ v ∈ x.cells, v.one = true) : Frz H v (.ro es) := by
  rcases h with ⟨rfl, rfl⟩ | ⟨id, g, rest, rfl, hb, _⟩
  · exact .nils
  · refine .sl hb (by simp) rfl (fun j x y hx hy q u v hu hv' => ?_) (fun y hy => ⟨y, List.mem_append.2 (.inl hy), rfl⟩) h1
    rw [Nat.zero_add, List.getElem?_append_left (List.getElem?_eq_some_iff.1 hy).1] at hx
    rw [hx] at hy; cases hy
    rw [hu] at hv'; cases hv'
    exact .pure ((hv x (List.mem_of_getElem? hx)).cells (List.mem_of_getElem? hu))
theorem OwnR.keep {e sz lo : Nat} {es : List AV} {v : AV} {H H' : AHeap} (h : OwnR e sz lo es v H) (hk : ∀ id g n, v = .sl id g 0 n → H'.get id = H.get id) : OwnR e sz lo es v H' := by
  rcases h with h | ⟨id, g, rest, h1, h2, h3⟩
  · exact .inl h
  · exact .inr ⟨id, g, rest, h1, by rw [hk id g _ h1]; exact h2, h3⟩
structure Rows (lo : Nat) (vs : List AV) (ls : List (List Int)) (H : AHeap) : Prop where
  len : vs.length = ls.length
  own : ∀ (i : Nat) (v : AV) (l : List Int), vs[i]? = some v → ls[i]? = some l → OwnR 3 1 lo (l.map (AV.int IntKind.i64)) v H
  ne : ∀ (i j id g n g' n' : Nat), vs[i]? = some (.sl id g 0 n) → vs[j]? = some (.sl id g' 0 n') → i = j
theorem Rows.at {lo : Nat} {vs : List AV} {ls : List (List Int)} {H : AHeap} (h : Rows lo vs ls H) {i : Nat} {v : AV} (hv : vs[i]? = some v) : ∃ l, ls[i]? = some l ∧ OwnR 3 1 lo (l.map (AV.int IntKind.i64)) v H := by
  have hi := (List.getElem?_eq_some_iff.1 hv).1
  have hl : ls[i]? = some (ls[i]'(h.len ▸ hi)) := List.getElem?_eq_getElem _
  exact ⟨_, hl, h.own i v _ hv hl⟩
theorem Rows.used {lo : Nat} {vs : List AV} {ls : List (List Int)} {H : AHeap} (h : Rows lo vs ls H) {i id g n : Nat} (hv : vs[i]? = some (.sl id g 0 n)) : H.get id ≠ none ∧ lo ≤ id := by
  obtain ⟨l, _, ho⟩ := h.at hv
  rcases ho with ⟨h1, _⟩ | ⟨id', g', rest, h1, h2, h3⟩
  · cases h1
  · cases h1; exact ⟨by rw [h2]; simp, h3⟩
theorem Rows.set {lo : Nat} {vs : List AV} {ls : List (List Int)} {H H' : AHeap} (h : Rows lo vs ls H) {k : Nat} {v : AV} {l : List Int} (hv : OwnR 3 1 lo (l.map (AV.int IntKind.i64)) v H')
    (ho : ∀ (j id g n : Nat), j ≠ k → vs[j]? = some (.sl id g 0 n) → H'.get id = H.get id ∧ ∀ g' n', v ≠ .sl id g' 0 n') : Rows lo (vs.set k v) (ls.set k l) H' := by
  refine ⟨by simpa using h.len, fun i u m hu hm => ?_, fun i j id g n g' n' hi hj => ?_⟩
  · rw [List.getElem?_set] at hu hm
    by_cases hik : k = i
    · subst hik
      simp only [if_true] at hu hm
      split at hu
      · split at hm
        · cases hu; cases hm; exact hv
        · cases hm
      · cases hu
    · rw [if_neg hik] at hu hm
      exact (h.own i u m hu hm).keep fun id g n e => (ho i id g n (Ne.symm hik) (e ▸ hu)).1
  · rw [List.getElem?_set] at hi hj
    by_cases hik : k = i
    · subst hik
      simp only [if_true] at hi
      split at hi
      · by_cases hjk : k = j
        · exact hjk
        · rw [if_neg hjk] at hj
          cases hi
          exact absurd rfl ((ho j id g' n' (Ne.symm hjk) hj).2 g n)
      · cases hi
    · rw [if_neg hik] at hi
      by_cases hjk : k = j
      · subst hjk
        simp only [if_true] at hj
        split at hj
        · cases hj
          exact absurd rfl ((ho i id g n (Ne.symm hik) hi).2 g' n')
        · cases hj
      · rw [if_neg hjk] at hj
        exact h.ne i j id g n g' n' hi hj
theorem Rows.keep {lo : Nat} {vs : List AV} {ls : List (List Int)} {H H' : AHeap} (h : Rows lo vs ls H) (hk : ∀ id, lo ≤ id → H.get id ≠ none → H'.get id = H.get id) : Rows lo vs ls H' :=
  ⟨h.len, fun i v l hv hl => (h.own i v l hv hl).keep fun id g n e => (by have := h.used (e ▸ hv); exact hk id this.2 this.1), h.ne⟩
theorem rows_nil (lo n : Nat) (H : AHeap) : Rows lo (List.replicate n .nils) (List.replicate n []) H :=
  ⟨by simp, fun i v l hv hl => (by
    rw [List.getElem?_replicate] at hv hl
    split at hv
    · rename_i h; rw [if_pos h] at hl; cases hv; cases hl; exact .inl ⟨rfl, rfl⟩
    · cases hv), fun i j id g n g' n' hi hj => (by
    rw [List.getElem?_replicate] at hi
    split at hi
    · cases hi
    · cases hi)⟩
/-- Lists of lists, as they are written down. -/
def encS (ss : List (List Int)) : AV := .ro (ss.map fun l => .ro (l.map (AV.int IntKind.i64)))
theorem pu_encS (ss : List (List Int)) : Pu (encS ss) := .ro fun v hv => by obtain ⟨l, _, rfl⟩ := List.mem_map.1 hv; exact pu_ints _
theorem Rows.frz {lo id e g n : Nat} {vs : List AV} {ls : List (List Int)} {H : AHeap} (h : Rows lo vs ls H) (hb : H.get id = some (.row e 1 g vs)) (hn : n = vs.length) : Frz H (.sl id g 0 n) (encS ls) := by
  subst hn
  refine .sl hb (by simp) (by simp [h.len]) (fun j x y hx hy q u v hu hv => ?_) (fun y hy => ?_) (fun y hy v hv => ?_)
  · rw [Nat.zero_add] at hx
    rw [List.getElem?_map, Option.map_eq_some_iff] at hy
    obtain ⟨l, hl, rfl⟩ := hy
    have ho := h.own j x l hx hl
    have hxc : x.cells = [x] := by rcases ho with ⟨rfl, _⟩ | ⟨_, _, _, rfl, _⟩ <;> rfl
    rw [hxc] at hu
    simp only [AV.cells] at hv
    cases q with
    | zero => simp at hu hv; subst hu; subst hv; exact ho.frz (fun _ => pu_of_ints) (fun _ => one_ints)
    | succ q => simp at hu
  · obtain ⟨l, hl, rfl⟩ := List.mem_map.1 hy
    obtain ⟨i, hi⟩ := List.mem_iff_getElem?.1 hl
    have hil : i < vs.length := by rw [h.len]; exact (List.getElem?_eq_some_iff.1 hi).1
    have ho := h.own i vs[i] l (List.getElem?_eq_getElem hil) hi
    refine ⟨vs[i], List.getElem_mem hil, ?_⟩
    rcases ho with ⟨e1, _⟩ | ⟨_, _, _, e1, _⟩ <;> rw [e1] <;> rfl
  · obtain ⟨l, hl, rfl⟩ := List.mem_map.1 hy
    simp only [AV.cells, List.mem_singleton] at hv; subst hv; rfl
/-- The targets of the first edges, node by node. -/
def tgs (g : Gr) (i : Nat) : List (List Int) := (List.range g.nodes.length).map (targets (g.edges.take i))
theorem tgs_get {g : Gr} {i k : Nat} (hk : k < g.nodes.length) : (tgs g i)[k]? = some (targets (g.edges.take i) k) := by simp [tgs, hk]
theorem tgs_zero (g : Gr) : tgs g 0 = List.replicate g.nodes.length [] := by
  refine List.ext_getElem? fun k => ?_
  rw [List.getElem?_replicate]
  by_cases hk : k < g.nodes.length
  · rw [tgs_get hk, if_pos hk]; simp [targets]
  · rw [if_neg hk, List.getElem?_eq_none (by simp [tgs]; omega)]
theorem targets_snoc {es : List (Int × Int)} {i : Nat} (h : i < es.length) (k : Nat) : targets (es.take (i + 1)) k = targets (es.take i) k ++ if es[i].1 = (k : Int) then [es[i].2] else [] := by
  rw [List.take_succ_eq_append_getElem h]
  simp only [targets, List.filter_append, List.map_append]
  by_cases hk : es[i].1 = (k : Int) <;> simp [hk]
theorem tgs_succ {g : Gr} {i : Nat} (h : i < g.edges.length) (hr : inR g.nodes.length g.edges[i].1) : tgs g (i + 1) = (tgs g i).set g.edges[i].1.toNat (targets (g.edges.take i) g.edges[i].1.toNat ++ [g.edges[i].2]) := by
  have hk := in_toNat hr
  have e : (g.edges[i].1.toNat : Int) = g.edges[i].1 := Int.toNat_of_nonneg hr.1
  refine List.ext_getElem? fun k => ?_
  rw [List.getElem?_set]
  by_cases hkl : k < g.nodes.length
  · rw [tgs_get hkl, targets_snoc h]
    by_cases hke : g.edges[i].1.toNat = k
    · subst hke
      rw [if_pos rfl, if_pos e.symm, if_pos (by simp [tgs]; exact hkl)]
    · rw [if_neg hke, tgs_get hkl, if_neg (by omega)]; simp
  · rw [List.getElem?_eq_none (by simp [tgs]; omega)]
    split
    · omega
    · rw [List.getElem?_eq_none (by simp [tgs]; omega)]
/-- The targets, the first ones sorted and compacted. -/
def scs (g : Gr) (i : Nat) : List (List Int) := (List.range g.nodes.length).map fun j => if j < i then g.succ j else targets g.edges j
theorem scs_get {g : Gr} {i k : Nat} (hk : k < g.nodes.length) : (scs g i)[k]? = some (if k < i then g.succ k else targets g.edges k) := by simp [scs, hk]
theorem scs_zero (g : Gr) : scs g 0 = tgs g g.edges.length := by simp [scs, tgs]
theorem scs_succ {g : Gr} {i : Nat} : scs g (i + 1) = (scs g i).set i (g.succ i) := by
  refine List.ext_getElem? fun k => ?_
  rw [List.getElem?_set]
  by_cases hkl : k < g.nodes.length
  · rw [scs_get hkl]
    by_cases hke : i = k
    · subst hke; simp [scs, hkl]
    · rw [if_neg hke, scs_get hkl]
      by_cases h : k < i
      · rw [if_pos h, if_pos (by omega)]
      · rw [if_neg h, if_neg (by omega)]
  · have hlen : ∀ i, (scs g i).length = g.nodes.length := fun i => by simp [scs]
    rw [List.getElem?_eq_none (by rw [hlen]; omega)]
    split
    · rw [if_neg (by rw [hlen]; omega)]
    · rw [List.getElem?_eq_none (by rw [hlen]; omega)]
theorem scs_end {g : Gr} : scs g g.nodes.length = g.succs := by
  refine List.ext_getElem? fun k => ?_
  by_cases hkl : k < g.nodes.length
  · rw [scs_get hkl, if_pos hkl]; simp [Gr.succs, hkl]
  · rw [List.getElem?_eq_none (by simp [scs]; omega), List.getElem?_eq_none (by simp [Gr.succs]; omega)]
theorem targets_len (es : List (Int × Int)) (i : Nat) : (targets es i).length ≤ es.length := by
  simp only [targets, List.length_map]; exact List.length_filter_le _ _
end Go.Proofs.Yteifhcohmipdcaa

/-
  THE GRAPH FUNCTIONS, 8: newSuccessors. Conditions: a valid graph. (Printed by w8.py.)
-/
namespace Go.Proofs.Yteifhcohmipdcaa
open Go.Abs
set_option linter.unusedSimpArgs false
set_option linter.unusedVariables false

set_option maxHeartbeats 1000000 in
theorem insNil0  : ACalls Try.prog 74 [.nils, (AV.int IntKind.i64) 0, (AV.int IntKind.i64) 0] AHeap.nil (fun r _ => r = .tup []) := by
  refine acalls_body TT_ok Try.func74 rfl rfl (by simp [Try.ntmps74]) ?_
  rw [Try.ntmps74]
  obtain ⟨σ, hσ⟩ : ∃ σ, σ = st0 [.nils, (AV.int IntKind.i64) 0, (AV.int IntKind.i64) 0] := ⟨_, rfl⟩
  rw [← hσ]
  have h0_0 := congrFun hσ 0
  simp [st0] at h0_0
  have h1_0 := congrFun hσ 1
  simp [st0] at h1_0
  have h2_0 := congrFun hσ 2
  simp [st0] at h2_0
  clear hσ
  obtain ⟨H, hH⟩ : ∃ H, H = AHeap.nil := ⟨_, rfl⟩
  rw [← hH]
  have hn_0 : H.n = 0 := by rw [hH]; rfl
  have hst_0 : H.st = 1 := by rw [hH]; rfl
  clear hH
  refine stp_reg TT_ok (by rfl) fun K hK => ?_
  simp [h1_0, wrap_ok (n := 1) (by omega) (by omega)]
  try refine And.intro (by first | omega | rfl) ?_
  refine hK _ _ fun σ1 hσ H1 hH => ?_
  clear hK K
  have h0_1 := congrFun hσ 0
  have h1_1 := congrFun hσ 1
  have h2_1 := congrFun hσ 2
  have h6_1 := congrFun hσ 6
  simp [h0_0, h1_0, h2_0] at h0_1 h1_1 h2_1 h6_1
  clear hσ
  replace hH : H = H1 := Eq.symm hH
  subst hH
  refine awp_block ?_
  refine awp_loopV (fun n σ' H' => n = 0 ∧ σ' 0 = σ1 0 ∧ σ' 1 = σ1 1 ∧ σ' 2 = σ1 2 ∧ σ' 6 = (AV.int IntKind.i64) 1 ∧ H' = H) ?_ ?_
  · refine ⟨_, rfl, rfl, rfl, rfl, (by simp [h6_1]), rfl⟩
  · rintro n1 σ2 H2 ⟨hn1, q0_2, q1_2, q2_2, h6_2, hHq⟩
    have h0_2 := q0_2.trans h0_1
    have h1_2 := q1_2.trans h1_1
    have h2_2 := q2_2.trans h2_1
    replace hHq := hHq.symm
    subst hHq
    refine awp_seq ?_
    refine stp_reg TT_ok (by rfl) fun K hK => ?_
    simp [h2_2, h6_2]
    try refine And.intro (by first | omega | rfl) ?_
    refine hK _ _ fun σ3 hσ H3 hH => ?_
    clear hK K
    have h0_3 := congrFun hσ 0
    have h1_3 := congrFun hσ 1
    have h2_3 := congrFun hσ 2
    have h6_3 := congrFun hσ 6
    have h12_3 := congrFun hσ 12
    simp [h0_2, h1_2, h2_2, h6_2] at h0_3 h1_3 h2_3 h6_3 h12_3
    clear hσ
    replace hH : H = H3 := Eq.symm hH
    subst hH
    refine stp_false (by simp [aeval_tmp, h12_3]) ?_
    refine awp_exit ?_
    refine q_seq_exit ?_
    refine q_loop_exit ?_
    refine q_block_hit ?_
    refine q_fin0 ?_
    first | rfl | (simp; done)

theorem insNil_ok : Fun1 Try.prog 74 [.nils, (AV.int IntKind.i64) 0, (AV.int IntKind.i64) 0] (.tup []) := fun1_pure insNil0 (pu_cons .nils (pu_cons (pu_int _ _) (pu_cons (pu_int _ _) pu_nil))) (.tup pu_nil)

set_option maxHeartbeats 1000000 in
theorem pdqNil0  : ACalls Try.prog 68 [.nils, (AV.int IntKind.i64) 0, (AV.int IntKind.i64) 0, (AV.int IntKind.i64) 0] AHeap.nil (fun r _ => r = .tup []) := by
  refine acalls_body TT_ok Try.func68 rfl rfl (by simp [Try.ntmps68]) ?_
  rw [Try.ntmps68]
  obtain ⟨σ, hσ⟩ : ∃ σ, σ = st0 [.nils, (AV.int IntKind.i64) 0, (AV.int IntKind.i64) 0, (AV.int IntKind.i64) 0] := ⟨_, rfl⟩
  rw [← hσ]
  have h0_0 := congrFun hσ 0
  simp [st0] at h0_0
  have h1_0 := congrFun hσ 1
  simp [st0] at h1_0
  have h2_0 := congrFun hσ 2
  simp [st0] at h2_0
  have h3_0 := congrFun hσ 3
  simp [st0] at h3_0
  clear hσ
  obtain ⟨H, hH⟩ : ∃ H, H = AHeap.nil := ⟨_, rfl⟩
  rw [← hH]
  have hn_0 : H.n = 0 := by rw [hH]; rfl
  have hst_0 : H.st = 1 := by rw [hH]; rfl
  clear hH
  refine stp_reg TT_ok (by rfl) fun K hK => ?_
  simp []
  try refine And.intro (by first | omega | rfl) ?_
  refine hK _ _ fun σ1 hσ H1 hH => ?_
  clear hK K
  have h0_1 := congrFun hσ 0
  have h1_1 := congrFun hσ 1
  have h2_1 := congrFun hσ 2
  have h3_1 := congrFun hσ 3
  have h8_1 := congrFun hσ 8
  simp [h0_0, h1_0, h2_0, h3_0] at h0_1 h1_1 h2_1 h3_1 h8_1
  clear hσ
  replace hH : H = H1 := Eq.symm hH
  subst hH
  refine stp_reg TT_ok (by rfl) fun K hK => ?_
  simp []
  try refine And.intro (by first | omega | rfl) ?_
  refine hK _ _ fun σ2 hσ H2 hH => ?_
  clear hK K
  have h0_2 := congrFun hσ 0
  have h1_2 := congrFun hσ 1
  have h2_2 := congrFun hσ 2
  have h3_2 := congrFun hσ 3
  have h8_2 := congrFun hσ 8
  have h9_2 := congrFun hσ 9
  simp [h0_1, h1_1, h2_1, h3_1, h8_1] at h0_2 h1_2 h2_2 h3_2 h8_2 h9_2
  clear hσ
  replace hH : H = H2 := Eq.symm hH
  subst hH
  refine awp_block ?_
  refine awp_loopV (fun n σ' H' => n = 0 ∧ σ' 0 = σ2 0 ∧ σ' 1 = (AV.int IntKind.i64) 0 ∧ σ' 2 = (AV.int IntKind.i64) 0 ∧ σ' 3 = (AV.int IntKind.i64) 0 ∧ σ' 8 = .bool true ∧ σ' 9 = .bool true ∧ H' = H) ?_ ?_
  · refine ⟨_, rfl, rfl, (by simp [h1_2]), (by simp [h2_2]), (by simp [h3_2]), (by simp [h8_2]), (by simp [h9_2]), rfl⟩
  · rintro n1 σ3 H3 ⟨hn1, q0_3, h1_3, h2_3, h3_3, h8_3, h9_3, hHq⟩
    have h0_3 := q0_3.trans h0_2
    replace hHq := hHq.symm
    subst hHq
    refine awp_block ?_
    refine stp_reg TT_ok (by rfl) fun K hK => ?_
    simp [h1_3, h2_3, wrap_ok (n := 0) (by omega) (by omega)]
    try refine And.intro (by first | omega | rfl) ?_
    refine hK _ _ fun σ4 hσ H4 hH => ?_
    clear hK K
    have h0_4 := congrFun hσ 0
    have h1_4 := congrFun hσ 1
    have h2_4 := congrFun hσ 2
    have h3_4 := congrFun hσ 3
    have h8_4 := congrFun hσ 8
    have h9_4 := congrFun hσ 9
    have h10_4 := congrFun hσ 10
    simp [h0_3, h1_3, h2_3, h3_3, h8_3, h9_3] at h0_4 h1_4 h2_4 h3_4 h8_4 h9_4 h10_4
    clear hσ
    replace hH : H = H4 := Eq.symm hH
    subst hH
    refine awp_seq ?_
    refine stp_reg TT_ok (by rfl) fun K hK => ?_
    simp [h10_4]
    try refine And.intro (by first | omega | rfl) ?_
    refine hK _ _ fun σ5 hσ H5 hH => ?_
    clear hK K
    have h0_5 := congrFun hσ 0
    have h1_5 := congrFun hσ 1
    have h2_5 := congrFun hσ 2
    have h3_5 := congrFun hσ 3
    have h8_5 := congrFun hσ 8
    have h9_5 := congrFun hσ 9
    have h10_5 := congrFun hσ 10
    have h23_5 := congrFun hσ 23
    simp [h0_4, h1_4, h2_4, h3_4, h8_4, h9_4, h10_4] at h0_5 h1_5 h2_5 h3_5 h8_5 h9_5 h10_5 h23_5
    clear hσ
    replace hH : H = H5 := Eq.symm hH
    subst hH
    refine stp_true (by simp [aeval_tmp, h23_5]) ?_
    refine stp_reg TT_ok (by rfl) fun K hK => ?_
    simp [h0_5, h1_5, h2_5]
    try refine And.intro (by first | omega | rfl) ?_
    refine stp_call (insNil_ok) ?_
    simp [h0_5, h1_5, h2_5]
    try refine And.intro (by first | omega | rfl) ?_
    refine hK _ _ fun σ6 hσ H6 hH => ?_
    clear hK K
    clear hσ
    replace hH : H = H6 := Eq.symm hH
    subst hH
    refine awp_ret ?_
    refine q_seq_ret ?_
    refine q_block_ret ?_
    refine q_loop_ret ?_
    refine q_block_ret ?_
    refine q_fin0r ?_
    first | rfl | (simp; done)

theorem pdqNil_ok : Fun1 Try.prog 68 [.nils, (AV.int IntKind.i64) 0, (AV.int IntKind.i64) 0, (AV.int IntKind.i64) 0] (.tup []) := fun1_pure pdqNil0 (pu_cons .nils (pu_cons (pu_int _ _) (pu_cons (pu_int _ _) (pu_cons (pu_int _ _) pu_nil)))) (.tup pu_nil)

set_option maxHeartbeats 1000000 in
theorem sortNil0  : ACalls Try.prog 57 [.nils] AHeap.nil (fun r _ => r = .tup []) := by
  refine acalls_body TT_ok Try.func57 rfl rfl (by simp [Try.ntmps57]) ?_
  rw [Try.ntmps57]
  obtain ⟨σ, hσ⟩ : ∃ σ, σ = st0 [.nils] := ⟨_, rfl⟩
  rw [← hσ]
  have h0_0 := congrFun hσ 0
  simp [st0] at h0_0
  clear hσ
  obtain ⟨H, hH⟩ : ∃ H, H = AHeap.nil := ⟨_, rfl⟩
  rw [← hH]
  have hn_0 : H.n = 0 := by rw [hH]; rfl
  have hst_0 : H.st = 1 := by rw [hH]; rfl
  clear hH
  refine stp_reg TT_ok (by rfl) fun K hK => ?_
  simp [h0_0]
  try refine And.intro (by first | omega | rfl) ?_
  refine hK _ _ fun σ1 hσ H1 hH => ?_
  clear hK K
  have h0_1 := congrFun hσ 0
  have h2_1 := congrFun hσ 2
  simp [h0_0] at h0_1 h2_1
  clear hσ
  replace hH : H = H1 := Eq.symm hH
  subst hH
  refine stp_regl TT_ok (by rfl) fun K hK => ?_
  simp [h0_1, h2_1, show IntKind.u64.wrap 0 = 0 by rfl]
  try refine And.intro (by first | omega | rfl) ?_
  refine stp_call (len64_ok) ?_
  simp [h0_1, h2_1, show IntKind.u64.wrap 0 = 0 by rfl]
  try refine And.intro (by first | omega | rfl) ?_
  refine stp_call (pdqNil_ok) ?_
  simp [h0_1, h2_1, show IntKind.u64.wrap 0 = 0 by rfl]
  try refine And.intro (by first | omega | rfl) ?_
  refine hK _ _ fun σ2 hσ H2 hH => ?_
  clear hK K
  clear hσ
  replace hH : H = H2 := Eq.symm hH
  subst hH
  refine q_fin0 ?_
  first | rfl | (simp; done)

theorem sortNil_ok : Fun1 Try.prog 57 [.nils] (.tup []) := fun1_pure sortNil0 (pu_cons .nils pu_nil) (.tup pu_nil)

set_option maxHeartbeats 1000000 in
theorem compactNil0  : ACalls Try.prog 63 [.nils] AHeap.nil (fun r _ => r = .nils) := by
  refine acalls_body TT_ok Try.func63 rfl rfl (by simp [Try.ntmps63]) ?_
  rw [Try.ntmps63]
  obtain ⟨σ, hσ⟩ : ∃ σ, σ = st0 [.nils] := ⟨_, rfl⟩
  rw [← hσ]
  have h0_0 := congrFun hσ 0
  simp [st0] at h0_0
  clear hσ
  obtain ⟨H, hH⟩ : ∃ H, H = AHeap.nil := ⟨_, rfl⟩
  rw [← hH]
  have hn_0 : H.n = 0 := by rw [hH]; rfl
  have hst_0 : H.st = 1 := by rw [hH]; rfl
  clear hH
  refine stp_reg TT_ok (by rfl) fun K hK => ?_
  simp []
  try refine And.intro (by first | omega | rfl) ?_
  refine hK _ _ fun σ1 hσ H1 hH => ?_
  clear hK K
  have h0_1 := congrFun hσ 0
  simp [h0_0] at h0_1
  clear hσ
  replace hH : H = H1 := Eq.symm hH
  subst hH
  refine awp_seq ?_
  refine stp_reg TT_ok (by rfl) fun K hK => ?_
  simp [h0_1]
  try refine And.intro (by first | omega | rfl) ?_
  refine hK _ _ fun σ2 hσ H2 hH => ?_
  clear hK K
  have h0_2 := congrFun hσ 0
  have h8_2 := congrFun hσ 8
  simp [h0_1] at h0_2 h8_2
  clear hσ
  replace hH : H = H2 := Eq.symm hH
  subst hH
  refine stp_true (by simp [aeval_tmp, h8_2]) ?_
  refine stp_reg TT_ok (by rfl) fun K hK => ?_
  simp [h0_2]
  try refine And.intro (by first | omega | rfl) ?_
  refine hK _ _ fun σ3 hσ H3 hH => ?_
  clear hK K
  have h2_3 := congrFun hσ 2
  simp [] at h2_3
  clear hσ
  replace hH : H = H3 := Eq.symm hH
  subst hH
  refine awp_ret ?_
  refine q_seq_ret ?_
  refine q_fin1 h2_3 ?_
  first | rfl | (simp; done)

theorem compactNil_ok : Fun1 Try.prog 63 [.nils] .nils := fun1_pure compactNil0 (pu_cons .nils pu_nil) .nils

set_option maxHeartbeats 1000000 in
theorem succs0 (g : Gr) (hv : g.valid = true) : ACalls Try.prog 40 [encG g] AHeap.nil (fun r H => Frz H r (encS g.succs)) := by
  refine acalls_body TT_ok Try.func40 rfl rfl (by simp [Try.ntmps40]) ?_
  rw [Try.ntmps40]
  obtain ⟨σ, hσ⟩ : ∃ σ, σ = st0 [encG g] := ⟨_, rfl⟩
  rw [← hσ]
  have h0_0 := congrFun hσ 0
  simp [st0] at h0_0
  clear hσ
  obtain ⟨H, hH⟩ : ∃ H, H = AHeap.nil := ⟨_, rfl⟩
  rw [← hH]
  have hn_0 : H.n = 0 := by rw [hH]; rfl
  have hst_0 : H.st = 1 := by rw [hH]; rfl
  clear hH
  refine stp_reg TT_ok (by rfl) fun K hK => ?_
  simp [h0_0, hn_0, hst_0, encG]
  try refine And.intro (by first | omega | rfl) ?_
  refine hK _ _ fun σ1 hσ H1 hH => ?_
  clear hK K
  have h1_1 := congrFun hσ 1
  simp [] at h1_1
  clear hσ
  have g0_1 := gt_of hH 0
  simp [hn_0, hst_0] at g0_1
  have hn_1 := congrArg AHeap.n hH
  simp [hn_0, hst_0] at hn_1
  have hst_1 := congrArg AHeap.st hH
  simp [hn_0, hst_0] at hst_1
  clear hH
  obtain ⟨hn1, hn2⟩ := valid_nodes hv
  refine stp_reg TT_ok (by rfl) fun K hK => ?_
  simp [h1_1, g0_1, hn_1, hst_1, encG, show (24 : Int) * (g.nodes.length : Int) ≤ 281474976710656 by omega]
  try refine And.intro (by first | omega | rfl) ?_
  refine hK _ _ fun σ2 hσ H2 hH => ?_
  clear hK K
  have h1_2 := congrFun hσ 1
  have h3_2 := congrFun hσ 3
  simp [h1_1] at h1_2 h3_2
  clear hσ
  have g0_2 := gt_of hH 0
  have g1_2 := gt_of hH 1
  simp [g0_1, hn_1, hst_1] at g0_2 g1_2
  have hn_2 := congrArg AHeap.n hH
  simp [hn_1, hst_1] at hn_2
  have hst_2 := congrArg AHeap.st hH
  simp [hn_1, hst_1] at hst_2
  clear hH
  refine awp_seq ?_
  refine stp_reg TT_ok (by rfl) fun K hK => ?_
  simp [h1_2, g0_2, g1_2, encG]
  try refine And.intro (by first | omega | rfl) ?_
  refine hK _ _ fun σ3 hσ H3 hH => ?_
  clear hK K
  have h3_3 := congrFun hσ 3
  have h12_3 := congrFun hσ 12
  have h13_3 := congrFun hσ 13
  have h14_3 := congrFun hσ 14
  simp [h3_2] at h3_3 h12_3 h13_3 h14_3
  clear hσ
  replace hH : H2 = H3 := Eq.symm hH
  subst hH
  refine awp_block ?_
  refine awp_loopV (fun n σ' H' => ∃ (i : Nat) (vs : List AV), n = g.edges.length - i ∧ σ' 3 = σ3 3 ∧ σ' 12 = σ3 12 ∧ σ' 13 = σ3 13 ∧ σ' 14 = (AV.int IntKind.i64) i ∧ H'.get 0 = H2.get 0 ∧ H'.get 1 = some (.row 26 1 0 vs) ∧ H'.st = H2.st ∧ (i ≤ g.edges.length) ∧ (Rows 2 vs (tgs g i) H')) ?_ ?_
  · refine ⟨_, 0, List.replicate g.nodes.length .nils, rfl, rfl, rfl, rfl, (by simp [h14_3]), rfl, (by simp [g1_2]), rfl, ?_, ?_⟩
    · first | omega | (simp; done) | assumption
    · rw [tgs_zero]; exact rows_nil _ _ _
  · rintro n1 σ4 H4 ⟨i, vs, hn1, q3_4, q12_4, q13_4, h14_4, qg0_4, g1_4, qst_4, p1, p2⟩
    have h3_4 := q3_4.trans h3_3
    have h12_4 := q12_4.trans h12_3
    have h13_4 := q13_4.trans h13_3
    have g0_4 := qg0_4.trans g0_2
    have hst_4 := qst_4.trans hst_2
    have hvl : vs.length = g.nodes.length := by rw [p2.len]; simp [tgs]
    refine stp_reg TT_ok (by rfl) fun K hK => ?_
    simp [h13_4, h14_4, g0_4, g1_4, encG]
    try refine And.intro (by first | omega | rfl) ?_
    refine hK _ _ fun σ5 hσ H5 hH => ?_
    clear hK K
    have h3_5 := congrFun hσ 3
    have h12_5 := congrFun hσ 12
    have h13_5 := congrFun hσ 13
    have h14_5 := congrFun hσ 14
    have h15_5 := congrFun hσ 15
    simp [h3_4, h12_4, h13_4, h14_4] at h3_5 h12_5 h13_5 h14_5 h15_5
    clear hσ
    replace hH : H4 = H5 := Eq.symm hH
    subst hH
    refine awp_seq ?_
    refine awp_cond _ (by simp only [aeval_tmp]; exact h15_5) (fun hc15 => ?_) (fun hc15 => ?_)
    · try simp at hc15
      have hlt : i < g.edges.length := by simpa using hc15
      have hge : (g.edges.map encE)[i]? = some (encE g.edges[i]) := by simp [hlt]
      obtain ⟨⟨e1, e2⟩, e3, e4⟩ := valid_edge hv (List.getElem_mem hlt)
      have e5 : g.edges[i].1.toNat < vs.length := by omega
      have e6 : g.edges[i].1.toNat < g.nodes.length := by omega
      have hvk : vs[g.edges[i].1.toNat]? = some vs[g.edges[i].1.toNat] := List.getElem?_eq_getElem e5
      have hok := p2.own _ _ _ hvk (tgs_get e6)
      have htl := targets_len (g.edges.take i) g.edges[i].1.toNat
      rw [List.length_take] at htl
      refine awp_skip ?_
      refine q_seq ?_
      refine awp_seq ?_
      refine awp_block ?_
      rcases hok with ⟨hvn, hnil⟩ | ⟨id, gn, rest, hvn, hb, hid⟩
      · skip
        refine awp_ok fun hok => ?_
        obtain ⟨m6, hn_m6⟩ : ∃ m, H4.n = m := ⟨_, rfl⟩
        have hf_m6_0 := hok.free 0
        simp [hn_m6, hst_4] at hf_m6_0
        have nx1 := ne_get hf_m6_0 g0_4
        have nx2 := ne_get hf_m6_0 g1_4
        refine stp_reg TT_ok (by rfl) fun K hK => ?_
        simp [h12_5, h14_5, g0_4, g1_4, hn_m6, hst_4, nx1, nx2, encG, hge, hlt, encE]
        try refine And.intro (by first | omega | rfl) ?_
        refine hK _ _ fun σ7 hσ H7 hH => ?_
        clear hK K
        have h3_7 := congrFun hσ 3
        have h5_7 := congrFun hσ 5
        have h12_7 := congrFun hσ 12
        have h13_7 := congrFun hσ 13
        have h14_7 := congrFun hσ 14
        simp [h3_5, h12_5, h13_5, h14_5] at h3_7 h5_7 h12_7 h13_7 h14_7
        clear hσ
        have g0_7 := gt_of hH 0
        have g1_7 := gt_of hH 1
        have gm6_7 := gt_of hH m6
        simp [g0_4, g1_4, hn_m6, hst_4, nx1, nx2] at g0_7 g1_7 gm6_7
        have hst_7 := congrArg AHeap.st hH
        simp [hst_4] at hst_7
        have ka : ∀ j, H4.get j ≠ none → H7.get j = H4.get j := fun j hj => by
          rw [hH]; have hjm : ¬ j = m6 := by { intro e; rw [e, hf_m6_0] at hj; exact hj rfl }
          simp [hn_m6, hjm]
        clear hH
        refine awp_ok fun hok => ?_
        obtain ⟨m8, hn_m8⟩ : ∃ m, H7.n = m := ⟨_, rfl⟩
        have hf_m8_10 := hok.free 10
        simp [hn_m8, hst_7] at hf_m8_10
        have nx3 := ne_get hf_m8_10 g0_7
        have nx4 := ne_get hf_m8_10 g1_7
        have nx5 := ne_get hf_m8_10 gm6_7
        have hf_m8_11 := hok.free 11
        simp [hn_m8, hst_7] at hf_m8_11
        have nx6 := ne_get hf_m8_11 g0_7
        have nx7 := ne_get hf_m8_11 g1_7
        have nx8 := ne_get hf_m8_11 gm6_7
        refine stp_lexl true TT_ok mixed (by rfl) (by rfl) (by kernel_rfl) (by rfl) fun U hU K hK => ?_
        simp [h3_7, h5_7, g0_7, g1_7, gm6_7, hn_m8, hst_7, nx1, nx2, nx3, nx4, nx5, nx6, nx7, nx8, encG, e1, e2, e5, e6, hvl, hvn]
        try refine And.intro (by first | omega | rfl) ?_
        refine hK _ _ _ (by rw [hU.trans (by kernel_rfl : _ = [(0, 1), (0, 2), (0, 3), (1, 3), (2, 3), (0, 4), (1, 4), (2, 4), (3, 4), (0, 5), (1, 5), (2, 5), (3, 5), (0, 6), (1, 6), (2, 6), (0, 7), (1, 7), (2, 7), (0, 8), (1, 8), (2, 8), (3, 8), (4, 8), (5, 8), (6, 8), (7, 8), (0, 9), (1, 9), (2, 9), (3, 9), (4, 9), (5, 9), (6, 9), (7, 9), (0, 10), (1, 10), (2, 10), (3, 10), (4, 10), (5, 10), (6, 10), (7, 10), (0, 11), (1, 11), (2, 11)])]; simp [logOk, ftFree, h3_7, h5_7, g0_7, g1_7, gm6_7, hn_m8, hst_7, nx1, nx2, nx3, nx4, nx5, nx6, nx7, nx8, encG, e1, e2, e5, e6, hvl, hvn]) fun σ9 hσ H9 hH => ?_
        clear hK K hU U
        have h3_9 := congrFun hσ 3
        have h12_9 := congrFun hσ 12
        have h13_9 := congrFun hσ 13
        have h14_9 := congrFun hσ 14
        simp [h3_7, h12_7, h13_7, h14_7] at h3_9 h12_9 h13_9 h14_9
        clear hσ
        have g0_9 := gt_of hH 0
        have g1_9 := gt_of hH 1
        have gm6_9 := gt_of hH m6
        have g_m8_10__9 := gt_of hH (m8 + 10)
        have g_m8_11__9 := gt_of hH (m8 + 11)
        simp [g0_7, g1_7, gm6_7, hn_m8, hst_7, nx1, nx2, nx3, nx4, nx5, nx6, nx7, nx8] at g0_9 g1_9 gm6_9 g_m8_10__9 g_m8_11__9
        have hst_9 := congrArg AHeap.st hH
        simp [hst_7] at hst_9
        have kb : ∀ j, H7.get j ≠ none → j ≠ 1 → H9.get j = H7.get j := fun j hj h1 => by
          rw [hH]; have hjm : ¬ j = (m8 + 10) := by { intro e; rw [e, hf_m8_10] at hj; exact hj rfl }
          have hjn : ¬ j = (m8 + 11) := by { intro e; rw [e, hf_m8_11] at hj; exact hj rfl }
          simp [hn_m8, hjm, hjn, h1]
        clear hH
        refine q_block ?_
        refine q_seq ?_
        refine stp_regl TT_ok (by rfl) fun K hK => ?_
        simp [h14_9, g0_9, g1_9, gm6_9, g_m8_10__9, g_m8_11__9, nx1, nx2, nx3, nx4, nx5, nx6, nx7, nx8, encG, wrap_ok (n := (i : Int) + 1) (by omega) (by omega)]
        try refine And.intro (by first | omega | rfl) ?_
        refine hK _ _ fun σ10 hσ H10 hH => ?_
        clear hK K
        have h3_10 := congrFun hσ 3
        have h12_10 := congrFun hσ 12
        have h13_10 := congrFun hσ 13
        have h14_10 := congrFun hσ 14
        simp [h3_9, h12_9, h13_9] at h3_10 h12_10 h13_10 h14_10
        clear hσ
        replace hH : H9 = H10 := Eq.symm hH
        subst hH
        refine ⟨_, ?_, i + 1, vs.set g.edges[i].1.toNat (.sl (m8 + 11) 0 0 1), rfl, (h3_10.trans h3_3.symm), (h12_10.trans h12_3.symm), (h13_10.trans h13_3.symm), (by simp [h14_10]), (g0_9.trans g0_2.symm), (by simp [g1_9]), (hst_9.trans hst_2.symm), ?_, ?_⟩
        · subst hn1; omega
        · first | omega | assumption | (simp; done)
        · rw [tgs_succ hlt ⟨e1, e2⟩]
          refine p2.set (OwnR.mk (rest := []) g_m8_11__9 (by simp [List.map_eq_nil_iff.1 hnil]) (by simp [List.map_eq_nil_iff.1 hnil]) (by omega)) fun j id g' n' hj hvj => ?_
          obtain ⟨u1, u2⟩ := p2.used hvj
          have u3 := u1
          rw [← ka id u1] at u3
          refine ⟨(kb id u3 (by omega)).trans (ka id u1), fun g'' n'' e => ?_⟩
          cases e; exact u3 hf_m8_11
      · skip
        rw [hvn] at hvk
        have nx9 : ¬ id = 0 ∧ ¬ 0 = id := by omega
        have nx10 : ¬ id = 1 ∧ ¬ 1 = id := by omega
        refine awp_ok fun hok => ?_
        obtain ⟨m11, hn_m11⟩ : ∃ m, H4.n = m := ⟨_, rfl⟩
        have hf_m11_0 := hok.free 0
        simp [hn_m11, hst_4] at hf_m11_0
        have nx11 := ne_get hf_m11_0 g0_4
        have nx12 := ne_get hf_m11_0 g1_4
        have nx13 := ne_get hf_m11_0 hb
        refine stp_reg TT_ok (by rfl) fun K hK => ?_
        simp [h12_5, h14_5, g0_4, g1_4, hb, hn_m11, hst_4, nx9, nx10, nx11, nx12, nx13, encG, hge, hlt, encE]
        try refine And.intro (by first | omega | rfl) ?_
        refine hK _ _ fun σ12 hσ H12 hH => ?_
        clear hK K
        have h3_12 := congrFun hσ 3
        have h5_12 := congrFun hσ 5
        have h12_12 := congrFun hσ 12
        have h13_12 := congrFun hσ 13
        have h14_12 := congrFun hσ 14
        simp [h3_5, h12_5, h13_5, h14_5] at h3_12 h5_12 h12_12 h13_12 h14_12
        clear hσ
        have g0_12 := gt_of hH 0
        have g1_12 := gt_of hH 1
        have gid_12 := gt_of hH id
        have gm11_12 := gt_of hH m11
        simp [g0_4, g1_4, hb, hn_m11, hst_4, nx9, nx10, nx11, nx12, nx13] at g0_12 g1_12 gid_12 gm11_12
        have hst_12 := congrArg AHeap.st hH
        simp [hst_4] at hst_12
        have ka : ∀ j, H4.get j ≠ none → H12.get j = H4.get j := fun j hj => by
          rw [hH]; have hjm : ¬ j = m11 := by { intro e; rw [e, hf_m11_0] at hj; exact hj rfl }
          simp [hn_m11, hjm]
        clear hH
        refine awp_ok fun hok => ?_
        obtain ⟨m13, hn_m13⟩ : ∃ m, H12.n = m := ⟨_, rfl⟩
        have hf_m13_10 := hok.free 10
        simp [hn_m13, hst_12] at hf_m13_10
        have nx14 := ne_get hf_m13_10 g0_12
        have nx15 := ne_get hf_m13_10 g1_12
        have nx16 := ne_get hf_m13_10 gid_12
        have nx17 := ne_get hf_m13_10 gm11_12
        refine stp_lexl true TT_ok mixed (by rfl) (by rfl) (by kernel_rfl) (by rfl) fun U hU K hK => ?_
        simp [h3_12, h5_12, g0_12, g1_12, gid_12, gm11_12, hn_m13, hst_12, nx9, nx10, nx11, nx12, nx13, nx14, nx15, nx16, nx17, encG, e1, e2, e5, e6, hvl, hvn, show (targets (List.take i g.edges) g.edges[i].1.toNat).length ≤ 9223372036854775806 by omega, show ((targets (List.take i g.edges) g.edges[i].1.toNat).length + 1) * 8 ≤ 140737488355328 by omega]
        try refine And.intro (by first | omega | rfl) ?_
        refine hK _ _ _ (by rw [hU.trans (by kernel_rfl : _ = [(0, 1), (0, 2), (0, 3), (1, 3), (2, 3), (0, 4), (1, 4), (2, 4), (3, 4), (0, 5), (1, 5), (2, 5), (3, 5), (0, 6), (1, 6), (2, 6), (0, 7), (1, 7), (2, 7), (0, 8), (1, 8), (2, 8), (3, 8), (4, 8), (5, 8), (6, 8), (7, 8), (0, 9), (1, 9), (2, 9), (3, 9), (4, 9), (5, 9), (6, 9), (7, 9), (0, 10), (1, 10), (2, 10), (3, 10), (4, 10), (5, 10), (6, 10), (7, 10), (0, 11), (1, 11), (2, 11)])]; simp [logOk, ftFree, h3_12, h5_12, g0_12, g1_12, gid_12, gm11_12, hn_m13, hst_12, nx9, nx10, nx11, nx12, nx13, nx14, nx15, nx16, nx17, encG, e1, e2, e5, e6, hvl, hvn, show (targets (List.take i g.edges) g.edges[i].1.toNat).length ≤ 9223372036854775806 by omega, show ((targets (List.take i g.edges) g.edges[i].1.toNat).length + 1) * 8 ≤ 140737488355328 by omega]) fun σ14 hσ H14 hH => ?_
        clear hK K hU U
        have h3_14 := congrFun hσ 3
        have h12_14 := congrFun hσ 12
        have h13_14 := congrFun hσ 13
        have h14_14 := congrFun hσ 14
        simp [h3_12, h12_12, h13_12, h14_12] at h3_14 h12_14 h13_14 h14_14
        clear hσ
        have g0_14 := gt_of hH 0
        have g1_14 := gt_of hH 1
        have gid_14 := gt_of hH id
        have gm11_14 := gt_of hH m11
        have g_m13_10__14 := gt_of hH (m13 + 10)
        simp [g0_12, g1_12, gid_12, gm11_12, hn_m13, hst_12, nx9, nx10, nx11, nx12, nx13, nx14, nx15, nx16, nx17] at g0_14 g1_14 gid_14 gm11_14 g_m13_10__14
        have hst_14 := congrArg AHeap.st hH
        simp [hst_12] at hst_14
        have kb : ∀ j, H12.get j ≠ none → j ≠ 1 → j ≠ id → H14.get j = H12.get j := fun j hj h1 h2 => by
          rw [hH]; have hjm : ¬ j = (m13 + 10) := by { intro e; rw [e, hf_m13_10] at hj; exact hj rfl }
          simp [hn_m13, hst_14, hjm, h1, h2]
        clear hH
        refine q_block ?_
        refine q_seq ?_
        refine stp_regl TT_ok (by rfl) fun K hK => ?_
        simp [h14_14, g0_14, g1_14, gid_14, gm11_14, g_m13_10__14, nx9, nx10, nx11, nx12, nx13, nx14, nx15, nx16, nx17, encG, wrap_ok (n := (i : Int) + 1) (by omega) (by omega)]
        try refine And.intro (by first | omega | rfl) ?_
        refine hK _ _ fun σ15 hσ H15 hH => ?_
        clear hK K
        have h3_15 := congrFun hσ 3
        have h12_15 := congrFun hσ 12
        have h13_15 := congrFun hσ 13
        have h14_15 := congrFun hσ 14
        simp [h3_14, h12_14, h13_14] at h3_15 h12_15 h13_15 h14_15
        clear hσ
        replace hH : H14 = H15 := Eq.symm hH
        subst hH
        refine ⟨_, ?_, i + 1, vs.set g.edges[i].1.toNat (.sl id (gn + 1) 0 ((targets (g.edges.take i) g.edges[i].1.toNat).length + 1)), rfl, (h3_15.trans h3_3.symm), (h12_15.trans h12_3.symm), (h13_15.trans h13_3.symm), (by simp [h14_15]), (g0_14.trans g0_2.symm), (by simp [g1_14]), (hst_14.trans hst_2.symm), ?_, ?_⟩
        · subst hn1; omega
        · first | omega | assumption | (simp; done)
        · rw [tgs_succ hlt ⟨e1, e2⟩]
          refine p2.set (OwnR.mk (rest := []) gid_14 (by simp) (by simp) (by omega)) fun j id' g' n' hj hvj => ?_
          obtain ⟨u1, u2⟩ := p2.used hvj
          have u4 : id' ≠ id := fun e => hj (by subst e; exact p2.ne _ _ _ _ _ _ _ hvj hvk)
          refine ⟨(kb id' (by rw [ka id' u1]; exact u1) (by omega) u4).trans (ka id' u1), fun g'' n'' e => ?_⟩
          cases e; exact u4 rfl
    · try simp at hc15
      refine awp_exit ?_
      refine q_seq_exit ?_
      refine q_loop_exit ?_
      refine q_block_hit ?_
      refine q_seq ?_
      refine awp_seq ?_
      have hie : i = g.edges.length := by have := hc15; omega
      subst hie
      refine stp_reg TT_ok (by rfl) fun K hK => ?_
      simp [h3_5, g0_4, g1_4, encG, hvl]
      try refine And.intro (by first | omega | rfl) ?_
      refine hK _ _ fun σ16 hσ H16 hH => ?_
      clear hK K
      have h3_16 := congrFun hσ 3
      have h33_16 := congrFun hσ 33
      have h34_16 := congrFun hσ 34
      simp [h3_5] at h3_16 h33_16 h34_16
      clear hσ
      replace hH : H4 = H16 := Eq.symm hH
      subst hH
      refine awp_block ?_
      refine awp_loopV (fun n σ' H' => ∃ (i2 : Nat) (ws : List AV), n = g.nodes.length - i2 ∧ σ' 3 = σ16 3 ∧ σ' 33 = σ16 33 ∧ σ' 34 = (AV.int IntKind.i64) i2 ∧ H'.get 0 = H4.get 0 ∧ H'.get 1 = some (.row 26 1 0 ws) ∧ H'.st = H4.st ∧ (i2 ≤ g.nodes.length) ∧ (Rows 2 ws (scs g i2) H')) ?_ ?_
      · refine ⟨_, 0, vs, rfl, rfl, rfl, (by simp [h34_16]), rfl, (by simp [g1_4]), rfl, ?_, ?_⟩
        · first | omega | (simp; done) | assumption
        · rw [scs_zero]; exact p2
      · rintro n2 σ17 H17 ⟨i2, ws, hn2, q3_17, q33_17, h34_17, qg0_17, g1_17, qst_17, r1, r2⟩
        have h3_17 := q3_17.trans h3_16
        have h33_17 := q33_17.trans h33_16
        have g0_17 := qg0_17.trans g0_4
        have hst_17 := qst_17.trans hst_4
        have hwl : ws.length = g.nodes.length := by rw [r2.len]; simp [scs]
        refine stp_reg TT_ok (by rfl) fun K hK => ?_
        simp [h33_17, h34_17, g0_17, g1_17, encG]
        try refine And.intro (by first | omega | rfl) ?_
        refine hK _ _ fun σ18 hσ H18 hH => ?_
        clear hK K
        have h3_18 := congrFun hσ 3
        have h33_18 := congrFun hσ 33
        have h34_18 := congrFun hσ 34
        have h35_18 := congrFun hσ 35
        simp [h3_17, h33_17, h34_17] at h3_18 h33_18 h34_18 h35_18
        clear hσ
        replace hH : H17 = H18 := Eq.symm hH
        subst hH
        refine awp_seq ?_
        refine awp_cond _ (by simp only [aeval_tmp]; exact h35_18) (fun hc35 => ?_) (fun hc35 => ?_)
        · try simp at hc35
          have hlt2 : i2 < g.nodes.length := by simpa using hc35
          have hlt3 : i2 < ws.length := by omega
          have hwk : ws[i2]? = some ws[i2] := List.getElem?_eq_getElem hlt3
          have hok2 := r2.own _ _ _ hwk (scs_get hlt2)
          rw [if_neg (Nat.lt_irrefl _)] at hok2
          have htl2 := targets_len g.edges i2
          refine awp_skip ?_
          refine q_seq ?_
          refine awp_seq ?_
          refine awp_block ?_
          refine stp_reg TT_ok (by rfl) fun K hK => ?_
          simp [h34_18, g0_17, g1_17, encG]
          try refine And.intro (by first | omega | rfl) ?_
          refine hK _ _ fun σ19 hσ H19 hH => ?_
          clear hK K
          have h3_19 := congrFun hσ 3
          have h6_19 := congrFun hσ 6
          have h33_19 := congrFun hσ 33
          have h34_19 := congrFun hσ 34
          simp [h3_18, h33_18, h34_18] at h3_19 h6_19 h33_19 h34_19
          clear hσ
          replace hH : H17 = H19 := Eq.symm hH
          subst hH
          rcases hok2 with ⟨hwn, hnil⟩ | ⟨id, gn, rest, hwn, hb, hid⟩
          · skip
            rw [List.map_eq_nil_iff] at hnil
            refine stp_reg TT_ok (by rfl) fun K hK => ?_
            simp [h3_19, h6_19, g0_17, g1_17, encG, hwl, hwn, hlt2, hlt3]
            try refine And.intro (by first | omega | rfl) ?_
            refine stp_call (sortNil_ok) ?_
            simp [h3_19, h6_19, g0_17, g1_17, encG, hwl, hwn, hlt2, hlt3]
            try refine And.intro (by first | omega | rfl) ?_
            refine hK _ _ fun σ20 hσ H20 hH => ?_
            clear hK K
            have h3_20 := congrFun hσ 3
            have h6_20 := congrFun hσ 6
            have h33_20 := congrFun hσ 33
            have h34_20 := congrFun hσ 34
            simp [h3_19, h6_19, h33_19, h34_19] at h3_20 h6_20 h33_20 h34_20
            clear hσ
            replace hH : H17 = H20 := Eq.symm hH
            subst hH
            refine stp_regl TT_ok (by rfl) fun K hK => ?_
            simp [h3_20, h6_20, g0_17, g1_17, encG, hwl, hwn, hlt2, hlt3]
            try refine And.intro (by first | omega | rfl) ?_
            refine stp_call (compactNil_ok) ?_
            simp [h3_20, h6_20, g0_17, g1_17, encG, hwl, hwn, hlt2, hlt3]
            try refine And.intro (by first | omega | rfl) ?_
            refine hK _ _ fun σ21 hσ H21 hH => ?_
            clear hK K
            have h3_21 := congrFun hσ 3
            have h33_21 := congrFun hσ 33
            have h34_21 := congrFun hσ 34
            simp [h3_20, h33_20, h34_20] at h3_21 h33_21 h34_21
            clear hσ
            have g0_21 := gt_of hH 0
            have g1_21 := gt_of hH 1
            simp [g0_17, g1_17, hst_17] at g0_21 g1_21
            have hst_21 := congrArg AHeap.st hH
            simp [hst_17] at hst_21
            have kb : ∀ j, j ≠ 1 → H21.get j = H17.get j := fun j h1 => by rw [hH]; simp [h1]
            clear hH
            refine q_block ?_
            refine q_seq ?_
            refine stp_regl TT_ok (by rfl) fun K hK => ?_
            simp [h34_21, g0_21, g1_21, encG, wrap_ok (n := (i2 : Int) + 1) (by omega) (by omega)]
            try refine And.intro (by first | omega | rfl) ?_
            refine hK _ _ fun σ22 hσ H22 hH => ?_
            clear hK K
            have h3_22 := congrFun hσ 3
            have h33_22 := congrFun hσ 33
            have h34_22 := congrFun hσ 34
            simp [h3_21, h33_21] at h3_22 h33_22 h34_22
            clear hσ
            replace hH : H21 = H22 := Eq.symm hH
            subst hH
            refine ⟨_, ?_, i2 + 1, ws.set i2 .nils, rfl, (h3_22.trans h3_16.symm), (h33_22.trans h33_16.symm), (by simp [h34_22]), (g0_21.trans g0_4.symm), (by simp [g1_21]), (hst_21.trans hst_4.symm), ?_, ?_⟩
            · subst hn2; omega
            · first | omega | assumption | (simp; done)
            · rw [scs_succ]
              have hsn : g.succ i2 = [] := by rw [← succ_eq hv, hnil]; simp [sortI, Lib.compact, Lib.compactUpTo]
              exact r2.set (.inl ⟨rfl, by rw [hsn]; rfl⟩) fun j id' g' n' hj hvj => ⟨kb id' (by have := (r2.used hvj).2; omega), fun g'' n'' e => by cases e⟩
          · skip
            rw [hwn] at hwk
            rw [List.length_map] at hwn
            have nx18 : ¬ id = 0 ∧ ¬ 0 = id := by omega
            have nx19 : ¬ id = 1 ∧ ¬ 1 = id := by omega
            refine stp_reg TT_ok (by rfl) fun K hK => ?_
            simp [h3_19, h6_19, g0_17, g1_17, hb, nx18, nx19, encG, hwl, hwn, hlt2, hlt3]
            try refine And.intro (by first | omega | rfl) ?_
            refine sort_row (l := targets g.edges i2) (by omega) hb rfl ?_
            simp [h3_19, h6_19, g0_17, g1_17, hb, nx18, nx19, encG, hwl, hwn, hlt2, hlt3]
            try refine And.intro (by first | omega | rfl) ?_
            refine hK _ _ fun σ23 hσ H23 hH => ?_
            clear hK K
            have h3_23 := congrFun hσ 3
            have h6_23 := congrFun hσ 6
            have h33_23 := congrFun hσ 33
            have h34_23 := congrFun hσ 34
            simp [h3_19, h6_19, h33_19, h34_19] at h3_23 h6_23 h33_23 h34_23
            clear hσ
            have g0_23 := gt_of hH 0
            have g1_23 := gt_of hH 1
            have gid_23 := gt_of hH id
            simp [g0_17, g1_17, hb, hst_17, nx18, nx19] at g0_23 g1_23 gid_23
            have hst_23 := congrArg AHeap.st hH
            simp [hst_17] at hst_23
            have ka : ∀ j, j ≠ id → H23.get j = H17.get j := fun j h1 => by rw [hH]; simp [h1]
            clear hH
            refine stp_regl TT_ok (by rfl) fun K hK => ?_
            simp [h3_23, h6_23, g0_23, g1_23, gid_23, nx18, nx19, encG, hwl, hwn, hlt2, hlt3]
            try refine And.intro (by first | omega | rfl) ?_
            refine compact_row (l := sortI (targets g.edges i2)) (by rw [sortI_len]; omega) gid_23 (by rw [sortI_len]) ?_
            simp [h3_23, h6_23, g0_23, g1_23, gid_23, nx18, nx19, encG, hwl, hwn, hlt2, hlt3, succ_eq hv]
            try refine And.intro (by first | omega | rfl) ?_
            refine hK _ _ fun σ24 hσ H24 hH => ?_
            clear hK K
            have h3_24 := congrFun hσ 3
            have h33_24 := congrFun hσ 33
            have h34_24 := congrFun hσ 34
            simp [h3_23, h33_23, h34_23] at h3_24 h33_24 h34_24
            clear hσ
            have g0_24 := gt_of hH 0
            have g1_24 := gt_of hH 1
            have gid_24 := gt_of hH id
            simp [g0_23, g1_23, gid_23, hst_23, nx18, nx19] at g0_24 g1_24 gid_24
            have hst_24 := congrArg AHeap.st hH
            simp [hst_23] at hst_24
            have kb : ∀ j, j ≠ id → j ≠ 1 → H24.get j = H23.get j := fun j h1 h2 => by rw [hH]; simp [h1, h2]
            clear hH
            refine q_block ?_
            refine q_seq ?_
            refine stp_regl TT_ok (by rfl) fun K hK => ?_
            simp [h34_24, g0_24, g1_24, gid_24, nx18, nx19, encG, wrap_ok (n := (i2 : Int) + 1) (by omega) (by omega)]
            try refine And.intro (by first | omega | rfl) ?_
            refine hK _ _ fun σ25 hσ H25 hH => ?_
            clear hK K
            have h3_25 := congrFun hσ 3
            have h33_25 := congrFun hσ 33
            have h34_25 := congrFun hσ 34
            simp [h3_24, h33_24] at h3_25 h33_25 h34_25
            clear hσ
            replace hH : H24 = H25 := Eq.symm hH
            subst hH
            refine ⟨_, ?_, i2 + 1, ws.set i2 (.sl id gn 0 (g.succ i2).length), rfl, (h3_25.trans h3_16.symm), (h33_25.trans h33_16.symm), (by simp [h34_25]), (g0_24.trans g0_4.symm), (by simp [g1_24]), (hst_24.trans hst_4.symm), ?_, ?_⟩
            · subst hn2; omega
            · first | omega | assumption | (simp; done)
            · rw [scs_succ]
              refine r2.set (OwnR.mk (rest := _) gid_24 rfl (by simp) (by omega)) fun j id' g' n' hj hvj => ?_
              have u4 : id' ≠ id := fun e => hj (by subst e; exact r2.ne _ _ _ _ _ _ _ hvj hwk)
              exact ⟨(kb id' u4 (by have := (r2.used hvj).2; omega)).trans (ka id' u4), fun g'' n'' e => by cases e; exact u4 rfl⟩
        · try simp at hc35
          refine awp_exit ?_
          refine q_seq_exit ?_
          refine q_loop_exit ?_
          refine q_block_hit ?_
          refine q_seq ?_
          refine stp_reg TT_ok (by rfl) fun K hK => ?_
          simp [h3_18, g0_17, g1_17, encG]
          try refine And.intro (by first | omega | rfl) ?_
          refine hK _ _ fun σ26 hσ H26 hH => ?_
          clear hK K
          have h2_26 := congrFun hσ 2
          simp [] at h2_26
          clear hσ
          replace hH : H17 = H26 := Eq.symm hH
          subst hH
          refine awp_ret ?_
          have hie2 : i2 = g.nodes.length := by have := hc35; omega
          subst hie2
          refine q_fin1 h2_26 ?_
          rw [← scs_end]; exact r2.frz g1_17 hwl.symm

theorem succs_ok (g : Gr) (hv : g.valid = true) : Fun1 Try.prog 40 [encG g] (encS g.succs) := fun1_frz (succs0 g hv) (pu_cons (pu_graph _) pu_nil) (pu_encS _)

end Go.Proofs.Yteifhcohmipdcaa

/-
  THE ABSTRACT LAYER, 24: a new row of scalars for the caller, out of arguments that the caller may own. Conditions: none. Generic in the program.
-/
namespace Go.Abs
set_option linter.unusedSimpArgs false
set_option linter.unusedVariables false
section
variable {P : Program} {T : TypeId → Option TE}
theorem ACalls.freshW {f : FuncId} {args : List AV} {K0 : AV → AHeap → Prop} {e sz : Nat} {es : List AV} (h : ACalls P f args AHeap.nil K0) (hp : ∀ a ∈ args, Pu a)
    (hsc : ∀ x ∈ es, ∀ v ∈ x.cells, Scal v) (hk : ∀ r H', K0 r H' → ∃ id g, r = .sl id g 0 es.length ∧ H'.get id = some (.row e sz g es)) {H : AHeap} {args' : List AV} (hf : FrzL H args' args) :
    ACalls P f args' H fun r H' => H' = H.alloc (.row e sz 0 es) ∧ r = .sl H.n 0 0 es.length := by
  refine ⟨h.1, fun G w cargs hr hs hv => ?_⟩
  have hn : Rel { (G.freeze H) with dom := fun _ => False } AHeap.nil w :=
    ⟨⟨Nat.one_pos, fun _ => rfl⟩, fun _ h => h.elim, fun id b h => by simp [AHeap.nil] at h, fun i j a b h => by simp [AHeap.nil] at h, fun i a h => by simp [AHeap.nil] at h, fun b hb => by
      rcases hb with hb | ⟨i, a, ha, rfl⟩
      · exact hr.ilt b hb
      · exact hr.lt ha⟩
  refine (h.2 _ w cargs hn (hs.trans hf.1) (fun j v c hj hc => ?_)).mono ?_
  · have hlt : j < args'.length := by rw [hf.1]; exact (List.getElem?_eq_some_iff.1 hj).1
    exact (VRel.freeze hr (hf.2 j _ v (List.getElem?_eq_getElem hlt) hj) (hv j _ c (List.getElem?_eq_getElem hlt) hc)).toI (hp v (List.mem_of_getElem? hj)) _ (fun _ hb => hb)
  rintro e' w' ⟨v, r, H', G', rfl, hK, hvr, hg⟩
  obtain ⟨id, g, rfl, hb⟩ := hk r H' hK
  obtain ⟨hid, hgm, hsz, hpos⟩ := hg.rel.row hb
  have hold : ∀ b, b < w.heap.size → w'.heap[b]? = w.heap[b]? := fun b hb => hg.fr.block b hb (fun i a ha => by simp [AHeap.nil] at ha)
  have hnew : w.heap.size ≤ G'.blk id g := by
    rcases hg.own id _ hb with h1 | ⟨j, b, hb, _⟩
    · exact h1
    · simp [AHeap.nil] at hb
  let G2 : Gh := G.add H.n (G'.blk id g) (G'.base id g) (G'.cap id g) sz
  have he : Ext G G2 := G.ext_add hr.new (G'.blk id g) (G'.base id g) (G'.cap id g) sz
  have hvr2 : VRel G2 w' (.sl H.n 0 0 es.length) v := by
    cases hvr with
    | @sl _ _ _ _ o c h1 h2 h3 h4 h5 =>
      have := VRel.sl (G := G2) (w := w') (id := H.n) (g := 0) (off := 0) (len := es.length) (o := o) (c := c) (by simp [G2, Gh.add]) (Nat.zero_le _) (by simpa [G2, Gh.add] using h3) h4 (by simpa [G2, Gh.add, hsz] using h5)
      simpa [G2, Gh.add] using this
  refine ⟨v, _, _, G2, rfl, ⟨rfl, rfl⟩, hvr2, ?_⟩
  have hne : ∀ i a, H.get i = some a → i ≠ H.n := fun i a ha => hr.ne (hr.blk i a ha).1
  have hkey : ∀ i a, H.get i = some a → G2.blk i a.gen = G.blk i a.gen := fun i a ha => by simp [G2, Gh.add, hne i a ha]
  have hkn : G2.blk H.n 0 = G'.blk id g := by simp [G2, Gh.add]
  refine ⟨⟨hr.ok.alloc _, ?_, ?_, ?_, ?_, fun b hb => Nat.lt_of_lt_of_le (hr.ilt b hb) hg.fr.size⟩, he, ⟨hg.fr.os, hg.fr.tape, hg.fr.output, hg.fr.size, fun b hb _ => hold b hb⟩, ?_, fun b hb => .inl hb⟩
  · intro i hd
    simp only [AHeap.alloc]
    split
    · simp
    · rcases hd with h | h
      · contradiction
      · exact hr.dom i h
  · intro i c hc
    simp only [AHeap.alloc] at hc
    split at hc
    · rename_i h; cases hc
      obtain ⟨_, _, _, _, q4, q5, q6, cur, q7, q8, q9⟩ := hg.rel.blk id _ hb
      subst h
      refine ⟨.inl rfl, by simp [G2, Gh.add, Blk.gen], by simp [G2, Gh.add], hpos, by simpa [G2, Gh.add] using q4, by simpa [G2, Gh.add] using q5, q6, cur, by simpa [G2, Gh.add] using q7, by simpa [G2, Gh.add] using q8, ?_⟩
      intro i x j u hx hu
      obtain ⟨c, hc, hvv⟩ := q9 i x j u hx hu
      exact ⟨c, by simpa [G2, Gh.add] using hc, hvv.scal (hsc x (List.mem_of_getElem? hx) u (List.mem_of_getElem? hu))⟩
    · rename_i h
      obtain ⟨h1, h2⟩ := hr.blk i c hc
      exact ⟨.inr h1, h2.keep he (fun b hb => hold b (hr.ilt b hb)) h1 (by simp [G2, Gh.add, hr.ne h1]) (hold _ (hr.lt hc))⟩
  · intro i j a c ha hc hij
    simp only [AHeap.alloc] at ha hc
    split at ha
    · rename_i h; cases ha; subst h
      split at hc
      · rename_i h; exact absurd h.symm hij
      · rw [show (Blk.row e sz 0 es).gen = 0 from rfl, hkn, hkey j c hc]; have := hr.lt hc; omega
    · split at hc
      · rename_i h; cases hc; subst h; rw [show (Blk.row e sz 0 es).gen = 0 from rfl, hkn, hkey i a ha]; have := hr.lt ha; omega
      · rw [hkey i a ha, hkey j c hc]; exact hr.inj i j a c ha hc hij
  · intro i a ha hi
    simp only [AHeap.alloc] at ha
    have hi' := hr.ilt _ hi
    split at ha
    · rename_i h; cases ha; subst h
      simp only [Blk.gen] at hi'
      rw [hkn] at hi'; omega
    · rw [hkey i a ha] at hi
      exact hr.imm i a ha hi
  · intro i a ha
    simp only [AHeap.alloc] at ha
    split at ha
    · rename_i h; cases ha; subst h; left; simp only [Blk.gen]; rw [hkn]; exact hnew
    · exact .inr ⟨i, a, ha, (hkey i a ha).symm⟩

/-- A piece of code whose ways meet again. -/
theorem stp_cut {rd : Bool} {nt : Nat} {σ : St} {H : AHeap} {Q : APost} {x y : Code} (P' : St → AHeap → Prop) (h : AWP P rd nt x σ H fun e σ' H' => e = .normal ∧ P' σ' H') (hr : ∀ σ' H', P' σ' H' → AWP P rd nt y σ' H' Q) : AWP P rd nt (.seq x y) σ H Q :=
  awp_seq (h.mono fun e σ' H' ⟨h1, h2⟩ => by subst h1; exact hr σ' H' h2)
/-- A call that makes one new row of scalars, out of arguments that the caller may own. -/
def FunRowW (P : Program) (f : FuncId) (args : List AV) (e sz : Nat) (es : List AV) : Prop := ∀ H args', FrzL H args' args → ACalls P f args' H fun r H' => H' = H.alloc (.row e sz 0 es) ∧ r = .sl H.n 0 0 es.length
theorem FunRowW.at {f : FuncId} {args args' : List AV} {e sz : Nat} {es : List AV} (h : FunRowW P f args e sz es) {H : AHeap} (hf : FrzL H args' args) {K : AV → AHeap → Prop} (hk : K (.sl H.n 0 0 es.length) (H.alloc (.row e sz 0 es))) : ACalls P f args' H K :=
  (h H args' hf).mono fun r' H' ⟨h1, h2⟩ => by subst h1; subst h2; exact hk
theorem lex_rowW {f : FuncId} {args args' caps : List AV} {e sz : Nat} {es : List AV} (h : FunRowW P f args e sz es) {H : AHeap} {σ : St} (ids : List Nat) (hf : ∀ H' : AHeap, (∀ id ∈ ids, H'.get id = H.get id) → FrzL H' (args' ++ caps) args)
    {ops rest : List Oper} {k n0 s j : Nat} {dst : Option Tmp} {log : List Foot} {K : St → AHeap → List Foot → Prop}
    (hk : aLex P T ops true k n0 s (j + 1) rest (σ.put dst (.sl (n0 + j * s) 0 0 es.length)) ((AHeap.mk (n0 + j * s) (s * k) H.get).alloc (.row e sz 0 es)) (log ++ [(ids, some (n0 + j * s))]) K) :
    lcallK P T ops true k n0 s j rest dst σ log K H (.fn f caps) args' :=
  ⟨ids, .row e sz es, rfl, fun H' hH => (h H' (args' ++ caps) (hf H' hH)).mono fun v H2 ⟨h1, h2⟩ => ⟨h2, h1⟩, hk⟩
end
end Go.Abs

/-
  THE GRAPH FUNCTIONS, 9: slices.Repeat of one number. Conditions: a count under a bound. (Printed by w9.py.)
-/
namespace Go.Proofs.Yteifhcohmipdcaa
open Go.Abs
set_option linter.unusedSimpArgs false
set_option linter.unusedVariables false
theorem wrapU_ok {n : Nat} (h : n ≤ 1000000) : IntKind.u64.wrap (n : Int) = n := by rw [IntKind.wrap_u64]; omega
theorem rep_take {es : List AV} {x : AV} {m n k : Nat} (h : es.take m = List.replicate m x) (hm : m ≤ es.length) (hk : k ≤ m) (hk2 : k ≤ es.length - m) (d : Nat) : (es.take m ++ ((List.replicate m x).take k ++ es.drop d)).take (m + k) = List.replicate (m + k) x := by
  rw [h, ← List.append_assoc, List.take_append_of_le_length (by simp; omega)]
  rw [List.take_replicate, List.replicate_append_replicate, List.take_replicate]
  congr 1; omega

set_option maxHeartbeats 1000000 in
theorem repeat0 (x : Int) (c : Nat) (hn : c ≤ 1000000) : ACalls Try.prog 65 [.ro [(AV.int IntKind.i64) x], (AV.int IntKind.i64) c] AHeap.nil (RowOut 3 1 (List.replicate c ((AV.int IntKind.i64) x))) := by
  refine acalls_body TT_ok Try.func65 rfl rfl (by simp [Try.ntmps65]) ?_
  rw [Try.ntmps65]
  obtain ⟨σ, hσ⟩ : ∃ σ, σ = st0 [.ro [(AV.int IntKind.i64) x], (AV.int IntKind.i64) c] := ⟨_, rfl⟩
  rw [← hσ]
  have h0_0 := congrFun hσ 0
  simp [st0] at h0_0
  have h1_0 := congrFun hσ 1
  simp [st0] at h1_0
  clear hσ
  obtain ⟨H, hH⟩ : ∃ H, H = AHeap.nil := ⟨_, rfl⟩
  rw [← hH]
  have hn_0 : H.n = 0 := by rw [hH]; rfl
  have hst_0 : H.st = 1 := by rw [hH]; rfl
  clear hH
  refine stp_reg TT_ok (by rfl) fun K hK => ?_
  simp []
  try refine And.intro (by first | omega | rfl) ?_
  refine hK _ _ fun σ1 hσ H1 hH => ?_
  clear hK K
  have h0_1 := congrFun hσ 0
  have h1_1 := congrFun hσ 1
  simp [h0_0, h1_0] at h0_1 h1_1
  clear hσ
  replace hH : H = H1 := Eq.symm hH
  subst hH
  refine awp_seq ?_
  refine stp_reg TT_ok (by rfl) fun K hK => ?_
  simp [h1_1]
  try refine And.intro (by first | omega | rfl) ?_
  refine hK _ _ fun σ2 hσ H2 hH => ?_
  clear hK K
  have h0_2 := congrFun hσ 0
  have h1_2 := congrFun hσ 1
  have h10_2 := congrFun hσ 10
  simp [h0_1, h1_1] at h0_2 h1_2 h10_2
  clear hσ
  replace hH : H = H2 := Eq.symm hH
  subst hH
  refine stp_false (by simp [aeval_tmp, h10_2]) ?_
  refine awp_skip ?_
  refine q_seq ?_
  refine stp_reg TT_ok (by rfl) fun K hK => ?_
  simp [h0_2, h1_2, wrapU_ok hn, show IntKind.u64.wrap 1 = 1 by rfl]
  try refine And.intro (by first | omega | rfl) ?_
  refine stp_call ((mul_ok (x := 1) (y := c) (by omega) (by omega))) ?_
  simp [h0_2, h1_2, wrapU_ok hn, show IntKind.u64.wrap 1 = 1 by rfl]
  try refine And.intro (by first | omega | rfl) ?_
  refine hK _ _ fun σ3 hσ H3 hH => ?_
  clear hK K
  have h0_3 := congrFun hσ 0
  have h5_3 := congrFun hσ 5
  have h6_3 := congrFun hσ 6
  simp [h0_2] at h0_3 h5_3 h6_3
  clear hσ
  replace hH : H = H3 := Eq.symm hH
  subst hH
  refine awp_seq ?_
  refine stp_reg TT_ok (by rfl) fun K hK => ?_
  simp [h5_3, h6_3, show c / 18446744073709551616 = 0 by omega, show c % 18446744073709551616 = c by omega, show ¬ (9223372036854775807 : Int) < c by omega, show (c : Int) / 18446744073709551616 = 0 by omega, show (c : Int) % 18446744073709551616 = c by omega]
  try refine And.intro (by first | omega | rfl) ?_
  refine hK _ _ fun σ4 hσ H4 hH => ?_
  clear hK K
  have h0_4 := congrFun hσ 0
  have h6_4 := congrFun hσ 6
  have h26_4 := congrFun hσ 26
  simp [h0_3, h6_3] at h0_4 h6_4 h26_4
  clear hσ
  replace hH : H = H4 := Eq.symm hH
  subst hH
  refine stp_false (by simp [aeval_tmp, h26_4]) ?_
  refine awp_skip ?_
  refine q_seq ?_
  refine stp_reg TT_ok (by rfl) fun K hK => ?_
  simp [h6_4, hn_0, hst_0, show c % 18446744073709551616 = c by omega, show (c : Int) % 18446744073709551616 = c by omega, wrap_ok (n := (c : Int)) (by omega) (by omega), show (8 : Int) * c ≤ 281474976710656 by omega, show (c : Int) ≤ 9223372036854775807 by omega]
  try refine And.intro (by first | omega | rfl) ?_
  refine hK _ _ fun σ5 hσ H5 hH => ?_
  clear hK K
  have h0_5 := congrFun hσ 0
  have h7_5 := congrFun hσ 7
  simp [h0_4] at h0_5 h7_5
  clear hσ
  have g0_5 := gt_of hH 0
  simp [hn_0, hst_0] at g0_5
  have hn_5 := congrArg AHeap.n hH
  simp [hn_0, hst_0] at hn_5
  have hst_5 := congrArg AHeap.st hH
  simp [hn_0, hst_0] at hst_5
  clear hH
  refine stp_reg TT_ok (by rfl) fun K hK => ?_
  simp [h0_5, h7_5, g0_5]
  try refine And.intro (by first | omega | rfl) ?_
  refine hK _ _ fun σ6 hσ H6 hH => ?_
  clear hK K
  have h7_6 := congrFun hσ 7
  have h8_6 := congrFun hσ 8
  simp [h7_5] at h7_6 h8_6
  clear hσ
  have g0_6 := gt_of hH 0
  simp [g0_5, hn_5, hst_5] at g0_6
  have hn_6 : H6.n = _ := (congrArg AHeap.n hH).trans hn_5
  have hst_6 : H6.st = _ := (congrArg AHeap.st hH).trans hst_5
  clear hH
  refine awp_seq ?_
  refine awp_block ?_
  refine awp_loopV (fun n σ' H' => ∃ (m : Nat) (es : List AV), n = c - m ∧ σ' 7 = σ6 7 ∧ σ' 8 = (AV.int IntKind.i64) m ∧ H'.get 0 = some (.row 3 1 0 es) ∧ H'.n = H6.n ∧ H'.st = H6.st ∧ (m ≤ c) ∧ (es.length = c) ∧ (es.take m = List.replicate m ((AV.int IntKind.i64) x)) ∧ (0 < c → 0 < m)) ?_ ?_
  · refine ⟨_, min 1 c, List.take c [(AV.int IntKind.i64) x] ++ List.replicate (c - min c 1) ((AV.int IntKind.i64) 0), rfl, rfl, (by simp [h8_6]), (by simp [g0_6]), rfl, rfl, ?_, ?_, ?_, ?_⟩
    · first | omega | (simp; done) | assumption
    · simp; omega
    · cases c with
      | zero => simp
      | succ c => simp [List.replicate_succ, Nat.min_eq_left]
    · first | omega | (simp; done) | assumption
  · rintro n1 σ7 H7 ⟨m, es, hn1, q7_7, h8_7, g0_7, qn_7, qst_7, p1, p2, p3, p4⟩
    have h7_7 := q7_7.trans h7_6
    have hst_7 := qst_7.trans hst_6
    have hn_7 := qn_7.trans hn_6
    refine awp_seq ?_
    refine stp_reg TT_ok (by rfl) fun K hK => ?_
    simp [h7_7, h8_7, g0_7]
    try refine And.intro (by first | omega | rfl) ?_
    refine hK _ _ fun σ8 hσ H8 hH => ?_
    clear hK K
    have h7_8 := congrFun hσ 7
    have h8_8 := congrFun hσ 8
    have h37_8 := congrFun hσ 37
    simp [h7_7, h8_7] at h7_8 h8_8 h37_8
    clear hσ
    replace hH : H7 = H8 := Eq.symm hH
    subst hH
    refine awp_cond _ (by simp only [aeval_tmp]; exact h37_8) (fun hc37 => ?_) (fun hc37 => ?_)
    · try simp at hc37
      have hlt : m < c := by simpa using hc37
      obtain ⟨mm, hmm⟩ : ∃ mm, min m (c - m) = mm := ⟨_, rfl⟩
      refine awp_skip ?_
      refine q_seq ?_
      refine awp_block ?_
      refine stp_lexl false TT_ok mixed (by rfl) (by rfl) (by kernel_rfl) (by rfl) fun U hU K hK => ?_
      simp [h7_8, h8_8, g0_7, p1, p2, p3, show m + (c - m) ≤ c by omega, show (m : Int) ≤ c by omega, hmm, show min (c - m) m = mm by omega, wrap_ok (n := (m : Int) + (mm : Int)) (by omega) (by omega)]
      try refine And.intro (by first | omega | rfl) ?_
      refine hK _ _ _ (by subst hU; kernel_rfl) fun σ9 hσ H9 hH => ?_
      clear hK K hU U
      have h7_9 := congrFun hσ 7
      have h8_9 := congrFun hσ 8
      simp [h7_8] at h7_9 h8_9
      clear hσ
      have g0_9 := gt_of hH 0
      simp [g0_7, hn_7, hst_7] at g0_9
      have hn_9 : H9.n = _ := (congrArg AHeap.n hH).trans hn_7
      have hst_9 : H9.st = _ := (congrArg AHeap.st hH).trans hst_7
      clear hH
      refine q_block ?_
      refine ⟨_, ?_, m + mm, List.replicate (m + mm) ((AV.int IntKind.i64) x) ++ List.drop (m + mm) es, rfl, (h7_9.trans h7_6.symm), (by simp [h8_9]), (by simp [g0_9]), (hn_9.trans hn_6.symm), (hst_9.trans hst_6.symm), ?_, ?_, ?_, ?_⟩
      · have := p4 (by omega); subst hn1; omega
      · first | omega | assumption | (simp; done)
      · simp; omega
      · simp
      · first | omega | assumption | (simp; done)
    · try simp at hc37
      refine awp_exit ?_
      refine q_seq_exit ?_
      refine q_loop_exit ?_
      refine q_block_hit ?_
      refine q_seq ?_
      refine stp_reg TT_ok (by rfl) fun K hK => ?_
      simp [h7_8, g0_7]
      try refine And.intro (by first | omega | rfl) ?_
      refine hK _ _ fun σ10 hσ H10 hH => ?_
      clear hK K
      have h4_10 := congrFun hσ 4
      simp [] at h4_10
      clear hσ
      replace hH : H7 = H10 := Eq.symm hH
      subst hH
      refine awp_ret ?_
      have hmc : m = c := by have := hc37; omega
      subst hmc
      refine q_fin1 h4_10 ?_
      exact ⟨0, 0, by simp, by rw [g0_7, ← p3, List.take_of_length_le (by omega)]⟩

theorem repeat_w (x : Int) (c : Nat) (hn : c ≤ 1000000) : FunRowW Try.prog 65 [.ro [(AV.int IntKind.i64) x], (AV.int IntKind.i64) c] 3 1 (List.replicate c ((AV.int IntKind.i64) x)) :=
  fun H args' hf => ACalls.freshW (repeat0 x c hn) (pu_cons (pu_ints [x]) (pu_cons (pu_int _ _) pu_nil)) (fun y hy => by rw [List.eq_of_mem_replicate hy]; simp only [AV.cells, List.mem_singleton, forall_eq]; exact .int _ _)
    (fun r H' ⟨id, g, h1, h2⟩ => ⟨id, g, h1, h2⟩) hf

end Go.Proofs.Yteifhcohmipdcaa

/-
  THE GRAPH FUNCTIONS, 10: ranging over the successors of a node. Conditions: lengths under a bound. (Printed by w10.py.)
-/
namespace Go.Proofs.Yteifhcohmipdcaa
open Go.Abs
set_option linter.unusedSimpArgs false
set_option linter.unusedVariables false
def ofFn (ss : List (List Int)) (node least : Int) : AV := .fn 64 [.rop [encS ss], .rop [(AV.int IntKind.i64) node], .rop [(AV.int IntKind.i64) least]]
theorem pu_ofFn (ss : List (List Int)) (node least : Int) : Pu (ofFn ss node least) :=
  .fn (pu_cons (.rop (pu_cons (pu_encS ss) pu_nil)) (pu_cons (.rop (pu_cons (pu_int _ _) pu_nil)) (pu_cons (.rop (pu_cons (pu_int _ _) pu_nil)) pu_nil)))

set_option maxHeartbeats 1000000 in
theorem of0 (ss : List (List Int)) (node least : Int) : ACalls Try.prog 42 [encS ss, (AV.int IntKind.i64) node, (AV.int IntKind.i64) least] AHeap.nil (fun r H => Frz H r (ofFn ss node least)) := by
  refine acalls_body TT_ok Try.func42 rfl rfl (by simp [Try.ntmps42]) ?_
  rw [Try.ntmps42]
  obtain ⟨σ, hσ⟩ : ∃ σ, σ = st0 [encS ss, (AV.int IntKind.i64) node, (AV.int IntKind.i64) least] := ⟨_, rfl⟩
  rw [← hσ]
  have h0_0 := congrFun hσ 0
  simp [st0] at h0_0
  have h1_0 := congrFun hσ 1
  simp [st0] at h1_0
  have h2_0 := congrFun hσ 2
  simp [st0] at h2_0
  clear hσ
  obtain ⟨H, hH⟩ : ∃ H, H = AHeap.nil := ⟨_, rfl⟩
  rw [← hH]
  have hn_0 : H.n = 0 := by rw [hH]; rfl
  have hst_0 : H.st = 1 := by rw [hH]; rfl
  clear hH
  refine stp_reg TT_ok (by rfl) fun K hK => ?_
  simp [h0_0, h1_0, h2_0, hn_0, hst_0, encS]
  try refine And.intro (by first | omega | rfl) ?_
  refine hK _ _ fun σ1 hσ H1 hH => ?_
  clear hK K
  have h3_1 := congrFun hσ 3
  have h4_1 := congrFun hσ 4
  have h5_1 := congrFun hσ 5
  simp [] at h3_1 h4_1 h5_1
  clear hσ
  have g0_1 := gt_of hH 0
  have g1_1 := gt_of hH 1
  have g2_1 := gt_of hH 2
  simp [hn_0, hst_0] at g0_1 g1_1 g2_1
  have hn_1 := congrArg AHeap.n hH
  simp [hn_0, hst_0] at hn_1
  have hst_1 := congrArg AHeap.st hH
  simp [hn_0, hst_0] at hst_1
  clear hH
  refine stp_reg TT_ok (by rfl) fun K hK => ?_
  simp [h3_1, h4_1, h5_1, g0_1, g1_1, g2_1, encS]
  try refine And.intro (by first | omega | rfl) ?_
  refine hK _ _ fun σ2 hσ H2 hH => ?_
  clear hK K
  have h6_2 := congrFun hσ 6
  simp [] at h6_2
  clear hσ
  replace hH : H1 = H2 := Eq.symm hH
  subst hH
  refine awp_ret ?_
  refine q_fin1 h6_2 ?_
  exact frz_fn (FrzL.cons (frz_box g0_1 (FrzL.cons (.pure (pu_encS ss)) (FrzL.nil _)) (by simp [encS, AV.one])) (FrzL.cons (frz_box g1_1 (FrzL.cons (.pure (pu_int _ _)) (FrzL.nil _)) (by simp [AV.one])) (FrzL.cons (frz_box g2_1 (FrzL.cons (.pure (pu_int _ _)) (FrzL.nil _)) (by simp [AV.one])) (FrzL.nil _))))

theorem of_ok (ss : List (List Int)) (node least : Int) : Fun1 Try.prog 42 [encS ss, (AV.int IntKind.i64) node, (AV.int IntKind.i64) least] (ofFn ss node least) :=
  fun1_frz (of0 ss node least) (pu_cons (pu_encS _) (pu_cons (pu_int _ _) (pu_cons (pu_int _ _) pu_nil))) (pu_ofFn _ _ _)
/-- The numbers that are not less than one. -/
def geL (least : Int) (l : List Int) : List Int := l.filter fun x => decide (least ≤ x)
theorem geL_snoc {least : Int} {l : List Int} {i : Nat} (h : i < l.length) : geL least (l.take (i + 1)) = geL least (l.take i) ++ if least ≤ l[i] then [l[i]] else [] := by
  rw [List.take_succ_eq_append_getElem h]
  simp only [geL, List.filter_append]
  congr 1
  by_cases hk : least ≤ l[i] <;> simp [hk]
theorem geL_split {least : Int} {l : List Int} {i : Nat} (h : i < l.length) (hk : least ≤ l[i]) : ∃ post, geL least l = geL least (l.take i) ++ l[i] :: post := by
  refine ⟨geL least (l.drop (i + 1)), ?_⟩
  conv => lhs; rw [← List.take_append_drop i l, List.drop_eq_getElem_cons h]
  simp only [geL, List.filter_append, List.filter_cons, hk, decide_true, if_true]

set_option maxHeartbeats 1000000 in
theorem of1 (ss : List (List Int)) (node least : Int) (l : List Int) (h0 : 0 ≤ node) (hl : ss[node.toNat]? = some l) (hll : l.length ≤ 1000000) (id : Nat) (Inv : List Int → AHeap → Prop) (Fin : AHeap → Prop) (H0 : AHeap) (hi : Inv [] H0)
    (hround : ∀ (pre : List Int) (x : Int) (H : AHeap), (∃ post, geL least l = pre ++ x :: post) → Inv pre H → AYield Try.prog id [(AV.int IntKind.i64) x] H (fun r H' => ∃ b, r = .bool b ∧ (b = true → Inv (pre ++ [x]) H') ∧ (b = false → Fin H')))
    (hend : ∀ H, Inv (geL least l) H → Fin H) : ACalls Try.prog 64 [.yl id, .rop [encS ss], .rop [(AV.int IntKind.i64) node], .rop [(AV.int IntKind.i64) least]] H0 (fun _ H' => Fin H') := by
  have hnl : node.toNat < ss.length := (List.getElem?_eq_some_iff.1 hl).1
  have hnl2 : node < ss.length := by omega
  have hge : (ss.map fun l => AV.ro (l.map (AV.int IntKind.i64)))[node.toNat]? = some (.ro (l.map (AV.int IntKind.i64))) := by rw [List.getElem?_map, hl]; rfl
  have hsg : ss[node.toNat] = l := (List.getElem?_eq_some_iff.1 hl).2
  refine acalls_body TT_ok Try.func64 rfl rfl (by simp [Try.ntmps64]) ?_
  rw [Try.ntmps64]
  obtain ⟨σ, hσ⟩ : ∃ σ, σ = st0 [.yl id, .rop [encS ss], .rop [(AV.int IntKind.i64) node], .rop [(AV.int IntKind.i64) least]] := ⟨_, rfl⟩
  rw [← hσ]
  have h0_0 := congrFun hσ 0
  simp [st0] at h0_0
  have h1_0 := congrFun hσ 1
  simp [st0] at h1_0
  have h2_0 := congrFun hσ 2
  simp [st0] at h2_0
  have h3_0 := congrFun hσ 3
  simp [st0] at h3_0
  clear hσ
  refine stp_reg TT_ok (by rfl) fun K hK => ?_
  simp [h1_0, h2_0, encS, hge, h0, hnl2, hl, hnl, hsg]
  try refine And.intro (by first | omega | rfl) ?_
  refine hK _ _ fun σ1 hσ H1 hH => ?_
  clear hK K
  have h0_1 := congrFun hσ 0
  have h3_1 := congrFun hσ 3
  have h10_1 := congrFun hσ 10
  have h11_1 := congrFun hσ 11
  have h12_1 := congrFun hσ 12
  simp [h0_0, h3_0] at h0_1 h3_1 h10_1 h11_1 h12_1
  clear hσ
  replace hH : H0 = H1 := Eq.symm hH
  subst hH
  refine awp_block ?_
  refine awp_loopV (fun n σ' H' => ∃ (i : Nat), n = l.length - i ∧ σ' 0 = σ1 0 ∧ σ' 3 = σ1 3 ∧ σ' 10 = σ1 10 ∧ σ' 11 = σ1 11 ∧ σ' 12 = (AV.int IntKind.i64) i ∧ (i ≤ l.length) ∧ (Inv (geL least (l.take i)) H')) ?_ ?_
  · refine ⟨_, 0, rfl, rfl, rfl, rfl, rfl, (by simp [h12_1]), ?_, ?_⟩
    · first | omega | (simp; done) | assumption
    · exact hi
  · rintro n1 σ2 H2 ⟨i, hn1, q0_2, q3_2, q10_2, q11_2, h12_2, p1, p2⟩
    have h0_2 := q0_2.trans h0_1
    have h3_2 := q3_2.trans h3_1
    have h10_2 := q10_2.trans h10_1
    have h11_2 := q11_2.trans h11_1
    refine stp_reg TT_ok (by rfl) fun K hK => ?_
    simp [h11_2, h12_2]
    try refine And.intro (by first | omega | rfl) ?_
    refine hK _ _ fun σ3 hσ H3 hH => ?_
    clear hK K
    have h0_3 := congrFun hσ 0
    have h3_3 := congrFun hσ 3
    have h10_3 := congrFun hσ 10
    have h11_3 := congrFun hσ 11
    have h12_3 := congrFun hσ 12
    have h13_3 := congrFun hσ 13
    simp [h0_2, h3_2, h10_2, h11_2, h12_2] at h0_3 h3_3 h10_3 h11_3 h12_3 h13_3
    clear hσ
    replace hH : H2 = H3 := Eq.symm hH
    subst hH
    refine awp_seq ?_
    refine awp_cond _ (by simp only [aeval_tmp]; exact h13_3) (fun hc13 => ?_) (fun hc13 => ?_)
    · try simp at hc13
      have hlt : i < l.length := by simpa using hc13
      refine awp_skip ?_
      refine q_seq ?_
      refine awp_seq ?_
      refine awp_block ?_
      refine stp_reg TT_ok (by rfl) fun K hK => ?_
      simp [h10_3, h12_3, hlt]
      try refine And.intro (by first | omega | rfl) ?_
      refine hK _ _ fun σ4 hσ H4 hH => ?_
      clear hK K
      have h0_4 := congrFun hσ 0
      have h3_4 := congrFun hσ 3
      have h6_4 := congrFun hσ 6
      have h10_4 := congrFun hσ 10
      have h11_4 := congrFun hσ 11
      have h12_4 := congrFun hσ 12
      simp [h0_3, h3_3, h10_3, h11_3, h12_3] at h0_4 h3_4 h6_4 h10_4 h11_4 h12_4
      clear hσ
      replace hH : H2 = H4 := Eq.symm hH
      subst hH
      by_cases hs : least ≤ l[i]
      · skip
        refine stp_reg TT_ok (by rfl) fun K hK => ?_
        simp [h0_4, h3_4, h6_4, hs]
        try refine And.intro (by first | omega | rfl) ?_
        refine (hround _ _ _ (geL_split hlt hs) p2).mono ?_
        rintro r Hy ⟨b, rfl, hbt, hbf⟩
        simp [h0_4, h3_4, h6_4, hs]
        try refine And.intro (by first | omega | rfl) ?_
        refine hK _ _ fun σ5 hσ H5 hH => ?_
        clear hK K
        have h0_5 := congrFun hσ 0
        have h3_5 := congrFun hσ 3
        have h10_5 := congrFun hσ 10
        have h11_5 := congrFun hσ 11
        have h12_5 := congrFun hσ 12
        have h24_5 := congrFun hσ 24
        simp [h0_4, h3_4, h10_4, h11_4, h12_4] at h0_5 h3_5 h10_5 h11_5 h12_5 h24_5
        clear hσ
        subst hH
        clear p2
        refine awp_cond _ (by simp only [aeval_tmp]; exact h24_5) (fun hc24 => ?_) (fun hc24 => ?_)
        · try simp at hc24
          refine awp_ret ?_
          refine q_block_ret ?_
          refine q_seq_ret ?_
          refine q_loop_ret ?_
          refine q_block_ret ?_
          refine q_fin0r ?_
          exact hbf (by simpa using hc24)
        · try simp at hc24
          refine awp_skip ?_
          refine q_block ?_
          refine q_seq ?_
          refine stp_regl TT_ok (by rfl) fun K hK => ?_
          simp [h12_5, hs, wrap_ok (n := (i : Int) + 1) (by omega) (by omega)]
          try refine And.intro (by first | omega | rfl) ?_
          refine hK _ _ fun σ6 hσ H6 hH => ?_
          clear hK K
          have h0_6 := congrFun hσ 0
          have h3_6 := congrFun hσ 3
          have h10_6 := congrFun hσ 10
          have h11_6 := congrFun hσ 11
          have h12_6 := congrFun hσ 12
          simp [h0_5, h3_5, h10_5, h11_5] at h0_6 h3_6 h10_6 h11_6 h12_6
          clear hσ
          replace hH : H5 = H6 := Eq.symm hH
          subst hH
          refine ⟨_, ?_, i + 1, rfl, (h0_6.trans h0_1.symm), (h3_6.trans h3_1.symm), (h10_6.trans h10_1.symm), (h11_6.trans h11_1.symm), (by simp [h12_6]), ?_, ?_⟩
          · subst hn1; omega
          · first | omega | assumption | (simp; done)
          · rw [geL_snoc hlt, if_pos hs]; exact hbt (by simpa using hc24)
      · skip
        refine stp_reg TT_ok (by rfl) fun K hK => ?_
        simp [h0_4, h3_4, h6_4, hs]
        try refine And.intro (by first | omega | rfl) ?_
        refine hK _ _ fun σ7 hσ H7 hH => ?_
        clear hK K
        have h0_7 := congrFun hσ 0
        have h3_7 := congrFun hσ 3
        have h10_7 := congrFun hσ 10
        have h11_7 := congrFun hσ 11
        have h12_7 := congrFun hσ 12
        have h24_7 := congrFun hσ 24
        simp [h0_4, h3_4, h10_4, h11_4, h12_4] at h0_7 h3_7 h10_7 h11_7 h12_7 h24_7
        clear hσ
        replace hH : H2 = H7 := Eq.symm hH
        subst hH
        refine stp_false (by simp [aeval_tmp, h24_7, hs]) ?_
        refine awp_skip ?_
        refine q_block ?_
        refine q_seq ?_
        refine stp_regl TT_ok (by rfl) fun K hK => ?_
        simp [h12_7, hs, wrap_ok (n := (i : Int) + 1) (by omega) (by omega)]
        try refine And.intro (by first | omega | rfl) ?_
        refine hK _ _ fun σ8 hσ H8 hH => ?_
        clear hK K
        have h0_8 := congrFun hσ 0
        have h3_8 := congrFun hσ 3
        have h10_8 := congrFun hσ 10
        have h11_8 := congrFun hσ 11
        have h12_8 := congrFun hσ 12
        simp [h0_7, h3_7, h10_7, h11_7] at h0_8 h3_8 h10_8 h11_8 h12_8
        clear hσ
        replace hH : H2 = H8 := Eq.symm hH
        subst hH
        refine ⟨_, ?_, i + 1, rfl, (h0_8.trans h0_1.symm), (h3_8.trans h3_1.symm), (h10_8.trans h10_1.symm), (h11_8.trans h11_1.symm), (by simp [h12_8]), ?_, ?_⟩
        · subst hn1; omega
        · first | omega | assumption | (simp; done)
        · rw [geL_snoc hlt, if_neg hs, List.append_nil]; exact p2
    · try simp at hc13
      refine awp_exit ?_
      refine q_seq_exit ?_
      refine q_loop_exit ?_
      refine q_block_hit ?_
      refine q_fin0 ?_
      have : i = l.length := by have := hc13; omega
      subst this
      rw [List.take_length] at p2
      exact hend _ p2

end Go.Proofs.Yteifhcohmipdcaa

/-
  THE GRAPH FUNCTIONS: a rule for 'for k := range s.of(node, least)'. Conditions: lengths under a bound.
-/
namespace Go.Proofs.Yteifhcohmipdcaa
open Go.Abs
set_option linter.unusedSimpArgs false
set_option linter.unusedVariables false
/-- What a round's body leaves. -/
def rbQ (id : Nat) (busy rdy : Blk) (J' : AHeap → Prop) (σ : St) (Q : APost) : APost
  | .normal, _, H3 => H3.get id = some busy ∧ ∀ H4, H4 = H3.put id rdy → J' H4
  | e, _, H3 => H3.get id = some busy ∧ ∀ b H4, H4 = H3.put id b → Q e σ H4
def raQ (nt id : Nat) (busy rdy : Blk) (body : Code) (J' : AHeap → Prop) (σ : St) (Q : APost) : APost := fun e σ1 H1 =>
  e = .normal ∧ H1.get id = some rdy ∧ ∀ H2, H2 = H1.put id busy → AWP Try.prog true nt body σ1 H2 (rbQ id busy rdy J' σ Q)
theorem q_ra {nt id : Nat} {busy rdy : Blk} {body : Code} {J' : AHeap → Prop} {σ σ1 : St} {Q : APost} {H1 : AHeap} (h1 : H1.get id = some rdy) (h2 : ∀ H2, H2 = H1.put id busy → AWP Try.prog true nt body σ1 H2 (rbQ id busy rdy J' σ Q)) :
    raQ nt id busy rdy body J' σ Q .normal σ1 H1 := ⟨rfl, h1, h2⟩
theorem q_rb {id : Nat} {busy rdy : Blk} {J' : AHeap → Prop} {σ σ1 : St} {Q : APost} {H3 : AHeap} (h1 : H3.get id = some busy) (h2 : ∀ H4, H4 = H3.put id rdy → J' H4) : rbQ id busy rdy J' σ Q .normal σ1 H3 := ⟨h1, h2⟩
theorem q_rb_ret {id : Nat} {busy rdy : Blk} {J' : AHeap → Prop} {σ σ1 : St} {Q : APost} {H3 : AHeap} (h1 : H3.get id = some busy) (h2 : ∀ b H4, H4 = H3.put id b → Q .ret σ H4) : rbQ id busy rdy J' σ Q .ret σ1 H3 := ⟨h1, h2⟩
theorem q_rb_exit {k id : Nat} {busy rdy : Blk} {J' : AHeap → Prop} {σ σ1 : St} {Q : APost} {H3 : AHeap} (h1 : H3.get id = some busy) (h2 : ∀ b H4, H4 = H3.put id b → Q (.exit k) σ H4) : rbQ id busy rdy J' σ Q (.exit k) σ1 H3 := ⟨h1, h2⟩
theorem put_put (H : AHeap) (id : Nat) (a b : Blk) : (H.put id a).put id b = H.put id b := by
  simp only [AHeap.put, AHeap.mk.injEq, true_and]
  funext i; by_cases h : i = id <;> simp [h]
theorem stp_rangeOf {nt : Nat} {σ : St} {H : AHeap} {Q : APost} {g : Operand} {p : Tmp} {assign body : Code} (id : Nat) (hid : H.n = id) {ss : List (List Int)} {node least : Int} {l : List Int} (hg : aeval σ g = ofFn ss node least) (hp : p < nt) (h0 : 0 ≤ node)
    (hl : ss[node.toNat]? = some l) (hll : l.length ≤ 1000000) (J : List Int → AHeap → Prop) (hi : ∀ b H', H' = H.alloc b → J [] H')
    (hround : ∀ (busy rdy : Blk) (pre : List Int) (x : Int) (H' : AHeap), (∃ post, geL least l = pre ++ x :: post) → J pre H' → H'.get id = some rdy → ∀ σ', σ' = σ.put (some p) ((AV.int IntKind.i64) x) →
      AWP Try.prog true nt assign σ' H' (raQ nt id busy rdy body (J (pre ++ [x])) σ Q))
    (hend : ∀ (rdy b : Blk) (H' : AHeap), J (geL least l) H' → H'.get id = some rdy → ∀ H4, H4 = H'.put id b → Q .normal σ H4) : AWP Try.prog false nt (.rangeFunc g #[p] assign body) σ H Q := by
  subst hid
  obtain ⟨rdy, hrdy⟩ : ∃ b, b = Blk.lp σ nt [p] assign body .ready none := ⟨_, rfl⟩
  obtain ⟨busy, hbusy⟩ : ∃ b, b = Blk.lp σ nt [p] assign body .busy none := ⟨_, rfl⟩
  refine awp_rangeFunc (f := 64) (caps := [.rop [encS ss], .rop [(AV.int IntKind.i64) node], .rop [(AV.int IntKind.i64) least]]) hg ?_
  refine of1 ss node least l h0 hl hll H.n (fun pre H' => J pre H' ∧ H'.get H.n = some rdy) (fun H' => ∃ st x, H'.get H.n = some (.lp σ nt [p] assign body st (AX.jump x)) ∧ st ≠ .busy ∧ Q x σ (H'.put H.n (.lp σ nt [p] assign body .exhausted (AX.jump x)))) _ ?_ ?_ ?_
  · exact ⟨hi _ _ rfl, by rw [hrdy]; simp [AHeap.alloc]⟩
  · rintro pre x H' hpost ⟨hJ, hr⟩
    refine ⟨σ, nt, [p], assign, body, by rw [hr, hrdy], rfl, by simp [hp], (hround busy rdy pre x H' hpost hJ hr _ rfl).mono ?_⟩
    rintro e σ1 H1 ⟨h1, h2, h3⟩
    refine ⟨h1, by rw [h2, hrdy], (h3 _ (by rw [hbusy])).mono ?_⟩
    intro e σ3 H3 h4
    unfold yldQ
    cases e with
    | normal =>
      refine ⟨by rw [h4.1, hbusy], true, rfl, fun _ => ⟨h4.2 _ (by rw [hrdy]; rfl), ?_⟩, fun h => (by cases h)⟩
      rw [hrdy]; simp [AHeap.put, AX.jump]
    | ret =>
      refine ⟨by rw [h4.1, hbusy], false, rfl, fun h => (by cases h), fun _ => ⟨.done, .ret, by simp [AHeap.put, AX.jump], by simp, ?_⟩⟩
      rw [put_put]; exact h4.2 _ _ rfl
    | exit k =>
      refine ⟨by rw [h4.1, hbusy], false, rfl, fun h => (by cases h), fun _ => ⟨.done, .exit k, by simp [AHeap.put, AX.jump], by simp, ?_⟩⟩
      rw [put_put]; exact h4.2 _ _ rfl
  · rintro H' ⟨hJ, hr⟩
    exact ⟨.ready, .normal, by rw [hr, hrdy]; rfl, by simp, hend rdy _ H' hJ hr _ rfl⟩
theorem geL_zero {l : List Int} (h : ∀ x ∈ l, 0 ≤ x) : geL 0 l = l := by
  rw [geL, List.filter_eq_self]; intro x hx; simpa using h x hx
theorem succs_get {g : Gr} {a : Int} (h : inR g.nodes.length a) : g.succs[a.toNat]? = some (g.succ a.toNat) := by simp [Gr.succs, in_toNat h]
end Go.Proofs.Yteifhcohmipdcaa

/-
  THE GRAPH FUNCTIONS, plain law 8: a search in breadth finds the distances. Conditions: a valid graph.
-/
namespace Go.Proofs.Yteifhcohmipdcaa
open Go.Abs
set_option linter.unusedSimpArgs false
set_option linter.unusedVariables false

structure Bfs (g : Gr) (ok : Int → Prop) (to : Int) (n : Nat) (d q : List Int) (op : Int → Int → Prop) : Prop where
  len : d.length = g.nodes.length
  val : ∀ (v : Nat) (x : Int), d[v]? = some x → x = -1 ∨ ∃ k : Nat, x = k ∧ g.Far ok to k v
  disc : ∀ (v k : Nat), v < g.nodes.length → k ≤ n → g.Far ok to k v → d[v]? = some (k : Int)
  qd : ∃ q0 q1, q = q0 ++ q1 ∧ (∀ x ∈ q0, d[x.toNat]? = some (n : Int)) ∧ ∀ x ∈ q1, d[x.toNat]? = some ((n + 1 : Nat) : Int)
  qr : ∀ x ∈ q, inR g.nodes.length x
  exp : ∀ v w, (v, w) ∈ g.edges → ok v → (∃ k : Nat, d[w.toNat]? = some (k : Int)) → w ∉ q → ¬ op v w → ∃ k : Nat, d[v.toNat]? = some (k : Int)

theorem toNat_cast {n : Nat} {x : Int} (h : inR n x) : (x.toNat : Int) = x := Int.toNat_of_nonneg h.1
theorem start_get {n : Nat} {to : Int} (ht : inR n to) (v : Nat) : ((List.replicate n (-1 : Int)).set to.toNat 0)[v]? = if v < n then (if to.toNat = v then some 0 else some (-1)) else none := by
  rw [List.getElem?_set]
  have := in_toNat ht
  by_cases hv : v < n
  · by_cases he : to.toNat = v
    · subst he; simp [hv]
    · simp [hv, he, List.getElem?_replicate]
  · rw [if_neg (by omega), if_neg hv, List.getElem?_replicate, if_neg hv]
theorem Bfs.start {g : Gr} (hv : g.valid = true) {ok : Int → Prop} {to : Int} (ht : inR g.nodes.length to) : Bfs g ok to 0 ((List.replicate g.nodes.length (-1)).set to.toNat 0) [to] (fun _ _ => False) := by
  have hd := start_get ht
  refine ⟨by simp, fun v x hx => ?_, fun v k hv hk hf => ?_, ⟨[to], [], rfl, fun x hx => ?_, by simp⟩, by simp [ht], fun v w he hok hw hq => ?_⟩
  · rw [hd] at hx
    split at hx
    · split at hx
      · rename_i h; cases hx; right; exact ⟨0, rfl, by rw [← h, toNat_cast ht]; exact g.far_to _ _⟩
      · cases hx; exact .inl rfl
    · cases hx
  · have : k = 0 := by omega
    subst this
    have e := hf.zero
    rw [hd, if_pos hv, if_pos (by rw [← e]; simp)]; rfl
  · simp at hx; subst hx; rw [hd, if_pos (in_toNat ht), if_pos rfl]; rfl
  · obtain ⟨k, hk⟩ := hw
    rw [hd] at hk
    have hw : inR g.nodes.length w := (valid_edge hv he).2
    split at hk
    · split at hk
      · rename_i h1 h2
        simp at hq
        exfalso
        refine hq ?_
        rw [← toNat_cast hw, ← toNat_cast ht, h2]
      · have hk' := Option.some.inj hk; omega
    · cases hk
/-- The first one leaves the queue. -/
theorem Bfs.pop {g : Gr} (hv : g.valid = true) {ok : Int → Prop} {to : Int} {n : Nat} {d q : List Int} {c : Int} (h : Bfs g ok to n d (c :: q) (fun _ _ => False)) :
    ∃ n', Bfs g ok to n' d q (fun v w => w = c ∧ v ∉ ([] : List Int)) ∧ d[c.toNat]? = some ((n' : Nat) : Int) := by
  obtain ⟨q0, q1, hq, h0, h1⟩ := h.qd
  have hexp : ∀ v w, (v, w) ∈ g.edges → ok v → (∃ k : Nat, d[w.toNat]? = some (k : Int)) → w ∉ q → ¬ (w = c ∧ v ∉ ([] : List Int)) → ∃ k : Nat, d[v.toNat]? = some (k : Int) := by
    intro v w he hok hw hwq hop
    refine h.exp v w he hok hw ?_ (fun h => h)
    simp only [List.mem_cons, not_or]
    exact ⟨fun e => hop ⟨e, by simp⟩, hwq⟩
  cases q0 with
  | cons a q0 =>
    simp only [List.cons_append, List.cons.injEq] at hq
    obtain ⟨rfl, rfl⟩ := hq
    exact ⟨n, ⟨h.len, h.val, h.disc, ⟨q0, q1, rfl, fun x hx => h0 x (by simp [hx]), h1⟩, fun x hx => h.qr x (by simp [hx]), hexp⟩, h0 c (by simp)⟩
  | nil =>
    simp only [List.nil_append] at hq
    subst hq
    refine ⟨n + 1, ⟨h.len, h.val, fun v k hvl hk hf => ?_, ⟨q, [], by simp, fun x hx => h1 x (by simp [hx]), by simp⟩, fun x hx => h.qr x (by simp [hx]), hexp⟩, h1 c (by simp)⟩
    rcases Nat.lt_or_ge k (n + 1) with hkn | hkn
    · exact h.disc v k hvl (by omega) hf
    · have : k = n + 1 := by omega
      subst this
      obtain ⟨w, he, hok, hfw⟩ := hf.pred
      have hwr := (valid_edge hv he).2
      have hw := h.disc w.toNat n (in_toNat hwr) (Nat.le_refl _) (by rw [toNat_cast hwr]; exact hfw)
      obtain ⟨j, hj⟩ := h.exp v w he hok ⟨n, hw⟩ (fun hin => by
        have := h1 w hin; rw [hw] at this; simp at this; omega) (fun h => h)
      simp only [Int.toNat_natCast] at hj
      rw [hj]
      rcases h.val v _ hj with q | ⟨j', q, hj'⟩
      · omega
      · have : j' = n + 1 := hj'.uniq hf
        subst this; rw [q]
/-- A predecessor that has been met already. -/
theorem Bfs.skip {g : Gr} {ok : Int → Prop} {to : Int} {n : Nat} {d q pre : List Int} {c x : Int} (h : Bfs g ok to n d q (fun v w => w = c ∧ v ∉ pre)) (hx : inR g.nodes.length x) {y : Int} (hy : d[x.toNat]? = some y) (h0 : 0 ≤ y) :
    Bfs g ok to n d q (fun v w => w = c ∧ v ∉ pre ++ [x]) := by
  refine ⟨h.len, h.val, h.disc, h.qd, h.qr, fun v w he hok hw hwq hop => ?_⟩
  by_cases hvx : v = x
  · subst hvx; exact ⟨y.toNat, by rw [hy, Int.toNat_of_nonneg h0]⟩
  · refine h.exp v w he hok hw hwq fun hh => hop ⟨hh.1, fun hin => ?_⟩
    rcases List.mem_append.1 hin with h1 | h1
    · exact hh.2 h1
    · simp at h1; exact hvx h1
/-- A new one. -/
theorem Bfs.push {g : Gr} (hv : g.valid = true) {ok : Int → Prop} {to : Int} {n : Nat} {d q pre : List Int} {c x : Int} (h : Bfs g ok to n d q (fun v w => w = c ∧ v ∉ pre)) (hc : inR g.nodes.length c) (hdc : d[c.toNat]? = some (n : Int)) (hx : inR g.nodes.length x) (he : (x, c) ∈ g.edges) (hok : ok x) {y : Int} (hy : d[x.toNat]? = some y) (h0 : y < 0) :
    Bfs g ok to n (d.set x.toNat ((n + 1 : Nat) : Int)) (q ++ [x]) (fun v w => w = c ∧ v ∉ pre ++ [x]) ∧ d[x.toNat]? = some (-1) := by
  have hxl := in_toNat hx
  have hxd : x.toNat < d.length := by rw [h.len]; exact hxl
  have hm1 : y = -1 := by
    rcases h.val _ _ hy with q | ⟨k, q, _⟩
    · exact q
    · omega
  have hfc : g.Far ok to n c := by
    rcases h.val _ _ hdc with q | ⟨k, q, hk⟩
    · omega
    · rw [toNat_cast hc] at hk
      have : k = n := by omega
      subst this; exact hk
  have hfx : g.Far ok to (n + 1) x := by
    refine ⟨.cons he hok hfc.1, fun j hj hw => ?_⟩
    obtain ⟨i, hi, hf⟩ := hw.far
    have := h.disc x.toNat i hxl (by omega) (by rw [toNat_cast hx]; exact hf)
    rw [hy] at this; simp at this; omega
  have hset : ∀ v : Nat, (d.set x.toNat ((n + 1 : Nat) : Int))[v]? = if x.toNat = v then some ((n + 1 : Nat) : Int) else d[v]? := by
    intro v; rw [List.getElem?_set]
    by_cases e : x.toNat = v
    · subst e; simp [hxd]
    · simp [e]
  have hne : ∀ (z : Int) (k : Nat), d[z.toNat]? = some (k : Int) → (d.set x.toNat ((n + 1 : Nat) : Int))[z.toNat]? = some (k : Int) := by
    intro z k hz
    rw [hset, if_neg (fun e => by rw [e] at hy; rw [hy] at hz; simp at hz; omega)]; exact hz
  refine ⟨⟨by simpa using h.len, fun v z hz => ?_, fun v k hvl hk hf => ?_, ?_, fun z hz => ?_, fun v w hew hokv hw hwq hop => ?_⟩, by rw [hy, hm1]⟩
  · rw [hset] at hz
    split at hz
    · rename_i e; cases hz; right; exact ⟨n + 1, rfl, by rw [← e, toNat_cast hx]; exact hfx⟩
    · exact h.val v z hz
  · have hd := h.disc v k hvl hk hf
    rw [hset, if_neg (fun e => by rw [← e, hy] at hd; simp at hd; omega)]; exact hd
  · obtain ⟨q0, q1, rfl, a0, a1⟩ := h.qd
    refine ⟨q0, q1 ++ [x], by simp, fun z hz => hne z n (a0 z hz), fun z hz => ?_⟩
    rcases List.mem_append.1 hz with hz | hz
    · exact hne z (n + 1) (a1 z hz)
    · simp at hz; subst hz; rw [hset, if_pos rfl]
  · rcases List.mem_append.1 hz with hz | hz
    · exact h.qr z hz
    · simp at hz; subst hz; exact hx
  · simp only [List.mem_append, List.mem_singleton, not_or] at hwq
    by_cases hvx : v.toNat = x.toNat
    · exact ⟨n + 1, by rw [hset, if_pos hvx.symm]⟩
    · rw [hset, if_neg (Ne.symm hvx)]
      refine h.exp v w hew hokv ?_ hwq.1 fun hh => hop ⟨hh.1, fun hin => ?_⟩
      · obtain ⟨k, hk⟩ := hw
        have hwr : inR g.nodes.length w := (valid_edge hv hew).2
        rw [hset, if_neg (fun e => hwq.2 (by rw [← toNat_cast hwr, ← toNat_cast hx, e]))] at hk
        exact ⟨k, hk⟩
      · rcases List.mem_append.1 hin with h1 | h1
        · exact hh.2 h1
        · simp at h1; exact hvx (by rw [h1])
/-- All predecessors have been seen. -/
theorem Bfs.close {g : Gr} {ok : Int → Prop} {to : Int} {n : Nat} {d q pre : List Int} {c : Int} (h : Bfs g ok to n d q (fun v w => w = c ∧ v ∉ pre)) (hall : ∀ v, (v, c) ∈ g.edges → ok v → v ∈ pre) :
    Bfs g ok to n d q (fun _ _ => False) :=
  ⟨h.len, h.val, h.disc, h.qd, h.qr, fun v w he hok hw hwq _ => h.exp v w he hok hw hwq fun hh => hh.2 (hall v (hh.1 ▸ he) hok)⟩
theorem Bfs.done {g : Gr} (hv : g.valid = true) {ok : Int → Prop} {to : Int} (ht : inR g.nodes.length to) {n : Nat} {d : List Int} (h : Bfs g ok to n d [] (fun _ _ => False)) : IsDist g ok to d := by
  have hto : ∃ k : Nat, d[to.toNat]? = some (k : Int) := ⟨0, h.disc to.toNat 0 (in_toNat ht) (Nat.zero_le _) (by rw [toNat_cast ht]; exact g.far_to _ _)⟩
  have hall : ∀ (k : Nat) (v : Int), g.Walk ok to k v → ∃ j : Nat, d[v.toNat]? = some (j : Int) := by
    intro k v hw
    induction hw with
    | nil => exact hto
    | cons he ha _ ih => exact h.exp _ _ he ha ih (by simp) (fun h => h)
  refine ⟨h.len, h.val, fun v k hvl hf => ?_⟩
  obtain ⟨j, hj⟩ := hall k v hf.1
  simp only [Int.toNat_natCast] at hj
  rcases h.val v _ hj with q | ⟨i, q, hi⟩
  · omega
  · rw [hj, q, hi.uniq hf]
theorem valid_mk {g : Gr} (h1 : g.nodes.length ≤ 1024) (h2 : g.edges.length ≤ 4096) (h3 : ∀ e ∈ g.edges, inR g.nodes.length e.1 ∧ inR g.nodes.length e.2) : g.valid = true := by
  simp only [Gr.valid, Bool.and_eq_true, decide_eq_true_eq, List.all_eq_true]
  exact ⟨⟨h1, h2⟩, fun e he => by obtain ⟨⟨a, b⟩, c, d⟩ := h3 e he; simp only [okE, decide_eq_true_eq]; exact ⟨a, b, c, d⟩⟩
theorem rev_valid {g : Gr} (hv : g.valid = true) : g.rev.valid = true := by
  obtain ⟨h1, h2⟩ := valid_nodes hv
  rw [rev_of hv]
  refine valid_mk h1 (by simpa using h2) fun e he => ?_
  obtain ⟨x, hx, rfl⟩ := List.mem_map.1 he
  exact ⟨(valid_edge hv hx).2, (valid_edge hv hx).1⟩
theorem rev_edge {g : Gr} (hv : g.valid = true) {a b : Int} : (a, b) ∈ g.rev.edges ↔ (b, a) ∈ g.edges := by
  rw [rev_of hv]
  simp only [List.mem_map, swapE]
  constructor
  · rintro ⟨⟨x, y⟩, h, e⟩; cases e; exact h
  · intro h; exact ⟨(b, a), h, rfl⟩
theorem rev_nodes {g : Gr} (hv : g.valid = true) : g.rev.nodes = g.nodes := by rw [rev_of hv]
/-- The graph of the nodes from one on. -/
def Gr.sub (g : Gr) (i : Int) : Gr := ⟨g.nodes, g.edges.filter fun e => decide (i ≤ e.1) && decide (i ≤ e.2)⟩
theorem sub_edge {g : Gr} {i a b : Int} : (a, b) ∈ (g.sub i).edges ↔ (a, b) ∈ g.edges ∧ i ≤ a ∧ i ≤ b := by simp [Gr.sub]
theorem sub_valid {g : Gr} (hv : g.valid = true) (i : Int) : (g.sub i).valid = true := by
  obtain ⟨h1, h2⟩ := valid_nodes hv
  exact valid_mk h1 (Nat.le_trans (List.length_filter_le _ _) h2) fun e he => valid_edge hv (List.mem_filter.1 he).1
theorem walk_sub {g : Gr} {i to : Int} (hi : i ≤ to) {k : Nat} {v : Int} : (g.sub i).Walk (fun _ => True) to k v ↔ g.Walk (fun x => i ≤ x) to k v := by
  have hge : ∀ {k : Nat} {v : Int}, g.Walk (fun x => i ≤ x) to k v → i ≤ v := by
    intro k v h
    cases h with
    | nil => exact hi
    | cons _ ha _ => exact ha
  constructor
  · intro h
    induction h with
    | nil => exact .nil
    | cons he _ _ ih => obtain ⟨h1, h2, _⟩ := sub_edge.1 he; exact .cons h1 h2 ih
  · intro h
    induction h with
    | nil => exact .nil
    | cons he ha hw ih => exact .cons (sub_edge.2 ⟨he, ha, hge hw⟩) trivial ih
theorem dist_sub {g : Gr} (hv : g.valid = true) {i to : Int} (hi : i ≤ to) (ht : inR g.nodes.length to) : IsDist g (fun x => i ≤ x) to ((g.sub i).dist to) := by
  have h := dist_is (sub_valid hv i) (to := to) ht
  have hf : ∀ {k : Nat} {v : Int}, (g.sub i).Far (fun _ => True) to k v ↔ g.Far (fun x => i ≤ x) to k v := by
    intro k v
    simp only [Gr.Far, walk_sub hi]
  refine ⟨h.len, fun v x hx => ?_, fun v k hvl hk => h.all v k hvl (hf.2 hk)⟩
  rcases h.val v x hx with q | ⟨k, q, hk⟩
  · exact .inl q
  · exact .inr ⟨k, q, hf.1 hk⟩
theorem sub_zero {g : Gr} (hv : g.valid = true) : g.sub 0 = g := by
  cases g with
  | mk n e =>
    simp only [Gr.sub, Gr.mk.injEq, true_and, List.filter_eq_self]
    intro x hx
    have := valid_edge hv hx
    simp [this.1.1, this.2.1]
end Go.Proofs.Yteifhcohmipdcaa

/-
  THE GRAPH FUNCTIONS, 11: distances, descend, Path. Conditions: a valid graph, nodes in range. (Printed by w11.py.)
-/
namespace Go.Proofs.Yteifhcohmipdcaa
open Go.Abs
set_option linter.unusedSimpArgs false
set_option linter.unusedVariables false
/-- A queue: a part of a row. -/
def Qu (es : List AV) (off : Nat) (q : List Int) : Prop := ∃ pre post, es = pre ++ q.map (AV.int IntKind.i64) ++ post ∧ pre.length = off
theorem Qu.head {es : List AV} {off : Nat} {c : Int} {q : List Int} (h : Qu es off (c :: q)) : es[off]? = some ((AV.int IntKind.i64) c) ∧ Qu es (off + 1) q := by
  obtain ⟨pre, post, rfl, rfl⟩ := h
  exact ⟨by simp, pre ++ [(AV.int IntKind.i64) c], post, by simp, by simp⟩
theorem Qu.take {es : List AV} {off : Nat} {q : List Int} (h : Qu es off q) : (es.drop off).take q.length = q.map (AV.int IntKind.i64) ∧ off + q.length ≤ es.length := by
  obtain ⟨pre, post, rfl, rfl⟩ := h
  refine ⟨?_, by simp⟩
  rw [List.append_assoc, List.drop_left, List.take_left' (by simp)]
theorem Qu.new (q : List Int) : Qu (q.map (AV.int IntKind.i64)) 0 q := ⟨[], [], by simp, rfl⟩
theorem ge_of_post {least x : Int} {l pre post : List Int} (h : geL least l = pre ++ x :: post) : x ∈ l ∧ least ≤ x := by
  have : x ∈ geL least l := by rw [h]; simp
  simpa [geL] using this
theorem count_set_m1 {d : List Int} {k : Nat} (h : d[k]? = some (-1)) (x : Int) (hx : 0 ≤ x) : (d.set k x).count (-1) + 1 = d.count (-1) := by
  induction d generalizing k with
  | nil => simp at h
  | cons b d ih =>
    cases k with
    | zero =>
      simp at h; subst h
      have : (x == -1) = false := by rw [beq_eq_false_iff_ne]; omega
      simp [List.count_cons, this]
    | succ k =>
      simp at h
      have := ih h
      simp only [List.set_cons_succ, List.count_cons]
      omega

set_option maxHeartbeats 1000000 in
theorem distances0 (g : Gr) (hv : g.valid = true) (to least : Int) (ht : inR g.nodes.length to) : ACalls Try.prog 46 [encS g.rev.succs, (AV.int IntKind.i64) to, (AV.int IntKind.i64) least] AHeap.nil (fun r H => ∃ d, IsDist g (fun x => least ≤ x) to d ∧ RowOut 3 1 (d.map (AV.int IntKind.i64)) r H) := by
  refine acalls_body TT_ok Try.func46 rfl rfl (by simp [Try.ntmps46]) ?_
  rw [Try.ntmps46]
  obtain ⟨σ, hσ⟩ : ∃ σ, σ = st0 [encS g.rev.succs, (AV.int IntKind.i64) to, (AV.int IntKind.i64) least] := ⟨_, rfl⟩
  rw [← hσ]
  have h0_0 := congrFun hσ 0
  simp [st0] at h0_0
  have h1_0 := congrFun hσ 1
  simp [st0] at h1_0
  have h2_0 := congrFun hσ 2
  simp [st0] at h2_0
  clear hσ
  obtain ⟨H, hH⟩ : ∃ H, H = AHeap.nil := ⟨_, rfl⟩
  rw [← hH]
  have hn_0 : H.n = 0 := by rw [hH]; rfl
  have hst_0 : H.st = 1 := by rw [hH]; rfl
  clear hH
  refine stp_reg TT_ok (by rfl) fun K hK => ?_
  simp []
  try refine And.intro (by first | omega | rfl) ?_
  refine hK _ _ fun σ1 hσ H1 hH => ?_
  clear hK K
  have h0_1 := congrFun hσ 0
  have h1_1 := congrFun hσ 1
  have h2_1 := congrFun hσ 2
  simp [h0_0, h1_0, h2_0] at h0_1 h1_1 h2_1
  clear hσ
  replace hH : H = H1 := Eq.symm hH
  subst hH
  obtain ⟨hn1, hn2⟩ := valid_nodes hv
  obtain ⟨ht1, ht2⟩ := ht
  have ht3 : to.toNat < g.nodes.length := by omega
  have hsl : g.rev.succs.length = g.nodes.length := by simp [Gr.succs, rev_nodes hv]
  refine stp_reg TT_ok (by rfl) fun K hK => ?_
  simp [h0_1, hn_0, hst_0, encS, hsl]
  try refine And.intro (by first | omega | rfl) ?_
  refine FunRowW.at (repeat_w (-1) g.nodes.length (by omega)) ?hf ?_
  case hf => exact FrzL.cons (frz_ints (xs := [-1]) (by simp [h0_1, hn_0, hst_0, encS, hsl]; rfl) rfl) (FrzL.cons (.pure (pu_int _ _)) (FrzL.nil _))
  simp [h0_1, hn_0, hst_0, encS, hsl]
  try refine And.intro (by first | omega | rfl) ?_
  refine hK _ _ fun σ2 hσ H2 hH => ?_
  clear hK K
  have h0_2 := congrFun hσ 0
  have h1_2 := congrFun hσ 1
  have h2_2 := congrFun hσ 2
  have h7_2 := congrFun hσ 7
  simp [h0_1, h1_1, h2_1] at h0_2 h1_2 h2_2 h7_2
  clear hσ
  have g0_2 := gt_of hH 0
  have g1_2 := gt_of hH 1
  have g2_2 := gt_of hH 2
  simp [hn_0, hst_0] at g0_2 g1_2 g2_2
  have hn_2 := congrArg AHeap.n hH
  simp [hn_0, hst_0] at hn_2
  have hst_2 := congrArg AHeap.st hH
  simp [hn_0, hst_0] at hst_2
  clear hH
  refine stp_reg TT_ok (by rfl) fun K hK => ?_
  simp [h1_2, h7_2, g0_2, g1_2, g2_2, ht1, ht2, ht3]
  try refine And.intro (by first | omega | rfl) ?_
  refine hK _ _ fun σ3 hσ H3 hH => ?_
  clear hK K
  have h0_3 := congrFun hσ 0
  have h1_3 := congrFun hσ 1
  have h2_3 := congrFun hσ 2
  have h7_3 := congrFun hσ 7
  simp [h0_2, h1_2, h2_2, h7_2] at h0_3 h1_3 h2_3 h7_3
  clear hσ
  have g0_3 := gt_of hH 0
  have g1_3 := gt_of hH 1
  have g2_3 := gt_of hH 2
  simp [g0_2, g1_2, g2_2, hn_2, hst_2] at g0_3 g1_3 g2_3
  have hn_3 : H3.n = _ := (congrArg AHeap.n hH).trans hn_2
  have hst_3 : H3.st = _ := (congrArg AHeap.st hH).trans hst_2
  clear hH
  refine stp_reg TT_ok (by rfl) fun K hK => ?_
  simp [h1_3, g0_3, g1_3, g2_3, hn_3, hst_3]
  try refine And.intro (by first | omega | rfl) ?_
  refine hK _ _ fun σ4 hσ H4 hH => ?_
  clear hK K
  have h0_4 := congrFun hσ 0
  have h2_4 := congrFun hσ 2
  have h7_4 := congrFun hσ 7
  have h8_4 := congrFun hσ 8
  simp [h0_3, h2_3, h7_3] at h0_4 h2_4 h7_4 h8_4
  clear hσ
  have g0_4 := gt_of hH 0
  have g1_4 := gt_of hH 1
  have g2_4 := gt_of hH 2
  have g3_4 := gt_of hH 3
  have g4_4 := gt_of hH 4
  simp [g0_3, g1_3, g2_3, hn_3, hst_3] at g0_4 g1_4 g2_4 g3_4 g4_4
  have hn_4 := congrArg AHeap.n hH
  simp [hn_3, hst_3] at hn_4
  have hst_4 := congrArg AHeap.st hH
  simp [hn_3, hst_3] at hst_4
  clear hH
  refine awp_seq ?_
  refine awp_block ?_
  refine awp_loopV (fun n σ' H' => ∃ (d : List Int) (q : List Int) (off : Nat) (gq : Nat) (es : List AV) (k : Nat), n = 2 * d.count (-1) + q.length ∧ σ' 0 = σ4 0 ∧ σ' 2 = σ4 2 ∧ σ' 7 = σ4 7 ∧ σ' 8 = σ4 8 ∧ H'.get 1 = some (.row 3 1 0 (d.map (AV.int IntKind.i64))) ∧ H'.get 2 = H4.get 2 ∧ H'.get 3 = some (.row 3 1 gq es) ∧ H'.get 4 = some (.row 26 1 0 [.sl 3 gq off q.length]) ∧ H'.st = H4.st ∧ (Bfs g (fun x => least ≤ x) to k d q (fun _ _ => False)) ∧ (Qu es off q) ∧ (2 * d.count (-1) + q.length ≤ 2 * g.nodes.length)) ?_ ?_
  · refine ⟨_, (List.replicate g.nodes.length (-1)).set to.toNat 0, [to], 0, 0, [(AV.int IntKind.i64) to], 0, rfl, rfl, rfl, rfl, rfl, (by simp [g1_4]), rfl, (by simp [g3_4]), (by simp [g4_4]), rfl, ?_, ?_, ?_⟩
    · exact Bfs.start hv ⟨ht1, ht2⟩
    · exact Qu.new [to]
    · have := count_set_m1 (d := List.replicate g.nodes.length (-1)) (k := to.toNat) (by rw [List.getElem?_replicate, if_pos ht3]) 0 (by omega)
      rw [List.count_replicate_self] at this; simp; omega
  · rintro n1 σ5 H5 ⟨d, q, off, gq, es, k, hn1, q0_5, q2_5, q7_5, q8_5, g1_5, qg2_5, g3_5, g4_5, qst_5, p1, p2, p3⟩
    have h0_5 := q0_5.trans h0_4
    have h2_5 := q2_5.trans h2_4
    have h7_5 := q7_5.trans h7_4
    have h8_5 := q8_5.trans h8_4
    have g2_5 := qg2_5.trans g2_4
    have hst_5 := qst_5.trans hst_4
    refine awp_seq ?_
    refine stp_reg TT_ok (by rfl) fun K hK => ?_
    simp [h8_5, g1_5, g2_5, g3_5, g4_5]
    try refine And.intro (by first | omega | rfl) ?_
    refine hK _ _ fun σ6 hσ H6 hH => ?_
    clear hK K
    have h0_6 := congrFun hσ 0
    have h2_6 := congrFun hσ 2
    have h7_6 := congrFun hσ 7
    have h8_6 := congrFun hσ 8
    have h22_6 := congrFun hσ 22
    simp [h0_5, h2_5, h7_5, h8_5] at h0_6 h2_6 h7_6 h8_6 h22_6
    clear hσ
    replace hH : H5 = H6 := Eq.symm hH
    subst hH
    refine awp_cond _ (by simp only [aeval_tmp]; exact h22_6) (fun hc22 => ?_) (fun hc22 => ?_)
    · try simp at hc22
      obtain ⟨c, q, rfl⟩ : ∃ c q', q = c :: q' := by
        cases q with
        | nil => simp at hc22
        | cons c q => exact ⟨c, q, rfl⟩
      obtain ⟨hes, hqu⟩ := p2.head
      obtain ⟨c1, c2⟩ := p1.qr c (by simp)
      obtain ⟨k2, hb, hdc⟩ := p1.pop hv
      have hqt := p2.take.2
      rw [List.length_cons] at hqt p3
      refine awp_skip ?_
      refine q_seq ?_
      refine awp_block ?_
      refine awp_ok fun hok => ?_
      obtain ⟨m7, hn_m7⟩ : ∃ m, H5.n = m := ⟨_, rfl⟩
      have hf_m7_0 := hok.free 0
      simp [hn_m7, hst_5] at hf_m7_0
      have nx1 := ne_get hf_m7_0 g1_5
      have nx2 := ne_get hf_m7_0 g2_5
      have nx3 := ne_get hf_m7_0 g3_5
      have nx4 := ne_get hf_m7_0 g4_5
      refine stp_reg TT_ok (by rfl) fun K hK => ?_
      simp [h8_6, g1_5, g2_5, g3_5, g4_5, hn_m7, hst_5, nx1, nx2, nx3, nx4, hes]
      try refine And.intro (by first | omega | rfl) ?_
      refine hK _ _ fun σ8 hσ H8 hH => ?_
      clear hK K
      have h0_8 := congrFun hσ 0
      have h2_8 := congrFun hσ 2
      have h7_8 := congrFun hσ 7
      have h8_8 := congrFun hσ 8
      have h9_8 := congrFun hσ 9
      simp [h0_6, h2_6, h7_6, h8_6] at h0_8 h2_8 h7_8 h8_8 h9_8
      clear hσ
      have g1_8 := gt_of hH 1
      have g2_8 := gt_of hH 2
      have g3_8 := gt_of hH 3
      have g4_8 := gt_of hH 4
      have gm7_8 := gt_of hH m7
      simp [g1_5, g2_5, g3_5, g4_5, hn_m7, hst_5, nx1, nx2, nx3, nx4] at g1_8 g2_8 g3_8 g4_8 gm7_8
      have hst_8 := congrArg AHeap.st hH
      simp [hst_5] at hst_8
      clear hH
      refine stp_reg TT_ok (by rfl) fun K hK => ?_
      simp [h8_8, g1_8, g2_8, g3_8, g4_8, gm7_8, nx1, nx2, nx3, nx4]
      try refine And.intro (by first | omega | rfl) ?_
      refine hK _ _ fun σ9 hσ H9 hH => ?_
      clear hK K
      have h0_9 := congrFun hσ 0
      have h2_9 := congrFun hσ 2
      have h7_9 := congrFun hσ 7
      have h8_9 := congrFun hσ 8
      have h9_9 := congrFun hσ 9
      simp [h0_8, h2_8, h7_8, h8_8, h9_8] at h0_9 h2_9 h7_9 h8_9 h9_9
      clear hσ
      have g1_9 := gt_of hH 1
      have g2_9 := gt_of hH 2
      have g3_9 := gt_of hH 3
      have g4_9 := gt_of hH 4
      have gm7_9 := gt_of hH m7
      simp [g1_8, g2_8, g3_8, g4_8, gm7_8, hst_8, nx1, nx2, nx3, nx4] at g1_9 g2_9 g3_9 g4_9 gm7_9
      have hst_9 := congrArg AHeap.st hH
      simp [hst_8] at hst_9
      clear hH
      refine stp_reg TT_ok (by rfl) fun K hK => ?_
      simp [h0_9, h2_9, h9_9, g1_9, g2_9, g3_9, g4_9, gm7_9, nx1, nx2, nx3, nx4]
      try refine And.intro (by first | omega | rfl) ?_
      refine stp_call (of_ok g.rev.succs c least) ?_
      simp [h0_9, h2_9, h9_9, g1_9, g2_9, g3_9, g4_9, gm7_9, nx1, nx2, nx3, nx4]
      try refine And.intro (by first | omega | rfl) ?_
      refine hK _ _ fun σ10 hσ H10 hH => ?_
      clear hK K
      have h0_10 := congrFun hσ 0
      have h2_10 := congrFun hσ 2
      have h7_10 := congrFun hσ 7
      have h8_10 := congrFun hσ 8
      have h9_10 := congrFun hσ 9
      have h31_10 := congrFun hσ 31
      simp [h0_9, h2_9, h7_9, h8_9, h9_9] at h0_10 h2_10 h7_10 h8_10 h9_10 h31_10
      clear hσ
      replace hH : H9 = H10 := Eq.symm hH
      subst hH
      refine awp_block ?_
      refine awp_ok fun hok11 => ?_
      obtain ⟨k11, hn_k11⟩ : ∃ m, H9.n = m := ⟨_, rfl⟩
      have hf_k11 := hok11.now
      rw [hn_k11] at hf_k11
      have nx5 := ne_get hf_k11 g1_9
      have nx6 := ne_get hf_k11 g2_9
      have nx7 := ne_get hf_k11 g3_9
      have nx8 := ne_get hf_k11 g4_9
      have nx9 := ne_get hf_k11 gm7_9
      refine stp_rangeOf k11 hn_k11 (by rw [aeval_tmp]; exact h31_10) (by decide) c1 (succs_get (g := g.rev) (by rw [rev_nodes hv]; exact ⟨c1, c2⟩)) (Nat.le_trans (succ_len _ _) (by rw [rev_nodes hv]; omega)) (fun pre H' => ∃ (d2 : List Int) (q2 : List Int) (off2 : Nat) (gq2 : Nat) (es2 : List AV), H'.get 1 = some (.row 3 1 0 (d2.map (AV.int IntKind.i64))) ∧ H'.get 2 = H9.get 2 ∧ H'.get 3 = some (.row 3 1 gq2 es2) ∧ H'.get 4 = some (.row 26 1 0 [.sl 3 gq2 off2 q2.length]) ∧ H'.get m7 = H9.get m7 ∧ H'.st = H9.st ∧ (Bfs g (fun x => least ≤ x) to k2 d2 q2 (fun v w => w = c ∧ v ∉ pre)) ∧ (Qu es2 off2 q2) ∧ (2 * d2.count (-1) + q2.length ≤ 2 * d.count (-1) + q.length) ∧ (d2[c.toNat]? = some (k2 : Int))) ?_ ?_ ?_
      · intro b11 H11 hH
        have hkeep : ∀ j, H9.get j ≠ none → H11.get j = H9.get j := fun j hj => by rw [hH, alloc_get, if_neg (fun e => hj (by rw [e]; exact hok11.now))]
        refine ⟨d, q, off + 1, gq, es, (by rw [hH]; simp [g1_9, g2_9, g3_9, g4_9, gm7_9, hn_k11, hst_9, nx1, nx2, nx3, nx4, nx5, nx6, nx7, nx8, nx9]), (by rw [hH]; simp [g1_9, g2_9, g3_9, g4_9, gm7_9, hn_k11, hst_9, nx1, nx2, nx3, nx4, nx5, nx6, nx7, nx8, nx9]), (by rw [hH]; simp [g1_9, g2_9, g3_9, g4_9, gm7_9, hn_k11, hst_9, nx1, nx2, nx3, nx4, nx5, nx6, nx7, nx8, nx9]), (by rw [hH]; simp [g1_9, g2_9, g3_9, g4_9, gm7_9, hn_k11, hst_9, nx1, nx2, nx3, nx4, nx5, nx6, nx7, nx8, nx9]), (by rw [hH]; simp [g1_9, g2_9, g3_9, g4_9, gm7_9, hn_k11, hst_9, nx1, nx2, nx3, nx4, nx5, nx6, nx7, nx8, nx9]), (by rw [hH]; rfl), ?_, ?_, ?_, ?_⟩
        · exact hb
        · exact hqu
        · first | omega | (simp; done) | assumption
        · exact hdc
      · rintro busy rdy pre x H11 ⟨post, hpost⟩ ⟨d2, q2, off2, gq2, es2, g1_11, qg2_11, g3_11, g4_11, qgm7_11, qst_11, r1, r2, r3, r4⟩ hrdy_11 σ11 hσ
        have g2_11 := qg2_11.trans g2_9
        have gm7_11 := qgm7_11.trans gm7_9
        have hst_11 := qst_11.trans hst_9
        have h7_11 := congrFun hσ 7
        simp [h7_10] at h7_11
        have h8_11 := congrFun hσ 8
        simp [h8_10] at h8_11
        have h9_11 := congrFun hσ 9
        simp [h9_10] at h9_11
        have h32_11 := congrFun hσ 32
        simp [] at h32_11
        clear hσ
        obtain ⟨hxs, hxl⟩ := ge_of_post hpost
        have hxe : (x, c) ∈ g.edges := by rw [succ_mem (rev_valid hv), toNat_cast ⟨c1, c2⟩, rev_edge hv] at hxs; exact hxs
        obtain ⟨⟨x1, x2⟩, _⟩ := valid_edge hv hxe
        simp only at x1 x2
        have hd2l := r1.len
        have x3 : x.toNat < d2.length := by omega
        have x4 : x.toNat < g.nodes.length := by omega
        have c3 : c.toNat < d2.length := by omega
        have c4 : c.toNat < g.nodes.length := by omega
        obtain ⟨_, hdc2⟩ := List.getElem?_eq_some_iff.1 r4
        have hdx : d2[x.toNat]? = some d2[x.toNat] := List.getElem?_eq_getElem x3
        have hk2 : (k2 : Int) < g.nodes.length := by
          rcases r1.val _ _ r4 with h | ⟨j, h, hj⟩
          · omega
          · have := hj.lt hv ⟨by omega, by rw [toNat_cast ⟨c1, c2⟩]; exact c2⟩
            omega
        obtain ⟨hqt1, hqt2⟩ := r2.take
        have hql : q2.length ≤ 3000 := by
          omega
        refine stp_regl TT_ok (by rfl) fun K hK => ?_
        simp [h32_11, g1_11, g2_11, g3_11, g4_11, gm7_11, hrdy_11, nx1, nx2, nx3, nx4, nx5, nx6, nx7, nx8, nx9]
        try refine And.intro (by first | omega | rfl) ?_
        refine hK _ _ fun σ12 hσ H12 hH => ?_
        clear hK K
        have h7_12 := congrFun hσ 7
        have h8_12 := congrFun hσ 8
        have h9_12 := congrFun hσ 9
        have h10_12 := congrFun hσ 10
        simp [h7_11, h8_11, h9_11] at h7_12 h8_12 h9_12 h10_12
        clear hσ
        replace hH : H11 = H12 := Eq.symm hH
        subst hH
        refine q_ra hrdy_11 fun H13 hH => ?_
        have hkeep : ∀ j, j ≠ k11 → H13.get j = H11.get j := fun j hj => by rw [hH, put_getH, if_neg hj]
        have g1_14 := gt_of hH 1
        have g2_14 := gt_of hH 2
        have g3_14 := gt_of hH 3
        have g4_14 := gt_of hH 4
        have gm7_14 := gt_of hH m7
        have gk11_14 := gt_of hH k11
        simp [g1_11, g2_11, g3_11, g4_11, gm7_11, hrdy_11, hst_11, nx1, nx2, nx3, nx4, nx5, nx6, nx7, nx8, nx9] at g1_14 g2_14 g3_14 g4_14 gm7_14 gk11_14
        have hst_14 : H13.st = _ := (congrArg AHeap.st hH).trans hst_11
        have hka := hkeep
        clear hkeep hH
        refine awp_block ?_
        refine stp_reg TT_ok (by rfl) fun K hK => ?_
        simp [h7_12, h10_12, g1_14, g2_14, g3_14, g4_14, gm7_14, gk11_14, nx1, nx2, nx3, nx4, nx5, nx6, nx7, nx8, nx9, x1, x2, x3, x4, hd2l]
        try refine And.intro (by first | omega | rfl) ?_
        refine hK _ _ fun σ15 hσ H15 hH => ?_
        clear hK K
        have h7_15 := congrFun hσ 7
        have h8_15 := congrFun hσ 8
        have h9_15 := congrFun hσ 9
        have h10_15 := congrFun hσ 10
        have h37_15 := congrFun hσ 37
        simp [h7_12, h8_12, h9_12, h10_12] at h7_15 h8_15 h9_15 h10_15 h37_15
        clear hσ
        replace hH : H13 = H15 := Eq.symm hH
        subst hH
        refine awp_cond _ (by simp only [aeval_tmp]; exact h37_15) (fun hc37 => ?_) (fun hc37 => ?_)
        · try simp at hc37
          refine stp_lex false TT_ok mixed (by rfl) (by rfl) (by kernel_rfl) (by rfl) fun U hU K hK => ?_
          simp [h7_15, h9_15, h10_15, g1_14, g2_14, g3_14, g4_14, gm7_14, gk11_14, nx1, nx2, nx3, nx4, nx5, nx6, nx7, nx8, nx9, x1, x2, x3, x4, hd2l, c1, c2, c3, c4, hdc2, wrap_ok (n := (k2 : Int) + 1) (by omega) (by omega)]
          try refine And.intro (by first | omega | rfl) ?_
          refine hK _ _ _ (by rw [hU.trans (by kernel_rfl : _ = [(0, 1), (0, 2), (1, 2), (0, 3), (1, 3), (2, 3), (0, 4), (1, 4), (0, 5), (1, 5), (0, 6), (1, 6)])]; simp [logOk, ftFree, h7_15, h9_15, h10_15, g1_14, g2_14, g3_14, g4_14, gm7_14, gk11_14, nx1, nx2, nx3, nx4, nx5, nx6, nx7, nx8, nx9, x1, x2, x3, x4, hd2l, c1, c2, c3, c4, hdc2, wrap_ok (n := (k2 : Int) + 1) (by omega) (by omega)]) fun σ16 hσ H16 hH => ?_
          clear hK K hU U
          have h8_16 := congrFun hσ 8
          have h10_16 := congrFun hσ 10
          simp [h8_15, h10_15] at h8_16 h10_16
          clear hσ
          have g1_16 := gt_of hH 1
          have g2_16 := gt_of hH 2
          have g3_16 := gt_of hH 3
          have g4_16 := gt_of hH 4
          have gm7_16 := gt_of hH m7
          have gk11_16 := gt_of hH k11
          simp [g1_14, g2_14, g3_14, g4_14, gm7_14, gk11_14, hst_14, nx1, nx2, nx3, nx4, nx5, nx6, nx7, nx8, nx9] at g1_16 g2_16 g3_16 g4_16 gm7_16 gk11_16
          have hst_16 := congrArg AHeap.st hH
          simp [hst_14] at hst_16
          clear hH
          refine awp_ok fun hok => ?_
          obtain ⟨m17, hn_m17⟩ : ∃ m, H16.n = m := ⟨_, rfl⟩
          have hf_m17_0 := hok.free 0
          simp [hn_m17, hst_16] at hf_m17_0
          have nx10 := ne_get hf_m17_0 g1_16
          have nx11 := ne_get hf_m17_0 g2_16
          have nx12 := ne_get hf_m17_0 g3_16
          have nx13 := ne_get hf_m17_0 g4_16
          have nx14 := ne_get hf_m17_0 gm7_16
          have nx15 := ne_get hf_m17_0 gk11_16
          refine stp_regl TT_ok (by rfl) fun K hK => ?_
          simp [h8_16, h10_16, g1_16, g2_16, g3_16, g4_16, gm7_16, gk11_16, hn_m17, hst_16, nx1, nx2, nx3, nx4, nx5, nx6, nx7, nx8, nx9, nx10, nx11, nx12, nx13, nx14, nx15, hqt1, hqt2, show q2.length ≤ 9223372036854775806 by omega, show (q2.length + 1) * 8 ≤ 140737488355328 by omega]
          try refine And.intro (by first | omega | rfl) ?_
          refine hK _ _ fun σ18 hσ H18 hH => ?_
          clear hK K
          clear hσ
          have g1_18 := gt_of hH 1
          have g2_18 := gt_of hH 2
          have g3_18 := gt_of hH 3
          have g4_18 := gt_of hH 4
          have gm7_18 := gt_of hH m7
          have gk11_18 := gt_of hH k11
          have gm17_18 := gt_of hH m17
          simp [g1_16, g2_16, g3_16, g4_16, gm7_16, gk11_16, hn_m17, hst_16, nx1, nx2, nx3, nx4, nx5, nx6, nx7, nx8, nx9, nx10, nx11, nx12, nx13, nx14, nx15] at g1_18 g2_18 g3_18 g4_18 gm7_18 gk11_18 gm17_18
          have hst_18 := congrArg AHeap.st hH
          simp [hst_16] at hst_18
          clear hH
          refine q_block ?_
          refine q_rb gk11_18 fun H19 hH => ?_
          have hkeep : ∀ j, j ≠ k11 → H19.get j = H18.get j := fun j hj => by rw [hH, put_getH, if_neg hj]
          obtain ⟨hpu, hm1⟩ := r1.push hv ⟨c1, c2⟩ r4 ⟨x1, x2⟩ hxe hxl hdx (by simpa using hc37)
          have hcnt := count_set_m1 hm1 ((k2 + 1 : Nat) : Int) (by omega)
          have hcx : x.toNat ≠ c.toNat := fun e => by rw [e, r4] at hm1; simp at hm1
          refine ⟨d2.set x.toNat ((k2 + 1 : Nat) : Int), q2 ++ [x], 0, gq2 + 1, (q2 ++ [x]).map (AV.int IntKind.i64), (by rw [hH]; simp [g1_18, g2_18, g3_18, g4_18, gm7_18, gk11_18, gm17_18, hst_18, nx1, nx2, nx3, nx4, nx5, nx6, nx7, nx8, nx9, nx10, nx11, nx12, nx13, nx14, nx15]), (by rw [hH]; simp [g1_18, g2_18, g3_18, g4_18, gm7_18, gk11_18, gm17_18, hst_18, nx1, nx2, nx3, nx4, nx5, nx6, nx7, nx8, nx9, nx10, nx11, nx12, nx13, nx14, nx15, g2_9]), (by rw [hH]; simp [g1_18, g2_18, g3_18, g4_18, gm7_18, gk11_18, gm17_18, hst_18, nx1, nx2, nx3, nx4, nx5, nx6, nx7, nx8, nx9, nx10, nx11, nx12, nx13, nx14, nx15]), (by rw [hH]; simp [g1_18, g2_18, g3_18, g4_18, gm7_18, gk11_18, gm17_18, hst_18, nx1, nx2, nx3, nx4, nx5, nx6, nx7, nx8, nx9, nx10, nx11, nx12, nx13, nx14, nx15]), (by rw [hH]; simp [g1_18, g2_18, g3_18, g4_18, gm7_18, gk11_18, gm17_18, hst_18, nx1, nx2, nx3, nx4, nx5, nx6, nx7, nx8, nx9, nx10, nx11, nx12, nx13, nx14, nx15, gm7_9]), ((congrArg AHeap.st hH).trans (hst_18.trans hst_9.symm)), ?_, ?_, ?_, ?_⟩
          · exact hpu
          · exact Qu.new _
          · rw [List.length_append, List.length_singleton]; omega
          · rw [List.getElem?_set, if_neg hcx]; exact r4
        · try simp at hc37
          refine awp_skip ?_
          refine q_block ?_
          refine q_rb gk11_14 fun H20 hH => ?_
          have hkeep : ∀ j, j ≠ k11 → H20.get j = H13.get j := fun j hj => by rw [hH, put_getH, if_neg hj]
          refine ⟨d2, q2, off2, gq2, es2, (by rw [hH]; simp [g1_14, g2_14, g3_14, g4_14, gm7_14, gk11_14, hst_14, nx1, nx2, nx3, nx4, nx5, nx6, nx7, nx8, nx9]), (by rw [hH]; simp [g1_14, g2_14, g3_14, g4_14, gm7_14, gk11_14, hst_14, nx1, nx2, nx3, nx4, nx5, nx6, nx7, nx8, nx9, g2_9]), (by rw [hH]; simp [g1_14, g2_14, g3_14, g4_14, gm7_14, gk11_14, hst_14, nx1, nx2, nx3, nx4, nx5, nx6, nx7, nx8, nx9]), (by rw [hH]; simp [g1_14, g2_14, g3_14, g4_14, gm7_14, gk11_14, hst_14, nx1, nx2, nx3, nx4, nx5, nx6, nx7, nx8, nx9]), (by rw [hH]; simp [g1_14, g2_14, g3_14, g4_14, gm7_14, gk11_14, hst_14, nx1, nx2, nx3, nx4, nx5, nx6, nx7, nx8, nx9, gm7_9]), ((congrArg AHeap.st hH).trans (hst_14.trans hst_9.symm)), ?_, ?_, ?_, ?_⟩
          · exact r1.skip ⟨x1, x2⟩ hdx (by simpa using hc37)
          · exact r2
          · exact r3
          · exact r4
      · rintro rdy b11 H11 ⟨d2, q2, off2, gq2, es2, g1_11, qg2_11, g3_11, g4_11, qgm7_11, qst_11, r1, r2, r3, r4⟩ hrdy_11 Hd11 hH
        have g2_11 := qg2_11.trans g2_9
        have gm7_11 := qgm7_11.trans gm7_9
        have hst_11 := qst_11.trans hst_9
        have hkeep : ∀ j, j ≠ k11 → Hd11.get j = H11.get j := fun j hj => by rw [hH, put_getH, if_neg hj]
        have g1_21 := gt_of hH 1
        have g2_21 := gt_of hH 2
        have g3_21 := gt_of hH 3
        have g4_21 := gt_of hH 4
        have gm7_21 := gt_of hH m7
        simp [g1_11, g2_11, g3_11, g4_11, gm7_11, hst_11, nx1, nx2, nx3, nx4, nx5, nx6, nx7, nx8, nx9] at g1_21 g2_21 g3_21 g4_21 gm7_21
        have hst_21 : Hd11.st = _ := (congrArg AHeap.st hH).trans hst_11
        clear hH
        refine q_block ?_
        refine q_block ?_
        refine ⟨_, ?_, d2, q2, off2, gq2, es2, k2, rfl, (h0_10.trans h0_4.symm), (h2_10.trans h2_4.symm), (h7_10.trans h7_4.symm), (h8_10.trans h8_4.symm), (by simp [g1_21]), (g2_21.trans g2_4.symm), (by simp [g3_21]), (by simp [g4_21]), (hst_21.trans hst_4.symm), ?_, ?_, ?_⟩
        · subst hn1; simp; omega
        · refine r1.close fun v hve hok => ?_
          rw [geL, List.mem_filter, succ_mem (rev_valid hv), toNat_cast ⟨c1, c2⟩, rev_edge hv]
          exact ⟨hve, by simpa using hok⟩
        · exact r2
        · first | omega | assumption | (simp; done)
    · try simp at hc22
      refine awp_exit ?_
      refine q_seq_exit ?_
      refine q_loop_exit ?_
      refine q_block_hit ?_
      refine q_seq ?_
      refine stp_reg TT_ok (by rfl) fun K hK => ?_
      simp [h7_6, g1_5, g2_5, g3_5, g4_5]
      try refine And.intro (by first | omega | rfl) ?_
      refine hK _ _ fun σ22 hσ H22 hH => ?_
      clear hK K
      have h6_22 := congrFun hσ 6
      simp [] at h6_22
      clear hσ
      replace hH : H5 = H22 := Eq.symm hH
      subst hH
      refine awp_ret ?_
      obtain rfl : q = [] := by simpa using hc22
      refine q_fin1 h6_22 ?_
      exact ⟨d, p1.done hv ⟨ht1, ht2⟩, 1, 0, by simp [p1.len], g1_5⟩

theorem distances_ok (g : Gr) (hv : g.valid = true) (to least : Int) (ht : inR g.nodes.length to) (hle : least ≤ to) : Fun1 Try.prog 46 [encS g.rev.succs, (AV.int IntKind.i64) to, (AV.int IntKind.i64) least] (.ro (((g.sub least).dist to).map (AV.int IntKind.i64))) := by
  have h : ACalls Try.prog 46 [encS g.rev.succs, (AV.int IntKind.i64) to, (AV.int IntKind.i64) least] AHeap.nil (RowOut 3 1 (((g.sub least).dist to).map (AV.int IntKind.i64))) := (distances0 g hv to least ht).mono fun r H ⟨d, hd, hr⟩ => by
    rw [← hd.uniq (dist_sub hv hle ht)]; exact hr
  exact fun1_row h (pu_cons (pu_encS _) (pu_cons (pu_int _ _) (pu_cons (pu_int _ _) pu_nil))) (fun _ => pu_of_ints) (fun _ => one_ints)

end Go.Proofs.Yteifhcohmipdcaa

/-
  THE GRAPH FUNCTIONS, plain law 9: ways down the distances. Conditions: a valid graph.
-/
namespace Go.Proofs.Yteifhcohmipdcaa
open Go.Abs
set_option linter.unusedSimpArgs false
set_option linter.unusedVariables false

theorem onward_iff {g : Gr} {ok : Int → Prop} {to : Int} {d : List Int} (hd : IsDist g ok to d) {k : Nat} {a : Int} (ha : inR g.nodes.length a) (hf : g.Far ok to (k + 1) a) (i : Nat) : g.onward d a i = true ↔ d[i]?.getD 0 = (k : Int) ∧ (a, (i : Int)) ∈ g.edges := by
  have h2 := hd.all a.toNat (k + 1) (in_toNat ha) (by rw [toNat_cast ha]; exact hf)
  simp only [Gr.onward, Bool.and_eq_true, decide_eq_true_eq, hasEdge_iff, List.getD_eq_getElem?_getD, h2, Option.getD_some]
  constructor
  · rintro ⟨q1, q2⟩; exact ⟨by omega, q2⟩
  · rintro ⟨q1, q2⟩; exact ⟨by omega, q2⟩
theorem next_far' {g : Gr} (hv : g.valid = true) {ok : Int → Prop} {to : Int} {d : List Int} (hd : IsDist g ok to d) {k : Nat} {a : Int} (ha : inR g.nodes.length a) (hf : g.Far ok to (k + 1) a) :
    ∃ i : Nat, g.next d a = i ∧ i < g.nodes.length ∧ g.onward d a i = true ∧ (a, (i : Int)) ∈ g.edges ∧ g.Far ok to k i := by
  obtain ⟨w, he, _, hw⟩ := hf.pred
  have hwr : inR g.nodes.length w := (valid_edge hv he).2
  have h1 := hd.all w.toNat k (in_toNat hwr) (by rw [toNat_cast hwr]; exact hw)
  obtain ⟨i, q1, q2, q3, q4⟩ := nextFrom_some (g := g) (d := d) (a := a) (m := g.nodes.length) (j := 0) ⟨w.toNat, Nat.zero_le _, by have := in_toNat hwr; omega, (onward_iff hd ha hf _).2 ⟨by rw [h1]; rfl, by rw [toNat_cast hwr]; exact he⟩⟩
  obtain ⟨r1, r2⟩ := (onward_iff hd ha hf i).1 q4
  have hi : i < g.nodes.length := by omega
  refine ⟨i, q1, hi, q4, r2, ?_⟩
  have hi' : i < d.length := by rw [hd.len]; exact hi
  rw [List.getElem?_eq_getElem hi'] at r1
  simp only [Option.getD_some] at r1
  rcases hd.val i _ (List.getElem?_eq_getElem hi') with q | ⟨j, q, hj⟩
  · omega
  · have : j = k := by omega
    subst this; exact hj
theorem nextFrom_least {g : Gr} {d : List Int} {a : Int} : ∀ {m j x : Nat}, j ≤ x → x < j + m → g.onward d a x = true → (∀ i, j ≤ i → i < x → g.onward d a i = false) → g.nextFrom d a m j = (x : Int)
  | 0, j, x, h1, h2, _, _ => by omega
  | m + 1, j, x, h1, h2, h3, h4 => by
    simp only [Gr.nextFrom]
    by_cases he : j = x
    · subst he; rw [if_pos h3]
    · rw [if_neg (by rw [h4 j (Nat.le_refl _) (by omega)]; simp)]
      exact nextFrom_least (by omega) (by omega) h3 fun i hi hx => h4 i (by omega) hx
/-- The first of the successors that fits is the next one. -/
theorem next_of_split {g : Gr} (hv : g.valid = true) {d : List Int} {a x : Int} (ha : 0 ≤ a) {pre post : List Int} (hs : g.succ a.toNat = pre ++ x :: post) (hpre : ∀ y ∈ pre, g.onward d a y.toNat = false) (hx : g.onward d a x.toNat = true) : g.next d a = x := by
  have hxm : x ∈ g.succ a.toNat := by rw [hs]; simp
  have hxe := (succ_mem hv).1 hxm
  rw [Int.toNat_of_nonneg ha] at hxe
  have hxr : inR g.nodes.length x := (valid_edge hv hxe).2
  rw [← toNat_cast hxr]
  refine nextFrom_least (Nat.zero_le _) (by have := in_toNat hxr; omega) hx fun i _ hi => ?_
  cases hon : g.onward d a i with
  | false => rfl
  | true =>
    have he : (a, (i : Int)) ∈ g.edges := by
      simp only [Gr.onward, Bool.and_eq_true] at hon
      exact hasEdge_iff.1 hon.2
    have him : (i : Int) ∈ g.succ a.toNat := (succ_mem hv).2 (by rw [Int.toNat_of_nonneg ha]; exact he)
    have hst := succ_strict g a.toNat
    rw [hs] at him hst
    rcases List.mem_append.1 him with h | h
    · have := hpre _ h; simp only [Int.toNat_natCast] at this; rw [hon] at this; cases this
    · rcases List.mem_cons.1 h with h | h
      · have := toNat_cast hxr; omega
      · have := (List.pairwise_cons.1 (List.pairwise_append.1 hst).2.1).1 _ h
        have := toNat_cast hxr; omega
theorem geL0_succ {g : Gr} (hv : g.valid = true) (i : Nat) : geL 0 (g.succ i) = g.succ i :=
  geL_zero fun x hx => ((valid_edge hv ((succ_mem hv).1 hx)).2).1
end Go.Proofs.Yteifhcohmipdcaa
