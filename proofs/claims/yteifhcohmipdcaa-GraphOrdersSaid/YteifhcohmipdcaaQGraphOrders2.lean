/-
  What the functions that the law calls answer, whatever they are handed: part 2. Conditions: none.
-/
import Derived.Test.YteifhcohmipdcaaQGraphOrders1
import Derived.Laws.StructEq
import Derived.Test.YteifhcohmipdcaaProg
import Derived.KernelRfl
namespace Go.Abs
set_option linter.unusedSimpArgs false
set_option linter.unusedVariables false
theorem Rel.recur {G : Gh} {H H1 : AHeap} {w : World} (h : Rel G H w) (he : H1.get = H.get) (hok : H1.Ok) : Rel G H1 w :=
 ⟨hok, fun i hi => by rw [he]; exact h.dom i hi, fun i b hb => h.blk i b (by rw [← he]; exact hb), fun i j a b ha hb hij => h.inj i j a b (by rw [← he]; exact ha) (by rw [← he]; exact hb) hij,
  fun i a ha => h.imm i a (by rw [← he]; exact ha), h.ilt⟩
theorem Run.recur {G G' : Gh} {H H' H1 H2 : AHeap} {w w' : World} (h : Run G H w G' H' w') (h1 : H1.get = H.get) (h2 : H2.get = H'.get) (hok : H2.Ok) : Run G H1 w G' H2 w' :=
 ⟨h.rel.recur h2 hok, h.ext, ⟨h.fr.os, h.fr.tape, h.fr.output, h.fr.size, fun b hb hn => h.fr.block b hb fun i a ha => hn i a (by rw [h1]; exact ha)⟩,
  fun i a ha => by
  rcases h.own i a (by rw [← h2]; exact ha) with q | ⟨j, b, hb, e⟩
  ·exact .inl q
  ·exact .inr ⟨j, b, by rw [h1]; exact hb, e⟩,
  fun b hb => by
  rcases h.imm b hb with q | q | ⟨j, a, ha, e⟩
  ·exact .inl q
  ·exact .inr (.inl q)
  ·exact .inr (.inr ⟨j, a, by rw [h1]; exact ha, e⟩)⟩
theorem Free.symm {rd : Nat → List Tmp} {dst : Nat → Option Tmp} {ev : Nat → Ev} {i j : Nat} (h : Free rd dst ev i j) : Free rd dst ev j i :=
 ⟨h.rd, h.dr, fun x hx hy => h.dd x hy hx, h.tw, h.wt, fun id hx => by
  cases hy : hits (ev i) id with
  | false => rfl
  | true => rw [h.ww id hy] at hx; cases hx⟩
section
variable {P : Program} {T : TypeId → Option TE}
theorem chain_length {ops : List Oper} {al : Bool} {k n0 s : Nat} {K : St → Mem → Prop} : ∀ {es : List Ev} {rest : List Oper} {j : Nat} {σ : St} {g : Mem}, Chain P T ops al k n0 s j es rest σ g K → es.length = rest.length
 | [], [], _, _, _, _ => rfl
 | e :: es, o :: rest, _, _, _, h => by simp [chain_length h.2]
 | [], o :: rest, _, _, _, h => h.elim
 | e :: es, [], _, _, _, h => h.elim
def dstAt (ops : List Oper) (i : Nat) : Option Tmp := match ops[i]? with | some o => o.dst | none => none
def rdAt (ops : List Oper) (i : Nat) : List Tmp := match ops[i]? with | some o => reads ops o | none => []
theorem ds_getD (ops : List Oper) (i : Nat) : (ops.map fun o => (o.dst, reads ops o)).getD i (none, []) = (dstAt ops i, rdAt ops i) := by
 rw [List.getD_eq_getElem?_getD, List.getElem?_map]
 unfold dstAt rdAt
 cases ops[i]? <;> rfl
theorem free_of {ops : List Oper} {U : List (Nat × Nat)} {es : List Ev} {ev : Nat → Ev} (hev : ∀ i e, es[i]? = some e → ev i = e) (hl : es.length = ops.length) (hfix : fixedOk ops U = true) (hlog : logOk U (es.map (·.foot)) = true)
  (hwr : ∀ i, i < ops.length → ∀ id b, (ev i).wr = some (id, b) → (ev i).foot.2 = some id) {i j : Nat} (hi : i < ops.length) (hj : j < ops.length) (hu : (i, j) ∈ U) : Free (rdAt ops) (dstAt ops) ev i j := by
 have h1 := List.all_eq_true.1 hfix _ hu
 have h2 := List.all_eq_true.1 hlog _ hu
 simp only [ds_getD] at h1
 have hlg : ∀ i, i < ops.length → (es.map (·.foot)).getD i ([], none) = (ev i).foot := fun i hi => by
  have : i < es.length := by omega
  rw [List.getD_eq_getElem?_getD, List.getElem?_map, List.getElem?_eq_getElem this, hev i _ (List.getElem?_eq_getElem this)]
  rfl
 rw [hlg i hi, hlg j hj] at h2
 simp only [stFree, ftFree, Bool.and_eq_true] at h1 h2
 have hhit : ∀ i, i < ops.length → ∀ id, hits (ev i) id = true → (ev i).foot.2 = some id := fun i hi id h => by
  unfold hits at h
  cases hw : (ev i).wr with
  | none => simp [hw] at h
  | some p =>
   obtain ⟨q, b⟩ := p
   simp only [hw, beq_iff_eq] at h
   subst h
   exact hwr i hi _ _ hw
 refine ⟨fun x hx hm => ?_, fun x hx hm => ?_, fun x hx hy => ?_, fun id hx hm => ?_, fun id hx hm => ?_, fun id hx => ?_⟩
 ·have := h1.1; rw [hx] at this; simp [hm] at this
 ·have := h1.2; rw [hx] at this; simp [hm] at this
 ·have := h1.1; rw [hx] at this; simp [hy] at this
 ·have := h2.1; rw [hhit i hi id hx] at this; simp [hm] at this
 ·have := h2.2; rw [hhit j hj id hx] at this; simp [hm] at this
 ·cases hy : hits (ev j) id with
  | false => rfl
  | true => have := h2.1; rw [hhit i hi id hx] at this; simp [hhit j hj id hy] at this
theorem anc_in {ops : List Oper} {S : Nat → Bool} (hc : ∀ i, S i = true → ∀ o e, ops[i]? = some o → e ∈ o.after.toList → Region.binds .any e = true → S e.on = true) {x y : Nat} (h : Anc ops x y)
  (hy : ∀ o e, ops[y]? = some o → e ∈ o.after.toList → Region.binds .any e = true → S e.on = true) : S x = true := by
 induction h with
 | one ho he hb hi => subst hi; exact hy _ _ ho he hb
 | step h ho he hb hl ih => subst hl; exact ih fun o e ho' he' hb' => hc _ (hy _ _ ho he hb) o e ho' he' hb'
variable {rd : Bool} {nt : Nat}
theorem aLex_sound (hT : TOK P T) {F : Fence} (hF : Wide F rd) {ops : List Oper} (hd : dstOk nt ops = true) (hdown : downOk 0 ops = true) {U : List (Nat × Nat)} (hU : U = unord (masks ops) ops.length) (hfix : fixedOk ops U = true) {al : Bool} (hq : al = false → ∀ o ∈ ops, quietOp o.op = true)
  {K : St → AHeap → Prop} {Q : Exit → Act → World → Prop} {σ : St} {H : AHeap} {G : Gh} {a : Act} {w : World} (hr : Rel G H w) (ht : TRel G w σ a nt)
  (hK : ∀ σ' H' G' a' w', K σ' H' → Run G H w G' H' w' → TRel G' w' σ' a' nt → a'.defers = a.defers → Q .normal a' w')
  (h : aLex P T ops al ops.length H.n H.st 0 ops σ H [] fun σ' H' log => logOk U log = true ∧ K σ' H') :
  wpAnyIn F 0 P .any ops.toArray Q ops.length (Array.replicate ops.length false) a w := by
 obtain ⟨es, hch⟩ := lex_chain ops 0 σ H [] hq h
 have hlen := chain_length hch
 let ev : Nat → Ev := fun i => es.getD i default
 have hev : ∀ i e, es[i]? = some e → ev i = e := fun i e h => by simp only [ev, List.getD_eq_getElem?_getD, h]; rfl
 obtain ⟨hans, hlog, hfin⟩ := chain_at (dst := dstAt ops) (ev := ev) (σ0 := σ) (g0 := H.get) ops es 0 (fun i o ho => by simp [dstAt, ho]) (fun i e he => by rw [Nat.zero_add]; exact hev i e he) hch
 simp only [Nat.zero_add, List.nil_append] at hans hlog hfin
 generalize hk : ops.length = k at *
 generalize hn0 : H.n = n0 at *
 generalize hs : H.st = s at *
 have hst : 0 < s := hs ▸ hr.ok.st
 have hfree0 : ∀ m, H.get (n0 + m * s) = none := fun m => by rw [← hn0, ← hs]; exact hr.ok.free m
 have hwr : ∀ i, i < k → ∀ id b, (ev i).wr = some (id, b) → (ev i).foot.2 = some id := fun i hi id b hw => ((hans i _ (List.getElem?_eq_getElem (by omega))).2 id b hw).1
 have hfree : ∀ i j, i < j → j < k → (i, j) ∈ U → Free (rdAt ops) (dstAt ops) ev i j := fun i j hij hj hu => free_of hev (by omega) hfix hlog (by rw [hk]; exact hwr) (by omega) (by omega) hu
 have hdn : ∀ l o e, ops[l]? = some o → e ∈ o.after.toList → Region.binds .any e = true → e.on < l := fun l o e => downOk_spec ops 0 rfl hdown l o e (Nat.zero_le _)
 have hinj : ∀ x y, n0 + x * s = n0 + y * s → x = y := fun x y e => Nat.eq_of_mul_eq_mul_right hst (by omega)
 have hokE : ∀ listed : Array Bool, (∀ id, gOf k ev H.get (fun i => listed.getD i false) id ≠ none → H.get id ≠ none ∨ (al = true ∧ ∃ i, i < k ∧ listed.getD i false = true ∧ id = n0 + i * s)) →
   (AHeap.mk (bif al then n0 + k * s else n0) s (gOf k ev H.get fun i => listed.getD i false)).Ok := by
  intro listed hsup
  refine ⟨hst, fun m => ?_⟩
  show gOf k ev H.get (fun i => listed.getD i false) ((bif al then n0 + k * s else n0) + m * s) = none
  cases hg : gOf k ev H.get (fun i => listed.getD i false) ((bif al then n0 + k * s else n0) + m * s) with
  | none => rfl
  | some b =>
   have hs' := hsup _ (by rw [hg]; simp)
   cases hal : al with
   | false =>
    rw [hal] at hs'
    rcases hs' with h1 | ⟨h1, _⟩
    ·exact absurd (hfree0 m) h1
    ·cases h1
   | true =>
    rw [hal] at hs'
    simp only [cond_true] at hs'
    rw [show n0 + k * s + m * s = n0 + (k + m) * s by rw [Nat.add_mul]; omega] at hs'
    rcases hs' with h1 | ⟨_, i, hi, _, e⟩
    ·exact absurd (hfree0 _) h1
    ·have := hinj _ _ e; omega
 have hend : ∀ (S : Nat → Bool) (G' : Gh) (a' : Act) (w' : World), (∀ i, i < k → S i = true) → Run G H w G' ⟨bif al then n0 + k * s else n0, s, gOf k ev H.get S⟩ w' → TRel G' w' (stOf k (dstAt ops) ev σ S) a' nt → a'.defers = a.defers → Q .normal a' w' := by
  intro S G' a' w' hall hrun htr hdf
  have e1 : stOf k (dstAt ops) ev σ S = stL (dstAt ops) ev σ k := by rw [stL_eq (Nat.le_refl k)]; exact stOf_congr fun i hi => by simp [hall i hi, hi]
  have e2 : gOf k ev H.get S = gL ev H.get k := by rw [gL_eq (Nat.le_refl k)]; exact gOf_congr fun i hi => by simp [hall i hi, hi]
  rw [e1] at htr
  rw [e2] at hrun
  exact hK _ _ G' a' w' hfin hrun htr hdf
 have main : ∀ (fuel : Nat) (listed : Array Bool) (G' : Gh) (a' : Act) (w' : World), listed.size = k → left k (fun i => listed.getD i false) ≤ fuel →
   (∀ i, listed.getD i false = true → ∀ o e, ops[i]? = some o → e ∈ o.after.toList → Region.binds .any e = true → listed.getD e.on false = true) →
   (∀ id, gOf k ev H.get (fun i => listed.getD i false) id ≠ none → H.get id ≠ none ∨ (al = true ∧ ∃ i, i < k ∧ listed.getD i false = true ∧ id = n0 + i * s)) →
   Run G H w G' ⟨bif al then n0 + k * s else n0, s, gOf k ev H.get fun i => listed.getD i false⟩ w' → TRel G' w' (stOf k (dstAt ops) ev σ fun i => listed.getD i false) a' nt → a'.defers = a.defers →
   wpAnyIn F 0 P .any ops.toArray Q fuel listed a' w' := by
  intro fuel
  induction fuel with
  | zero =>
   intro listed G' a' w' hsz hleft hcl hsup hrun htr hdf
   have hall := left_zero (Nat.le_zero.1 hleft)
   refine ⟨?_, hend _ G' a' w' hall hrun htr hdf⟩
   unfold Region.ready
   rw [List.filter_eq_nil_iff]
   intro i hi
   have hik : i < k := by simpa [hk] using hi
   have h1 := hall i hik
   have : listed.getD i true = true := by
    rw [Array.getD_eq_getD_getElem?] at h1 ⊢
    rw [Array.getElem?_eq_getElem (by omega)] at h1 ⊢
    exact h1
   simp [this]
  | succ fuel ih =>
   intro listed G' a' w' hsz hleft hcl hsup hrun htr hdf
   have hgd : ∀ i, i < k → listed.getD i true = listed.getD i false := fun i hi => by
    rw [Array.getD_eq_getD_getElem?, Array.getD_eq_getD_getElem?, Array.getElem?_eq_getElem (by omega)]; rfl
   refine ⟨fun h0 => hend _ G' a' w' ?_ hrun htr hdf, fun j hj => ?_⟩
   ·intro i
    induction i using Nat.strongRecOn with
    | _ i ihi =>
     intro hi
     unfold Region.ready at h0
     rw [List.filter_eq_nil_iff] at h0
     have h1 := h0 i (by simpa [hk] using hi)
     cases hb : listed.getD i false with
     | true => rfl
     | false =>
      refine absurd ?_ h1
      have ho : ops[i]? = some ops[i] := List.getElem?_eq_getElem (by omega)
      simp only [hgd i hi, hb, List.getElem?_toArray, ho, Option.map_some, Option.getD_some, Bool.not_false, Bool.true_and, Array.all_eq_true]
      intro q hq
      cases hbe : Region.binds .any ops[i].after[q] with
      | false => simp
      | true =>
       have hlt := hdn i _ _ ho (Array.getElem_mem_toList hq) hbe
       simp [ihi _ hlt (by omega)]
   ·unfold Region.ready at hj
    rw [List.mem_filter, List.mem_range] at hj
    obtain ⟨hj0, hj1⟩ := hj
    have hjk : j < k := by simpa [hk] using hj0
    have ho : ops[j]? = some ops[j] := List.getElem?_eq_getElem (by omega)
    simp only [hgd j hjk, List.getElem?_toArray, ho, Option.map_some, Option.getD_some, Bool.and_eq_true, Bool.not_eq_true', Array.all_eq_true] at hj1
    obtain ⟨hSj, haft⟩ := hj1
    have hpre : ∀ o e, ops[j]? = some o → e ∈ o.after.toList → Region.binds .any e = true → listed.getD e.on false = true := by
     intro o e ho' he hb
     rw [ho] at ho'; cases ho'
     obtain ⟨q, hq, rfl⟩ := List.getElem_of_mem he
     have h1 := haft q (by simpa using hq)
     have hb' : Region.binds .any ops[j].after[q] = true := by simpa using hb
     rw [hb'] at h1
     simpa using h1
    have hkey : KeyAt k (rdAt ops) (dstAt ops) ev (fun i => listed.getD i false) j := by
     intro i hi hne
     by_cases hij : i < j
     ·by_cases hu : (i, j) ∈ U
      ·exact .inr (.inr (hfree i j hij hjk hu))
      ·refine .inl ⟨hij, ?_⟩
       rw [hU] at hu
       exact anc_in (S := fun i => listed.getD i false) hcl (masks_spec (unord_spec hij hjk hu)) hpre
     ·have hji : j < i := by omega
      by_cases hu : (j, i) ∈ U
      ·exact .inr (.inr (hfree j i hji hi hu).symm)
      ·refine .inr (.inl ⟨hji, ?_⟩)
       rw [hU] at hu
       show listed.getD i false = false
       cases hb : listed.getD i false with
       | false => rfl
       | true =>
        have := anc_in (S := fun i => listed.getD i false) hcl (masks_spec (unord_spec hji hi hu)) (hcl i hb)
        rw [hSj] at this; cases this
    obtain ⟨ha1, ha2⟩ := hans j _ ho
    have hrd : rdAt ops j = reads ops ops[j] := by simp [rdAt, ho]
    have hds : dstAt ops j = ops[j].dst := by simp [dstAt, ho]
    have hstep := ha1 (stOf k (dstAt ops) ev σ fun i => listed.getD i false) (gOf k ev H.get fun i => listed.getD i false)
     (fun t htm => key_reads hkey hjk hSj (by rw [hrd]; exact htm)) (fun id hid => key_touch hkey hjk hSj hid)
    have hokj : (AHeap.mk (n0 + j * s) (s * k) (gOf k ev H.get fun i => listed.getD i false)).Ok := by
     refine ⟨Nat.mul_pos hst (by omega), fun m => ?_⟩
     show gOf k ev H.get (fun i => listed.getD i false) (n0 + j * s + m * (s * k)) = none
     have e : n0 + j * s + m * (s * k) = n0 + (j + m * k) * s := by rw [Nat.add_mul, Nat.mul_assoc, Nat.mul_comm k s]; omega
     rw [e]
     cases hg : gOf k ev H.get (fun i => listed.getD i false) (n0 + (j + m * k) * s) with
     | none => rfl
     | some b =>
      rcases hsup _ (by rw [hg]; simp) with h1 | ⟨hal, i, hi, hSi, e⟩
      ·exact absurd (hfree0 _) h1
      ·have := hinj _ _ e
       cases m with
       | zero => simp at this; subst this; rw [hSj] at hSi; cases hSi
       | succ m => rw [Nat.add_mul] at this; omega
    have hrelj := hrun.rel.recur (H1 := ⟨n0 + j * s, s * k, gOf k ev H.get fun i => listed.getD i false⟩) rfl hokj
    refine aOp_sound hT hF ho (dstOk_spec hd (List.getElem_mem _)) hrelj htr ?_ hstep
    rintro σ2 H2 G2 a2 w2 ⟨rfl, hH2⟩ hrun2 htr2 hdf2
    have hS' : (fun i => (listed.setIfInBounds j true).getD i false) = fun i => listed.getD i false || i == j := by
     funext i
     rw [Array.getD_eq_getD_getElem?, Array.getD_eq_getD_getElem?]
     by_cases e : i = j
     ·subst e
      rw [Array.getElem?_setIfInBounds_self_of_lt (by omega)]
      simp
     ·rw [Array.getElem?_setIfInBounds_ne (fun h => e h.symm)]
      have e' : (i == j) = false := by simpa using e
      simp [e']
    have hsup' : ∀ id, gOf k ev H.get (fun i => (listed.setIfInBounds j true).getD i false) id ≠ none → H.get id ≠ none ∨ (al = true ∧ ∃ i, i < k ∧ (listed.setIfInBounds j true).getD i false = true ∧ id = n0 + i * s) := by
     intro id hid
     have hS'' : ∀ i, (listed.setIfInBounds j true).getD i false = (listed.getD i false || i == j) := fun i => congrFun hS' i
     rw [hS', key_g hkey hjk] at hid
     have hold : gOf k ev H.get (fun i => listed.getD i false) id ≠ none → H.get id ≠ none ∨ (al = true ∧ ∃ i, i < k ∧ (listed.setIfInBounds j true).getD i false = true ∧ id = n0 + i * s) := by
      intro h1
      rcases hsup id h1 with h2 | ⟨hal, i, hi, hSi, e⟩
      ·exact .inl h2
      ·exact .inr ⟨hal, i, hi, by rw [hS'', hSi]; rfl, e⟩
     cases hw : (ev j).wr with
     | none => rw [hw] at hid; exact hold hid
     | some p =>
      obtain ⟨q, b⟩ := p
      rw [hw] at hid
      simp only [wrG] at hid
      by_cases e : id = q
      ·subst e
       rcases (ha2 _ _ hw).2 with ⟨hal, h1⟩ | ⟨h1, h2⟩
       ·exact .inr ⟨hal, j, hjk, by rw [hS'']; simp, h1⟩
       ·exact hold (by rw [key_touch hkey hjk hSj h2]; exact h1)
      ·rw [if_neg e] at hid; exact hold hid
    have hok' : (AHeap.mk (bif al then n0 + k * s else n0) s (gOf k ev H.get fun i => (listed.setIfInBounds j true).getD i false)).Ok := hokE _ hsup'
    refine ih _ G2 a2 w2 (by simp [hsz]) ?_ ?_ hsup' ?_ ?_ (hdf2.trans hdf)
    ·rw [hS']
     have := left_add (S := fun i => listed.getD i false) hSj hjk
     omega
    ·intro i hi o e hoi he hb
     have h1 : ∀ i, (listed.setIfInBounds j true).getD i false = (listed.getD i false || i == j) := fun i => congrFun hS' i
     rw [h1] at hi ⊢
     rw [Bool.or_eq_true] at hi
     rcases hi with hi | hi
     ·rw [hcl i hi o e hoi he hb]; rfl
     ·have : i = j := by simpa using hi
      subst this
      rw [hpre o e hoi he hb]; rfl
    ·refine hrun.trans ((hrun2.recur (H1 := ⟨bif al then n0 + k * s else n0, s, gOf k ev H.get fun i => listed.getD i false⟩) (H2 := ⟨bif al then n0 + k * s else n0, s, gOf k ev H.get fun i => (listed.setIfInBounds j true).getD i false⟩) rfl ?_ hok'))
     rw [hH2]
     simp only
     rw [hS', key_g hkey hjk]
    ·rw [hS', key_st hkey hjk, hds]; exact htr2
 have hrep : ∀ i, (Array.replicate k false).getD i false = false := fun i => by
  rw [Array.getD_eq_getD_getElem?, Array.getElem?_replicate]; split <;> rfl
 have e1 : (gOf k ev H.get fun i => (Array.replicate k false).getD i false) = H.get := gOf_none fun i _ => hrep i
 have e2 : (stOf k (dstAt ops) ev σ fun i => (Array.replicate k false).getD i false) = σ := stOf_none fun i _ => hrep i
 refine main k _ G a w (by simp) left_all (fun i hi => by rw [hrep] at hi; cases hi) (fun id hid => ?_) ?_ ?_ rfl
 ·rw [e1] at hid; exact .inl hid
 ·exact (Run.refl hr).recur rfl e1 (hokE _ fun id hid => .inl (by rw [e1] at hid; exact hid))
 ·rw [e2]; exact ht
variable {σ : St} {H : AHeap} {Q : APost}
theorem awp_lex (al : Bool) (hT : TOK P T) (hmx : P.follows .mixedOrders = true) {id : Nat} {ops : Array Oper} (hd : dstOk nt ops.toList = true) (hdown : downOk 0 ops.toList = true)
  (hfix : fixedOk ops.toList (unord (masks ops.toList) ops.toList.length) = true) (hq : (al || ops.toList.all fun o => quietOp o.op) = true)
  (h : ∀ U, U = unord (masks ops.toList) ops.toList.length → aLex P T ops.toList al ops.toList.length H.n H.st 0 ops.toList σ H [] fun σ' H' log => logOk U log = true ∧ Q .normal σ' H') : AWP P rd nt (.region id ops true) σ H Q := by
 intro F G a w B hB hF hr ht hm
 have hdr := Run.drew hr
 have hq' : al = false → ∀ o ∈ ops.toList, quietOp o.op = true := fun ha o ho => by rw [ha, Bool.false_or] at hq; exact List.all_eq_true.1 hq o ho
 have := aLex_sound hT hF hd hdown rfl hfix hq' hdr.rel (ht.run hr hdr) (Q := Post Q nt B G H w) (K := Q .normal)
  (fun σ' H' G' a' w' hk hg ht' hdd => ⟨.normal, σ', H', G', rfl, hk, ht', hdr.trans hg, by rw [hdd]; exact hm.run hr (hdr.trans hg)⟩) (h _ rfl)
 refine wpIn_region_any hmx ?_
 simpa using this
end
theorem cellEq_cons {k : EK} {ks : List EK} {a b : List AV} {r : Bool} (h : cellEq (k :: ks) a b = some r) :
  ∃ x y a' b' t, a = x :: a' ∧ b = y :: b' ∧ cellEq ks a' b' = some t ∧
   ((∃ j p q, x = .int j p ∧ y = .int j q ∧ k = .int ∧ r = (p == q && t)) ∨ (∃ p q, x = .bool p ∧ y = .bool q ∧ k = .bool ∧ r = (p == q && t)) ∨ (∃ p q, x = .str p ∧ y = .str q ∧ k = .str ∧ r = (p == q && t))) := by
 rcases a with _ | ⟨x, a'⟩
 ·cases k <;> simp [cellEq] at h
 rcases b with _ | ⟨y, b'⟩
 ·cases k <;> cases x <;> simp [cellEq] at h
 refine ⟨x, y, a', b', ?_⟩
 cases k <;> cases x <;> cases y <;> simp only [cellEq] at h <;> first | (cases h; done) | skip
 ·split at h
  ·rename_i hjk; subst hjk
   split at h
   ·rename_i t ht; cases h; exact ⟨t, rfl, rfl, ht, .inl ⟨_, _, _, rfl, rfl, rfl, rfl⟩⟩
   ·cases h
  ·cases h
 ·split at h
  ·rename_i t ht; cases h; exact ⟨t, rfl, rfl, ht, .inr (.inl ⟨_, _, rfl, rfl, rfl, rfl⟩)⟩
  ·cases h
 ·split at h
  ·rename_i t ht; cases h; exact ⟨t, rfl, rfl, ht, .inr (.inr ⟨_, _, rfl, rfl, rfl, rfl⟩)⟩
  ·cases h
theorem cellEq_nil {a b : List AV} {r : Bool} (h : cellEq [] a b = some r) : a = [] ∧ b = [] ∧ r = true := by
 rcases a with _ | ⟨x, a'⟩ <;> rcases b with _ | ⟨y, b'⟩ <;> simp [cellEq] at h
 exact ⟨rfl, rfl, h⟩
theorem agg_cells {G : Gh} {w : World} {l : List AV} {x : Array Value} (h : VRel G w (.agg l) (.agg x)) : x.size = l.length ∧ ∀ (j : Nat) (v : AV) (c : Value), l[j]? = some v → x[j]? = some c → VRel G w v c := by
 cases h with
 | agg hs h1 hv => exact ⟨hs, hv⟩
theorem agg2 {G : Gh} {w : World} {u v : AV} {x : Array Value} (h : VRel G w (.agg [u, v]) (.agg x)) : ∃ c d, x = #[c, d] ∧ VRel G w u c ∧ VRel G w v d := by
 obtain ⟨hs, hv⟩ := agg_cells h
 match x, hs with
 | ⟨[c, d]⟩, _ => exact ⟨c, d, rfl, hv 0 u c rfl rfl, hv 1 v d rfl rfl⟩
section
variable {P : Program} {T : TypeId → Option TE}
def thenK (P : Program) (T : TypeId → Option TE) (ops rest : List Oper) (dst : Option Tmp) (σ : St) (K : St → AHeap → Prop) : Ans → Prop
 | some (v, H') => aSeq P T ops rest (σ.put dst v) H' K
 | none => False
def afterK (P : Program) (T : TypeId → Option TE) (ops rest : List Oper) (dst : Option Tmp) (σ : St) (K : St → AHeap → Prop) (r : AV) (H : AHeap) : Prop := aSeq P T ops rest (σ.put dst r) H K
def callK (P : Program) (T : TypeId → Option TE) (ops rest : List Oper) (dst : Option Tmp) (σ : St) (K : St → AHeap → Prop) (H : AHeap) (f : AV) (args : List AV) : Prop :=
 match f with
 | .fn g caps => ACalls P g (args ++ caps) H (afterK P T ops rest dst σ K)
 | .yl id => AYield P id args H (afterK P T ops rest dst σ K)
 | _ => False
def goK (P : Program) (T : TypeId → Option TE) (ops rest : List Oper) (dst : Option Tmp) (σ : St) (K : St → AHeap → Prop) (H : AHeap) (op : Op) : Prop :=
 match goCall op with
 | some (f, az) => callK P T ops rest dst σ K H (aeval σ f) (az.map (aeval σ))
 | none => thenK P T ops rest dst σ K (ares T (aeval σ) H op)
theorem aSeq_nil (ops : List Oper) (σ : St) (H : AHeap) (K : St → AHeap → Prop) : aSeq P T ops [] σ H K = K σ H := rfl
theorem aSeq_plain (ops rest : List Oper) (dst : Option Tmp) (op : Op) (ty : TypeId) (pos : String) (after : Array Edge) (σ : St) (H : AHeap) (K : St → AHeap → Prop) :
  aSeq P T ops (⟨dst, op, ty, pos, after, none⟩ :: rest) σ H K = goK P T ops rest dst σ K H op := by
 simp only [aSeq, aOp, wantA, goK]
 cases goCall op with
 | none => simp only [thenK]; cases ares T (aeval σ) H op with
  | none => rfl
  | some p => rfl
 | some p =>
  obtain ⟨f, az⟩ := p
  simp only [callK]
  cases aeval σ f <;> rfl
def guardK (P : Program) (T : TypeId → Option TE) (ops rest : List Oper) (dst : Option Tmp) (σ : St) (K : St → AHeap → Prop) (H : AHeap) (op : Op) : Option Bool → Prop
 | some b => (b = true → goK P T ops rest dst σ K H op) ∧ (b = false → aSeq P T ops rest (σ.put dst .skip) H K)
 | none => False
theorem aSeq_guard (ops rest : List Oper) (dst : Option Tmp) (op : Op) (ty : TypeId) (pos : String) (after : Array Edge) (g : Nat × Bool) (σ : St) (H : AHeap) (K : St → AHeap → Prop) :
  aSeq P T ops (⟨dst, op, ty, pos, after, some g⟩ :: rest) σ H K = guardK P T ops rest dst σ K H op (wantA ops σ ⟨dst, op, ty, pos, after, some g⟩) := by
 simp only [aSeq, aOp]
 generalize wantA ops σ ⟨dst, op, ty, pos, after, some g⟩ = x
 cases x with
 | none => rfl
 | some b =>
  cases b with
  | false => simp [guardK]
  | true =>
   simp only [guardK, goK, forall_const, Bool.true_eq_false, false_implies, and_true]
   cases goCall op with
   | none => simp only [thenK]; cases ares T (aeval σ) H op with
    | none => rfl
    | some p => rfl
   | some p =>
    obtain ⟨f, az⟩ := p
    simp only [callK]
    cases aeval σ f <;> rfl
theorem thenK_some (ops rest : List Oper) (dst : Option Tmp) (σ : St) (K : St → AHeap → Prop) (v : AV) (H : AHeap) : thenK P T ops rest dst σ K (some (v, H)) = aSeq P T ops rest (σ.put dst v) H K := rfl
theorem thenK_none (ops rest : List Oper) (dst : Option Tmp) (σ : St) (K : St → AHeap → Prop) : thenK P T ops rest dst σ K none = False := rfl
theorem thenK_ite (ops rest : List Oper) (dst : Option Tmp) (σ : St) (K : St → AHeap → Prop) (c : Prop) [Decidable c] (x y : Ans) :
  thenK P T ops rest dst σ K (if c then x else y) = if c then thenK P T ops rest dst σ K x else thenK P T ops rest dst σ K y := by split <;> rfl
theorem goK_call (ops rest : List Oper) (dst : Option Tmp) (σ : St) (K : St → AHeap → Prop) (H : AHeap) (f : Operand) (args : Array Operand) (ats : Array TypeId) :
  goK P T ops rest dst σ K H (.call ⟨.value f, args, ats⟩) = callK P T ops rest dst σ K H (aeval σ f) (args.toList.map (aeval σ)) := rfl
theorem goK_builtin (ops rest : List Oper) (dst : Option Tmp) (σ : St) (K : St → AHeap → Prop) (H : AHeap) (b : Builtin) (args : Array Operand) (ats : Array TypeId) :
  goK P T ops rest dst σ K H (.call ⟨.builtin b, args, ats⟩) = thenK P T ops rest dst σ K (aBuiltin T H b ats.toList (args.toList.map (aeval σ))) := rfl
theorem callK_fn (ops rest : List Oper) (dst : Option Tmp) (σ : St) (K : St → AHeap → Prop) (H : AHeap) (g : FuncId) (caps args : List AV) :
  callK P T ops rest dst σ K H (.fn g caps) args = ACalls P g (args ++ caps) H (afterK P T ops rest dst σ K) := rfl
theorem callK_yl (ops rest : List Oper) (dst : Option Tmp) (σ : St) (K : St → AHeap → Prop) (H : AHeap) (id : Nat) (args : List AV) :
  callK P T ops rest dst σ K H (.yl id) args = AYield P id args H (afterK P T ops rest dst σ K) := rfl
theorem pureA_some (H : AHeap) (v : AV) : pureA H (some v) = some (v, H) := rfl
theorem pureA_ite (H : AHeap) (c : Prop) [Decidable c] (x y : Option AV) : pureA H (if c then x else y) = if c then pureA H x else pureA H y := by split <;> rfl
theorem put_none (σ : St) (v : AV) : σ.put none v = σ := rfl
theorem put_get (σ : St) (d : Tmp) (v : AV) (i : Nat) : σ.put (some d) v i = if i = d then v else σ i := rfl
theorem alloc_n (H : AHeap) (b : Blk) : (H.alloc b).n = H.n + H.st := rfl
theorem alloc_st (H : AHeap) (b : Blk) : (H.alloc b).st = H.st := rfl
theorem put_st (H : AHeap) (id : Nat) (b : Blk) : (H.put id b).st = H.st := rfl
theorem alloc_get (H : AHeap) (b : Blk) (i : Nat) : (H.alloc b).get i = if i = H.n then some b else H.get i := rfl
theorem put_n (H : AHeap) (id : Nat) (b : Blk) : (H.put id b).n = H.n := rfl
theorem put_getH (H : AHeap) (id : Nat) (b : Blk) (i : Nat) : (H.put id b).get i = if i = id then some b else H.get i := rfl
variable {rd : Bool} {nt : Nat} {σ : St} {H : AHeap} {Q : APost}
theorem awp_reg (hT : TOK P T) {id : Nat} {ops : Array Oper} {y : Code} (hd : dstOk nt ops.toList = true)
  (h : ∀ K : St → AHeap → Prop, (∀ σ H, AWP P rd nt y σ H Q → K σ H) → aSeq P T ops.toList ops.toList σ H K) : AWP P rd nt (.seq (.region id ops false) y) σ H Q :=
 awp_seq (awp_region hT hd (h _ fun _ _ h => h))
theorem awp_regl (hT : TOK P T) {id : Nat} {ops : Array Oper} (hd : dstOk nt ops.toList = true)
  (h : ∀ K : St → AHeap → Prop, (∀ σ H, Q .normal σ H → K σ H) → aSeq P T ops.toList ops.toList σ H K) : AWP P rd nt (.region id ops false) σ H Q :=
 awp_region hT hd (h _ fun _ _ h => h)
end
def loadT (T : TypeId → Option TE) (t : TypeId) (H : AHeap) (a : AV) : Ans := match T t with | some te => aLoad te H a | none => none
def storeT (T : TypeId → Option TE) (t : TypeId) (H : AHeap) (x a : AV) : Ans := match T t with | some te => aStore te H x a | none => none
def nilA (H : AHeap) (x : AV) : Ans := match x with | .ptr id g i f => some (.ptr id g i f, H) | .rop cs => some (.rop cs, H) | .fn f cs => some (.fn f cs, H) | _ => none
def pickA (H : AHeap) (c a b : AV) : Ans := match c with | .bool t => some (bif t then a else b, H) | _ => none
def convT (T : TypeId → Option TE) (s d : TypeId) (H : AHeap) (x : AV) : Ans := if (T s).isSome = true then pureA H (aConv T s d x) else none
def extrA (H : AHeap) (x : AV) (ix : Nat) : Ans := match x with | .tup vs => (match vs[ix]? with | some v => some (v, H) | none => none) | _ => none
section
variable {P : Program} {T : TypeId → Option TE}
theorem goK_move (ops rest : List Oper) (dst : Option Tmp) (σ : St) (K : St → AHeap → Prop) (H : AHeap) (x : Operand) : goK P T ops rest dst σ K H (.move x) = thenK P T ops rest dst σ K (some (aeval σ x, H)) := rfl
theorem goK_assign (ops rest : List Oper) (dst : Option Tmp) (σ : St) (K : St → AHeap → Prop) (H : AHeap) (x : Operand) : goK P T ops rest dst σ K H (.assign x) = thenK P T ops rest dst σ K (some (aeval σ x, H)) := rfl
theorem goK_alloc (ops rest : List Oper) (dst : Option Tmp) (σ : St) (K : St → AHeap → Prop) (H : AHeap) (e : TypeId) : goK P T ops rest dst σ K H (.alloc e) = thenK P T ops rest dst σ K (aAlloc T H e) := rfl
theorem goK_box (ops rest : List Oper) (dst : Option Tmp) (σ : St) (K : St → AHeap → Prop) (H : AHeap) (e : TypeId) (x : Operand) : goK P T ops rest dst σ K H (.box e x) = thenK P T ops rest dst σ K (aBox T H e (aeval σ x)) := rfl
theorem goK_build (ops rest : List Oper) (dst : Option Tmp) (σ : St) (K : St → AHeap → Prop) (H : AHeap) (t : TypeId) (ps : Array (Nat × Operand)) : goK P T ops rest dst σ K H (.build t ps) = thenK P T ops rest dst σ K (pureA H (aBuild T t (ps.toList.map fun p => (p.1, aeval σ p.2)))) := rfl
theorem goK_buildSlice (ops rest : List Oper) (dst : Option Tmp) (σ : St) (K : St → AHeap → Prop) (H : AHeap) (t : TypeId) (n : Nat) (ps : Array (Nat × Operand)) : goK P T ops rest dst σ K H (.buildSlice t n ps) = thenK P T ops rest dst σ K (aBuildSlice T H t n (ps.toList.map fun p => (p.1, aeval σ p.2))) := rfl
theorem goK_load (ops rest : List Oper) (dst : Option Tmp) (σ : St) (K : St → AHeap → Prop) (H : AHeap) (t : TypeId) (a : Operand) : goK P T ops rest dst σ K H (.load t a) = thenK P T ops rest dst σ K (loadT T t H (aeval σ a)) := rfl
theorem goK_store (ops rest : List Oper) (dst : Option Tmp) (σ : St) (K : St → AHeap → Prop) (H : AHeap) (t : TypeId) (a x : Operand) : goK P T ops rest dst σ K H (.store t a x) = thenK P T ops rest dst σ K (storeT T t H (aeval σ x) (aeval σ a)) := rfl
theorem goK_nilCheck (ops rest : List Oper) (dst : Option Tmp) (σ : St) (K : St → AHeap → Prop) (H : AHeap) (x : Operand) : goK P T ops rest dst σ K H (.nilCheck x) = thenK P T ops rest dst σ K (nilA H (aeval σ x)) := rfl
theorem goK_pick (ops rest : List Oper) (dst : Option Tmp) (σ : St) (K : St → AHeap → Prop) (H : AHeap) (c a b : Operand) : goK P T ops rest dst σ K H (.pick c a b) = thenK P T ops rest dst σ K (pickA H (aeval σ c) (aeval σ a) (aeval σ b)) := rfl
theorem goK_binOp (ops rest : List Oper) (dst : Option Tmp) (σ : St) (K : St → AHeap → Prop) (H : AHeap) (op : BinOp) (t u : TypeId) (x y : Operand) : goK P T ops rest dst σ K H (.binOp op t x y u) = thenK P T ops rest dst σ K (pureA H (aBin T op t (aeval σ x) (aeval σ y))) := rfl
theorem goK_unOp (ops rest : List Oper) (dst : Option Tmp) (σ : St) (K : St → AHeap → Prop) (H : AHeap) (op : UnOp) (t : TypeId) (x : Operand) : goK P T ops rest dst σ K H (.unOp op t x) = thenK P T ops rest dst σ K (pureA H (aUn op (aeval σ x))) := rfl
theorem goK_convert (ops rest : List Oper) (dst : Option Tmp) (σ : St) (K : St → AHeap → Prop) (H : AHeap) (s d : TypeId) (x : Operand) : goK P T ops rest dst σ K H (.convert s d x) = thenK P T ops rest dst σ K (convT T s d H (aeval σ x)) := rfl
theorem goK_makeFunc (ops rest : List Oper) (dst : Option Tmp) (σ : St) (K : St → AHeap → Prop) (H : AHeap) (f : FuncId) (caps : Array Operand) : goK P T ops rest dst σ K H (.makeFunc (.func f) #[] caps) = thenK P T ops rest dst σ K (some (.fn f (caps.toList.map (aeval σ)), H)) := rfl
theorem goK_makeSlice (ops rest : List Oper) (dst : Option Tmp) (σ : St) (K : St → AHeap → Prop) (H : AHeap) (t : TypeId) (l c : Operand) : goK P T ops rest dst σ K H (.makeSlice t l c) = thenK P T ops rest dst σ K (aMakeSlice T H t (aeval σ l) (aeval σ c)) := rfl
theorem goK_slice (ops rest : List Oper) (dst : Option Tmp) (σ : St) (K : St → AHeap → Prop) (H : AHeap) (t : TypeId) (x : Operand) (lo hi mx : Option Operand) : goK P T ops rest dst σ K H (.slice t x lo hi mx) = thenK P T ops rest dst σ K (pureA H (aSliceT T H t (aeval σ x) (lo.map (aeval σ)) (hi.map (aeval σ)) (mx.map (aeval σ)))) := rfl
theorem goK_fieldAddr (ops rest : List Oper) (dst : Option Tmp) (σ : St) (K : St → AHeap → Prop) (H : AHeap) (s : TypeId) (x : Operand) (f : Nat) : goK P T ops rest dst σ K H (.fieldAddr s x f) = thenK P T ops rest dst σ K (pureA H (aFieldAddr T s (aeval σ x) f)) := rfl
theorem goK_field (ops rest : List Oper) (dst : Option Tmp) (σ : St) (K : St → AHeap → Prop) (H : AHeap) (s : TypeId) (x : Operand) (f : Nat) : goK P T ops rest dst σ K H (.field s x f) = thenK P T ops rest dst σ K (pureA H (aField T s (aeval σ x) f)) := rfl
theorem goK_indexAddr (ops rest : List Oper) (dst : Option Tmp) (σ : St) (K : St → AHeap → Prop) (H : AHeap) (t : TypeId) (x ix : Operand) : goK P T ops rest dst σ K H (.indexAddr t x ix) = thenK P T ops rest dst σ K (pureA H (aIndexAddr T H t (aeval σ x) (aeval σ ix))) := rfl
theorem goK_index (ops rest : List Oper) (dst : Option Tmp) (σ : St) (K : St → AHeap → Prop) (H : AHeap) (t : TypeId) (x ix : Operand) : goK P T ops rest dst σ K H (.index t x ix) = thenK P T ops rest dst σ K (pureA H (aIndex T t (aeval σ x) (aeval σ ix))) := rfl
theorem goK_extract (ops rest : List Oper) (dst : Option Tmp) (σ : St) (K : St → AHeap → Prop) (H : AHeap) (x : Operand) (ix : Nat) : goK P T ops rest dst σ K H (.extract x ix) = thenK P T ops rest dst σ K (extrA H (aeval σ x) ix) := rfl
end
theorem aeval_tmp (σ : St) (t : Tmp) : aeval σ (.tmp t) = σ t := rfl
theorem aeval_func (σ : St) (f : FuncId) : aeval σ (.func f) = .fn f [] := rfl
theorem aeval_int (σ : St) (k : IntKind) (n : Int) : aeval σ (.const (.int k n)) = .int k n := rfl
theorem aeval_bool (σ : St) (b : Bool) : aeval σ (.const (.bool b)) = .bool b := rfl
theorem aeval_str (σ : St) (s : ByteArray) : aeval σ (.const (.string s)) = .str s := rfl
theorem aeval_nils (σ : St) : aeval σ (.const (.slice none 0 0)) = .nils := rfl
theorem aeval_nilp (σ : St) : aeval σ (.const (.pointer none)) = .nilp := rfl
theorem aeval_nilm (σ : St) : aeval σ (.const (.map none)) = .nilm := rfl
theorem aeval_nilf (σ : St) : aeval σ (.const .nilFunc) = .nilf := rfl
theorem aeval_agg (σ : St) (cs : Array Value) : aeval σ (.const (.agg cs)) = if (cs.toList.map AV.ofV1).all AV.one then .agg (cs.toList.map AV.ofV1) else .undef := rfl
attribute [simp] goK_move goK_assign goK_alloc goK_box goK_build goK_buildSlice goK_load goK_store goK_nilCheck goK_pick goK_binOp goK_unOp goK_convert goK_makeFunc goK_makeSlice goK_slice goK_fieldAddr goK_field goK_indexAddr goK_index goK_extract loadT storeT nilA pickA convT extrA
theorem guardK_t {P : Program} {T : TypeId → Option TE} {ops rest : List Oper} {dst : Option Tmp} {σ : St} {K : St → AHeap → Prop} {H : AHeap} {op : Op} : guardK P T ops rest dst σ K H op (some true) = goK P T ops rest dst σ K H op := by simp [guardK]
theorem guardK_f {P : Program} {T : TypeId → Option TE} {ops rest : List Oper} {dst : Option Tmp} {σ : St} {K : St → AHeap → Prop} {H : AHeap} {op : Op} : guardK P T ops rest dst σ K H op (some false) = aSeq P T ops rest (σ.put dst .skip) H K := by simp [guardK]
attribute [simp] aSeq_nil aSeq_plain aSeq_guard guardK_t guardK_f goK_call goK_builtin callK_fn callK_yl thenK_some thenK_none thenK_ite pureA_some pureA_ite put_none put_get alloc_n alloc_st put_st alloc_get put_n put_getH
 aeval_tmp aeval_func aeval_int aeval_bool aeval_str aeval_nils aeval_nilp aeval_nilm aeval_nilf aeval_agg AV.ofV1 AV.one AV.cells
 aBox aAlloc aLoad aStore aFieldAddr aField aIndexAddr aIndex elemT loadC reE TK.agg aBuild fillA aBuildSlice aBin aEq aUn aConv aBuiltin lenTy lenA minA aMakeSlice aAppend aCopy aClear spliceL elems aSliceT okSz aSlice boundA isStr wantA
section
variable (P : Program) (T : TypeId → Option TE) (ops : List Oper) (al : Bool) (k n0 s : Nat)
def lthenK (j : Nat) (rest : List Oper) (dst : Option Tmp) (σ : St) (log : List Foot) (K : St → AHeap → List Foot → Prop) (ft : Foot) : Ans → Prop
 | some (v, H') => aLex P T ops al k n0 s (j + 1) rest (σ.put dst v) H' (log ++ [ft]) K
 | none => False
def lcallK (j : Nat) (rest : List Oper) (dst : Option Tmp) (σ : St) (log : List Foot) (K : St → AHeap → List Foot → Prop) (H : AHeap) (f : AV) (args : List AV) : Prop :=
 match f with
 | .fn g caps => ∃ (ids : List Nat) (r : LRes), (al || !(r.wid 0).isSome) = true ∧ LCall P g (args ++ caps) H ids r ∧ aLex P T ops al k n0 s (j + 1) rest (σ.put dst (r.av (n0 + j * s))) (r.heap H (n0 + j * s) (s * k)) (log ++ [(ids, r.wid (n0 + j * s))]) K
 | _ => False
def lgoK (j : Nat) (rest : List Oper) (dst : Option Tmp) (σ : St) (log : List Foot) (K : St → AHeap → List Foot → Prop) (H : AHeap) (op : Op) : Prop :=
 match goCall op with
 | some (f, az) => lcallK P T ops al k n0 s j rest dst σ log K H (aeval σ f) (az.map (aeval σ))
 | none => lthenK P T ops al k n0 s j rest dst σ log K (touch (aeval σ) op, (wkind (aeval σ) op).wid (n0 + j * s)) (ares T (aeval σ) ⟨n0 + j * s, s * k, H.get⟩ op)
def lguardK (j : Nat) (rest : List Oper) (dst : Option Tmp) (σ : St) (log : List Foot) (K : St → AHeap → List Foot → Prop) (H : AHeap) (op : Op) : Option Bool → Prop
 | some b => (b = true → lgoK P T ops al k n0 s j rest dst σ log K H op) ∧ (b = false → aLex P T ops al k n0 s (j + 1) rest (σ.put dst .skip) H (log ++ [([], none)]) K)
 | none => False
variable {P T ops al k n0 s}
variable {j : Nat} {rest : List Oper} {dst : Option Tmp} {σ : St} {log : List Foot} {K : St → AHeap → List Foot → Prop} {H : AHeap}
theorem lexOp_go {o : Oper} (hw : wantA ops σ o = some true) : lexOp P T ops al k n0 s j o σ H (fun σ H ft => aLex P T ops al k n0 s (j + 1) rest σ H (log ++ [ft]) K) = lgoK P T ops al k n0 s j rest o.dst σ log K H o.op := by
 unfold lexOp lgoK
 rw [hw]
 simp only
 cases goCall o.op with
 | none =>
  simp only [lthenK]
  all_goals (cases ares T (aeval σ) ⟨n0 + j * s, s * k, H.get⟩ o.op <;> rfl)
 | some p =>
  obtain ⟨f, az⟩ := p
  simp only [lcallK]
  all_goals (cases aeval σ f <;> rfl)
theorem aLex_nil : aLex P T ops al k n0 s j [] σ H log K = K σ ⟨bif al then n0 + k * s else n0, s, H.get⟩ log := rfl
theorem aLex_plain (op : Op) (ty : TypeId) (pos : String) (after : Array Edge) :
  aLex P T ops al k n0 s j (⟨dst, op, ty, pos, after, none⟩ :: rest) σ H log K = lgoK P T ops al k n0 s j rest dst σ log K H op := lexOp_go rfl
theorem aLex_guard (op : Op) (ty : TypeId) (pos : String) (after : Array Edge) (g : Nat × Bool) :
  aLex P T ops al k n0 s j (⟨dst, op, ty, pos, after, some g⟩ :: rest) σ H log K = lguardK P T ops al k n0 s j rest dst σ log K H op (wantA ops σ ⟨dst, op, ty, pos, after, some g⟩) := by
 simp only [aLex]
 cases hw : wantA ops σ ⟨dst, op, ty, pos, after, some g⟩ with
 | none => simp only [lexOp, hw, lguardK]
 | some b =>
  cases b with
  | true => rw [lexOp_go hw]; simp [lguardK]
  | false => simp only [lexOp, hw, lguardK, Bool.false_eq_true, false_implies, forall_const, true_and]
theorem lthenK_some (ft : Foot) (v : AV) : lthenK P T ops al k n0 s j rest dst σ log K ft (some (v, H)) = aLex P T ops al k n0 s (j + 1) rest (σ.put dst v) H (log ++ [ft]) K := rfl
theorem lthenK_none (ft : Foot) : lthenK P T ops al k n0 s j rest dst σ log K ft none = False := rfl
theorem lthenK_ite (ft : Foot) (c : Prop) [Decidable c] (x y : Ans) : lthenK P T ops al k n0 s j rest dst σ log K ft (if c then x else y) = if c then lthenK P T ops al k n0 s j rest dst σ log K ft x else lthenK P T ops al k n0 s j rest dst σ log K ft y := by split <;> rfl
theorem lgoK_call (f : Operand) (args : Array Operand) (ats : Array TypeId) : lgoK P T ops al k n0 s j rest dst σ log K H (.call ⟨.value f, args, ats⟩) = lcallK P T ops al k n0 s j rest dst σ log K H (aeval σ f) (args.toList.map (aeval σ)) := rfl
theorem lgoK_builtin (b : Builtin) (args : Array Operand) (ats : Array TypeId) : lgoK P T ops al k n0 s j rest dst σ log K H (.call ⟨.builtin b, args, ats⟩) =
  lthenK P T ops al k n0 s j rest dst σ log K (touch (aeval σ) (.call ⟨.builtin b, args, ats⟩), (wkind (aeval σ) (.call ⟨.builtin b, args, ats⟩)).wid (n0 + j * s)) (aBuiltin T ⟨n0 + j * s, s * k, H.get⟩ b ats.toList (args.toList.map (aeval σ))) := rfl
section
theorem lgoK_move (x : Operand) : (lgoK P T ops al k n0 s j rest dst σ log K H) (.move x) = (lthenK P T ops al k n0 s j rest dst σ log K) ([], none) (some (aeval σ x, (AHeap.mk (n0 + j * s) (s * k) H.get))) := rfl
theorem lgoK_assign (x : Operand) : (lgoK P T ops al k n0 s j rest dst σ log K H) (.assign x) = (lthenK P T ops al k n0 s j rest dst σ log K) ([], none) (some (aeval σ x, (AHeap.mk (n0 + j * s) (s * k) H.get))) := rfl
theorem lgoK_alloc (e : TypeId) : (lgoK P T ops al k n0 s j rest dst σ log K H) (.alloc e) = (lthenK P T ops al k n0 s j rest dst σ log K) ([], some (n0 + j * s)) (aAlloc T (AHeap.mk (n0 + j * s) (s * k) H.get) e) := rfl
theorem lgoK_box (e : TypeId) (x : Operand) : (lgoK P T ops al k n0 s j rest dst σ log K H) (.box e x) = (lthenK P T ops al k n0 s j rest dst σ log K) ([], some (n0 + j * s)) (aBox T (AHeap.mk (n0 + j * s) (s * k) H.get) e (aeval σ x)) := rfl
theorem lgoK_build (t : TypeId) (ps : Array (Nat × Operand)) : (lgoK P T ops al k n0 s j rest dst σ log K H) (.build t ps) = (lthenK P T ops al k n0 s j rest dst σ log K) ([], none) (pureA (AHeap.mk (n0 + j * s) (s * k) H.get) (aBuild T t (ps.toList.map fun p => (p.1, aeval σ p.2)))) := rfl
theorem lgoK_buildSlice (t : TypeId) (n : Nat) (ps : Array (Nat × Operand)) : (lgoK P T ops al k n0 s j rest dst σ log K H) (.buildSlice t n ps) = (lthenK P T ops al k n0 s j rest dst σ log K) ([], some (n0 + j * s)) (aBuildSlice T (AHeap.mk (n0 + j * s) (s * k) H.get) t n (ps.toList.map fun p => (p.1, aeval σ p.2))) := rfl
theorem lgoK_load (t : TypeId) (a : Operand) : (lgoK P T ops al k n0 s j rest dst σ log K H) (.load t a) = (lthenK P T ops al k n0 s j rest dst σ log K) (idOf (aeval σ a), none) (loadT T t (AHeap.mk (n0 + j * s) (s * k) H.get) (aeval σ a)) := rfl
def widS : AV → Option Nat
 | .ptr id _ _ _ => some id
 | _ => none
theorem lgoK_store (t : TypeId) (a x : Operand) : (lgoK P T ops al k n0 s j rest dst σ log K H) (.store t a x) = (lthenK P T ops al k n0 s j rest dst σ log K) (idOf (aeval σ a), widS (aeval σ a)) (storeT T t (AHeap.mk (n0 + j * s) (s * k) H.get) (aeval σ x) (aeval σ a)) := by
 have : (wkind (aeval σ) (.store t a x)).wid (n0 + j * s) = widS (aeval σ a) := by
  simp only [wkind]; cases aeval σ a <;> rfl
 rw [← this]; rfl
theorem lgoK_nilCheck (x : Operand) : (lgoK P T ops al k n0 s j rest dst σ log K H) (.nilCheck x) = (lthenK P T ops al k n0 s j rest dst σ log K) ([], none) (nilA (AHeap.mk (n0 + j * s) (s * k) H.get) (aeval σ x)) := rfl
theorem lgoK_pick (c a b : Operand) : (lgoK P T ops al k n0 s j rest dst σ log K H) (.pick c a b) = (lthenK P T ops al k n0 s j rest dst σ log K) ([], none) (pickA (AHeap.mk (n0 + j * s) (s * k) H.get) (aeval σ c) (aeval σ a) (aeval σ b)) := rfl
theorem lgoK_binOp (op : BinOp) (t u : TypeId) (x y : Operand) : (lgoK P T ops al k n0 s j rest dst σ log K H) (.binOp op t x y u) = (lthenK P T ops al k n0 s j rest dst σ log K) ([], none) (pureA (AHeap.mk (n0 + j * s) (s * k) H.get) (aBin T op t (aeval σ x) (aeval σ y))) := rfl
theorem lgoK_unOp (op : UnOp) (t : TypeId) (x : Operand) : (lgoK P T ops al k n0 s j rest dst σ log K H) (.unOp op t x) = (lthenK P T ops al k n0 s j rest dst σ log K) ([], none) (pureA (AHeap.mk (n0 + j * s) (s * k) H.get) (aUn op (aeval σ x))) := rfl
theorem lgoK_convert (s' d : TypeId) (x : Operand) : (lgoK P T ops al k n0 s j rest dst σ log K H) (.convert s' d x) = (lthenK P T ops al k n0 s j rest dst σ log K) ([], none) (convT T s' d (AHeap.mk (n0 + j * s) (s * k) H.get) (aeval σ x)) := rfl
theorem lgoK_makeFunc (f : FuncId) (caps : Array Operand) : (lgoK P T ops al k n0 s j rest dst σ log K H) (.makeFunc (.func f) #[] caps) = (lthenK P T ops al k n0 s j rest dst σ log K) ([], none) (some (.fn f (caps.toList.map (aeval σ)), (AHeap.mk (n0 + j * s) (s * k) H.get))) := rfl
theorem lgoK_makeSlice (t : TypeId) (l c : Operand) : (lgoK P T ops al k n0 s j rest dst σ log K H) (.makeSlice t l c) = (lthenK P T ops al k n0 s j rest dst σ log K) ([], some (n0 + j * s)) (aMakeSlice T (AHeap.mk (n0 + j * s) (s * k) H.get) t (aeval σ l) (aeval σ c)) := rfl
theorem lgoK_slice (t : TypeId) (x : Operand) (lo hi mx : Option Operand) : (lgoK P T ops al k n0 s j rest dst σ log K H) (.slice t x lo hi mx) = (lthenK P T ops al k n0 s j rest dst σ log K) (idOf (aeval σ x), none) (pureA (AHeap.mk (n0 + j * s) (s * k) H.get) (aSliceT T (AHeap.mk (n0 + j * s) (s * k) H.get) t (aeval σ x) (lo.map (aeval σ)) (hi.map (aeval σ)) (mx.map (aeval σ)))) := rfl
theorem lgoK_fieldAddr (s' : TypeId) (x : Operand) (f : Nat) : (lgoK P T ops al k n0 s j rest dst σ log K H) (.fieldAddr s' x f) = (lthenK P T ops al k n0 s j rest dst σ log K) ([], none) (pureA (AHeap.mk (n0 + j * s) (s * k) H.get) (aFieldAddr T s' (aeval σ x) f)) := rfl
theorem lgoK_field (s' : TypeId) (x : Operand) (f : Nat) : (lgoK P T ops al k n0 s j rest dst σ log K H) (.field s' x f) = (lthenK P T ops al k n0 s j rest dst σ log K) ([], none) (pureA (AHeap.mk (n0 + j * s) (s * k) H.get) (aField T s' (aeval σ x) f)) := rfl
theorem lgoK_indexAddr (t : TypeId) (x ix : Operand) : (lgoK P T ops al k n0 s j rest dst σ log K H) (.indexAddr t x ix) = (lthenK P T ops al k n0 s j rest dst σ log K) (idOf (aeval σ x), none) (pureA (AHeap.mk (n0 + j * s) (s * k) H.get) (aIndexAddr T (AHeap.mk (n0 + j * s) (s * k) H.get) t (aeval σ x) (aeval σ ix))) := rfl
theorem lgoK_index (t : TypeId) (x ix : Operand) : (lgoK P T ops al k n0 s j rest dst σ log K H) (.index t x ix) = (lthenK P T ops al k n0 s j rest dst σ log K) ([], none) (pureA (AHeap.mk (n0 + j * s) (s * k) H.get) (aIndex T t (aeval σ x) (aeval σ ix))) := rfl
theorem lgoK_extract (x : Operand) (ix : Nat) : (lgoK P T ops al k n0 s j rest dst σ log K H) (.extract x ix) = (lthenK P T ops al k n0 s j rest dst σ log K) ([], none) (extrA (AHeap.mk (n0 + j * s) (s * k) H.get) (aeval σ x) ix) := rfl
end
variable {rd : Bool} {nt : Nat} {Q : APost}
theorem awp_lexr (al : Bool) (hT : TOK P T) (hmx : P.follows .mixedOrders = true) {id : Nat} {ops : Array Oper} {y : Code} (hd : dstOk nt ops.toList = true) (hdown : downOk 0 ops.toList = true)
  (hfix : fixedOk ops.toList (unord (masks ops.toList) ops.toList.length) = true) (hq : (al || ops.toList.all fun o => quietOp o.op) = true)
  (h : ∀ U, U = unord (masks ops.toList) ops.toList.length → ∀ K : St → AHeap → List Foot → Prop, (∀ σ H log, logOk U log = true → AWP P rd nt y σ H Q → K σ H log) →
   aLex P T ops.toList al ops.toList.length H.n H.st 0 ops.toList σ H [] K) : AWP P rd nt (.seq (.region id ops true) y) σ H Q :=
 awp_seq (awp_lex al hT hmx hd hdown hfix hq fun U hU => h U hU _ fun _ _ _ h1 h2 => ⟨h1, h2⟩)
theorem awp_lexl (al : Bool) (hT : TOK P T) (hmx : P.follows .mixedOrders = true) {id : Nat} {ops : Array Oper} (hd : dstOk nt ops.toList = true) (hdown : downOk 0 ops.toList = true)
  (hfix : fixedOk ops.toList (unord (masks ops.toList) ops.toList.length) = true) (hq : (al || ops.toList.all fun o => quietOp o.op) = true)
  (h : ∀ U, U = unord (masks ops.toList) ops.toList.length → ∀ K : St → AHeap → List Foot → Prop, (∀ σ H log, logOk U log = true → Q .normal σ H → K σ H log) →
   aLex P T ops.toList al ops.toList.length H.n H.st 0 ops.toList σ H [] K) : AWP P rd nt (.region id ops true) σ H Q :=
 awp_lex al hT hmx hd hdown hfix hq fun U hU => h U hU _ fun _ _ _ h1 h2 => ⟨h1, h2⟩
end
theorem lguardK_t {P : Program} {T : TypeId → Option TE} {ops rest : List Oper} {al : Bool} {k n0 s j : Nat} {dst : Option Tmp} {σ : St} {log : List Foot} {K : St → AHeap → List Foot → Prop} {H : AHeap} {op : Op} :
  lguardK P T ops al k n0 s j rest dst σ log K H op (some true) = lgoK P T ops al k n0 s j rest dst σ log K H op := by simp [lguardK]
theorem lguardK_f {P : Program} {T : TypeId → Option TE} {ops rest : List Oper} {al : Bool} {k n0 s j : Nat} {dst : Option Tmp} {σ : St} {log : List Foot} {K : St → AHeap → List Foot → Prop} {H : AHeap} {op : Op} :
  lguardK P T ops al k n0 s j rest dst σ log K H op (some false) = aLex P T ops al k n0 s (j + 1) rest (σ.put dst .skip) H (log ++ [([], none)]) K := by simp [lguardK]
attribute [simp] aLex_nil aLex_plain aLex_guard lthenK_some lthenK_none lthenK_ite lgoK_call lgoK_builtin lguardK_t lguardK_f
 lgoK_move lgoK_assign lgoK_alloc lgoK_box lgoK_build lgoK_buildSlice lgoK_load lgoK_store lgoK_nilCheck lgoK_pick lgoK_binOp lgoK_unOp lgoK_convert lgoK_makeFunc lgoK_makeSlice lgoK_slice lgoK_fieldAddr lgoK_field lgoK_indexAddr lgoK_index lgoK_extract
 idOf widS touch wkind WK.wid LRes.av LRes.heap LRes.wid
section
variable {P : Program} {T : TypeId → Option TE} {rd : Bool} {nt : Nat} {σ : St} {H : AHeap} {Q : APost} {y : Code}
theorem q_seq (h : AWP P rd nt y σ H Q) : seqQ P rd nt y Q .normal σ H := h
theorem q_seq_ret (h : Q .ret σ H) : seqQ P rd nt y Q .ret σ H := h
theorem q_seq_exit {id : Nat} (h : Q (.exit id) σ H) : seqQ P rd nt y Q (.exit id) σ H := h
theorem q_block {id : Nat} (h : Q .normal σ H) : blockQ id Q .normal σ H := h
theorem q_block_ret {id : Nat} (h : Q .ret σ H) : blockQ id Q .ret σ H := h
theorem q_block_hit {id : Nat} (h : Q .normal σ H) : blockQ id Q (.exit id) σ H := by simpa [blockQ] using h
theorem q_block_miss {id id' : Nat} (hne : (id' == id) = false) (h : Q (.exit id') σ H) : blockQ id Q (.exit id') σ H := by
 have : ¬ id' = id := by simpa using hne
 simpa [blockQ, this] using h
def loopQ (I : Nat → St → AHeap → Prop) (n : Nat) (Q : APost) : APost
 | .normal, σ, H => ∃ m, m < n ∧ I m σ H
 | e, σ, H => Q e σ H
theorem q_loop_ret {I : Nat → St → AHeap → Prop} {n : Nat} (h : Q .ret σ H) : loopQ I n Q .ret σ H := h
theorem q_loop_exit {I : Nat → St → AHeap → Prop} {n id : Nat} (h : Q (.exit id) σ H) : loopQ I n Q (.exit id) σ H := h
theorem awp_loopV {c : Code} (I : Nat → St → AHeap → Prop) (h0 : ∃ n, I n σ H) (round : ∀ n σ H, I n σ H → AWP P rd nt c σ H (loopQ I n Q)) : AWP P rd nt (.loop c) σ H Q := by
 intro F G a w B hB hF hr ht hm b k cs hro hb hr'
 have key : ∀ (n : Nat) (σ : St) (H : AHeap) (G : Gh) (a : Act) (w : World), I n σ H → B ≤ w.heap.size → Rel G H w → TRel G w σ a nt → Marks B G w a.defers →
   ∃ e a' w', Post Q nt B G H w e a' w' ∧ ArrivesIn (Machine.fenced P F) P (lone (b.atR a (.code c :: .inLoop c :: k)) cs w) b k cs e a' w' := by
  intro n
  induction n using Nat.strongRecOn with
  | _ n ih =>
   intro σ H G a w hI hB hr ht hm
   obtain ⟨e, a₁, w₁, hq, harr⟩ := round n σ H hI F G a w B hB hF hr ht hm b (.inLoop c :: k) cs hro hb hr'
   obtain ⟨x, σ', H', G', rfl, h2, h3, h4, h5⟩ := hq
   cases x with
   | normal =>
    obtain ⟨m, hlt, hI'⟩ := h2
    obtain ⟨e₂, a₂, w₂, hq₂, harr₂⟩ := ih m hlt σ' H' G' a₁ w₁ hI' (Nat.le_trans hB h4.fr.size) h4.rel h3 h5
    exact ⟨e₂, a₂, w₂, hq₂.trans h4, .of_steps (StepsIn.trans harr (.one (fenced_calm hb hr' rfl) stepR_inLoop)) harr₂⟩
   | ret => exact ⟨.ret, a₁, w₁, ⟨.ret, σ', H', G', rfl, h2, h3, h4, h5⟩, .pass (x := .inLoop c) rfl (fun _ _ => .inl (by simp)) harr⟩
   | exit id => exact ⟨.exit id, a₁, w₁, ⟨.exit id, σ', H', G', rfl, h2, h3, h4, h5⟩, .pass (x := .inLoop c) rfl (fun _ _ => .inl (by simp)) harr⟩
 obtain ⟨n, h0⟩ := h0
 obtain ⟨e, a', w', hq, harr⟩ := key n σ H G a w h0 hB hr ht hm
 exact ⟨e, a', w', hq, .of_steps (.one (fenced_calm hb hr' rfl) stepR_loop) harr⟩
theorem awp_ok {c : Code} (h : H.Ok → AWP P rd nt c σ H Q) : AWP P rd nt c σ H Q :=
 fun F G a w B hB hF hr ht hm => h hr.ok F G a w B hB hF hr ht hm
theorem stp_reg (hT : TOK P T) {id : Nat} {ops : Array Oper} (hd : dstOk nt ops.toList = true)
  (h : ∀ K : St → AHeap → Prop, (∀ σ H, (∀ σ', σ' = σ → ∀ H', H' = H → AWP P rd nt y σ' H' Q) → K σ H) → aSeq P T ops.toList ops.toList σ H K) : AWP P rd nt (.seq (.region id ops false) y) σ H Q :=
 awp_reg hT hd fun K hK => h K fun σ H h => hK σ H (h σ rfl H rfl)
theorem stp_regl (hT : TOK P T) {id : Nat} {ops : Array Oper} (hd : dstOk nt ops.toList = true)
  (h : ∀ K : St → AHeap → Prop, (∀ σ H, (∀ σ', σ' = σ → ∀ H', H' = H → Q .normal σ' H') → K σ H) → aSeq P T ops.toList ops.toList σ H K) : AWP P rd nt (.region id ops false) σ H Q :=
 awp_regl hT hd fun K hK => h K fun σ H h => hK σ H (h σ rfl H rfl)
theorem stp_lex (al : Bool) (hT : TOK P T) (hmx : P.follows .mixedOrders = true) {id : Nat} {ops : Array Oper} (hd : dstOk nt ops.toList = true) (hdown : downOk 0 ops.toList = true)
  (hfix : fixedOk ops.toList (unord (masks ops.toList) ops.toList.length) = true) (hq : (al || ops.toList.all fun o => quietOp o.op) = true)
  (h : ∀ U, U = unord (masks ops.toList) ops.toList.length → ∀ K : St → AHeap → List Foot → Prop, (∀ σ H log, logOk U log = true → (∀ σ', σ' = σ → ∀ H', H' = H → AWP P rd nt y σ' H' Q) → K σ H log) →
   aLex P T ops.toList al ops.toList.length H.n H.st 0 ops.toList σ H [] K) : AWP P rd nt (.seq (.region id ops true) y) σ H Q :=
 awp_lexr al hT hmx hd hdown hfix hq fun U hU K hK => h U hU K fun σ H log h1 h2 => hK σ H log h1 (h2 σ rfl H rfl)
theorem stp_lexl (al : Bool) (hT : TOK P T) (hmx : P.follows .mixedOrders = true) {id : Nat} {ops : Array Oper} (hd : dstOk nt ops.toList = true) (hdown : downOk 0 ops.toList = true)
  (hfix : fixedOk ops.toList (unord (masks ops.toList) ops.toList.length) = true) (hq : (al || ops.toList.all fun o => quietOp o.op) = true)
  (h : ∀ U, U = unord (masks ops.toList) ops.toList.length → ∀ K : St → AHeap → List Foot → Prop, (∀ σ H log, logOk U log = true → (∀ σ', σ' = σ → ∀ H', H' = H → Q .normal σ' H') → K σ H log) →
   aLex P T ops.toList al ops.toList.length H.n H.st 0 ops.toList σ H [] K) : AWP P rd nt (.region id ops true) σ H Q :=
 awp_lexl al hT hmx hd hdown hfix hq fun U hU K hK => h U hU K fun σ H log h1 h2 => hK σ H log h1 (h2 σ rfl H rfl)
theorem stp_true {c : Operand} {x y : Code} (hc : aeval σ c = .bool true) (h1 : AWP P rd nt x σ H Q) : AWP P rd nt (.cond c x y) σ H Q :=
 awp_cond true hc (fun _ => h1) (fun h => by cases h)
theorem stp_false {c : Operand} {x y : Code} (hc : aeval σ c = .bool false) (h1 : AWP P rd nt y σ H Q) : AWP P rd nt (.cond c x y) σ H Q :=
 awp_cond false hc (fun h => by cases h) (fun _ => h1)
theorem stp_call {f : FuncId} {args : List AV} {r : AV} (h : Fun1 P f args r) {K : AV → AHeap → Prop} (hk : K r H) : ACalls P f args H K :=
 (h H).mono fun r' H' ⟨h1, h2⟩ => by subst h1; subst h2; exact hk
def FunRow (P : Program) (f : FuncId) (args : List AV) (e : TypeId) (sz : Nat) (es : List AV) : Prop := ∀ H, ACalls P f args H fun r H' => H' = H.alloc (.row e sz 0 es) ∧ r = .sl H.n 0 0 es.length
theorem lex_call {f : FuncId} {args caps : List AV} {r : AV} (h : Fun1 P f (args ++ caps) r) {ops rest : List Oper} {al : Bool} {k n0 s j : Nat} {dst : Option Tmp} {log : List Foot} {K : St → AHeap → List Foot → Prop}
  (hk : aLex P T ops al k n0 s (j + 1) rest (σ.put dst r) H (log ++ [([], none)]) K) : lcallK P T ops al k n0 s j rest dst σ log K H (.fn f caps) args :=
 ⟨[], .val r, by simp [LRes.wid], fun H' _ => (h H').mono fun v H2 ⟨h1, h2⟩ => ⟨h2, h1⟩, hk⟩
theorem q_fin0 {K : AV → AHeap → Prop} (h : K (.tup []) H) : retQ T [] K .normal σ H := ⟨_, rfl, h⟩
theorem q_fin0r {K : AV → AHeap → Prop} (h : K (.tup []) H) : retQ T [] K .ret σ H := ⟨_, rfl, h⟩
theorem q_fin1 {K : AV → AHeap → Prop} {t : Tmp} {v : AV} (ht : σ t = v) (h : K v H) : retQ T [.tmp t] K .ret σ H := ⟨v, by simp [aRes, aResL, aRes1, ht], h⟩
theorem q_fin2 {K : AV → AHeap → Prop} {t u : Tmp} {v w : AV} (ht : σ t = v) (hu : σ u = w) (h : K (.tup [v, w]) H) : retQ T [.tmp t, .tmp u] K .ret σ H := ⟨_, by simp [aRes, aResL, aRes1, ht, hu], h⟩
theorem q_finC {K : AV → AHeap → Prop} {p : Tmp} {t : TypeId} {te : TE} {v : AV} {H' : AHeap} (hte : T t = some te) (hl : aLoad te H (σ p) = some (v, H')) (h : K v H) : retQ T [.cell p t] K .ret σ H :=
 ⟨v, by simp only [aRes, aResL, aRes1, hte, hl], h⟩
theorem ne_get {H : AHeap} {i m : Nat} {b : Blk} (hf : H.get m = none) (hg : H.get i = some b) : ¬ m = i ∧ ¬ i = m :=
 ⟨fun e => by { rw [e, hg] at hf; cases hf }, fun e => by { rw [e, hf] at hg; cases hg }⟩
theorem fs2 {f g : St} (h : f = g) (a0 a1 : Nat) : f a0 = g a0 ∧ f a1 = g a1 := by subst h; exact ⟨rfl, rfl⟩
theorem fs3 {f g : St} (h : f = g) (a0 a1 a2 : Nat) : f a0 = g a0 ∧ f a1 = g a1 ∧ f a2 = g a2 := by subst h; exact ⟨rfl, rfl, rfl⟩
theorem fs4 {f g : St} (h : f = g) (a0 a1 a2 a3 : Nat) : f a0 = g a0 ∧ f a1 = g a1 ∧ f a2 = g a2 ∧ f a3 = g a3 := by subst h; exact ⟨rfl, rfl, rfl, rfl⟩
theorem fs5 {f g : St} (h : f = g) (a0 a1 a2 a3 a4 : Nat) : f a0 = g a0 ∧ f a1 = g a1 ∧ f a2 = g a2 ∧ f a3 = g a3 ∧ f a4 = g a4 := by subst h; exact ⟨rfl, rfl, rfl, rfl, rfl⟩
theorem fs6 {f g : St} (h : f = g) (a0 a1 a2 a3 a4 a5 : Nat) : f a0 = g a0 ∧ f a1 = g a1 ∧ f a2 = g a2 ∧ f a3 = g a3 ∧ f a4 = g a4 ∧ f a5 = g a5 := by subst h; exact ⟨rfl, rfl, rfl, rfl, rfl, rfl⟩
theorem fs7 {f g : St} (h : f = g) (a0 a1 a2 a3 a4 a5 a6 : Nat) : f a0 = g a0 ∧ f a1 = g a1 ∧ f a2 = g a2 ∧ f a3 = g a3 ∧ f a4 = g a4 ∧ f a5 = g a5 ∧ f a6 = g a6 := by subst h; exact ⟨rfl, rfl, rfl, rfl, rfl, rfl, rfl⟩
theorem fs8 {f g : St} (h : f = g) (a0 a1 a2 a3 a4 a5 a6 a7 : Nat) : f a0 = g a0 ∧ f a1 = g a1 ∧ f a2 = g a2 ∧ f a3 = g a3 ∧ f a4 = g a4 ∧ f a5 = g a5 ∧ f a6 = g a6 ∧ f a7 = g a7 := by subst h; exact ⟨rfl, rfl, rfl, rfl, rfl, rfl, rfl, rfl⟩
theorem fs9 {f g : St} (h : f = g) (a0 a1 a2 a3 a4 a5 a6 a7 a8 : Nat) : f a0 = g a0 ∧ f a1 = g a1 ∧ f a2 = g a2 ∧ f a3 = g a3 ∧ f a4 = g a4 ∧ f a5 = g a5 ∧ f a6 = g a6 ∧ f a7 = g a7 ∧ f a8 = g a8 := by subst h; exact ⟨rfl, rfl, rfl, rfl, rfl, rfl, rfl, rfl, rfl⟩
theorem fs10 {f g : St} (h : f = g) (a0 a1 a2 a3 a4 a5 a6 a7 a8 a9 : Nat) : f a0 = g a0 ∧ f a1 = g a1 ∧ f a2 = g a2 ∧ f a3 = g a3 ∧ f a4 = g a4 ∧ f a5 = g a5 ∧ f a6 = g a6 ∧ f a7 = g a7 ∧ f a8 = g a8 ∧ f a9 = g a9 := by subst h; exact ⟨rfl, rfl, rfl, rfl, rfl, rfl, rfl, rfl, rfl, rfl⟩
theorem fs11 {f g : St} (h : f = g) (a0 a1 a2 a3 a4 a5 a6 a7 a8 a9 a10 : Nat) : f a0 = g a0 ∧ f a1 = g a1 ∧ f a2 = g a2 ∧ f a3 = g a3 ∧ f a4 = g a4 ∧ f a5 = g a5 ∧ f a6 = g a6 ∧ f a7 = g a7 ∧ f a8 = g a8 ∧ f a9 = g a9 ∧ f a10 = g a10 := by subst h; exact ⟨rfl, rfl, rfl, rfl, rfl, rfl, rfl, rfl, rfl, rfl, rfl⟩
theorem fs12 {f g : St} (h : f = g) (a0 a1 a2 a3 a4 a5 a6 a7 a8 a9 a10 a11 : Nat) : f a0 = g a0 ∧ f a1 = g a1 ∧ f a2 = g a2 ∧ f a3 = g a3 ∧ f a4 = g a4 ∧ f a5 = g a5 ∧ f a6 = g a6 ∧ f a7 = g a7 ∧ f a8 = g a8 ∧ f a9 = g a9 ∧ f a10 = g a10 ∧ f a11 = g a11 := by subst h; exact ⟨rfl, rfl, rfl, rfl, rfl, rfl, rfl, rfl, rfl, rfl, rfl, rfl⟩
theorem an2 {p0 p1 : Prop} (h0 : p0) (h1 : p1) : p0 ∧ p1 := ⟨h0, h1⟩
theorem an3 {p0 p1 p2 : Prop} (h0 : p0) (h1 : p1) (h2 : p2) : p0 ∧ p1 ∧ p2 := ⟨h0, h1, h2⟩
theorem an4 {p0 p1 p2 p3 : Prop} (h0 : p0) (h1 : p1) (h2 : p2) (h3 : p3) : p0 ∧ p1 ∧ p2 ∧ p3 := ⟨h0, h1, h2, h3⟩
theorem an5 {p0 p1 p2 p3 p4 : Prop} (h0 : p0) (h1 : p1) (h2 : p2) (h3 : p3) (h4 : p4) : p0 ∧ p1 ∧ p2 ∧ p3 ∧ p4 := ⟨h0, h1, h2, h3, h4⟩
theorem an6 {p0 p1 p2 p3 p4 p5 : Prop} (h0 : p0) (h1 : p1) (h2 : p2) (h3 : p3) (h4 : p4) (h5 : p5) : p0 ∧ p1 ∧ p2 ∧ p3 ∧ p4 ∧ p5 := ⟨h0, h1, h2, h3, h4, h5⟩
theorem an7 {p0 p1 p2 p3 p4 p5 p6 : Prop} (h0 : p0) (h1 : p1) (h2 : p2) (h3 : p3) (h4 : p4) (h5 : p5) (h6 : p6) : p0 ∧ p1 ∧ p2 ∧ p3 ∧ p4 ∧ p5 ∧ p6 := ⟨h0, h1, h2, h3, h4, h5, h6⟩
theorem an8 {p0 p1 p2 p3 p4 p5 p6 p7 : Prop} (h0 : p0) (h1 : p1) (h2 : p2) (h3 : p3) (h4 : p4) (h5 : p5) (h6 : p6) (h7 : p7) : p0 ∧ p1 ∧ p2 ∧ p3 ∧ p4 ∧ p5 ∧ p6 ∧ p7 := ⟨h0, h1, h2, h3, h4, h5, h6, h7⟩
theorem an9 {p0 p1 p2 p3 p4 p5 p6 p7 p8 : Prop} (h0 : p0) (h1 : p1) (h2 : p2) (h3 : p3) (h4 : p4) (h5 : p5) (h6 : p6) (h7 : p7) (h8 : p8) : p0 ∧ p1 ∧ p2 ∧ p3 ∧ p4 ∧ p5 ∧ p6 ∧ p7 ∧ p8 := ⟨h0, h1, h2, h3, h4, h5, h6, h7, h8⟩
theorem an10 {p0 p1 p2 p3 p4 p5 p6 p7 p8 p9 : Prop} (h0 : p0) (h1 : p1) (h2 : p2) (h3 : p3) (h4 : p4) (h5 : p5) (h6 : p6) (h7 : p7) (h8 : p8) (h9 : p9) : p0 ∧ p1 ∧ p2 ∧ p3 ∧ p4 ∧ p5 ∧ p6 ∧ p7 ∧ p8 ∧ p9 := ⟨h0, h1, h2, h3, h4, h5, h6, h7, h8, h9⟩
theorem an12 {p0 p1 p2 p3 p4 p5 p6 p7 p8 p9 p10 p11 : Prop} (h0 : p0) (h1 : p1) (h2 : p2) (h3 : p3) (h4 : p4) (h5 : p5) (h6 : p6) (h7 : p7) (h8 : p8) (h9 : p9) (h10 : p10) (h11 : p11) : p0 ∧ p1 ∧ p2 ∧ p3 ∧ p4 ∧ p5 ∧ p6 ∧ p7 ∧ p8 ∧ p9 ∧ p10 ∧ p11 := ⟨h0, h1, h2, h3, h4, h5, h6, h7, h8, h9, h10, h11⟩
theorem an14 {p0 p1 p2 p3 p4 p5 p6 p7 p8 p9 p10 p11 p12 p13 : Prop} (h0 : p0) (h1 : p1) (h2 : p2) (h3 : p3) (h4 : p4) (h5 : p5) (h6 : p6) (h7 : p7) (h8 : p8) (h9 : p9) (h10 : p10) (h11 : p11) (h12 : p12) (h13 : p13) : p0 ∧ p1 ∧ p2 ∧ p3 ∧ p4 ∧ p5 ∧ p6 ∧ p7 ∧ p8 ∧ p9 ∧ p10 ∧ p11 ∧ p12 ∧ p13 := ⟨h0, h1, h2, h3, h4, h5, h6, h7, h8, h9, h10, h11, h12, h13⟩
theorem an15 {p0 p1 p2 p3 p4 p5 p6 p7 p8 p9 p10 p11 p12 p13 p14 : Prop} (h0 : p0) (h1 : p1) (h2 : p2) (h3 : p3) (h4 : p4) (h5 : p5) (h6 : p6) (h7 : p7) (h8 : p8) (h9 : p9) (h10 : p10) (h11 : p11) (h12 : p12) (h13 : p13) (h14 : p14) : p0 ∧ p1 ∧ p2 ∧ p3 ∧ p4 ∧ p5 ∧ p6 ∧ p7 ∧ p8 ∧ p9 ∧ p10 ∧ p11 ∧ p12 ∧ p13 ∧ p14 := ⟨h0, h1, h2, h3, h4, h5, h6, h7, h8, h9, h10, h11, h12, h13, h14⟩
theorem an17 {p0 p1 p2 p3 p4 p5 p6 p7 p8 p9 p10 p11 p12 p13 p14 p15 p16 : Prop} (h0 : p0) (h1 : p1) (h2 : p2) (h3 : p3) (h4 : p4) (h5 : p5) (h6 : p6) (h7 : p7) (h8 : p8) (h9 : p9) (h10 : p10) (h11 : p11) (h12 : p12) (h13 : p13) (h14 : p14) (h15 : p15) (h16 : p16) : p0 ∧ p1 ∧ p2 ∧ p3 ∧ p4 ∧ p5 ∧ p6 ∧ p7 ∧ p8 ∧ p9 ∧ p10 ∧ p11 ∧ p12 ∧ p13 ∧ p14 ∧ p15 ∧ p16 := ⟨h0, h1, h2, h3, h4, h5, h6, h7, h8, h9, h10, h11, h12, h13, h14, h15, h16⟩
theorem an18 {p0 p1 p2 p3 p4 p5 p6 p7 p8 p9 p10 p11 p12 p13 p14 p15 p16 p17 : Prop} (h0 : p0) (h1 : p1) (h2 : p2) (h3 : p3) (h4 : p4) (h5 : p5) (h6 : p6) (h7 : p7) (h8 : p8) (h9 : p9) (h10 : p10) (h11 : p11) (h12 : p12) (h13 : p13) (h14 : p14) (h15 : p15) (h16 : p16) (h17 : p17) : p0 ∧ p1 ∧ p2 ∧ p3 ∧ p4 ∧ p5 ∧ p6 ∧ p7 ∧ p8 ∧ p9 ∧ p10 ∧ p11 ∧ p12 ∧ p13 ∧ p14 ∧ p15 ∧ p16 ∧ p17 := ⟨h0, h1, h2, h3, h4, h5, h6, h7, h8, h9, h10, h11, h12, h13, h14, h15, h16, h17⟩
theorem an21 {p0 p1 p2 p3 p4 p5 p6 p7 p8 p9 p10 p11 p12 p13 p14 p15 p16 p17 p18 p19 p20 : Prop} (h0 : p0) (h1 : p1) (h2 : p2) (h3 : p3) (h4 : p4) (h5 : p5) (h6 : p6) (h7 : p7) (h8 : p8) (h9 : p9) (h10 : p10) (h11 : p11) (h12 : p12) (h13 : p13) (h14 : p14) (h15 : p15) (h16 : p16) (h17 : p17) (h18 : p18) (h19 : p19) (h20 : p20) : p0 ∧ p1 ∧ p2 ∧ p3 ∧ p4 ∧ p5 ∧ p6 ∧ p7 ∧ p8 ∧ p9 ∧ p10 ∧ p11 ∧ p12 ∧ p13 ∧ p14 ∧ p15 ∧ p16 ∧ p17 ∧ p18 ∧ p19 ∧ p20 := ⟨h0, h1, h2, h3, h4, h5, h6, h7, h8, h9, h10, h11, h12, h13, h14, h15, h16, h17, h18, h19, h20⟩
theorem an22 {p0 p1 p2 p3 p4 p5 p6 p7 p8 p9 p10 p11 p12 p13 p14 p15 p16 p17 p18 p19 p20 p21 : Prop} (h0 : p0) (h1 : p1) (h2 : p2) (h3 : p3) (h4 : p4) (h5 : p5) (h6 : p6) (h7 : p7) (h8 : p8) (h9 : p9) (h10 : p10) (h11 : p11) (h12 : p12) (h13 : p13) (h14 : p14) (h15 : p15) (h16 : p16) (h17 : p17) (h18 : p18) (h19 : p19) (h20 : p20) (h21 : p21) : p0 ∧ p1 ∧ p2 ∧ p3 ∧ p4 ∧ p5 ∧ p6 ∧ p7 ∧ p8 ∧ p9 ∧ p10 ∧ p11 ∧ p12 ∧ p13 ∧ p14 ∧ p15 ∧ p16 ∧ p17 ∧ p18 ∧ p19 ∧ p20 ∧ p21 := ⟨h0, h1, h2, h3, h4, h5, h6, h7, h8, h9, h10, h11, h12, h13, h14, h15, h16, h17, h18, h19, h20, h21⟩
theorem an24 {p0 p1 p2 p3 p4 p5 p6 p7 p8 p9 p10 p11 p12 p13 p14 p15 p16 p17 p18 p19 p20 p21 p22 p23 : Prop} (h0 : p0) (h1 : p1) (h2 : p2) (h3 : p3) (h4 : p4) (h5 : p5) (h6 : p6) (h7 : p7) (h8 : p8) (h9 : p9) (h10 : p10) (h11 : p11) (h12 : p12) (h13 : p13) (h14 : p14) (h15 : p15) (h16 : p16) (h17 : p17) (h18 : p18) (h19 : p19) (h20 : p20) (h21 : p21) (h22 : p22) (h23 : p23) : p0 ∧ p1 ∧ p2 ∧ p3 ∧ p4 ∧ p5 ∧ p6 ∧ p7 ∧ p8 ∧ p9 ∧ p10 ∧ p11 ∧ p12 ∧ p13 ∧ p14 ∧ p15 ∧ p16 ∧ p17 ∧ p18 ∧ p19 ∧ p20 ∧ p21 ∧ p22 ∧ p23 := ⟨h0, h1, h2, h3, h4, h5, h6, h7, h8, h9, h10, h11, h12, h13, h14, h15, h16, h17, h18, h19, h20, h21, h22, h23⟩
theorem gt_of {H H' : AHeap} (h : H = H') (i : Nat) : H.get i = H'.get i := by rw [h]
end
attribute [simp] afterK
inductive Scal : AV → Prop
 | skip : Scal .skip
 | bool (b : Bool) : Scal (.bool b)
 | int (k : IntKind) (n : Int) : Scal (.int k n)
 | str (s : ByteArray) : Scal (.str s)
 | nilp : Scal .nilp
 | nils : Scal .nils
 | emp : Scal .emp
 | roe : Scal .roe
 | nilm : Scal .nilm
 | nilf : Scal .nilf
 | agg {cs : List AV} (h : ∀ v ∈ cs, Scal v) : Scal (.agg cs)
 | tup {cs : List AV} (h : ∀ v ∈ cs, Scal v) : Scal (.tup cs)
section
variable {P : Program} {T : TypeId → Option TE}
theorem VRel.scal {G G' : Gh} {w w' : World} {v : AV} {c : Value} (h : VRel G w v c) (hp : Scal v) : VRel G' w' v c := by
 induction h with
 | undef v => cases hp
 | skip => exact .skip
 | bool b => exact .bool b
 | int k n => exact .int k n
 | str s => exact .str s
 | nilp => exact .nilp
 | ptr h hg => cases hp
 | rop hc h1 hv ih => cases hp
 | nils => exact .nils
 | emp a => exact .emp a
 | roe a c h => exact .roe a c h
 | ronil a => exact .ronil a
 | ro hs h1 hc hv hl ih => cases hp
 | sl h hg hc hl ho => cases hp
 | nilm => exact .nilm
 | map h => cases hp
 | fn hs hv ih => cases hp
 | nilf => exact .nilf
 | yl h => cases hp
 | agg hs h1 hv ih =>
  cases hp with
  | agg hp => exact .agg hs h1 (fun j v c hj hc => ih j v c hj hc (hp v (List.mem_of_getElem? hj)))
 | tup hs hv ih =>
  cases hp with
  | tup hp => exact .tup hs (fun j v c hj hc => ih j v c hj hc (hp v (List.mem_of_getElem? hj)))
inductive Frw (H : AHeap) : AV → AV → Prop
 | scal {v : AV} (h : Scal v) : Frw H v v
 | sl {id e sz g off len : Nat} {es fs : List AV} (hb : H.get id = some (.row e sz g es)) (hle : off + len ≤ es.length) (hl : fs.length = len)
   (h : ∀ (j : Nat) (x y : AV), es[off + j]? = some x → fs[j]? = some y → ∀ (q : Nat) (u v : AV), x.cells[q]? = some u → y.cells[q]? = some v → Frw H u v) (hs : ∀ y ∈ fs, ∃ x ∈ es, y.cells.length = x.cells.length) (h1 : ∀ y ∈ fs, ∀ v ∈ y.cells, v.one = true) : Frw H (.sl id g off len) (.ro fs)
 | ptr {id e sz g i : Nat} {es : List AV} {x y : AV} (hb : H.get id = some (.row e sz g es)) (hx : es[i]? = some x) (hl : y.cells.length = x.cells.length) (h1 : ∀ v ∈ y.cells, v.one = true)
   (h : ∀ (j : Nat) (u v : AV), x.cells[j]? = some u → y.cells[j]? = some v → Frw H u v) : Frw H (.ptr id g i 0) (.rop y.cells)
 | nils : Frw H .nils (.ro [])
 | emp : Frw H .emp (.ro [])
 | roe : Frw H .roe (.ro [])
 | fn {f : FuncId} {cs ds : List AV} (hl : ds.length = cs.length) (h : ∀ (j : Nat) (x y : AV), cs[j]? = some x → ds[j]? = some y → Frw H x y) : Frw H (.fn f cs) (.fn f ds)
 | agg {cs ds : List AV} (hl : ds.length = cs.length) (h1 : ∀ v ∈ ds, v.one = true) (h : ∀ (j : Nat) (x y : AV), cs[j]? = some x → ds[j]? = some y → Frw H x y) : Frw H (.agg cs) (.agg ds)
 | tup {cs ds : List AV} (hl : ds.length = cs.length) (h : ∀ (j : Nat) (x y : AV), cs[j]? = some x → ds[j]? = some y → Frw H x y) : Frw H (.tup cs) (.tup ds)
theorem VRel.frw {G : Gh} {H : AHeap} {w : World} (hr : Rel G H w) {J : Nat → Prop} (hJ : ∀ i a, H.get i = some a → J (G.blk i a.gen)) {v v' : AV} (h : Frw H v v') : ∀ {c : Value}, VRel G w v c → VRel { G with I := J } w v' c := by
 have hown : ∀ {id : Nat} {b : Blk}, H.get id = some b → J (G.blk id b.gen) := fun hb => hJ _ _ hb
 induction h with
 | scal hp => intro c hv; exact hv.scal hp
 | @sl id e sz g off len es fs hb hle hl h hs h1 ih =>
  intro c hv
  cases hv with
  | @sl _ _ _ _ o cc hid hg hc hl' ho =>
   have hones := hr.ones hb
   obtain ⟨_, _, hsz, hpos⟩ := hr.row hb
   subst hl
   have hfs : ∀ y ∈ fs, y.cells.length = sz := fun y hy => by obtain ⟨x, hx, he⟩ := hs y hy; rw [he]; exact (hones x hx).1
   by_cases h0 : fs.length = 0
   ·have : fs = [] := List.eq_nil_of_length_eq_zero h0
    subst this
    exact VRel.ro (es := []) (sz := sz) (f := fun _ => Go.undef) (by simp) (by simp) (by simp) (by simp) (Nat.zero_le _)
   ·have hoo : o = G.base id g + off * sz := by
     rcases ho with ho | ho
     ·rw [ho, hsz]
     ·omega
    have hat : ∀ (i : Nat) (x : AV) (j : Nat) (u : AV), es[i]? = some x → x.cells[j]? = some u → ∃ cc, w.cell? ⟨G.blk id g, G.base id g + i * sz + j, none⟩ = some cc ∧ VRel G w u cc := fun i x j u hx hu => hr.at hb hx j u hu
    refine VRel.ro (sz := sz) (f := fun q => (w.cell? ⟨G.blk id g, o + q, none⟩).getD Go.undef) hfs h1 ?_ ?_ hl'
    ·intro q hq
     have hi : q / sz < fs.length := Nat.div_lt_of_lt_mul (by rw [Nat.mul_comm]; exact hq)
     have hm : q % sz < sz := Nat.mod_lt _ hpos
     have he : q / sz * sz + q % sz = q := by rw [Nat.mul_comm]; exact Nat.div_add_mod q sz
     have hx : es[off + q / sz]? = some es[off + q / sz] := by rw [List.getElem?_eq_getElem]
     have hxl := (hones _ (List.getElem_mem (l := es) (n := off + q / sz) (by omega))).1
     obtain ⟨cc', hcc, _⟩ := hat _ _ (q % sz) _ hx (List.getElem?_eq_getElem (by rw [hxl]; exact hm))
     refine ⟨hown hb, ?_⟩
     rw [show G.base id g + (off + q / sz) * sz + q % sz = o + q by rw [hoo, Nat.add_mul]; omega] at hcc
     simp only [Blk.gen] at *
     rw [hcc]; rfl
    ·intro i y j v hy hv
     have hil : i < fs.length := (List.getElem?_eq_some_iff.1 hy).1
     have hx : es[off + i]? = some es[off + i] := by rw [List.getElem?_eq_getElem]
     have hxl := hones _ (List.getElem_mem (l := es) (n := off + i) (by omega))
     have hjs : j < sz := by rw [← hfs y (List.mem_of_getElem? hy)]; exact (List.getElem?_eq_some_iff.1 hv).1
     have hu : (es[off + i]).cells[j]? = some (es[off + i]).cells[j] := by rw [List.getElem?_eq_getElem]
     obtain ⟨cc', hcc, hvr⟩ := hat _ _ j _ hx hu
     rw [show G.base id g + (off + i) * sz + j = o + (i * sz + j) by rw [hoo, Nat.add_mul]; omega] at hcc
     rw [hcc]
     simp only [Option.getD_some]
     exact ih i _ _ hx hy j _ _ hu hv hvr
 | @ptr id e sz g i es x y hb hx hl h1 h ih =>
  intro c hv
  cases hv with
  | ptr hid hg =>
   obtain ⟨_, _, hsz, hpos⟩ := hr.row hb
   have hat := hr.at hb hx
   rw [Nat.add_zero, ← hsz]
   refine VRel.rop (f := fun q => (w.cell? ⟨G.blk id g, G.base id g + i * sz + q, none⟩).getD Go.undef) ?_ h1 ?_
   ·intro j hj
    have hu : x.cells[j]? = some x.cells[j] := by rw [List.getElem?_eq_getElem]
    obtain ⟨cc, hcc, _⟩ := hat j _ hu
    exact ⟨hown hb, by rw [hcc]; rfl⟩
   ·intro j v hv
    have hj : j < x.cells.length := by rw [← hl]; exact (List.getElem?_eq_some_iff.1 hv).1
    have hu : x.cells[j]? = some x.cells[j] := by rw [List.getElem?_eq_getElem]
    obtain ⟨cc, hcc, hvr⟩ := hat j _ hu
    rw [hcc]
    exact ih j _ _ hu hv hvr
 | nils => intro c hv; cases hv; exact .ronil none
 | emp =>
  intro c hv
  cases hv with
  | emp a => exact .ronil a
 | roe =>
  intro c hv
  cases hv with
  | roe a c ha =>
   obtain ⟨b, o, sp⟩ := a
   rcases ha with rfl | rfl
   ·exact VRel.ro (es := []) (sz := 1) (f := fun _ => Go.undef) (by simp) (by simp) (by simp) (by simp) (Nat.zero_le _)
   ·exact .ronil _
 | fn hl h ih =>
  intro c hv
  cases hv with
  | @fn _ _ cv hs hv =>
   refine .fn (by rw [hs, hl]) (fun j v c hj hc => ?_)
   have hlt := (List.getElem?_eq_some_iff.1 hj).1
   exact ih j _ v (List.getElem?_eq_getElem (by omega)) hj (hv j _ c (List.getElem?_eq_getElem (by omega)) hc)
 | agg hl h1 h ih =>
  intro c hv
  cases hv with
  | agg hs h1' hv =>
   refine .agg (by rw [hs, hl]) h1 (fun j v c hj hc => ?_)
   have hlt := (List.getElem?_eq_some_iff.1 hj).1
   exact ih j _ v (List.getElem?_eq_getElem (by omega)) hj (hv j _ c (List.getElem?_eq_getElem (by omega)) hc)
 | tup hl h ih =>
  intro c hv
  cases hv with
  | tup hs hv =>
   refine .tup (by rw [hs, hl]) (fun j v c hj hc => ?_)
   have hlt := (List.getElem?_eq_some_iff.1 hj).1
   exact ih j _ v (List.getElem?_eq_getElem (by omega)) hj (hv j _ c (List.getElem?_eq_getElem (by omega)) hc)
def FrzL (H : AHeap) (args' args : List AV) : Prop := args'.length = args.length ∧ ∀ (j : Nat) (x y : AV), args'[j]? = some x → args[j]? = some y → Frz H x y
theorem FrzL.nil (H : AHeap) : FrzL H [] [] := ⟨rfl, fun j x y h => by simp at h⟩
theorem FrzL.cons {H : AHeap} {x y : AV} {xs ys : List AV} (h : Frz H x y) (hs : FrzL H xs ys) : FrzL H (x :: xs) (y :: ys) :=
 ⟨by simp [hs.1], fun j u v hu hv => by
  cases j with
  | zero => simp at hu hv; subst hu; subst hv; exact h
  | succ j => exact hs.2 j u v (by simpa using hu) (by simpa using hv)⟩
theorem ACalls.pureW {f : FuncId} {args : List AV} {K0 : AV → AHeap → Prop} {K : AV → Prop} (h : ACalls P f args AHeap.nil K0) (hp : ∀ a ∈ args, Pu a)
  (hk : ∀ r H', K0 r H' → ∃ r', Frw H' r r' ∧ Pu r' ∧ K r') {H : AHeap} {args' : List AV} (hf : FrzL H args' args) : ACalls P f args' H fun r H' => H' = H ∧ K r := by
 refine ⟨h.1, fun G w cargs hr hs hv => ?_⟩
 have hn : Rel { (G.freeze H) with dom := fun _ => False } AHeap.nil w :=
  ⟨⟨Nat.one_pos, fun _ => rfl⟩, fun _ h => h.elim, fun id b h => by simp [AHeap.nil] at h, fun i j a b h => by simp [AHeap.nil] at h, fun i a h => by simp [AHeap.nil] at h, fun b hb => by
   rcases hb with hb | ⟨i, a, ha, rfl⟩
   ·exact hr.ilt b hb
   ·exact hr.lt ha⟩
 refine (h.2 _ w cargs hn (hs.trans hf.1) (fun j v c hj hc => ?_)).mono ?_
 ·have hlt : j < args'.length := by rw [hf.1]; exact (List.getElem?_eq_some_iff.1 hj).1
  exact (VRel.freeze hr (hf.2 j _ v (List.getElem?_eq_getElem hlt) hj) (hv j _ c (List.getElem?_eq_getElem hlt) hc)).toI (hp v (List.mem_of_getElem? hj)) _ (fun _ hb => hb)
 rintro e w' ⟨v, r, H', G', rfl, hK, hvr, hg⟩
 obtain ⟨r', hfr', hpu, hK'⟩ := hk r H' hK
 let J : Nat → Prop := fun b => G.I b ∨ ∃ i a, H'.get i = some a ∧ G'.blk i a.gen = b
 have hfr := VRel.frw hg.rel (J := J) (fun i a ha => .inr ⟨i, a, ha, rfl⟩) hfr' hvr
 have hnew : ∀ b, J b → G.I b ∨ w.heap.size ≤ b := by
  rintro b (hb | ⟨i, a, ha, rfl⟩)
  ·exact .inl hb
  ·rcases hg.own i a ha with h1 | ⟨j, b, hb, _⟩
   ·exact .inr h1
   ·simp [AHeap.nil] at hb
 have hlt : ∀ b, J b → b < w'.heap.size := by
  rintro b (hb | ⟨i, a, ha, rfl⟩)
  ·exact Nat.lt_of_lt_of_le (hr.ilt b hb) hg.fr.size
  ·exact hg.rel.lt ha
 have hold : ∀ b, b < w.heap.size → w'.heap[b]? = w.heap[b]? := fun b hb => hg.fr.block b hb (fun i a ha => by simp [AHeap.nil] at ha)
 have he : Ext G { G with I := J } := ⟨fun _ h => h, fun _ _ => Nat.le_refl _, fun _ _ => rfl, fun _ _ _ _ => rfl, fun _ _ _ _ => rfl, fun _ _ _ _ => rfl, fun b hb => .inl hb⟩
 refine ⟨v, r', H, { G with I := J }, rfl, ⟨rfl, hK'⟩, hfr.toI hpu _ (fun _ hb => hb), ?_⟩
 refine ⟨⟨hr.ok, hr.dom, fun id b hb => ⟨(hr.blk id b hb).1, (hr.blk id b hb).2.keep he (fun b hb => hold b (hr.ilt b hb)) (hr.blk id b hb).1 rfl (hold _ (hr.lt hb))⟩, hr.inj, ?_, hlt⟩, he,
  ⟨hg.fr.os, hg.fr.tape, hg.fr.output, hg.fr.size, fun b hb _ => hold b hb⟩, fun i a ha => .inr ⟨i, a, ha, rfl⟩, ?_⟩
 ·intro i a ha hi
  rcases hnew _ hi with h1 | h1
  ·exact hr.imm i a ha h1
  ·have := hr.lt ha; simp only at h1; omega
 ·intro b hb
  rcases hnew b hb with h1 | h1
  ·exact .inl h1
  ·exact .inr (.inl h1)
def FunW (P : Program) (f : FuncId) (args : List AV) (r : AV) : Prop := ∀ H args', FrzL H args' args → ACalls P f args' H fun r' H' => H' = H ∧ r' = r
theorem FunW.fun1 {f : FuncId} {args : List AV} {r : AV} (h : FunW P f args r) (hp : ∀ a ∈ args, Pu a) : Fun1 P f args r := fun H =>
 h H args ⟨rfl, fun j x y hx hy => by rw [hx] at hy; cases hy; exact .pure (hp x (List.mem_of_getElem? hx))⟩
theorem FunW.at {f : FuncId} {args args' : List AV} {r : AV} (h : FunW P f args r) {H : AHeap} (hf : FrzL H args' args) {K : AV → AHeap → Prop} (hk : K r H) : ACalls P f args' H K :=
 (h H args' hf).mono fun r' H' ⟨h1, h2⟩ => by subst h1; subst h2; exact hk
theorem lex_callW {f : FuncId} {args args' caps : List AV} {r : AV} (h : FunW P f args r) {H : AHeap} {σ : St} (ids : List Nat) (hf : ∀ H' : AHeap, (∀ id ∈ ids, H'.get id = H.get id) → FrzL H' (args' ++ caps) args)
  {ops rest : List Oper} {al : Bool} {k n0 s j : Nat} {dst : Option Tmp} {log : List Foot} {K : St → AHeap → List Foot → Prop} (hk : aLex P T ops al k n0 s (j + 1) rest (σ.put dst r) H (log ++ [(ids, none)]) K) :
  lcallK P T ops al k n0 s j rest dst σ log K H (.fn f caps) args' :=
 ⟨ids, .val r, by simp [LRes.wid], fun H' hH => (h H' (args' ++ caps) (hf H' hH)).mono fun v H2 ⟨h1, h2⟩ => ⟨h2, h1⟩, hk⟩
theorem ACalls.ro_split {f : FuncId} {post : List AV} {H : AHeap} {K : AV → AHeap → Prop} (h1 : ACalls P f (.nils :: post) H K) (h2 : ACalls P f (.roe :: post) H K) : ACalls P f (.ro [] :: post) H K := by
 refine ⟨h1.1, fun G w cargs hr hs hv => ?_⟩
 have h0 : 0 < cargs.size := by rw [hs]; simp
 have hc : cargs[0]? = some cargs[0] := by simp [h0]
 have go : ∀ u : AV, VRel G w u cargs[0] → ∀ (j : Nat) (v : AV) (c : Value), (u :: post)[j]? = some v → cargs[j]? = some c → VRel G w v c := fun u hu j v c hj hcj => by
  cases j with
  | zero => rw [hc] at hcj; simp at hj hcj; subst hj; subst hcj; exact hu
  | succ j => exact hv (j + 1) v c (by simpa using hj) hcj
 have h := hv 0 (.ro []) _ rfl hc
 generalize cargs[0] = c0 at h go
 cases h with
 | ronil a =>
  cases a with
  | none => exact h1.2 G w cargs hr hs (go _ .nils)
  | some a => exact h2.2 G w cargs hr hs (go _ (.roe a _ (.inr rfl)))
 | ro => exact h2.2 G w cargs hr hs (go _ (.roe _ _ (.inl rfl)))
theorem frz_box {H : AHeap} {id g : Nat} {e : TypeId} {sz : Nat} {x : AV} {ys : List AV} (hb : H.get id = some (.row e sz g [x])) (h : FrzL H x.cells ys) (h1 : ∀ v ∈ ys, v.one = true) : Frz H (.ptr id g 0 0) (.rop ys) :=
 Frz.ptr (x := x) (y := .agg ys) hb rfl h.1.symm h1 h.2
theorem frz_fn {H : AHeap} {f : FuncId} {cs ds : List AV} (h : FrzL H cs ds) : Frz H (.fn f cs) (.fn f ds) := .fn h.1.symm h.2
end
end Go.Abs
namespace Go.Proofs.Yteifhcohmipdcaa
open Go.Abs
def TT : TypeId → Option TE
 | 1 => some ⟨1, 8, .func, .nilf, none⟩
 | 2 => some ⟨1, 8, .int .i64, .int .i64 0, none⟩
 | 3 => some ⟨1, 8, .int .i64, .int .i64 0, none⟩
 | 4 => some ⟨1, 1, .bool, .bool false, none⟩
 | 5 => some ⟨1, 1, .int .u8, .int .u8 0, none⟩
 | 9 => some ⟨1, 16, .string, .str ByteArray.empty, none⟩
 | 12 => some ⟨1, 8, .int .u64, .int .u64 0, none⟩
 | 13 => some ⟨2, 24, .struct [(0, 9), (1, 12)], .agg [.str ByteArray.empty, .int .u64 0], none⟩
 | 21 => some ⟨1, 4, .int .i32, .int .i32 0, none⟩
 | 22 => some ⟨1, 24, .slice 9, .nils, none⟩
 | 23 => some ⟨1, 24, .slice 39, .nils, none⟩
 | 24 => some ⟨2, 48, .struct [(0, 22), (1, 23)], .agg [.nils, .nils], none⟩
 | 25 => some ⟨2, 48, .struct [(0, 22), (1, 23)], .agg [.nils, .nils], none⟩
 | 26 => some ⟨1, 24, .slice 3, .nils, none⟩
 | 27 => some ⟨1, 8, .func, .nilf, none⟩
 | 29 => some ⟨1, 8, .func, .nilf, none⟩
 | 36 => some ⟨1, 8, .func, .nilf, none⟩
 | 37 => some ⟨1, 8, .func, .nilf, none⟩
 | 38 => some ⟨2, 16, .struct [(0, 3), (1, 3)], .agg [.int .i64 0, .int .i64 0], none⟩
 | 39 => some ⟨2, 16, .struct [(0, 3), (1, 3)], .agg [.int .i64 0, .int .i64 0], some [.int, .int]⟩
 | 42 => some ⟨1, 8, .func, .nilf, none⟩
 | 43 => some ⟨1, 24, .slice 26, .nils, none⟩
 | 45 => some ⟨1, 8, .func, .nilf, none⟩
 | 46 => some ⟨1, 8, .func, .nilf, none⟩
 | 48 => some ⟨1, 8, .func, .nilf, none⟩
 | 49 => some ⟨1, 8, .func, .nilf, none⟩
 | 50 => some ⟨1, 8, .func, .nilf, none⟩
 | 51 => some ⟨1, 8, .func, .nilf, none⟩
 | 53 => some ⟨1, 24, .slice 26, .nils, none⟩
 | 55 => some ⟨1, 24, .slice 4, .nils, none⟩
 | 56 => some ⟨1, 8, .func, .nilf, none⟩
 | 57 => some ⟨1, 8, .func, .nilf, none⟩
 | 58 => some ⟨1, 8, .func, .nilf, none⟩
 | 59 => some ⟨1, 8, .func, .nilf, none⟩
 | 61 => some ⟨1, 8, .func, .nilf, none⟩
 | 63 => some ⟨1, 8, .func, .nilf, none⟩
 | 64 => some ⟨1, 8, .func, .nilf, none⟩
 | 67 => some ⟨1, 8, .func, .nilf, none⟩
 | 68 => some ⟨1, 8, .func, .nilf, none⟩
 | 69 => some ⟨1, 8, .func, .nilf, none⟩
 | 72 => some ⟨1, 8, .func, .nilf, none⟩
 | 73 => some ⟨1, 8, .func, .nilf, none⟩
 | 74 => some ⟨1, 8, .func, .nilf, none⟩
 | 75 => some ⟨1, 8, .func, .nilf, none⟩
 | 76 => some ⟨1, 8, .func, .nilf, none⟩
 | 77 => some ⟨1, 8, .func, .nilf, none⟩
 | 78 => some ⟨1, 8, .func, .nilf, none⟩
 | 80 => some ⟨1, 8, .func, .nilf, none⟩
 | 81 => some ⟨1, 8, .func, .nilf, none⟩
 | 82 => some ⟨1, 8, .func, .nilf, none⟩
 | 83 => some ⟨1, 8, .int .u64, .int .u64 0, none⟩
 | 84 => some ⟨1, 8, .func, .nilf, none⟩
 | 86 => some ⟨1, 8, .func, .nilf, none⟩
 | 87 => some ⟨1, 8, .func, .nilf, none⟩
 | 88 => some ⟨1, 8, .int .i64, .int .i64 0, none⟩
 | 90 => some ⟨1, 8, .func, .nilf, none⟩
 | 91 => some ⟨1, 8, .func, .nilf, none⟩
 | 92 => some ⟨1, 8, .func, .nilf, none⟩
 | 94 => some ⟨1, 8, .func, .nilf, none⟩
 | 95 => some ⟨1, 8, .func, .nilf, none⟩
 | 96 => some ⟨1, 4, .int .u32, .int .u32 0, none⟩
 | 97 => some ⟨1, 8, .func, .nilf, none⟩
 | 98 => some ⟨1, 8, .int .u64, .int .u64 0, none⟩
 | 100 => some ⟨1, 8, .func, .nilf, none⟩
 | 102 => some ⟨1, 8, .func, .nilf, none⟩
 | 103 => some ⟨1, 8, .int .u64, .int .u64 0, none⟩
 | 104 => some ⟨1, 8, .func, .nilf, none⟩
 | 105 => some ⟨1, 8, .func, .nilf, none⟩
 | 106 => some ⟨1, 8, .func, .nilf, none⟩
 | 107 => some ⟨1, 8, .pointer, .nilp, none⟩
 | 108 => some ⟨1, 8, .func, .nilf, none⟩
 | 109 => some ⟨1, 8, .pointer, .nilp, none⟩
 | 111 => some ⟨1, 8, .func, .nilf, none⟩
 | 112 => some ⟨1, 8, .func, .nilf, none⟩
 | 118 => some ⟨1, 8, .func, .nilf, none⟩
 | 121 => some ⟨1, 8, .func, .nilf, none⟩
 | 122 => some ⟨1, 8, .pointer, .nilp, none⟩
 | _ => none
@[simp] theorem TT_1 : TT 1 = some ⟨1, 8, .func, .nilf, none⟩ := rfl
@[simp] theorem TT_2 : TT 2 = some ⟨1, 8, .int .i64, .int .i64 0, none⟩ := rfl
@[simp] theorem TT_3 : TT 3 = some ⟨1, 8, .int .i64, .int .i64 0, none⟩ := rfl
@[simp] theorem TT_4 : TT 4 = some ⟨1, 1, .bool, .bool false, none⟩ := rfl
@[simp] theorem TT_5 : TT 5 = some ⟨1, 1, .int .u8, .int .u8 0, none⟩ := rfl
@[simp] theorem TT_9 : TT 9 = some ⟨1, 16, .string, .str ByteArray.empty, none⟩ := rfl
@[simp] theorem TT_12 : TT 12 = some ⟨1, 8, .int .u64, .int .u64 0, none⟩ := rfl
@[simp] theorem TT_13 : TT 13 = some ⟨2, 24, .struct [(0, 9), (1, 12)], .agg [.str ByteArray.empty, .int .u64 0], none⟩ := rfl
@[simp] theorem TT_21 : TT 21 = some ⟨1, 4, .int .i32, .int .i32 0, none⟩ := rfl
@[simp] theorem TT_22 : TT 22 = some ⟨1, 24, .slice 9, .nils, none⟩ := rfl
@[simp] theorem TT_23 : TT 23 = some ⟨1, 24, .slice 39, .nils, none⟩ := rfl
@[simp] theorem TT_24 : TT 24 = some ⟨2, 48, .struct [(0, 22), (1, 23)], .agg [.nils, .nils], none⟩ := rfl
@[simp] theorem TT_25 : TT 25 = some ⟨2, 48, .struct [(0, 22), (1, 23)], .agg [.nils, .nils], none⟩ := rfl
@[simp] theorem TT_26 : TT 26 = some ⟨1, 24, .slice 3, .nils, none⟩ := rfl
@[simp] theorem TT_27 : TT 27 = some ⟨1, 8, .func, .nilf, none⟩ := rfl
@[simp] theorem TT_29 : TT 29 = some ⟨1, 8, .func, .nilf, none⟩ := rfl
@[simp] theorem TT_36 : TT 36 = some ⟨1, 8, .func, .nilf, none⟩ := rfl
@[simp] theorem TT_37 : TT 37 = some ⟨1, 8, .func, .nilf, none⟩ := rfl
@[simp] theorem TT_38 : TT 38 = some ⟨2, 16, .struct [(0, 3), (1, 3)], .agg [.int .i64 0, .int .i64 0], none⟩ := rfl
@[simp] theorem TT_39 : TT 39 = some ⟨2, 16, .struct [(0, 3), (1, 3)], .agg [.int .i64 0, .int .i64 0], some [.int, .int]⟩ := rfl
@[simp] theorem TT_42 : TT 42 = some ⟨1, 8, .func, .nilf, none⟩ := rfl
@[simp] theorem TT_43 : TT 43 = some ⟨1, 24, .slice 26, .nils, none⟩ := rfl
@[simp] theorem TT_45 : TT 45 = some ⟨1, 8, .func, .nilf, none⟩ := rfl
@[simp] theorem TT_46 : TT 46 = some ⟨1, 8, .func, .nilf, none⟩ := rfl
@[simp] theorem TT_48 : TT 48 = some ⟨1, 8, .func, .nilf, none⟩ := rfl
@[simp] theorem TT_49 : TT 49 = some ⟨1, 8, .func, .nilf, none⟩ := rfl
@[simp] theorem TT_50 : TT 50 = some ⟨1, 8, .func, .nilf, none⟩ := rfl
@[simp] theorem TT_51 : TT 51 = some ⟨1, 8, .func, .nilf, none⟩ := rfl
@[simp] theorem TT_53 : TT 53 = some ⟨1, 24, .slice 26, .nils, none⟩ := rfl
@[simp] theorem TT_55 : TT 55 = some ⟨1, 24, .slice 4, .nils, none⟩ := rfl
@[simp] theorem TT_56 : TT 56 = some ⟨1, 8, .func, .nilf, none⟩ := rfl
@[simp] theorem TT_57 : TT 57 = some ⟨1, 8, .func, .nilf, none⟩ := rfl
@[simp] theorem TT_58 : TT 58 = some ⟨1, 8, .func, .nilf, none⟩ := rfl
@[simp] theorem TT_59 : TT 59 = some ⟨1, 8, .func, .nilf, none⟩ := rfl
@[simp] theorem TT_61 : TT 61 = some ⟨1, 8, .func, .nilf, none⟩ := rfl
@[simp] theorem TT_63 : TT 63 = some ⟨1, 8, .func, .nilf, none⟩ := rfl
@[simp] theorem TT_64 : TT 64 = some ⟨1, 8, .func, .nilf, none⟩ := rfl
@[simp] theorem TT_67 : TT 67 = some ⟨1, 8, .func, .nilf, none⟩ := rfl
@[simp] theorem TT_68 : TT 68 = some ⟨1, 8, .func, .nilf, none⟩ := rfl
@[simp] theorem TT_69 : TT 69 = some ⟨1, 8, .func, .nilf, none⟩ := rfl
@[simp] theorem TT_72 : TT 72 = some ⟨1, 8, .func, .nilf, none⟩ := rfl
@[simp] theorem TT_73 : TT 73 = some ⟨1, 8, .func, .nilf, none⟩ := rfl
@[simp] theorem TT_74 : TT 74 = some ⟨1, 8, .func, .nilf, none⟩ := rfl
@[simp] theorem TT_75 : TT 75 = some ⟨1, 8, .func, .nilf, none⟩ := rfl
@[simp] theorem TT_76 : TT 76 = some ⟨1, 8, .func, .nilf, none⟩ := rfl
@[simp] theorem TT_77 : TT 77 = some ⟨1, 8, .func, .nilf, none⟩ := rfl
@[simp] theorem TT_78 : TT 78 = some ⟨1, 8, .func, .nilf, none⟩ := rfl
@[simp] theorem TT_80 : TT 80 = some ⟨1, 8, .func, .nilf, none⟩ := rfl
@[simp] theorem TT_81 : TT 81 = some ⟨1, 8, .func, .nilf, none⟩ := rfl
@[simp] theorem TT_82 : TT 82 = some ⟨1, 8, .func, .nilf, none⟩ := rfl
@[simp] theorem TT_83 : TT 83 = some ⟨1, 8, .int .u64, .int .u64 0, none⟩ := rfl
@[simp] theorem TT_84 : TT 84 = some ⟨1, 8, .func, .nilf, none⟩ := rfl
@[simp] theorem TT_86 : TT 86 = some ⟨1, 8, .func, .nilf, none⟩ := rfl
@[simp] theorem TT_87 : TT 87 = some ⟨1, 8, .func, .nilf, none⟩ := rfl
@[simp] theorem TT_88 : TT 88 = some ⟨1, 8, .int .i64, .int .i64 0, none⟩ := rfl
@[simp] theorem TT_90 : TT 90 = some ⟨1, 8, .func, .nilf, none⟩ := rfl
@[simp] theorem TT_91 : TT 91 = some ⟨1, 8, .func, .nilf, none⟩ := rfl
@[simp] theorem TT_92 : TT 92 = some ⟨1, 8, .func, .nilf, none⟩ := rfl
@[simp] theorem TT_94 : TT 94 = some ⟨1, 8, .func, .nilf, none⟩ := rfl
@[simp] theorem TT_95 : TT 95 = some ⟨1, 8, .func, .nilf, none⟩ := rfl
@[simp] theorem TT_96 : TT 96 = some ⟨1, 4, .int .u32, .int .u32 0, none⟩ := rfl
@[simp] theorem TT_97 : TT 97 = some ⟨1, 8, .func, .nilf, none⟩ := rfl
@[simp] theorem TT_98 : TT 98 = some ⟨1, 8, .int .u64, .int .u64 0, none⟩ := rfl
@[simp] theorem TT_100 : TT 100 = some ⟨1, 8, .func, .nilf, none⟩ := rfl
@[simp] theorem TT_102 : TT 102 = some ⟨1, 8, .func, .nilf, none⟩ := rfl
@[simp] theorem TT_103 : TT 103 = some ⟨1, 8, .int .u64, .int .u64 0, none⟩ := rfl
@[simp] theorem TT_104 : TT 104 = some ⟨1, 8, .func, .nilf, none⟩ := rfl
@[simp] theorem TT_105 : TT 105 = some ⟨1, 8, .func, .nilf, none⟩ := rfl
@[simp] theorem TT_106 : TT 106 = some ⟨1, 8, .func, .nilf, none⟩ := rfl
@[simp] theorem TT_107 : TT 107 = some ⟨1, 8, .pointer, .nilp, none⟩ := rfl
@[simp] theorem TT_108 : TT 108 = some ⟨1, 8, .func, .nilf, none⟩ := rfl
@[simp] theorem TT_109 : TT 109 = some ⟨1, 8, .pointer, .nilp, none⟩ := rfl
@[simp] theorem TT_111 : TT 111 = some ⟨1, 8, .func, .nilf, none⟩ := rfl
@[simp] theorem TT_112 : TT 112 = some ⟨1, 8, .func, .nilf, none⟩ := rfl
@[simp] theorem TT_118 : TT 118 = some ⟨1, 8, .func, .nilf, none⟩ := rfl
@[simp] theorem TT_121 : TT 121 = some ⟨1, 8, .func, .nilf, none⟩ := rfl
@[simp] theorem TT_122 : TT 122 = some ⟨1, 8, .pointer, .nilp, none⟩ := rfl
theorem inf_1 : (Try.prog.info? 1).map (fun i => (i.zero, i.size, i.bytes)) = some (some (.nilFunc), 1, 8) := by kernel_rfl
theorem inf_2 : (Try.prog.info? 2).map (fun i => (i.zero, i.size, i.bytes)) = some (some (.int .i64 0), 1, 8) := by kernel_rfl
theorem inf_3 : (Try.prog.info? 3).map (fun i => (i.zero, i.size, i.bytes)) = some (some (.int .i64 0), 1, 8) := by kernel_rfl
theorem inf_4 : (Try.prog.info? 4).map (fun i => (i.zero, i.size, i.bytes)) = some (some (.bool false), 1, 1) := by kernel_rfl
theorem inf_5 : (Try.prog.info? 5).map (fun i => (i.zero, i.size, i.bytes)) = some (some (.int .u8 0), 1, 1) := by kernel_rfl
theorem inf_9 : (Try.prog.info? 9).map (fun i => (i.zero, i.size, i.bytes)) = some (some (.string ByteArray.empty), 1, 16) := by kernel_rfl
theorem inf_12 : (Try.prog.info? 12).map (fun i => (i.zero, i.size, i.bytes)) = some (some (.int .u64 0), 1, 8) := by kernel_rfl
theorem inf_13 : (Try.prog.info? 13).map (fun i => (i.zero, i.size, i.bytes)) = some (some (.agg #[.string ByteArray.empty, .int .u64 0]), 2, 24) := by kernel_rfl
theorem inf_21 : (Try.prog.info? 21).map (fun i => (i.zero, i.size, i.bytes)) = some (some (.int .i32 0), 1, 4) := by kernel_rfl
theorem inf_22 : (Try.prog.info? 22).map (fun i => (i.zero, i.size, i.bytes)) = some (some (.slice none 0 0), 1, 24) := by kernel_rfl
theorem inf_23 : (Try.prog.info? 23).map (fun i => (i.zero, i.size, i.bytes)) = some (some (.slice none 0 0), 1, 24) := by kernel_rfl
theorem inf_24 : (Try.prog.info? 24).map (fun i => (i.zero, i.size, i.bytes)) = some (some (.agg #[.slice none 0 0, .slice none 0 0]), 2, 48) := by kernel_rfl
theorem inf_25 : (Try.prog.info? 25).map (fun i => (i.zero, i.size, i.bytes)) = some (some (.agg #[.slice none 0 0, .slice none 0 0]), 2, 48) := by kernel_rfl
theorem inf_26 : (Try.prog.info? 26).map (fun i => (i.zero, i.size, i.bytes)) = some (some (.slice none 0 0), 1, 24) := by kernel_rfl
theorem inf_27 : (Try.prog.info? 27).map (fun i => (i.zero, i.size, i.bytes)) = some (some (.nilFunc), 1, 8) := by kernel_rfl
theorem inf_29 : (Try.prog.info? 29).map (fun i => (i.zero, i.size, i.bytes)) = some (some (.nilFunc), 1, 8) := by kernel_rfl
theorem inf_36 : (Try.prog.info? 36).map (fun i => (i.zero, i.size, i.bytes)) = some (some (.nilFunc), 1, 8) := by kernel_rfl
theorem inf_37 : (Try.prog.info? 37).map (fun i => (i.zero, i.size, i.bytes)) = some (some (.nilFunc), 1, 8) := by kernel_rfl
theorem inf_38 : (Try.prog.info? 38).map (fun i => (i.zero, i.size, i.bytes)) = some (some (.agg #[.int .i64 0, .int .i64 0]), 2, 16) := by kernel_rfl
theorem inf_39 : (Try.prog.info? 39).map (fun i => (i.zero, i.size, i.bytes)) = some (some (.agg #[.int .i64 0, .int .i64 0]), 2, 16) := by kernel_rfl
theorem inf_42 : (Try.prog.info? 42).map (fun i => (i.zero, i.size, i.bytes)) = some (some (.nilFunc), 1, 8) := by kernel_rfl
theorem inf_43 : (Try.prog.info? 43).map (fun i => (i.zero, i.size, i.bytes)) = some (some (.slice none 0 0), 1, 24) := by kernel_rfl
theorem inf_45 : (Try.prog.info? 45).map (fun i => (i.zero, i.size, i.bytes)) = some (some (.nilFunc), 1, 8) := by kernel_rfl
theorem inf_46 : (Try.prog.info? 46).map (fun i => (i.zero, i.size, i.bytes)) = some (some (.nilFunc), 1, 8) := by kernel_rfl
theorem inf_48 : (Try.prog.info? 48).map (fun i => (i.zero, i.size, i.bytes)) = some (some (.nilFunc), 1, 8) := by kernel_rfl
theorem inf_49 : (Try.prog.info? 49).map (fun i => (i.zero, i.size, i.bytes)) = some (some (.nilFunc), 1, 8) := by kernel_rfl
theorem inf_50 : (Try.prog.info? 50).map (fun i => (i.zero, i.size, i.bytes)) = some (some (.nilFunc), 1, 8) := by kernel_rfl
theorem inf_51 : (Try.prog.info? 51).map (fun i => (i.zero, i.size, i.bytes)) = some (some (.nilFunc), 1, 8) := by kernel_rfl
theorem inf_53 : (Try.prog.info? 53).map (fun i => (i.zero, i.size, i.bytes)) = some (some (.slice none 0 0), 1, 24) := by kernel_rfl
theorem inf_55 : (Try.prog.info? 55).map (fun i => (i.zero, i.size, i.bytes)) = some (some (.slice none 0 0), 1, 24) := by kernel_rfl
theorem inf_56 : (Try.prog.info? 56).map (fun i => (i.zero, i.size, i.bytes)) = some (some (.nilFunc), 1, 8) := by kernel_rfl
theorem inf_57 : (Try.prog.info? 57).map (fun i => (i.zero, i.size, i.bytes)) = some (some (.nilFunc), 1, 8) := by kernel_rfl
theorem inf_58 : (Try.prog.info? 58).map (fun i => (i.zero, i.size, i.bytes)) = some (some (.nilFunc), 1, 8) := by kernel_rfl
theorem inf_59 : (Try.prog.info? 59).map (fun i => (i.zero, i.size, i.bytes)) = some (some (.nilFunc), 1, 8) := by kernel_rfl
theorem inf_61 : (Try.prog.info? 61).map (fun i => (i.zero, i.size, i.bytes)) = some (some (.nilFunc), 1, 8) := by kernel_rfl
theorem inf_63 : (Try.prog.info? 63).map (fun i => (i.zero, i.size, i.bytes)) = some (some (.nilFunc), 1, 8) := by kernel_rfl
theorem inf_64 : (Try.prog.info? 64).map (fun i => (i.zero, i.size, i.bytes)) = some (some (.nilFunc), 1, 8) := by kernel_rfl
theorem inf_67 : (Try.prog.info? 67).map (fun i => (i.zero, i.size, i.bytes)) = some (some (.nilFunc), 1, 8) := by kernel_rfl
theorem inf_68 : (Try.prog.info? 68).map (fun i => (i.zero, i.size, i.bytes)) = some (some (.nilFunc), 1, 8) := by kernel_rfl
theorem inf_69 : (Try.prog.info? 69).map (fun i => (i.zero, i.size, i.bytes)) = some (some (.nilFunc), 1, 8) := by kernel_rfl
theorem inf_72 : (Try.prog.info? 72).map (fun i => (i.zero, i.size, i.bytes)) = some (some (.nilFunc), 1, 8) := by kernel_rfl
theorem inf_73 : (Try.prog.info? 73).map (fun i => (i.zero, i.size, i.bytes)) = some (some (.nilFunc), 1, 8) := by kernel_rfl
theorem inf_74 : (Try.prog.info? 74).map (fun i => (i.zero, i.size, i.bytes)) = some (some (.nilFunc), 1, 8) := by kernel_rfl
theorem inf_75 : (Try.prog.info? 75).map (fun i => (i.zero, i.size, i.bytes)) = some (some (.nilFunc), 1, 8) := by kernel_rfl
theorem inf_76 : (Try.prog.info? 76).map (fun i => (i.zero, i.size, i.bytes)) = some (some (.nilFunc), 1, 8) := by kernel_rfl
theorem inf_77 : (Try.prog.info? 77).map (fun i => (i.zero, i.size, i.bytes)) = some (some (.nilFunc), 1, 8) := by kernel_rfl
theorem inf_78 : (Try.prog.info? 78).map (fun i => (i.zero, i.size, i.bytes)) = some (some (.nilFunc), 1, 8) := by kernel_rfl
theorem inf_80 : (Try.prog.info? 80).map (fun i => (i.zero, i.size, i.bytes)) = some (some (.nilFunc), 1, 8) := by kernel_rfl
theorem inf_81 : (Try.prog.info? 81).map (fun i => (i.zero, i.size, i.bytes)) = some (some (.nilFunc), 1, 8) := by kernel_rfl
theorem inf_82 : (Try.prog.info? 82).map (fun i => (i.zero, i.size, i.bytes)) = some (some (.nilFunc), 1, 8) := by kernel_rfl
theorem inf_83 : (Try.prog.info? 83).map (fun i => (i.zero, i.size, i.bytes)) = some (some (.int .u64 0), 1, 8) := by kernel_rfl
theorem inf_84 : (Try.prog.info? 84).map (fun i => (i.zero, i.size, i.bytes)) = some (some (.nilFunc), 1, 8) := by kernel_rfl
theorem inf_86 : (Try.prog.info? 86).map (fun i => (i.zero, i.size, i.bytes)) = some (some (.nilFunc), 1, 8) := by kernel_rfl
theorem inf_87 : (Try.prog.info? 87).map (fun i => (i.zero, i.size, i.bytes)) = some (some (.nilFunc), 1, 8) := by kernel_rfl
theorem inf_88 : (Try.prog.info? 88).map (fun i => (i.zero, i.size, i.bytes)) = some (some (.int .i64 0), 1, 8) := by kernel_rfl
theorem inf_90 : (Try.prog.info? 90).map (fun i => (i.zero, i.size, i.bytes)) = some (some (.nilFunc), 1, 8) := by kernel_rfl
theorem inf_91 : (Try.prog.info? 91).map (fun i => (i.zero, i.size, i.bytes)) = some (some (.nilFunc), 1, 8) := by kernel_rfl
theorem inf_92 : (Try.prog.info? 92).map (fun i => (i.zero, i.size, i.bytes)) = some (some (.nilFunc), 1, 8) := by kernel_rfl
theorem inf_94 : (Try.prog.info? 94).map (fun i => (i.zero, i.size, i.bytes)) = some (some (.nilFunc), 1, 8) := by kernel_rfl
theorem inf_95 : (Try.prog.info? 95).map (fun i => (i.zero, i.size, i.bytes)) = some (some (.nilFunc), 1, 8) := by kernel_rfl
theorem inf_96 : (Try.prog.info? 96).map (fun i => (i.zero, i.size, i.bytes)) = some (some (.int .u32 0), 1, 4) := by kernel_rfl
theorem inf_97 : (Try.prog.info? 97).map (fun i => (i.zero, i.size, i.bytes)) = some (some (.nilFunc), 1, 8) := by kernel_rfl
theorem inf_98 : (Try.prog.info? 98).map (fun i => (i.zero, i.size, i.bytes)) = some (some (.int .u64 0), 1, 8) := by kernel_rfl
theorem inf_100 : (Try.prog.info? 100).map (fun i => (i.zero, i.size, i.bytes)) = some (some (.nilFunc), 1, 8) := by kernel_rfl
theorem inf_102 : (Try.prog.info? 102).map (fun i => (i.zero, i.size, i.bytes)) = some (some (.nilFunc), 1, 8) := by kernel_rfl
theorem inf_103 : (Try.prog.info? 103).map (fun i => (i.zero, i.size, i.bytes)) = some (some (.int .u64 0), 1, 8) := by kernel_rfl
theorem inf_104 : (Try.prog.info? 104).map (fun i => (i.zero, i.size, i.bytes)) = some (some (.nilFunc), 1, 8) := by kernel_rfl
theorem inf_105 : (Try.prog.info? 105).map (fun i => (i.zero, i.size, i.bytes)) = some (some (.nilFunc), 1, 8) := by kernel_rfl
theorem inf_106 : (Try.prog.info? 106).map (fun i => (i.zero, i.size, i.bytes)) = some (some (.nilFunc), 1, 8) := by kernel_rfl
theorem inf_107 : (Try.prog.info? 107).map (fun i => (i.zero, i.size, i.bytes)) = some (some (.pointer none), 1, 8) := by kernel_rfl
theorem inf_108 : (Try.prog.info? 108).map (fun i => (i.zero, i.size, i.bytes)) = some (some (.nilFunc), 1, 8) := by kernel_rfl
theorem inf_109 : (Try.prog.info? 109).map (fun i => (i.zero, i.size, i.bytes)) = some (some (.pointer none), 1, 8) := by kernel_rfl
theorem inf_111 : (Try.prog.info? 111).map (fun i => (i.zero, i.size, i.bytes)) = some (some (.nilFunc), 1, 8) := by kernel_rfl
theorem inf_112 : (Try.prog.info? 112).map (fun i => (i.zero, i.size, i.bytes)) = some (some (.nilFunc), 1, 8) := by kernel_rfl
theorem inf_118 : (Try.prog.info? 118).map (fun i => (i.zero, i.size, i.bytes)) = some (some (.nilFunc), 1, 8) := by kernel_rfl
theorem inf_121 : (Try.prog.info? 121).map (fun i => (i.zero, i.size, i.bytes)) = some (some (.nilFunc), 1, 8) := by kernel_rfl
theorem inf_122 : (Try.prog.info? 122).map (fun i => (i.zero, i.size, i.bytes)) = some (some (.pointer none), 1, 8) := by kernel_rfl
theorem info_parts {o : Option TypeInfo} {z : Value} {s b : Nat} (h : o.map (fun i => (i.zero, i.size, i.bytes)) = some (some z, s, b)) : ∃ i, o = some i ∧ i.zero = some z ∧ i.size = s ∧ i.bytes = b := by
 cases o with
 | none => simp at h
 | some i => simp at h; exact ⟨i, rfl, h.1, h.2.1, h.2.2⟩
theorem info_some {o : Option TypeInfo} {x : Option Value × Nat × Nat} (h : o.map (fun i => (i.zero, i.size, i.bytes)) = some x) : ∃ i, o = some i := by
 cases o with
 | none => simp at h
 | some i => exact ⟨i, rfl⟩
theorem tok_of {t : TypeId} {te : TE} {z : Value} {s b : Nat} (h : (Try.prog.info? t).map (fun i => (i.zero, i.size, i.bytes)) = some (some z, s, b)) (h1 : te.size = s) (h2 : te.bytes = b) (h3 : ZOK te.zero z) (h4 : KOK Try.prog t te.kind) (h5 : ∀ ks, te.eq = some ks → EqOK Try.prog t ks) :
  ∃ i z, Try.prog.info? t = some i ∧ i.size = te.size ∧ i.bytes = te.bytes ∧ i.zero = some z ∧ ZOK te.zero z ∧ KOK Try.prog t te.kind ∧ (∀ ks, te.eq = some ks → EqOK Try.prog t ks) := by
 obtain ⟨i, q1, q2, q3, q4⟩ := info_parts h
 exact ⟨i, z, q1, q3.trans h1.symm, q4.trans h2.symm, q2, h3, h4, h5⟩
theorem eq_39 : EqOK Try.prog 39 [.int, .int] := by
 intro w G a b x y r hx hy h
 obtain ⟨a1, b1, a', b', t, rfl, rfl, h, h1⟩ := cellEq_cons h
 obtain ⟨a2, b2, a'', b'', t2, rfl, rfl, h, h2⟩ := cellEq_cons h
 obtain ⟨rfl, rfl, rfl⟩ := cellEq_nil h
 rcases h1 with ⟨j, p, q, rfl, rfl, _, rfl⟩ | ⟨_, _, _, _, h, _⟩ | ⟨_, _, _, _, h, _⟩ <;> first | (cases h; done) | skip
 rcases h2 with ⟨j2, p2, q2, rfl, rfl, _, rfl⟩ | ⟨_, _, _, _, h, _⟩ | ⟨_, _, _, _, h, _⟩ <;> first | (cases h; done) | skip
 obtain ⟨c1, c2, rfl, k1, k2⟩ := agg2 hx
 obtain ⟨d1, d2, rfl, l1, l2⟩ := agg2 hy
 cases k1; cases k2; cases l1; cases l2
 refine ⟨?_, by kernel_rfl⟩
 unfold Op.equal Op.maxDepth
 rw [show (10000 : Nat) = 9998 + 1 + 1 from rfl, run_equalIn_struct w (9998 + 1) 39 _ _ (by rw [Program.fieldsOf, Try.underlying39]) (by kernel_rfl)]
 rw [Program.fieldsOf, Try.underlying39]
 simp [Op.eqFields, part, isAgg, run_underlying Try.underlying3, run_equalIn_int _ 9998 3 _ _ _ _ Try.underlying3]
 by_cases e1 : p = q <;> by_cases e2 : p2 = q2 <;> simp_all
theorem zok_agg {l : List AV} {vs : Array Value} (hl : vs.size = l.length) (h1 : l.all AV.one = true) (h : ∀ (j : Nat) (v : AV) (c : Value), l[j]? = some v → vs[j]? = some c → ZOK v c) : ZOK (.agg l) (.agg vs) :=
 fun G w => .agg hl (List.all_eq_true.1 h1) (fun j v c hv hc => h j v c hv hc G w)
theorem zok_int (k : IntKind) (n : Int) : ZOK (.int k n) (.int k n) := fun _ _ => .int _ _
theorem zok_bool (b : Bool) : ZOK (.bool b) (.bool b) := fun _ _ => .bool _
theorem zok_str (s : ByteArray) : ZOK (.str s) (.string s) := fun _ _ => .str _
theorem zok_nils : ZOK .nils (.slice none 0 0) := fun _ _ => .nils
theorem zok_nilp : ZOK .nilp (.pointer none) := fun _ _ => .nilp
theorem zok_nilf : ZOK .nilf .nilFunc := fun _ _ => .nilf
theorem z_13 : ZOK (.agg [.str ByteArray.empty, .int .u64 0]) (.agg #[.string ByteArray.empty, .int .u64 0]) := by
 refine zok_agg rfl rfl fun j v c hv hc => ?_
 match j with
 | 0 => simp at hv hc; subst hv; subst hc; exact (zok_str _)
 | 1 => simp at hv hc; subst hv; subst hc; exact (zok_int _ _)
 | j + 2 => simp at hv
theorem z_24 : ZOK (.agg [.nils, .nils]) (.agg #[.slice none 0 0, .slice none 0 0]) := by
 refine zok_agg rfl rfl fun j v c hv hc => ?_
 match j with
 | 0 => simp at hv hc; subst hv; subst hc; exact zok_nils
 | 1 => simp at hv hc; subst hv; subst hc; exact zok_nils
 | j + 2 => simp at hv
theorem z_25 : ZOK (.agg [.nils, .nils]) (.agg #[.slice none 0 0, .slice none 0 0]) := by
 refine zok_agg rfl rfl fun j v c hv hc => ?_
 match j with
 | 0 => simp at hv hc; subst hv; subst hc; exact zok_nils
 | 1 => simp at hv hc; subst hv; subst hc; exact zok_nils
 | j + 2 => simp at hv
theorem z_38 : ZOK (.agg [.int .i64 0, .int .i64 0]) (.agg #[.int .i64 0, .int .i64 0]) := by
 refine zok_agg rfl rfl fun j v c hv hc => ?_
 match j with
 | 0 => simp at hv hc; subst hv; subst hc; exact (zok_int _ _)
 | 1 => simp at hv hc; subst hv; subst hc; exact (zok_int _ _)
 | j + 2 => simp at hv
theorem z_39 : ZOK (.agg [.int .i64 0, .int .i64 0]) (.agg #[.int .i64 0, .int .i64 0]) := by
 refine zok_agg rfl rfl fun j v c hv hc => ?_
 match j with
 | 0 => simp at hv hc; subst hv; subst hc; exact (zok_int _ _)
 | 1 => simp at hv hc; subst hv; subst hc; exact (zok_int _ _)
 | j + 2 => simp at hv
theorem TT_ok : TOK Try.prog TT := by
 intro t te h
 unfold TT at h
 split at h
 ·cases h; exact tok_of inf_1 rfl rfl zok_nilf (⟨_, _, _, Try.underlying1⟩) (fun ks hk => by cases hk)
 ·cases h; exact tok_of inf_2 rfl rfl (zok_int _ _) (Try.underlying2) (fun ks hk => by cases hk)
 ·cases h; exact tok_of inf_3 rfl rfl (zok_int _ _) (Try.underlying3) (fun ks hk => by cases hk)
 ·cases h; exact tok_of inf_4 rfl rfl (zok_bool _) (Try.underlying4) (fun ks hk => by cases hk)
 ·cases h; exact tok_of inf_5 rfl rfl (zok_int _ _) (Try.underlying5) (fun ks hk => by cases hk)
 ·cases h; exact tok_of inf_9 rfl rfl (zok_str _) (Try.underlying9) (fun ks hk => by cases hk)
 ·cases h; exact tok_of inf_12 rfl rfl (zok_int _ _) (Try.underlying12) (fun ks hk => by cases hk)
 ·cases h; exact tok_of inf_13 rfl rfl z_13 (⟨_, Try.underlying13, rfl, fun f hf => by
   simp only [List.mem_cons, List.not_mem_nil, or_false] at hf
   rcases hf with rfl | rfl
   ·exact info_some inf_9
   ·exact info_some inf_12⟩) (fun ks hk => by cases hk)
 ·cases h; exact tok_of inf_21 rfl rfl (zok_int _ _) (Try.underlying21) (fun ks hk => by cases hk)
 ·cases h; exact tok_of inf_22 rfl rfl zok_nils (Try.underlying22) (fun ks hk => by cases hk)
 ·cases h; exact tok_of inf_23 rfl rfl zok_nils (Try.underlying23) (fun ks hk => by cases hk)
 ·cases h; exact tok_of inf_24 rfl rfl z_24 (⟨_, Try.underlying24, rfl, fun f hf => by
   simp only [List.mem_cons, List.not_mem_nil, or_false] at hf
   rcases hf with rfl | rfl
   ·exact info_some inf_22
   ·exact info_some inf_23⟩) (fun ks hk => by cases hk)
 ·cases h; exact tok_of inf_25 rfl rfl z_25 (⟨_, Try.underlying25, rfl, fun f hf => by
   simp only [List.mem_cons, List.not_mem_nil, or_false] at hf
   rcases hf with rfl | rfl
   ·exact info_some inf_22
   ·exact info_some inf_23⟩) (fun ks hk => by cases hk)
 ·cases h; exact tok_of inf_26 rfl rfl zok_nils (Try.underlying26) (fun ks hk => by cases hk)
 ·cases h; exact tok_of inf_27 rfl rfl zok_nilf (⟨_, _, _, Try.underlying27⟩) (fun ks hk => by cases hk)
 ·cases h; exact tok_of inf_29 rfl rfl zok_nilf (⟨_, _, _, Try.underlying29⟩) (fun ks hk => by cases hk)
 ·cases h; exact tok_of inf_36 rfl rfl zok_nilf (⟨_, _, _, Try.underlying36⟩) (fun ks hk => by cases hk)
 ·cases h; exact tok_of inf_37 rfl rfl zok_nilf (⟨_, _, _, Try.underlying37⟩) (fun ks hk => by cases hk)
 ·cases h; exact tok_of inf_38 rfl rfl z_38 (⟨_, Try.underlying38, rfl, fun f hf => by
   simp only [List.mem_cons, List.not_mem_nil, or_false] at hf
   rcases hf with rfl | rfl
   ·exact info_some inf_3
   ·exact info_some inf_3⟩) (fun ks hk => by cases hk)
 ·cases h; exact tok_of inf_39 rfl rfl z_39 (⟨_, Try.underlying39, rfl, fun f hf => by
   simp only [List.mem_cons, List.not_mem_nil, or_false] at hf
   rcases hf with rfl | rfl
   ·exact info_some inf_3
   ·exact info_some inf_3⟩) (fun ks hk => by cases hk; exact eq_39)
 ·cases h; exact tok_of inf_42 rfl rfl zok_nilf (⟨_, _, _, Try.underlying42⟩) (fun ks hk => by cases hk)
 ·cases h; exact tok_of inf_43 rfl rfl zok_nils (Try.underlying43) (fun ks hk => by cases hk)
 ·cases h; exact tok_of inf_45 rfl rfl zok_nilf (⟨_, _, _, Try.underlying45⟩) (fun ks hk => by cases hk)
 ·cases h; exact tok_of inf_46 rfl rfl zok_nilf (⟨_, _, _, Try.underlying46⟩) (fun ks hk => by cases hk)
 ·cases h; exact tok_of inf_48 rfl rfl zok_nilf (⟨_, _, _, Try.underlying48⟩) (fun ks hk => by cases hk)
 ·cases h; exact tok_of inf_49 rfl rfl zok_nilf (⟨_, _, _, Try.underlying49⟩) (fun ks hk => by cases hk)
 ·cases h; exact tok_of inf_50 rfl rfl zok_nilf (⟨_, _, _, Try.underlying50⟩) (fun ks hk => by cases hk)
 ·cases h; exact tok_of inf_51 rfl rfl zok_nilf (⟨_, _, _, Try.underlying51⟩) (fun ks hk => by cases hk)
 ·cases h; exact tok_of inf_53 rfl rfl zok_nils (Try.underlying53) (fun ks hk => by cases hk)
 ·cases h; exact tok_of inf_55 rfl rfl zok_nils (Try.underlying55) (fun ks hk => by cases hk)
 ·cases h; exact tok_of inf_56 rfl rfl zok_nilf (⟨_, _, _, Try.underlying56⟩) (fun ks hk => by cases hk)
 ·cases h; exact tok_of inf_57 rfl rfl zok_nilf (⟨_, _, _, Try.underlying57⟩) (fun ks hk => by cases hk)
 ·cases h; exact tok_of inf_58 rfl rfl zok_nilf (⟨_, _, _, Try.underlying58⟩) (fun ks hk => by cases hk)
 ·cases h; exact tok_of inf_59 rfl rfl zok_nilf (⟨_, _, _, Try.underlying59⟩) (fun ks hk => by cases hk)
 ·cases h; exact tok_of inf_61 rfl rfl zok_nilf (⟨_, _, _, Try.underlying61⟩) (fun ks hk => by cases hk)
 ·cases h; exact tok_of inf_63 rfl rfl zok_nilf (⟨_, _, _, Try.underlying63⟩) (fun ks hk => by cases hk)
 ·cases h; exact tok_of inf_64 rfl rfl zok_nilf (⟨_, _, _, Try.underlying64⟩) (fun ks hk => by cases hk)
 ·cases h; exact tok_of inf_67 rfl rfl zok_nilf (⟨_, _, _, Try.underlying67⟩) (fun ks hk => by cases hk)
 ·cases h; exact tok_of inf_68 rfl rfl zok_nilf (⟨_, _, _, Try.underlying68⟩) (fun ks hk => by cases hk)
 ·cases h; exact tok_of inf_69 rfl rfl zok_nilf (⟨_, _, _, Try.underlying69⟩) (fun ks hk => by cases hk)
 ·cases h; exact tok_of inf_72 rfl rfl zok_nilf (⟨_, _, _, Try.underlying72⟩) (fun ks hk => by cases hk)
 ·cases h; exact tok_of inf_73 rfl rfl zok_nilf (⟨_, _, _, Try.underlying73⟩) (fun ks hk => by cases hk)
 ·cases h; exact tok_of inf_74 rfl rfl zok_nilf (⟨_, _, _, Try.underlying74⟩) (fun ks hk => by cases hk)
 ·cases h; exact tok_of inf_75 rfl rfl zok_nilf (⟨_, _, _, Try.underlying75⟩) (fun ks hk => by cases hk)
 ·cases h; exact tok_of inf_76 rfl rfl zok_nilf (⟨_, _, _, Try.underlying76⟩) (fun ks hk => by cases hk)
 ·cases h; exact tok_of inf_77 rfl rfl zok_nilf (⟨_, _, _, Try.underlying77⟩) (fun ks hk => by cases hk)
 ·cases h; exact tok_of inf_78 rfl rfl zok_nilf (⟨_, _, _, Try.underlying78⟩) (fun ks hk => by cases hk)
 ·cases h; exact tok_of inf_80 rfl rfl zok_nilf (⟨_, _, _, Try.underlying80⟩) (fun ks hk => by cases hk)
 ·cases h; exact tok_of inf_81 rfl rfl zok_nilf (⟨_, _, _, Try.underlying81⟩) (fun ks hk => by cases hk)
 ·cases h; exact tok_of inf_82 rfl rfl zok_nilf (⟨_, _, _, Try.underlying82⟩) (fun ks hk => by cases hk)
 ·cases h; exact tok_of inf_83 rfl rfl (zok_int _ _) (Try.underlying83) (fun ks hk => by cases hk)
 ·cases h; exact tok_of inf_84 rfl rfl zok_nilf (⟨_, _, _, Try.underlying84⟩) (fun ks hk => by cases hk)
 ·cases h; exact tok_of inf_86 rfl rfl zok_nilf (⟨_, _, _, Try.underlying86⟩) (fun ks hk => by cases hk)
 ·cases h; exact tok_of inf_87 rfl rfl zok_nilf (⟨_, _, _, Try.underlying87⟩) (fun ks hk => by cases hk)
 ·cases h; exact tok_of inf_88 rfl rfl (zok_int _ _) (Try.underlying88) (fun ks hk => by cases hk)
 ·cases h; exact tok_of inf_90 rfl rfl zok_nilf (⟨_, _, _, Try.underlying90⟩) (fun ks hk => by cases hk)
 ·cases h; exact tok_of inf_91 rfl rfl zok_nilf (⟨_, _, _, Try.underlying91⟩) (fun ks hk => by cases hk)
 ·cases h; exact tok_of inf_92 rfl rfl zok_nilf (⟨_, _, _, Try.underlying92⟩) (fun ks hk => by cases hk)
 ·cases h; exact tok_of inf_94 rfl rfl zok_nilf (⟨_, _, _, Try.underlying94⟩) (fun ks hk => by cases hk)
 ·cases h; exact tok_of inf_95 rfl rfl zok_nilf (⟨_, _, _, Try.underlying95⟩) (fun ks hk => by cases hk)
 ·cases h; exact tok_of inf_96 rfl rfl (zok_int _ _) (Try.underlying96) (fun ks hk => by cases hk)
 ·cases h; exact tok_of inf_97 rfl rfl zok_nilf (⟨_, _, _, Try.underlying97⟩) (fun ks hk => by cases hk)
 ·cases h; exact tok_of inf_98 rfl rfl (zok_int _ _) (Try.underlying98) (fun ks hk => by cases hk)
 ·cases h; exact tok_of inf_100 rfl rfl zok_nilf (⟨_, _, _, Try.underlying100⟩) (fun ks hk => by cases hk)
 ·cases h; exact tok_of inf_102 rfl rfl zok_nilf (⟨_, _, _, Try.underlying102⟩) (fun ks hk => by cases hk)
 ·cases h; exact tok_of inf_103 rfl rfl (zok_int _ _) (Try.underlying103) (fun ks hk => by cases hk)
 ·cases h; exact tok_of inf_104 rfl rfl zok_nilf (⟨_, _, _, Try.underlying104⟩) (fun ks hk => by cases hk)
 ·cases h; exact tok_of inf_105 rfl rfl zok_nilf (⟨_, _, _, Try.underlying105⟩) (fun ks hk => by cases hk)
 ·cases h; exact tok_of inf_106 rfl rfl zok_nilf (⟨_, _, _, Try.underlying106⟩) (fun ks hk => by cases hk)
 ·cases h; exact tok_of inf_107 rfl rfl zok_nilp (⟨_, Try.underlying107⟩) (fun ks hk => by cases hk)
 ·cases h; exact tok_of inf_108 rfl rfl zok_nilf (⟨_, _, _, Try.underlying108⟩) (fun ks hk => by cases hk)
 ·cases h; exact tok_of inf_109 rfl rfl zok_nilp (⟨_, Try.underlying109⟩) (fun ks hk => by cases hk)
 ·cases h; exact tok_of inf_111 rfl rfl zok_nilf (⟨_, _, _, Try.underlying111⟩) (fun ks hk => by cases hk)
 ·cases h; exact tok_of inf_112 rfl rfl zok_nilf (⟨_, _, _, Try.underlying112⟩) (fun ks hk => by cases hk)
 ·cases h; exact tok_of inf_118 rfl rfl zok_nilf (⟨_, _, _, Try.underlying118⟩) (fun ks hk => by cases hk)
 ·cases h; exact tok_of inf_121 rfl rfl zok_nilf (⟨_, _, _, Try.underlying121⟩) (fun ks hk => by cases hk)
 ·cases h; exact tok_of inf_122 rfl rfl zok_nilp (⟨_, Try.underlying122⟩) (fun ks hk => by cases hk)
 ·cases h
end Go.Proofs.Yteifhcohmipdcaa
namespace Go.Proofs.Yteifhcohmipdcaa
open Go.Abs
set_option linter.unusedSimpArgs false
set_option linter.unusedVariables false
structure Gr where
 nodes : List ByteArray
 edges : List (Int × Int)
def encE (e : Int × Int) : AV := .agg [.int .i64 e.1, .int .i64 e.2]
def encG (g : Gr) : AV := .agg [.ro (g.nodes.map .str), .ro (g.edges.map encE)]
theorem wrap_ok {n : Int} (h1 : -9223372036854775808 ≤ n) (h2 : n ≤ 9223372036854775807) : IntKind.i64.wrap n = n := by rw [IntKind.wrap_i64]; omega
theorem mixed : Try.prog.follows .mixedOrders = true := by kernel_rfl
def listUpto (bs : List Bool) (n : Nat) : List Int := ((List.range n).filter fun i => bs.getD i false).map fun i : Nat => (i : Int)
theorem listUpto_t {bs : List Bool} {n : Nat} (h : n < bs.length) (hb : bs[n] = true) : listUpto bs (n + 1) = listUpto bs n ++ [(n : Int)] := by
 simp [listUpto, List.range_succ, List.filter_append, h, hb]
theorem listUpto_f {bs : List Bool} {n : Nat} (h : n < bs.length) (hb : bs[n] = false) : listUpto bs (n + 1) = listUpto bs n := by
 simp [listUpto, List.range_succ, List.filter_append, h, hb]
theorem listUpto_len (bs : List Bool) (n : Nat) : (listUpto bs n).length ≤ n := by
 simp only [listUpto, List.length_map]
 exact Nat.le_trans (List.length_filter_le _ _) (by simp)
theorem take_map_len {α β : Type} (f : α → β) (l : List α) : (l.map f).take l.length = l.map f := by rw [List.take_of_length_le]; simp
theorem fun1_pure {f : FuncId} {args : List AV} {v : AV} (h : ACalls Try.prog f args AHeap.nil fun r _ => r = v) (hp : ∀ a ∈ args, Pu a) (hv : Pu v) : Fun1 Try.prog f args v :=
 fun H => ACalls.pure h hp (K := fun r => r = v) (fun r H' e => ⟨v, by subst e; exact .pure hv, hv, rfl⟩) H
def RowOut (e : TypeId) (sz : Nat) (es : List AV) (r : AV) (H : AHeap) : Prop := ∃ id g, r = .sl id g 0 es.length ∧ H.get id = some (.row e sz g es)
theorem fun1_row {f : FuncId} {args : List AV} {e : TypeId} {sz : Nat} {es : List AV} (h : ACalls Try.prog f args AHeap.nil (RowOut e sz es)) (hp : ∀ a ∈ args, Pu a) (hv : ∀ x ∈ es, Pu x) (h1 : ∀ x ∈ es, ∀ v ∈ x.cells, v.one = true) : Fun1 Try.prog f args (.ro es) := by
 refine fun H => ACalls.pure h hp (K := fun r => r = .ro es) (fun r H' ⟨id, g, hr, hb⟩ => ⟨.ro es, ?_, .ro hv, rfl⟩) H
 subst hr
 refine .sl hb (by simp) rfl (fun j x y hx hy q u v hu hv' => ?_) (fun y hy => ⟨y, hy, rfl⟩) h1
 rw [Nat.zero_add] at hx
 rw [hx] at hy; cases hy
 rw [hu] at hv'; cases hv'
 exact .pure ((hv x (List.mem_of_getElem? hx)).cells (List.mem_of_getElem? hu))
def RowN (e : TypeId) (sz : Nat) (es : List AV) (r : AV) (H : AHeap) : Prop := (r = .nils ∧ es = []) ∨ RowOut e sz es r H
theorem funW_rowN {f : FuncId} {args : List AV} {e : TypeId} {sz : Nat} {es : List AV} (h : ACalls Try.prog f args AHeap.nil (RowN e sz es)) (hp : ∀ a ∈ args, Pu a) (hv : ∀ x ∈ es, Pu x) (hs : ∀ x ∈ es, ∀ v ∈ x.cells, Scal v) (h1 : ∀ x ∈ es, ∀ v ∈ x.cells, v.one = true) : FunW Try.prog f args (.ro es) := by
 refine fun _ _ hf => ACalls.pureW h hp (K := fun r => r = .ro es) (fun r H' hr => ⟨.ro es, ?_, .ro hv, rfl⟩) hf
 rcases hr with ⟨rfl, rfl⟩ | ⟨id, g, hr, hb⟩
 ·exact .nils
 subst hr
 refine .sl hb (by simp) rfl (fun j x y hx hy q u v hu hv' => ?_) (fun y hy => ⟨y, hy, rfl⟩) h1
 rw [Nat.zero_add] at hx
 rw [hx] at hy; cases hy
 rw [hu] at hv'; cases hv'
 exact .scal (hs x (List.mem_of_getElem? hx) _ (List.mem_of_getElem? hu))
theorem funW_pure {f : FuncId} {args : List AV} {v : AV} (h : ACalls Try.prog f args AHeap.nil fun r _ => r = v) (hp : ∀ a ∈ args, Pu a) (hv : Scal v) (hpu : Pu v) : FunW Try.prog f args v :=
 fun _ _ hf => ACalls.pureW h hp (K := fun r => r = v) (fun r H' e => ⟨v, by subst e; exact .scal hv, hpu, rfl⟩) hf
theorem funW_row {f : FuncId} {args : List AV} {e : TypeId} {sz : Nat} {es : List AV} (h : ACalls Try.prog f args AHeap.nil (RowOut e sz es)) (hp : ∀ a ∈ args, Pu a) (hv : ∀ x ∈ es, Pu x) (hs : ∀ x ∈ es, ∀ v ∈ x.cells, Scal v) (h1 : ∀ x ∈ es, ∀ v ∈ x.cells, v.one = true) : FunW Try.prog f args (.ro es) := by
 refine fun _ _ hf => ACalls.pureW h hp (K := fun r => r = .ro es) (fun r H' ⟨id, g, hr, hb⟩ => ⟨.ro es, ?_, .ro hv, rfl⟩) hf
 subst hr
 refine .sl hb (by simp) rfl (fun j x y hx hy q u v hu hv' => ?_) (fun y hy => ⟨y, hy, rfl⟩) h1
 rw [Nat.zero_add] at hx
 rw [hx] at hy; cases hy
 rw [hu] at hv'; cases hv'
 exact .scal (hs x (List.mem_of_getElem? hx) _ (List.mem_of_getElem? hu))
theorem funW_frw {f : FuncId} {args : List AV} {v : AV} (h : ACalls Try.prog f args AHeap.nil fun r H => Frw H r v) (hp : ∀ a ∈ args, Pu a) (hpu : Pu v) : FunW Try.prog f args v :=
 fun _ _ hf => ACalls.pureW h hp (K := fun r => r = v) (fun r H' hr => ⟨v, hr, hpu, rfl⟩) hf
theorem fun1_frz {f : FuncId} {args : List AV} {v : AV} (h : ACalls Try.prog f args AHeap.nil fun r H => Frz H r v) (hp : ∀ a ∈ args, Pu a) (hpu : Pu v) : Fun1 Try.prog f args v :=
 fun H => ACalls.pure h hp (K := fun r => r = v) (fun r H' hr => ⟨v, hr, hpu, rfl⟩) H
theorem frw_row {H : AHeap} {id g n : Nat} {e : TypeId} {sz : Nat} {es : List AV} (hb : H.get id = some (.row e sz g es)) (hn : n = es.length) (hs : ∀ x ∈ es, ∀ v ∈ x.cells, Scal v) (h1 : ∀ x ∈ es, ∀ v ∈ x.cells, v.one = true) : Frw H (.sl id g 0 n) (.ro es) := by
 subst hn
 refine .sl hb (by simp) rfl (fun j x y hx hy q u v hu hv' => ?_) (fun y hy => ⟨y, hy, rfl⟩) h1
 rw [Nat.zero_add] at hx
 rw [hx] at hy; cases hy
 rw [hu] at hv'; cases hv'
 exact .scal (hs x (List.mem_of_getElem? hx) _ (List.mem_of_getElem? hu))
def Own (e sz lo : Nat) (es : List AV) (v : AV) (H : AHeap) : Prop := (v = .nils ∧ es = []) ∨ ∃ id g, v = .sl id g 0 es.length ∧ H.get id = some (.row e sz g es) ∧ lo ≤ id
theorem Own.mk {e sz lo id g n : Nat} {es es' : List AV} {H : AHeap} (hb : H.get id = some (.row e sz g es')) (he : es' = es) (hn : n = es.length) (hlo : lo ≤ id) : Own e sz lo es (.sl id g 0 n) H := by
 subst he; subst hn; exact .inr ⟨id, g, rfl, hb, hlo⟩
theorem Own.one {e sz lo : Nat} {es : List AV} {v : AV} {H : AHeap} (h : Own e sz lo es v H) : v.one = true := by
 rcases h with ⟨rfl, _⟩ | ⟨id, g, rfl, _⟩ <;> rfl
theorem Own.keep {e sz lo : Nat} {es : List AV} {v : AV} {H H' : AHeap} (h : Own e sz lo es v H) (hk : ∀ j, lo ≤ j → H'.get j = H.get j) : Own e sz lo es v H' := by
 rcases h with h | ⟨id, g, h1, h2, h3⟩
 ·exact .inl h
 ·exact .inr ⟨id, g, h1, by rw [hk id h3]; exact h2, h3⟩
theorem Own.frw {e sz lo : Nat} {es : List AV} {v : AV} {H : AHeap} (h : Own e sz lo es v H) (hs : ∀ x ∈ es, ∀ v ∈ x.cells, Scal v) (h1 : ∀ x ∈ es, ∀ v ∈ x.cells, v.one = true) : Frw H v (.ro es) := by
 rcases h with ⟨rfl, rfl⟩ | ⟨id, g, rfl, hb, _⟩
 ·exact .nils
 ·exact frw_row hb rfl hs h1
theorem Own.frz {e sz lo : Nat} {es : List AV} {v : AV} {H : AHeap} (h : Own e sz lo es v H) (hv : ∀ x ∈ es, Pu x) (h1 : ∀ x ∈ es, ∀ v ∈ x.cells, v.one = true) : Frz H v (.ro es) := by
 rcases h with ⟨rfl, rfl⟩ | ⟨id, g, rfl, hb, _⟩
 ·exact .nils
 ·refine .sl hb (by simp) rfl (fun j x y hx hy q u v hu hv' => ?_) (fun y hy => ⟨y, hy, rfl⟩) h1
  rw [Nat.zero_add] at hx
  rw [hx] at hy; cases hy
  rw [hu] at hv'; cases hv'
  exact .pure ((hv x (List.mem_of_getElem? hx)).cells (List.mem_of_getElem? hu))
theorem frz_row {H : AHeap} {id g n : Nat} {e : TypeId} {sz : Nat} {es : List AV} (hb : H.get id = some (.row e sz g es)) (hn : n = es.length) (hv : ∀ x ∈ es, Pu x) (h1 : ∀ x ∈ es, ∀ v ∈ x.cells, v.one = true) : Frz H (.sl id g 0 n) (.ro es) := by
 subst hn
 refine .sl hb (by simp) rfl (fun j x y hx hy q u v hu hv' => ?_) (fun y hy => ⟨y, hy, rfl⟩) h1
 rw [Nat.zero_add] at hx
 rw [hx] at hy; cases hy
 rw [hu] at hv'; cases hv'
 exact .pure ((hv x (List.mem_of_getElem? hx)).cells (List.mem_of_getElem? hu))
theorem pu_int (k : IntKind) (n : Int) : Pu (.int k n) := .int k n
theorem pu_ints (xs : List Int) : Pu (.ro (xs.map (.int .i64))) := .ro fun v hv => by obtain ⟨x, _, rfl⟩ := List.mem_map.1 hv; exact .int _ _
theorem pu_bools (xs : List Bool) : Pu (.ro (xs.map .bool)) := .ro fun v hv => by obtain ⟨x, _, rfl⟩ := List.mem_map.1 hv; exact .bool _
theorem pu_edge (e : Int × Int) : Pu (encE e) := .agg fun v hv => by
 simp only [List.mem_cons, List.not_mem_nil, or_false] at hv
 rcases hv with rfl | rfl <;> exact .int _ _
theorem pu_graph (g : Gr) : Pu (encG g) := .agg fun v hv => by
 simp only [List.mem_cons, List.not_mem_nil, or_false] at hv
 rcases hv with rfl | rfl
 ·exact .ro fun v hv => by obtain ⟨x, _, rfl⟩ := List.mem_map.1 hv; exact .str _
 ·exact .ro fun v hv => by obtain ⟨x, _, rfl⟩ := List.mem_map.1 hv; exact pu_edge _
theorem one_ints {xs : List Int} {x : AV} (hx : x ∈ xs.map (.int .i64)) : ∀ v ∈ x.cells, v.one = true := by
 obtain ⟨x, _, rfl⟩ := List.mem_map.1 hx; simp [AV.cells, AV.one]
theorem one_bools {xs : List Bool} {x : AV} (hx : x ∈ xs.map .bool) : ∀ v ∈ x.cells, v.one = true := by
 obtain ⟨x, _, rfl⟩ := List.mem_map.1 hx; simp [AV.cells, AV.one]
theorem pu_of_ints {xs : List Int} {x : AV} (hx : x ∈ xs.map (.int .i64)) : Pu x := by obtain ⟨x, _, rfl⟩ := List.mem_map.1 hx; exact .int _ _
theorem pu_of_bools {xs : List Bool} {x : AV} (hx : x ∈ xs.map .bool) : Pu x := by obtain ⟨x, _, rfl⟩ := List.mem_map.1 hx; exact .bool _
theorem scal_ints {xs : List Int} {x : AV} (hx : x ∈ xs.map (.int .i64)) : ∀ v ∈ x.cells, Scal v := by obtain ⟨x, _, rfl⟩ := List.mem_map.1 hx; simp only [AV.cells, List.mem_singleton, forall_eq]; exact .int _ _
theorem scal_bools {xs : List Bool} {x : AV} (hx : x ∈ xs.map .bool) : ∀ v ∈ x.cells, Scal v := by obtain ⟨x, _, rfl⟩ := List.mem_map.1 hx; simp only [AV.cells, List.mem_singleton, forall_eq]; exact .bool _
theorem frz_ints {H : AHeap} {id g n : Nat} {e : TypeId} {xs : List Int} (hb : H.get id = some (.row e 1 g (xs.map (.int .i64)))) (hn : n = xs.length) : Frz H (.sl id g 0 n) (.ro (xs.map (.int .i64))) :=
 frz_row hb (by simp [hn]) (fun _ => pu_of_ints) (fun _ => one_ints)
theorem pu_nil : ∀ a ∈ ([] : List AV), Pu a := fun _ h => by cases h
theorem pu_cons {a : AV} {l : List AV} (h : Pu a) (hs : ∀ x ∈ l, Pu x) : ∀ x ∈ a :: l, Pu x := fun x hx => by
 rcases List.mem_cons.1 hx with rfl | hx
 ·exact h
 ·exact hs x hx
theorem one_edge {es : List (Int × Int)} {x : AV} (hx : x ∈ es.map encE) : ∀ v ∈ x.cells, v.one = true := by
 obtain ⟨x, _, rfl⟩ := List.mem_map.1 hx; simp [encE, AV.cells, AV.one]
theorem pu_of_edges {es : List (Int × Int)} {x : AV} (hx : x ∈ es.map encE) : Pu x := by obtain ⟨x, _, rfl⟩ := List.mem_map.1 hx; exact pu_edge _
theorem scal_strs {ss : List ByteArray} {x : AV} (hx : x ∈ ss.map .str) : ∀ v ∈ x.cells, Scal v := by
 obtain ⟨x, _, rfl⟩ := List.mem_map.1 hx; simp only [AV.cells, List.mem_singleton, forall_eq]; exact .str _
theorem one_strs {ss : List ByteArray} {x : AV} (hx : x ∈ ss.map .str) : ∀ v ∈ x.cells, v.one = true := by
 obtain ⟨x, _, rfl⟩ := List.mem_map.1 hx; simp [AV.cells, AV.one]
theorem pu_strs (ss : List ByteArray) : Pu (.ro (ss.map .str)) := .ro fun v hv => by obtain ⟨x, _, rfl⟩ := List.mem_map.1 hv; exact .str _
theorem pu_edges (es : List (Int × Int)) : Pu (.ro (es.map encE)) := .ro fun v hv => by obtain ⟨x, _, rfl⟩ := List.mem_map.1 hv; exact pu_edge _
set_option maxHeartbeats 1000000 in
theorem equalI0 (xs ys : List Int) (hx : xs.length ≤ 1000000) : ACalls Try.prog 12 [.ro (xs.map (AV.int IntKind.i64)), .ro (ys.map (AV.int IntKind.i64))] AHeap.nil (fun r _ => r = .bool (decide (xs = ys))) := by
 refine acalls_body TT_ok Try.func12 rfl rfl (by simp [Try.ntmps12]) ?_;rw [Try.ntmps12];obtain ⟨σ, hσ⟩ : ∃ σ, σ = st0 [.ro (xs.map (AV.int IntKind.i64)), .ro (ys.map (AV.int IntKind.i64))] := ⟨_, rfl⟩;rw [← hσ];obtain ⟨h0_0, h1_0⟩ := fs2 hσ 0 1;simp [st0] at h0_0 h1_0;clear hσ;obtain ⟨H, hH⟩ : ∃ H, H = AHeap.nil := ⟨_, rfl⟩;rw [← hH];have hn_0 : H.n = 0 := by rw [hH]; rfl
 have hst_0 : H.st = 1 := by rw [hH]; rfl
 clear hH;refine stp_reg TT_ok (by rfl) fun K hK => ?_;simp [];(try refine And.intro (by first|omega|rfl) ?_);refine hK _ _ fun σ1 hσ H1 hH => ?_;clear hK K;obtain ⟨h0_1, h1_1⟩ := fs2 hσ 0 1;simp [h0_0, h1_0] at h0_1 h1_1;clear hσ;replace hH : H = H1 := Eq.symm hH;subst hH;refine awp_seq ?_;refine stp_reg TT_ok (by rfl) fun K hK => ?_;simp [h0_1, h1_1];(try refine And.intro (by first|omega|rfl) ?_);refine hK _ _ fun σ2 hσ H2 hH => ?_;clear hK K;obtain ⟨h0_2, h1_2, h10_2⟩ := fs3 hσ 0 1 10;simp [h0_1, h1_1] at h0_2 h1_2 h10_2;clear hσ;replace hH : H = H2 := Eq.symm hH;subst hH;refine awp_cond _ (by simp only [aeval_tmp]; exact h10_2) (fun hc10 => ?_) (fun hc10 => ?_)
 ·(try simp at hc10);refine stp_reg TT_ok (by rfl) fun K hK => ?_;simp [];(try refine And.intro (by first|omega|rfl) ?_);refine hK _ _ fun σ3 hσ H3 hH => ?_;clear hK K;have h4_3 := congrFun hσ 4;simp [] at h4_3;clear hσ;replace hH : H = H3 := Eq.symm hH;subst hH;refine awp_ret ?_;refine q_seq_ret ?_;refine q_fin1 h4_3 ?_;simp; intro h; exact hc10 (by rw [h])
 ·(try simp at hc10);have hxy : xs.length = ys.length := by exact_mod_cast hc10
  refine awp_skip ?_;refine q_seq ?_;refine awp_seq ?_;refine stp_reg TT_ok (by rfl) fun K hK => ?_;simp [h0_2];(try refine And.intro (by first|omega|rfl) ?_);refine hK _ _ fun σ4 hσ H4 hH => ?_;clear hK K;obtain ⟨h0_4, h1_4, h12_4, h13_4⟩ := fs4 hσ 0 1 12 13;simp [h0_2, h1_2] at h0_4 h1_4 h12_4 h13_4;clear hσ;replace hH : H = H4 := Eq.symm hH;subst hH;refine awp_block ?_;refine awp_loopV (fun n σ' H' => ∃ (i : Nat), n = xs.length - i ∧ σ' 0 = σ4 0 ∧ σ' 1 = σ4 1 ∧ σ' 12 = σ4 12 ∧ σ' 13 = (AV.int IntKind.i64) i ∧ H' = H ∧ (i ≤ xs.length) ∧ (xs.take i = ys.take i)) ?_ ?_
  ·refine ⟨_, 0, rfl, rfl, rfl, rfl, (by simp [h13_4]), rfl, ?_, ?_⟩
   ·first | omega | (simp; done) | assumption
   ·first | omega | (simp; done) | assumption
  ·rintro n1 σ5 H5 ⟨i, hn1, q0_5, q1_5, q12_5, h13_5, hHq, p1, p2⟩
   have h0_5 := q0_5.trans h0_4;have h1_5 := q1_5.trans h1_4;have h12_5 := q12_5.trans h12_4;replace hHq := hHq.symm;subst hHq;refine stp_reg TT_ok (by rfl) fun K hK => ?_;simp [h12_5, h13_5];(try refine And.intro (by first|omega|rfl) ?_);refine hK _ _ fun σ6 hσ H6 hH => ?_;clear hK K;obtain ⟨h0_6, h1_6, h12_6, h13_6, h14_6⟩ := fs5 hσ 0 1 12 13 14;simp [h0_5, h1_5, h12_5, h13_5] at h0_6 h1_6 h12_6 h13_6 h14_6;clear hσ;replace hH : H = H6 := Eq.symm hH;subst hH;refine awp_seq ?_;refine awp_cond _ (by simp only [aeval_tmp]; exact h14_6) (fun hc14 => ?_) (fun hc14 => ?_)
   ·(try simp at hc14);have hlt : i < xs.length := by simpa using hc14
    have hlt2 : i < ys.length := by omega
    refine awp_skip ?_;refine q_seq ?_;refine awp_seq ?_;refine awp_block ?_;refine stp_reg TT_ok (by rfl) fun K hK => ?_;simp [h13_6];(try refine And.intro (by first|omega|rfl) ?_);refine hK _ _ fun σ7 hσ H7 hH => ?_;clear hK K;obtain ⟨h0_7, h1_7, h5_7, h12_7, h13_7⟩ := fs5 hσ 0 1 5 12 13;simp [h0_6, h1_6, h12_6, h13_6] at h0_7 h1_7 h5_7 h12_7 h13_7;clear hσ;replace hH : H = H7 := Eq.symm hH;subst hH;refine stp_lex false TT_ok mixed (by rfl) (by rfl) (by kernel_rfl) (by rfl) fun U hU K hK => ?_;simp [h0_7, h1_7, h5_7, hlt, hlt2];(try refine And.intro (by first|omega|rfl) ?_);refine hK _ _ _ (by subst hU; kernel_rfl) fun σ8 hσ H8 hH => ?_;clear hK K hU U;obtain ⟨h0_8, h1_8, h12_8, h13_8, h24_8⟩ := fs5 hσ 0 1 12 13 24;simp [h0_7, h1_7, h12_7, h13_7] at h0_8 h1_8 h12_8 h13_8 h24_8;clear hσ;replace hH : H = H8 := Eq.symm hH;subst hH;refine awp_cond _ (by simp only [aeval_tmp]; exact h24_8) (fun hc24 => ?_) (fun hc24 => ?_)
    ·(try simp at hc24);refine stp_reg TT_ok (by rfl) fun K hK => ?_;simp [];(try refine And.intro (by first|omega|rfl) ?_);refine hK _ _ fun σ9 hσ H9 hH => ?_;clear hK K;have h4_9 := congrFun hσ 4;simp [] at h4_9;clear hσ;replace hH : H = H9 := Eq.symm hH;subst hH;refine awp_ret ?_;refine q_block_ret ?_;refine q_seq_ret ?_;refine q_loop_ret ?_;refine q_block_ret ?_;refine q_seq_ret ?_;refine q_fin1 h4_9 ?_;simp; intro h; subst h; simp at hc24
    ·(try simp at hc24);refine awp_skip ?_;refine q_block ?_;refine q_seq ?_;refine stp_regl TT_ok (by rfl) fun K hK => ?_;simp [h13_8, wrap_ok (n := (i : Int) + 1) (by omega) (by omega)];(try refine And.intro (by first|omega|rfl) ?_);refine hK _ _ fun σ10 hσ H10 hH => ?_;clear hK K;obtain ⟨h0_10, h1_10, h12_10, h13_10⟩ := fs4 hσ 0 1 12 13;simp [h0_8, h1_8, h12_8] at h0_10 h1_10 h12_10 h13_10;clear hσ;replace hH : H = H10 := Eq.symm hH;subst hH;refine ⟨_, ?_, i + 1, rfl, (h0_10.trans h0_4.symm), (h1_10.trans h1_4.symm), (h12_10.trans h12_4.symm), (by simp [h13_10]), rfl, ?_, ?_⟩
     ·subst hn1; omega
     ·first | omega | assumption | (simp; done)
     ·rw [List.take_succ_eq_append_getElem hlt, List.take_succ_eq_append_getElem hlt2, p2, hc24]
   ·(try simp at hc14);refine awp_exit ?_;refine q_seq_exit ?_;refine q_loop_exit ?_;refine q_block_hit ?_;refine q_seq ?_;refine stp_reg TT_ok (by rfl) fun K hK => ?_;simp [];(try refine And.intro (by first|omega|rfl) ?_);refine hK _ _ fun σ11 hσ H11 hH => ?_;clear hK K;have h4_11 := congrFun hσ 4;simp [] at h4_11;clear hσ;replace hH : H = H11 := Eq.symm hH;subst hH;refine awp_ret ?_;refine q_fin1 h4_11 ?_;have : i = xs.length := by have := hc14; omega
    subst this; simp; rw [List.take_length, hxy, List.take_length] at p2; exact p2
set_option maxHeartbeats 1000000 in
theorem few0 (g : Gr) : ACalls Try.prog 11 [encG g] AHeap.nil (fun r _ => r = .bool (decide (g.nodes.length ≤ 14 ∧ g.edges.length ≤ 60))) := by
 refine acalls_body TT_ok Try.func11 rfl rfl (by simp [Try.ntmps11]) ?_;rw [Try.ntmps11];obtain ⟨σ, hσ⟩ : ∃ σ, σ = st0 [encG g] := ⟨_, rfl⟩;rw [← hσ];have h0_0 := congrFun hσ 0;simp [st0] at h0_0;clear hσ;obtain ⟨H, hH⟩ : ∃ H, H = AHeap.nil := ⟨_, rfl⟩;rw [← hH];have hn_0 : H.n = 0 := by rw [hH]; rfl
 have hst_0 : H.st = 1 := by rw [hH]; rfl
 clear hH;refine stp_reg TT_ok (by rfl) fun K hK => ?_;simp [h0_0, hn_0, hst_0, encG];(try refine And.intro (by first|omega|rfl) ?_);refine hK _ _ fun σ1 hσ H1 hH => ?_;clear hK K;have h1_1 := congrFun hσ 1;simp [] at h1_1;clear hσ;have g0_1 := gt_of hH 0;simp [hn_0, hst_0] at g0_1;have hn_1 := congrArg AHeap.n hH;simp [hn_0, hst_0] at hn_1;have hst_1 := congrArg AHeap.st hH;simp [hn_0, hst_0] at hst_1;clear hH
 by_cases hs : (g.nodes.length : Int) ≤ 14
 ·skip;refine stp_reg TT_ok (by rfl) fun K hK => ?_;simp [h1_1, g0_1, hs, encG];(try refine And.intro (by first|omega|rfl) ?_);refine hK _ _ fun σ2 hσ H2 hH => ?_;clear hK K;have h2_2 := congrFun hσ 2;simp [] at h2_2;clear hσ;replace hH : H1 = H2 := Eq.symm hH;subst hH;refine awp_ret ?_;refine q_fin1 h2_2 ?_;have : g.nodes.length ≤ 14 := by omega
  simp [this]; omega
 ·skip;refine stp_reg TT_ok (by rfl) fun K hK => ?_;simp [h1_1, g0_1, hs, encG];(try refine And.intro (by first|omega|rfl) ?_);refine hK _ _ fun σ3 hσ H3 hH => ?_;clear hK K;have h2_3 := congrFun hσ 2;simp [] at h2_3;clear hσ;replace hH : H1 = H3 := Eq.symm hH;subst hH;refine awp_ret ?_;refine q_fin1 h2_3 ?_;simp; omega
theorem equalI (xs ys : List Int) (hx : xs.length ≤ 1000000) : Fun1 Try.prog 12 [.ro (xs.map (AV.int IntKind.i64)), .ro (ys.map (AV.int IntKind.i64))] (.bool (decide (xs = ys))) :=
 fun1_pure (equalI0 xs ys hx) (pu_cons (pu_ints _) (pu_cons (pu_ints _) pu_nil)) (.bool _)
theorem equalI_w (xs ys : List Int) (hx : xs.length ≤ 1000000) : FunW Try.prog 12 [.ro (xs.map (AV.int IntKind.i64)), .ro (ys.map (AV.int IntKind.i64))] (.bool (decide (xs = ys))) :=
 funW_pure (equalI0 xs ys hx) (pu_cons (pu_ints _) (pu_cons (pu_ints _) pu_nil)) (.bool _) (.bool _)
theorem few_ok (g : Gr) : Fun1 Try.prog 11 [encG g] (.bool (decide (g.nodes.length ≤ 14 ∧ g.edges.length ≤ 60))) := fun1_pure (few0 g) (pu_cons (pu_graph _) pu_nil) (.bool _)
def okE (n : Nat) (e : Int × Int) : Bool := decide (0 ≤ e.1 ∧ e.1 < n ∧ 0 ≤ e.2 ∧ e.2 < n)
def Gr.valid (g : Gr) : Bool := decide (g.nodes.length ≤ 1024) && decide (g.edges.length ≤ 4096) && g.edges.all (okE g.nodes.length)
theorem all_take_succ {α : Type} {p : α → Bool} {l : List α} {i : Nat} (h : i < l.length) (h1 : (l.take i).all p = true) (h2 : p l[i] = true) : (l.take (i + 1)).all p = true := by
 rw [List.take_succ_eq_append_getElem h, List.all_append, h1]; simp [h2]
theorem all_false {α : Type} {p : α → Bool} {l : List α} {i : Nat} (h : i < l.length) (h2 : p l[i] = false) : l.all p = false := by
 rw [Bool.eq_false_iff]; intro ha;rw [List.all_eq_true.1 ha _ (List.getElem_mem h)] at h2; cases h2
set_option maxHeartbeats 1000000 in
theorem refValid0 (g : Gr) : ACalls Try.prog 20 [encG g] AHeap.nil (fun r _ => r = .bool g.valid) := by
 refine acalls_body TT_ok Try.func20 rfl rfl (by simp [Try.ntmps20]) ?_;rw [Try.ntmps20];obtain ⟨σ, hσ⟩ : ∃ σ, σ = st0 [encG g] := ⟨_, rfl⟩;rw [← hσ];have h0_0 := congrFun hσ 0;simp [st0] at h0_0;clear hσ;obtain ⟨H, hH⟩ : ∃ H, H = AHeap.nil := ⟨_, rfl⟩;rw [← hH];have hn_0 : H.n = 0 := by rw [hH]; rfl
 have hst_0 : H.st = 1 := by rw [hH]; rfl
 clear hH;refine stp_reg TT_ok (by rfl) fun K hK => ?_;simp [h0_0, hn_0, hst_0, encG];(try refine And.intro (by first|omega|rfl) ?_);refine hK _ _ fun σ1 hσ H1 hH => ?_;clear hK K;have h1_1 := congrFun hσ 1;simp [] at h1_1;clear hσ;have g0_1 := gt_of hH 0;simp [hn_0, hst_0] at g0_1;have hn_1 := congrArg AHeap.n hH;simp [hn_0, hst_0] at hn_1;have hst_1 := congrArg AHeap.st hH;simp [hn_0, hst_0] at hst_1;clear hH;refine stp_reg TT_ok (by rfl) fun K hK => ?_;simp [h1_1, g0_1, encG];(try refine And.intro (by first|omega|rfl) ?_);refine hK _ _ fun σ2 hσ H2 hH => ?_;clear hK K;obtain ⟨h1_2, h3_2⟩ := fs2 hσ 1 3;simp [h1_1] at h1_2 h3_2;clear hσ;replace hH : H1 = H2 := Eq.symm hH;subst hH;refine awp_seq ?_
 by_cases hn1 : (1024 : Int) < g.nodes.length
 ·skip;refine stp_reg TT_ok (by rfl) fun K hK => ?_;simp [h1_2, h3_2, g0_1, hn1, encG];(try refine And.intro (by first|omega|rfl) ?_);refine hK _ _ fun σ3 hσ H3 hH => ?_;clear hK K;obtain ⟨h1_3, h3_3, h16_3⟩ := fs3 hσ 1 3 16;simp [h1_2, h3_2] at h1_3 h3_3 h16_3;clear hσ;replace hH : H1 = H3 := Eq.symm hH;subst hH;refine stp_true (by simp [aeval_tmp, h16_3, hn1, encG]) ?_;refine stp_reg TT_ok (by rfl) fun K hK => ?_;simp [g0_1, hn1, encG];(try refine And.intro (by first|omega|rfl) ?_);refine hK _ _ fun σ4 hσ H4 hH => ?_;clear hK K;have h2_4 := congrFun hσ 2;simp [] at h2_4;clear hσ;replace hH : H1 = H4 := Eq.symm hH;subst hH;refine awp_ret ?_;refine q_seq_ret ?_;refine q_fin1 h2_4 ?_;have : ¬ g.nodes.length ≤ 1024 := by omega
  simp [Gr.valid, this]
 ·skip
  by_cases hn2 : (4096 : Int) < g.edges.length
  ·skip;refine stp_reg TT_ok (by rfl) fun K hK => ?_;simp [h1_2, h3_2, g0_1, hn1, hn2, encG];(try refine And.intro (by first|omega|rfl) ?_);refine hK _ _ fun σ5 hσ H5 hH => ?_;clear hK K;obtain ⟨h1_5, h3_5, h16_5⟩ := fs3 hσ 1 3 16;simp [h1_2, h3_2] at h1_5 h3_5 h16_5;clear hσ;replace hH : H1 = H5 := Eq.symm hH;subst hH;refine stp_true (by simp [aeval_tmp, h16_5, hn1, hn2, encG]) ?_;refine stp_reg TT_ok (by rfl) fun K hK => ?_;simp [g0_1, hn1, hn2, encG];(try refine And.intro (by first|omega|rfl) ?_);refine hK _ _ fun σ6 hσ H6 hH => ?_;clear hK K;have h2_6 := congrFun hσ 2;simp [] at h2_6;clear hσ;replace hH : H1 = H6 := Eq.symm hH;subst hH;refine awp_ret ?_;refine q_seq_ret ?_;refine q_fin1 h2_6 ?_;have : ¬ g.edges.length ≤ 4096 := by omega
   simp [Gr.valid, this]
  ·skip;refine stp_reg TT_ok (by rfl) fun K hK => ?_;simp [h1_2, h3_2, g0_1, hn1, hn2, encG];(try refine And.intro (by first|omega|rfl) ?_);refine hK _ _ fun σ7 hσ H7 hH => ?_;clear hK K;obtain ⟨h1_7, h3_7, h16_7⟩ := fs3 hσ 1 3 16;simp [h1_2, h3_2] at h1_7 h3_7 h16_7;clear hσ;replace hH : H1 = H7 := Eq.symm hH;subst hH;refine stp_false (by simp [aeval_tmp, h16_7, hn1, hn2, encG]) ?_;refine awp_skip ?_;refine q_seq ?_;refine awp_seq ?_;refine stp_reg TT_ok (by rfl) fun K hK => ?_;simp [g0_1, hn1, hn2, encG];(try refine And.intro (by first|omega|rfl) ?_);refine hK _ _ fun σ8 hσ H8 hH => ?_;clear hK K;obtain ⟨h1_8, h3_8, h4_8⟩ := fs3 hσ 1 3 4;simp [h1_7, h3_7] at h1_8 h3_8 h4_8;clear hσ;replace hH : H1 = H8 := Eq.symm hH;subst hH;refine awp_block ?_;refine awp_loopV (fun n σ' H' => ∃ (i : Nat), n = g.edges.length - i ∧ σ' 1 = σ8 1 ∧ σ' 3 = σ8 3 ∧ σ' 4 = (AV.int IntKind.i64) i ∧ H'.get 0 = H1.get 0 ∧ H'.st = H1.st ∧ (i ≤ g.edges.length) ∧ ((g.edges.take i).all (okE g.nodes.length) = true)) ?_ ?_
   ·refine ⟨_, 0, rfl, rfl, rfl, (by simp [h4_8]), rfl, rfl, ?_, ?_⟩
    ·first | omega | (simp; done) | assumption
    ·first | omega | (simp; done) | assumption
   ·rintro n1 σ9 H9 ⟨i, hn1, q1_9, q3_9, h4_9, qg0_9, qst_9, p1, p2⟩
    have h1_9 := q1_9.trans h1_8;have h3_9 := q3_9.trans h3_8;have g0_9 := qg0_9.trans g0_1;have hst_9 := qst_9.trans hst_1;refine awp_seq ?_;refine stp_reg TT_ok (by rfl) fun K hK => ?_;simp [h1_9, h4_9, g0_9, hn1, hn2, encG];(try refine And.intro (by first|omega|rfl) ?_);refine hK _ _ fun σ10 hσ H10 hH => ?_;clear hK K;obtain ⟨h1_10, h3_10, h4_10, h21_10⟩ := fs4 hσ 1 3 4 21;simp [h1_9, h3_9, h4_9] at h1_10 h3_10 h4_10 h21_10;clear hσ;replace hH : H9 = H10 := Eq.symm hH;subst hH;refine awp_cond _ (by simp only [aeval_tmp]; exact h21_10) (fun hc21 => ?_) (fun hc21 => ?_)
    ·(try simp at hc21);have hlt : i < g.edges.length := by simpa using hc21
     have hge : (g.edges.map encE)[i]? = some (encE g.edges[i]) := by simp [hlt]
     refine awp_skip ?_;refine q_seq ?_;refine awp_seq ?_;refine awp_block ?_;refine awp_ok fun hok => ?_;obtain ⟨m11, hn_m11⟩ : ∃ m, H9.n = m := ⟨_, rfl⟩;have hf_m11_0 := hok.free 0;simp [hn_m11, hst_9] at hf_m11_0;have nx1 := ne_get hf_m11_0 g0_9;refine stp_reg TT_ok (by rfl) fun K hK => ?_;simp [h1_10, h4_10, g0_9, hn_m11, hst_9, hn1, hn2, nx1, encG, hge, hlt, encE];(try refine And.intro (by first|omega|rfl) ?_);refine hK _ _ fun σ12 hσ H12 hH => ?_;clear hK K;obtain ⟨h1_12, h3_12, h4_12, h5_12⟩ := fs4 hσ 1 3 4 5;simp [h1_10, h3_10, h4_10] at h1_12 h3_12 h4_12 h5_12;clear hσ;have g0_12 := gt_of hH 0;have gm11_12 := gt_of hH m11;simp [g0_9, hn_m11, hst_9, hn1, hn2, nx1] at g0_12 gm11_12;have hst_12 := congrArg AHeap.st hH;simp [hst_9] at hst_12;clear hH
     by_cases ha : g.edges[i].1 < 0
     ·skip;refine stp_reg TT_ok (by rfl) fun K hK => ?_;simp [h3_12, h5_12, g0_12, gm11_12, hn1, hn2, nx1, ha, encG];(try refine And.intro (by first|omega|rfl) ?_);refine hK _ _ fun σ13 hσ H13 hH => ?_;clear hK K;obtain ⟨h1_13, h3_13, h4_13, h48_13⟩ := fs4 hσ 1 3 4 48;simp [h1_12, h3_12, h4_12] at h1_13 h3_13 h4_13 h48_13;clear hσ;replace hH : H12 = H13 := Eq.symm hH;subst hH;refine stp_true (by simp [aeval_tmp, h48_13, hn1, hn2, nx1, ha, encG]) ?_;refine stp_reg TT_ok (by rfl) fun K hK => ?_;simp [g0_12, gm11_12, hn1, hn2, nx1, ha, encG];(try refine And.intro (by first|omega|rfl) ?_);refine hK _ _ fun σ14 hσ H14 hH => ?_;clear hK K;have h2_14 := congrFun hσ 2;simp [] at h2_14;clear hσ;replace hH : H12 = H14 := Eq.symm hH;subst hH;refine awp_ret ?_;refine q_block_ret ?_;refine q_seq_ret ?_;refine q_loop_ret ?_;refine q_block_ret ?_;refine q_seq_ret ?_;refine q_fin1 h2_14 ?_;have hk : okE g.nodes.length g.edges[i] = false := by simp only [okE, decide_eq_false_iff_not]; omega
      simp [Gr.valid, all_false hlt hk]
     ·skip
      by_cases hb : (g.nodes.length : Int) ≤ g.edges[i].1
      ·skip;refine stp_reg TT_ok (by rfl) fun K hK => ?_;simp [h3_12, h5_12, g0_12, gm11_12, hn1, hn2, nx1, ha, hb, encG];(try refine And.intro (by first|omega|rfl) ?_);refine hK _ _ fun σ15 hσ H15 hH => ?_;clear hK K;obtain ⟨h1_15, h3_15, h4_15, h48_15⟩ := fs4 hσ 1 3 4 48;simp [h1_12, h3_12, h4_12] at h1_15 h3_15 h4_15 h48_15;clear hσ;replace hH : H12 = H15 := Eq.symm hH;subst hH;refine stp_true (by simp [aeval_tmp, h48_15, hn1, hn2, nx1, ha, hb, encG]) ?_;refine stp_reg TT_ok (by rfl) fun K hK => ?_;simp [g0_12, gm11_12, hn1, hn2, nx1, ha, hb, encG];(try refine And.intro (by first|omega|rfl) ?_);refine hK _ _ fun σ16 hσ H16 hH => ?_;clear hK K;have h2_16 := congrFun hσ 2;simp [] at h2_16;clear hσ;replace hH : H12 = H16 := Eq.symm hH;subst hH;refine awp_ret ?_;refine q_block_ret ?_;refine q_seq_ret ?_;refine q_loop_ret ?_;refine q_block_ret ?_;refine q_seq_ret ?_;refine q_fin1 h2_16 ?_;have hk : okE g.nodes.length g.edges[i] = false := by simp only [okE, decide_eq_false_iff_not]; omega
       simp [Gr.valid, all_false hlt hk]
      ·skip
       by_cases hc : g.edges[i].2 < 0
       ·skip;refine stp_reg TT_ok (by rfl) fun K hK => ?_;simp [h3_12, h5_12, g0_12, gm11_12, hn1, hn2, nx1, ha, hb, hc, encG];(try refine And.intro (by first|omega|rfl) ?_);refine hK _ _ fun σ17 hσ H17 hH => ?_;clear hK K;obtain ⟨h1_17, h3_17, h4_17, h48_17⟩ := fs4 hσ 1 3 4 48;simp [h1_12, h3_12, h4_12] at h1_17 h3_17 h4_17 h48_17;clear hσ;replace hH : H12 = H17 := Eq.symm hH;subst hH;refine stp_true (by simp [aeval_tmp, h48_17, hn1, hn2, nx1, ha, hb, hc, encG]) ?_;refine stp_reg TT_ok (by rfl) fun K hK => ?_;simp [g0_12, gm11_12, hn1, hn2, nx1, ha, hb, hc, encG];(try refine And.intro (by first|omega|rfl) ?_);refine hK _ _ fun σ18 hσ H18 hH => ?_;clear hK K;have h2_18 := congrFun hσ 2;simp [] at h2_18;clear hσ;replace hH : H12 = H18 := Eq.symm hH;subst hH;refine awp_ret ?_;refine q_block_ret ?_;refine q_seq_ret ?_;refine q_loop_ret ?_;refine q_block_ret ?_;refine q_seq_ret ?_;refine q_fin1 h2_18 ?_;have hk : okE g.nodes.length g.edges[i] = false := by simp only [okE, decide_eq_false_iff_not]; omega
        simp [Gr.valid, all_false hlt hk]
       ·skip
        by_cases hd : (g.nodes.length : Int) ≤ g.edges[i].2
        ·skip;refine stp_reg TT_ok (by rfl) fun K hK => ?_;simp [h3_12, h5_12, g0_12, gm11_12, hn1, hn2, nx1, ha, hb, hc, hd, encG];(try refine And.intro (by first|omega|rfl) ?_);refine hK _ _ fun σ19 hσ H19 hH => ?_;clear hK K;obtain ⟨h1_19, h3_19, h4_19, h48_19⟩ := fs4 hσ 1 3 4 48;simp [h1_12, h3_12, h4_12] at h1_19 h3_19 h4_19 h48_19;clear hσ;replace hH : H12 = H19 := Eq.symm hH;subst hH;refine stp_true (by simp [aeval_tmp, h48_19, hn1, hn2, nx1, ha, hb, hc, hd, encG]) ?_;refine stp_reg TT_ok (by rfl) fun K hK => ?_;simp [g0_12, gm11_12, hn1, hn2, nx1, ha, hb, hc, hd, encG];(try refine And.intro (by first|omega|rfl) ?_);refine hK _ _ fun σ20 hσ H20 hH => ?_;clear hK K;have h2_20 := congrFun hσ 2;simp [] at h2_20;clear hσ;replace hH : H12 = H20 := Eq.symm hH;subst hH;refine awp_ret ?_;refine q_block_ret ?_;refine q_seq_ret ?_;refine q_loop_ret ?_;refine q_block_ret ?_;refine q_seq_ret ?_;refine q_fin1 h2_20 ?_;have hk : okE g.nodes.length g.edges[i] = false := by simp only [okE, decide_eq_false_iff_not]; omega
         simp [Gr.valid, all_false hlt hk]
        ·skip;refine stp_reg TT_ok (by rfl) fun K hK => ?_;simp [h3_12, h5_12, g0_12, gm11_12, hn1, hn2, nx1, ha, hb, hc, hd, encG];(try refine And.intro (by first|omega|rfl) ?_);refine hK _ _ fun σ21 hσ H21 hH => ?_;clear hK K;obtain ⟨h1_21, h3_21, h4_21, h48_21⟩ := fs4 hσ 1 3 4 48;simp [h1_12, h3_12, h4_12] at h1_21 h3_21 h4_21 h48_21;clear hσ;replace hH : H12 = H21 := Eq.symm hH;subst hH;refine stp_false (by simp [aeval_tmp, h48_21, hn1, hn2, nx1, ha, hb, hc, hd, encG]) ?_;refine awp_skip ?_;refine q_block ?_;refine q_seq ?_;refine stp_regl TT_ok (by rfl) fun K hK => ?_;simp [h4_21, g0_12, gm11_12, hn1, hn2, nx1, ha, hb, hc, hd, encG, wrap_ok (n := (i : Int) + 1) (by omega) (by omega)];(try refine And.intro (by first|omega|rfl) ?_);refine hK _ _ fun σ22 hσ H22 hH => ?_;clear hK K;obtain ⟨h1_22, h3_22, h4_22⟩ := fs3 hσ 1 3 4;simp [h1_21, h3_21] at h1_22 h3_22 h4_22;clear hσ;replace hH : H12 = H22 := Eq.symm hH;subst hH;refine ⟨_, ?_, i + 1, rfl, (h1_22.trans h1_8.symm), (h3_22.trans h3_8.symm), (by simp [h4_22]), (g0_12.trans g0_1.symm), (hst_12.trans hst_1.symm), ?_, ?_⟩
         ·subst hn1; omega
         ·first | omega | assumption | (simp; done)
         ·exact all_take_succ hlt p2 (by simp only [okE, decide_eq_true_eq]; omega)
    ·(try simp at hc21);refine awp_exit ?_;refine q_seq_exit ?_;refine q_loop_exit ?_;refine q_block_hit ?_;refine q_seq ?_;refine stp_reg TT_ok (by rfl) fun K hK => ?_;simp [g0_9, hn1, hn2, encG];(try refine And.intro (by first|omega|rfl) ?_);refine hK _ _ fun σ23 hσ H23 hH => ?_;clear hK K;have h2_23 := congrFun hσ 2;simp [] at h2_23;clear hσ;replace hH : H9 = H23 := Eq.symm hH;subst hH;refine awp_ret ?_;refine q_fin1 h2_23 ?_;have : i = g.edges.length := by have := hc21; omega
     subst this;rw [List.take_length] at p2;have h1 : g.nodes.length ≤ 1024 := by omega
     have h2 : g.edges.length ≤ 4096 := by omega
     simp [Gr.valid, h1, h2, p2]
theorem refValid_ok (g : Gr) : Fun1 Try.prog 20 [encG g] (.bool g.valid) := fun1_pure (refValid0 g) (pu_cons (pu_graph _) pu_nil) (.bool _)
def Gr.hasEdge (g : Gr) (a b : Int) : Bool := g.edges.any fun e => decide (e.1 = a) && decide (e.2 = b)
theorem any_take_succ {α : Type} {p : α → Bool} {l : List α} {i : Nat} (h : i < l.length) (h1 : (l.take i).any p = false) (h2 : p l[i] = false) : (l.take (i + 1)).any p = false := by
 rw [List.take_succ_eq_append_getElem h, List.any_append, h1]; simp [h2]
theorem any_true {α : Type} {p : α → Bool} {l : List α} {i : Nat} (h : i < l.length) (h2 : p l[i] = true) : l.any p = true := List.any_eq_true.2 ⟨_, List.getElem_mem h, h2⟩
set_option maxHeartbeats 1000000 in
theorem edge0 (g : Gr) (a b : Int) (hg : g.edges.length ≤ 1000000) : ACalls Try.prog 49 [encG g, (AV.int IntKind.i64) a, (AV.int IntKind.i64) b] AHeap.nil (fun r _ => r = .bool (g.hasEdge a b)) := by
 refine acalls_body TT_ok Try.func49 rfl rfl (by simp [Try.ntmps49]) ?_;rw [Try.ntmps49];obtain ⟨σ, hσ⟩ : ∃ σ, σ = st0 [encG g, (AV.int IntKind.i64) a, (AV.int IntKind.i64) b] := ⟨_, rfl⟩;rw [← hσ];obtain ⟨h0_0, h1_0, h2_0⟩ := fs3 hσ 0 1 2;simp [st0] at h0_0 h1_0 h2_0;clear hσ;obtain ⟨H, hH⟩ : ∃ H, H = AHeap.nil := ⟨_, rfl⟩;rw [← hH];have hn_0 : H.n = 0 := by rw [hH]; rfl
 have hst_0 : H.st = 1 := by rw [hH]; rfl
 clear hH;refine stp_reg TT_ok (by rfl) fun K hK => ?_;simp [h0_0, hn_0, hst_0, encG];(try refine And.intro (by first|omega|rfl) ?_);refine hK _ _ fun σ1 hσ H1 hH => ?_;clear hK K;obtain ⟨h1_1, h2_1, h3_1⟩ := fs3 hσ 1 2 3;simp [h1_0, h2_0] at h1_1 h2_1 h3_1;clear hσ;have g0_1 := gt_of hH 0;simp [hn_0, hst_0] at g0_1;have hn_1 := congrArg AHeap.n hH;simp [hn_0, hst_0] at hn_1;have hst_1 := congrArg AHeap.st hH;simp [hn_0, hst_0] at hst_1;clear hH;refine awp_seq ?_;refine stp_reg TT_ok (by rfl) fun K hK => ?_;simp [g0_1, encG];(try refine And.intro (by first|omega|rfl) ?_);refine hK _ _ fun σ2 hσ H2 hH => ?_;clear hK K;obtain ⟨h1_2, h2_2, h3_2, h7_2⟩ := fs4 hσ 1 2 3 7;simp [h1_1, h2_1, h3_1] at h1_2 h2_2 h3_2 h7_2;clear hσ;replace hH : H1 = H2 := Eq.symm hH;subst hH;refine awp_block ?_;refine awp_loopV (fun n σ' H' => ∃ (i : Nat), n = g.edges.length - i ∧ σ' 1 = σ2 1 ∧ σ' 2 = σ2 2 ∧ σ' 3 = σ2 3 ∧ σ' 7 = (AV.int IntKind.i64) i ∧ H' = H1 ∧ (i ≤ g.edges.length) ∧ ((g.edges.take i).any (fun e => decide (e.1 = a) && decide (e.2 = b)) = false)) ?_ ?_
 ·refine ⟨_, 0, rfl, rfl, rfl, rfl, (by simp [h7_2]), rfl, ?_, ?_⟩
  ·first | omega | (simp; done) | assumption
  ·first | omega | (simp; done) | assumption
 ·rintro n1 σ3 H3 ⟨i, hn1, q1_3, q2_3, q3_3, h7_3, hHq, p1, p2⟩
  have h1_3 := q1_3.trans h1_2;have h2_3 := q2_3.trans h2_2;have h3_3 := q3_3.trans h3_2;replace hHq := hHq.symm;subst hHq;refine awp_seq ?_;refine stp_reg TT_ok (by rfl) fun K hK => ?_;simp [h3_3, h7_3, g0_1, encG];(try refine And.intro (by first|omega|rfl) ?_);refine hK _ _ fun σ4 hσ H4 hH => ?_;clear hK K;obtain ⟨h1_4, h2_4, h3_4, h7_4, h12_4⟩ := fs5 hσ 1 2 3 7 12;simp [h1_3, h2_3, h3_3, h7_3] at h1_4 h2_4 h3_4 h7_4 h12_4;clear hσ;replace hH : H1 = H4 := Eq.symm hH;subst hH;refine awp_cond _ (by simp only [aeval_tmp]; exact h12_4) (fun hc12 => ?_) (fun hc12 => ?_)
  ·(try simp at hc12);have hlt : i < g.edges.length := by simpa using hc12
   have hge : (g.edges.map encE)[i]? = some (encE g.edges[i]) := by simp [hlt]
   refine awp_skip ?_;refine q_seq ?_;refine awp_seq ?_;refine awp_block ?_
   by_cases ha : g.edges[i].1 = a
   ·skip
    by_cases hb : g.edges[i].2 = b
    ·skip;refine stp_reg TT_ok (by rfl) fun K hK => ?_;simp [h1_4, h2_4, h3_4, h7_4, g0_1, ha, beq_iff_eq.2 ha, hb, beq_iff_eq.2 hb, encG, hge, hlt, encE];(try refine And.intro (by first|omega|rfl) ?_);refine hK _ _ fun σ5 hσ H5 hH => ?_;clear hK K;obtain ⟨h1_5, h2_5, h3_5, h7_5, h32_5⟩ := fs5 hσ 1 2 3 7 32;simp [h1_4, h2_4, h3_4, h7_4] at h1_5 h2_5 h3_5 h7_5 h32_5;clear hσ;replace hH : H1 = H5 := Eq.symm hH;subst hH;refine stp_true (by simp [aeval_tmp, h32_5, ha, beq_iff_eq.2 ha, hb, beq_iff_eq.2 hb, encG]) ?_;refine stp_reg TT_ok (by rfl) fun K hK => ?_;simp [g0_1, ha, beq_iff_eq.2 ha, hb, beq_iff_eq.2 hb, encG];(try refine And.intro (by first|omega|rfl) ?_);refine hK _ _ fun σ6 hσ H6 hH => ?_;clear hK K;have h6_6 := congrFun hσ 6;simp [] at h6_6;clear hσ;replace hH : H1 = H6 := Eq.symm hH;subst hH;refine awp_ret ?_;refine q_block_ret ?_;refine q_seq_ret ?_;refine q_loop_ret ?_;refine q_block_ret ?_;refine q_seq_ret ?_;refine q_fin1 h6_6 ?_;rw [show g.hasEdge a b = true from any_true hlt (by simp [ha, hb])]
    ·skip;refine stp_reg TT_ok (by rfl) fun K hK => ?_;simp [h1_4, h2_4, h3_4, h7_4, g0_1, ha, beq_iff_eq.2 ha, hb, beq_eq_false_iff_ne.2 hb, encG, hge, hlt, encE];(try refine And.intro (by first|omega|rfl) ?_);refine hK _ _ fun σ7 hσ H7 hH => ?_;clear hK K;obtain ⟨h1_7, h2_7, h3_7, h7_7, h32_7⟩ := fs5 hσ 1 2 3 7 32;simp [h1_4, h2_4, h3_4, h7_4] at h1_7 h2_7 h3_7 h7_7 h32_7;clear hσ;replace hH : H1 = H7 := Eq.symm hH;subst hH;refine stp_false (by simp [aeval_tmp, h32_7, ha, beq_iff_eq.2 ha, hb, beq_eq_false_iff_ne.2 hb, encG]) ?_;refine awp_skip ?_;refine q_block ?_;refine q_seq ?_;refine stp_regl TT_ok (by rfl) fun K hK => ?_;simp [h7_7, g0_1, ha, beq_iff_eq.2 ha, hb, beq_eq_false_iff_ne.2 hb, encG, wrap_ok (n := (i : Int) + 1) (by omega) (by omega)];(try refine And.intro (by first|omega|rfl) ?_);refine hK _ _ fun σ8 hσ H8 hH => ?_;clear hK K;obtain ⟨h1_8, h2_8, h3_8, h7_8⟩ := fs4 hσ 1 2 3 7;simp [h1_7, h2_7, h3_7] at h1_8 h2_8 h3_8 h7_8;clear hσ;replace hH : H1 = H8 := Eq.symm hH;subst hH;refine ⟨_, ?_, i + 1, rfl, (h1_8.trans h1_2.symm), (h2_8.trans h2_2.symm), (h3_8.trans h3_2.symm), (by simp [h7_8]), rfl, ?_, ?_⟩
     ·subst hn1; omega
     ·first | omega | assumption | (simp; done)
     ·exact any_take_succ hlt p2 (by simp [hb])
   ·skip;refine stp_reg TT_ok (by rfl) fun K hK => ?_;simp [h1_4, h2_4, h3_4, h7_4, g0_1, ha, beq_eq_false_iff_ne.2 ha, encG, hge, hlt, encE];(try refine And.intro (by first|omega|rfl) ?_);refine hK _ _ fun σ9 hσ H9 hH => ?_;clear hK K;obtain ⟨h1_9, h2_9, h3_9, h7_9, h32_9⟩ := fs5 hσ 1 2 3 7 32;simp [h1_4, h2_4, h3_4, h7_4] at h1_9 h2_9 h3_9 h7_9 h32_9;clear hσ;replace hH : H1 = H9 := Eq.symm hH;subst hH;refine stp_false (by simp [aeval_tmp, h32_9, ha, beq_eq_false_iff_ne.2 ha, encG]) ?_;refine awp_skip ?_;refine q_block ?_;refine q_seq ?_;refine stp_regl TT_ok (by rfl) fun K hK => ?_;simp [h7_9, g0_1, ha, beq_eq_false_iff_ne.2 ha, encG, wrap_ok (n := (i : Int) + 1) (by omega) (by omega)];(try refine And.intro (by first|omega|rfl) ?_);refine hK _ _ fun σ10 hσ H10 hH => ?_;clear hK K;obtain ⟨h1_10, h2_10, h3_10, h7_10⟩ := fs4 hσ 1 2 3 7;simp [h1_9, h2_9, h3_9] at h1_10 h2_10 h3_10 h7_10;clear hσ;replace hH : H1 = H10 := Eq.symm hH;subst hH;refine ⟨_, ?_, i + 1, rfl, (h1_10.trans h1_2.symm), (h2_10.trans h2_2.symm), (h3_10.trans h3_2.symm), (by simp [h7_10]), rfl, ?_, ?_⟩
    ·subst hn1; omega
    ·first | omega | assumption | (simp; done)
    ·exact any_take_succ hlt p2 (by simp [ha])
  ·(try simp at hc12);refine awp_exit ?_;refine q_seq_exit ?_;refine q_loop_exit ?_;refine q_block_hit ?_;refine q_seq ?_;refine stp_reg TT_ok (by rfl) fun K hK => ?_;simp [g0_1, encG];(try refine And.intro (by first|omega|rfl) ?_);refine hK _ _ fun σ11 hσ H11 hH => ?_;clear hK K;have h6_11 := congrFun hσ 6;simp [] at h6_11;clear hσ;replace hH : H1 = H11 := Eq.symm hH;subst hH;refine awp_ret ?_;refine q_fin1 h6_11 ?_;have : i = g.edges.length := by have := hc12; omega
   subst this;rw [List.take_length] at p2;rw [show g.hasEdge a b = false from p2]
theorem edge_ok (g : Gr) (a b : Int) (hg : g.edges.length ≤ 1000000) : Fun1 Try.prog 49 [encG g, (AV.int IntKind.i64) a, (AV.int IntKind.i64) b] (.bool (g.hasEdge a b)) :=
 fun1_pure (edge0 g a b hg) (pu_cons (pu_graph _) (pu_cons (pu_int _ _) (pu_cons (pu_int _ _) pu_nil))) (.bool _)
def Gr.exist (g : Gr) (l : List Int) : Bool := l.all (fun x => decide (0 ≤ x ∧ x < g.nodes.length)) && g.valid
set_option maxHeartbeats 1000000 in
theorem refExist0 (g : Gr) (l : List Int) (hl : l.length ≤ 1000000) : ACalls Try.prog 43 [encG g, .ro (l.map (AV.int IntKind.i64))] AHeap.nil (fun r _ => r = .bool (g.exist l)) := by
 refine acalls_body TT_ok Try.func43 rfl rfl (by simp [Try.ntmps43]) ?_;rw [Try.ntmps43];obtain ⟨σ, hσ⟩ : ∃ σ, σ = st0 [encG g, .ro (l.map (AV.int IntKind.i64))] := ⟨_, rfl⟩;rw [← hσ];obtain ⟨h0_0, h1_0⟩ := fs2 hσ 0 1;simp [st0] at h0_0 h1_0;clear hσ;obtain ⟨H, hH⟩ : ∃ H, H = AHeap.nil := ⟨_, rfl⟩;rw [← hH];have hn_0 : H.n = 0 := by rw [hH]; rfl
 have hst_0 : H.st = 1 := by rw [hH]; rfl
 clear hH;refine stp_reg TT_ok (by rfl) fun K hK => ?_;simp [h0_0, hn_0, hst_0, encG];(try refine And.intro (by first|omega|rfl) ?_);refine hK _ _ fun σ1 hσ H1 hH => ?_;clear hK K;obtain ⟨h1_1, h2_1⟩ := fs2 hσ 1 2;simp [h1_0] at h1_1 h2_1;clear hσ;have g0_1 := gt_of hH 0;simp [hn_0, hst_0] at g0_1;have hn_1 := congrArg AHeap.n hH;simp [hn_0, hst_0] at hn_1;have hst_1 := congrArg AHeap.st hH;simp [hn_0, hst_0] at hst_1;clear hH;refine awp_seq ?_;refine stp_reg TT_ok (by rfl) fun K hK => ?_;simp [g0_1, encG];(try refine And.intro (by first|omega|rfl) ?_);refine hK _ _ fun σ2 hσ H2 hH => ?_;clear hK K;obtain ⟨h1_2, h2_2, h5_2⟩ := fs3 hσ 1 2 5;simp [h1_1, h2_1] at h1_2 h2_2 h5_2;clear hσ;replace hH : H1 = H2 := Eq.symm hH;subst hH;refine awp_block ?_;refine awp_loopV (fun n σ' H' => ∃ (i : Nat), n = l.length - i ∧ σ' 1 = σ2 1 ∧ σ' 2 = σ2 2 ∧ σ' 5 = (AV.int IntKind.i64) i ∧ H' = H1 ∧ (i ≤ l.length) ∧ ((l.take i).all (fun x => decide (0 ≤ x ∧ x < g.nodes.length)) = true)) ?_ ?_
 ·refine ⟨_, 0, rfl, rfl, rfl, (by simp [h5_2]), rfl, ?_, ?_⟩
  ·first | omega | (simp; done) | assumption
  ·first | omega | (simp; done) | assumption
 ·rintro n1 σ3 H3 ⟨i, hn1, q1_3, q2_3, h5_3, hHq, p1, p2⟩
  have h1_3 := q1_3.trans h1_2;have h2_3 := q2_3.trans h2_2;replace hHq := hHq.symm;subst hHq;refine awp_seq ?_;refine stp_reg TT_ok (by rfl) fun K hK => ?_;simp [h1_3, h5_3, g0_1, encG];(try refine And.intro (by first|omega|rfl) ?_);refine hK _ _ fun σ4 hσ H4 hH => ?_;clear hK K;obtain ⟨h1_4, h2_4, h5_4, h9_4⟩ := fs4 hσ 1 2 5 9;simp [h1_3, h2_3, h5_3] at h1_4 h2_4 h5_4 h9_4;clear hσ;replace hH : H1 = H4 := Eq.symm hH;subst hH;refine awp_cond _ (by simp only [aeval_tmp]; exact h9_4) (fun hc9 => ?_) (fun hc9 => ?_)
  ·(try simp at hc9);have hlt : i < l.length := by simpa using hc9
   refine awp_skip ?_;refine q_seq ?_;refine awp_seq ?_;refine awp_block ?_
   by_cases ha : l[i] < 0
   ·skip;refine stp_lex false TT_ok mixed (by rfl) (by rfl) (by kernel_rfl) (by rfl) fun U hU K hK => ?_;simp [h1_4, h2_4, h5_4, g0_1, ha, encG, hlt];(try refine And.intro (by first|omega|rfl) ?_);refine hK _ _ _ (by subst hU; kernel_rfl) fun σ5 hσ H5 hH => ?_;clear hK K hU U;obtain ⟨h1_5, h2_5, h5_5, h26_5⟩ := fs4 hσ 1 2 5 26;simp [h1_4, h2_4, h5_4] at h1_5 h2_5 h5_5 h26_5;clear hσ;replace hH : H1 = H5 := Eq.symm hH;subst hH;refine stp_true (by simp [aeval_tmp, h26_5, ha, encG]) ?_;refine stp_reg TT_ok (by rfl) fun K hK => ?_;simp [g0_1, ha, encG];(try refine And.intro (by first|omega|rfl) ?_);refine hK _ _ fun σ6 hσ H6 hH => ?_;clear hK K;have h4_6 := congrFun hσ 4;simp [] at h4_6;clear hσ;replace hH : H1 = H6 := Eq.symm hH;subst hH;refine awp_ret ?_;refine q_block_ret ?_;refine q_seq_ret ?_;refine q_loop_ret ?_;refine q_block_ret ?_;refine q_seq_ret ?_;refine q_fin1 h4_6 ?_;have hf := all_false (p := fun x : Int => decide (0 ≤ x ∧ x < g.nodes.length)) hlt (by simp only [decide_eq_false_iff_not]; omega);simp only [Gr.exist, hf, Bool.false_and]
   ·skip
    by_cases hb : (g.nodes.length : Int) ≤ l[i]
    ·skip;refine stp_lex false TT_ok mixed (by rfl) (by rfl) (by kernel_rfl) (by rfl) fun U hU K hK => ?_;simp [h1_4, h2_4, h5_4, g0_1, ha, hb, encG, hlt];(try refine And.intro (by first|omega|rfl) ?_);refine hK _ _ _ (by subst hU; kernel_rfl) fun σ7 hσ H7 hH => ?_;clear hK K hU U;obtain ⟨h1_7, h2_7, h5_7, h26_7⟩ := fs4 hσ 1 2 5 26;simp [h1_4, h2_4, h5_4] at h1_7 h2_7 h5_7 h26_7;clear hσ;replace hH : H1 = H7 := Eq.symm hH;subst hH;refine stp_true (by simp [aeval_tmp, h26_7, ha, hb, encG]) ?_;refine stp_reg TT_ok (by rfl) fun K hK => ?_;simp [g0_1, ha, hb, encG];(try refine And.intro (by first|omega|rfl) ?_);refine hK _ _ fun σ8 hσ H8 hH => ?_;clear hK K;have h4_8 := congrFun hσ 4;simp [] at h4_8;clear hσ;replace hH : H1 = H8 := Eq.symm hH;subst hH;refine awp_ret ?_;refine q_block_ret ?_;refine q_seq_ret ?_;refine q_loop_ret ?_;refine q_block_ret ?_;refine q_seq_ret ?_;refine q_fin1 h4_8 ?_;have hf := all_false (p := fun x : Int => decide (0 ≤ x ∧ x < g.nodes.length)) hlt (by simp only [decide_eq_false_iff_not]; omega);simp only [Gr.exist, hf, Bool.false_and]
    ·skip;refine stp_lex false TT_ok mixed (by rfl) (by rfl) (by kernel_rfl) (by rfl) fun U hU K hK => ?_;simp [h1_4, h2_4, h5_4, g0_1, ha, hb, encG, hlt];(try refine And.intro (by first|omega|rfl) ?_);refine hK _ _ _ (by subst hU; kernel_rfl) fun σ9 hσ H9 hH => ?_;clear hK K hU U;obtain ⟨h1_9, h2_9, h5_9, h26_9⟩ := fs4 hσ 1 2 5 26;simp [h1_4, h2_4, h5_4] at h1_9 h2_9 h5_9 h26_9;clear hσ;replace hH : H1 = H9 := Eq.symm hH;subst hH;refine stp_false (by simp [aeval_tmp, h26_9, ha, hb, encG]) ?_;refine awp_skip ?_;refine q_block ?_;refine q_seq ?_;refine stp_regl TT_ok (by rfl) fun K hK => ?_;simp [h5_9, g0_1, ha, hb, encG, wrap_ok (n := (i : Int) + 1) (by omega) (by omega)];(try refine And.intro (by first|omega|rfl) ?_);refine hK _ _ fun σ10 hσ H10 hH => ?_;clear hK K;obtain ⟨h1_10, h2_10, h5_10⟩ := fs3 hσ 1 2 5;simp [h1_9, h2_9] at h1_10 h2_10 h5_10;clear hσ;replace hH : H1 = H10 := Eq.symm hH;subst hH;refine ⟨_, ?_, i + 1, rfl, (h1_10.trans h1_2.symm), (h2_10.trans h2_2.symm), (by simp [h5_10]), rfl, ?_, ?_⟩
     ·subst hn1; omega
     ·first | omega | assumption | (simp; done)
     ·exact all_take_succ hlt p2 (by simp only [decide_eq_true_eq]; omega)
  ·(try simp at hc9);refine awp_exit ?_;refine q_seq_exit ?_;refine q_loop_exit ?_;refine q_block_hit ?_;refine q_seq ?_;refine stp_reg TT_ok (by rfl) fun K hK => ?_;simp [h2_4, g0_1, encG];(try refine And.intro (by first|omega|rfl) ?_);refine stp_call (refValid_ok g) ?_;simp [h2_4, g0_1, encG];(try refine And.intro (by first|omega|rfl) ?_);refine hK _ _ fun σ11 hσ H11 hH => ?_;clear hK K;have h4_11 := congrFun hσ 4;simp [] at h4_11;clear hσ;replace hH : H1 = H11 := Eq.symm hH;subst hH;refine awp_ret ?_;refine q_fin1 h4_11 ?_;have : i = l.length := by have := hc9; omega
   subst this;rw [List.take_length] at p2;simp only [Gr.exist, p2, Bool.true_and]
theorem refExist_w (g : Gr) (l : List Int) (hl : l.length ≤ 1000000) : FunW Try.prog 43 [encG g, .ro (l.map (AV.int IntKind.i64))] (.bool (g.exist l)) :=
 funW_pure (refExist0 g l hl) (pu_cons (pu_graph _) (pu_cons (pu_ints _) pu_nil)) (.bool _) (.bool _)
inductive Gr.Reach (g : Gr) (from_ : List Int) : Int → Prop
 | base {x : Int} (h : x ∈ from_) : Gr.Reach g from_ x
 | step {a b : Int} (h : Gr.Reach g from_ a) (he : (a, b) ∈ g.edges) : Gr.Reach g from_ b
def inR (n : Nat) (x : Int) : Prop := 0 ≤ x ∧ x < n
theorem valid_edge {g : Gr} (h : g.valid = true) {e : Int × Int} (he : e ∈ g.edges) : inR g.nodes.length e.1 ∧ inR g.nodes.length e.2 := by
 simp only [Gr.valid, Bool.and_eq_true] at h
 have := List.all_eq_true.1 h.2 e he
 simp only [okE, decide_eq_true_eq] at this
 exact ⟨⟨this.1, this.2.1⟩, ⟨this.2.2.1, this.2.2.2⟩⟩
theorem valid_nodes {g : Gr} (h : g.valid = true) : g.nodes.length ≤ 1024 ∧ g.edges.length ≤ 4096 := by
 simp only [Gr.valid, Bool.and_eq_true, decide_eq_true_eq] at h; exact h.1
theorem Gr.Reach.inR {g : Gr} (h : g.valid = true) {l : List Int} (hl : ∀ x ∈ l, inR g.nodes.length x) {x : Int} (hx : g.Reach l x) : inR g.nodes.length x := by
 induction hx with
 | base h => exact hl _ h
 | step _ he _ => exact (valid_edge h he).2
structure IsMarks (g : Gr) (l : List Int) (bs : List Bool) : Prop where
 len : bs.length = g.nodes.length
 iff : ∀ v : Nat, v < g.nodes.length → (bs[v]? = some true ↔ g.Reach l v)
theorem IsMarks.uniq {g : Gr} {l : List Int} {bs cs : List Bool} (h : IsMarks g l bs) (k : IsMarks g l cs) : bs = cs := by
 refine List.ext_getElem (h.len.trans k.len.symm) fun i h1 h2 => ?_
 have hi : i < g.nodes.length := h.len ▸ h1
 have e := (h.iff i hi).trans (k.iff i hi).symm
 rw [List.getElem?_eq_getElem h1, List.getElem?_eq_getElem h2] at e
 simp only [Option.some.injEq] at e
 cases hb : bs[i] <;> cases hc : cs[i] <;> simp [hb, hc] at e <;> rfl
structure MSound (g : Gr) (l : List Int) (bs : List Bool) : Prop where
 len : bs.length = g.nodes.length
 sound : ∀ v : Nat, bs[v]? = some true → g.Reach l v
def MBase (l : List Int) (bs : List Bool) : Prop := ∀ x ∈ l, bs[x.toNat]? = some true
def MClosed (es : List (Int × Int)) (bs : List Bool) : Prop := ∀ e ∈ es, bs[e.1.toNat]? = some true → bs[e.2.toNat]? = some true
theorem MClosed.snoc {es : List (Int × Int)} {bs : List Bool} (h : MClosed es bs) {e : Int × Int} (he : bs[e.1.toNat]? = some true → bs[e.2.toNat]? = some true) : MClosed (es ++ [e]) bs := fun x hx => by
 rcases List.mem_append.1 hx with hx | hx
 ·exact h x hx
 ·simp at hx; subst hx; exact he
theorem isMarks_of {g : Gr} (hv : g.valid = true) {l : List Int} (hl : ∀ x ∈ l, inR g.nodes.length x) {bs : List Bool} (h : MSound g l bs) (hb : MBase l bs) (hc : MClosed g.edges bs) : IsMarks g l bs := by
 refine ⟨h.len, fun v hv' => ⟨h.sound v, fun hr => ?_⟩⟩
 have key : ∀ x : Int, g.Reach l x → bs[x.toNat]? = some true := fun x hx => by
  induction hx with
  | base h => exact hb _ h
  | step _ he ih => exact hc _ he ih
 simpa using key v hr
theorem MSound.set {g : Gr} {l : List Int} {bs : List Bool} (h : MSound g l bs) {x : Int} (hx : g.Reach l x) (h0 : inR g.nodes.length x) : MSound g l (bs.set x.toNat true) := by
 refine ⟨by simpa using h.len, fun v hv => ?_⟩
 rw [List.getElem?_set] at hv
 split at hv
 ·rename_i e; subst e; rw [Int.toNat_of_nonneg h0.1]; exact hx
 ·exact h.sound v hv
theorem set_true_mono {bs : List Bool} {k j : Nat} (h : bs[j]? = some true) : (bs.set k true)[j]? = some true := by
 rw [List.getElem?_set]
 have := (List.getElem?_eq_some_iff.1 h).1
 split
 ·rename_i e; subst e; simp [this]
 ·exact h
theorem MBase.set {l : List Int} {bs : List Bool} (h : MBase l bs) (k : Nat) : MBase l (bs.set k true) := fun x hx => set_true_mono (h x hx)
theorem MBase.snoc {l : List Int} {bs : List Bool} (h : MBase l bs) {x : Int} (hx : x.toNat < bs.length) : MBase (l ++ [x]) (bs.set x.toNat true) := fun y hy => by
 rcases List.mem_append.1 hy with hy | hy
 ·exact set_true_mono (h y hy)
 ·simp at hy; subst hy; simp [hx]
theorem count_set {bs : List Bool} {k : Nat} (h : bs[k]? = some false) : (bs.set k true).count false + 1 = bs.count false := by
 induction bs generalizing k with
 | nil => simp at h
 | cons b bs ih =>
  cases k with
  | zero => simp at h; subst h; simp
  | succ k =>
   simp at h
   have := ih h
   simp only [List.set_cons_succ, List.count_cons]
   omega
theorem in_toNat {n : Nat} {x : Int} (h : inR n x) : x.toNat < n := by have := h.1; have := h.2; omega
set_option maxHeartbeats 1000000 in
theorem marks0 (g : Gr) (hv : g.valid = true) (l : List Int) (hl : ∀ x ∈ l, inR g.nodes.length x) (hll : l.length ≤ 1000000) : ACalls Try.prog 45 [encG g, .ro (l.map (AV.int IntKind.i64))] AHeap.nil (fun r H => ∃ bs, IsMarks g l bs ∧ RowOut 4 1 (bs.map .bool) r H) := by
 refine acalls_body TT_ok Try.func45 rfl rfl (by simp [Try.ntmps45]) ?_;rw [Try.ntmps45];obtain ⟨σ, hσ⟩ : ∃ σ, σ = st0 [encG g, .ro (l.map (AV.int IntKind.i64))] := ⟨_, rfl⟩;rw [← hσ];obtain ⟨h0_0, h1_0⟩ := fs2 hσ 0 1;simp [st0] at h0_0 h1_0;clear hσ;obtain ⟨H, hH⟩ : ∃ H, H = AHeap.nil := ⟨_, rfl⟩;rw [← hH];have hn_0 : H.n = 0 := by rw [hH]; rfl
 have hst_0 : H.st = 1 := by rw [hH]; rfl
 clear hH;refine stp_reg TT_ok (by rfl) fun K hK => ?_;simp [h0_0, hn_0, hst_0, encG];(try refine And.intro (by first|omega|rfl) ?_);refine hK _ _ fun σ1 hσ H1 hH => ?_;clear hK K;obtain ⟨h1_1, h2_1⟩ := fs2 hσ 1 2;simp [h1_0] at h1_1 h2_1;clear hσ;have g0_1 := gt_of hH 0;simp [hn_0, hst_0] at g0_1;have hn_1 := congrArg AHeap.n hH;simp [hn_0, hst_0] at hn_1;have hst_1 := congrArg AHeap.st hH;simp [hn_0, hst_0] at hst_1;clear hH;obtain ⟨hn1, hn2⟩ := valid_nodes hv;refine stp_reg TT_ok (by rfl) fun K hK => ?_;simp [h2_1, g0_1, hn_1, hst_1, encG, show (g.nodes.length : Int) ≤ 140737488355328 by omega];(try refine And.intro (by first|omega|rfl) ?_);refine hK _ _ fun σ2 hσ H2 hH => ?_;clear hK K;obtain ⟨h1_2, h2_2, h5_2⟩ := fs3 hσ 1 2 5;simp [h1_1, h2_1] at h1_2 h2_2 h5_2;clear hσ;have g0_2 := gt_of hH 0;have g1_2 := gt_of hH 1;simp [g0_1, hn_1, hst_1] at g0_2 g1_2;have hn_2 := congrArg AHeap.n hH;simp [hn_1, hst_1] at hn_2;have hst_2 := congrArg AHeap.st hH;simp [hn_1, hst_1] at hst_2;clear hH;refine awp_seq ?_;refine stp_reg TT_ok (by rfl) fun K hK => ?_;simp [g0_2, g1_2, encG];(try refine And.intro (by first|omega|rfl) ?_);refine hK _ _ fun σ3 hσ H3 hH => ?_;clear hK K;obtain ⟨h1_3, h2_3, h5_3, h6_3⟩ := fs4 hσ 1 2 5 6;simp [h1_2, h2_2, h5_2] at h1_3 h2_3 h5_3 h6_3;clear hσ;replace hH : H2 = H3 := Eq.symm hH;subst hH;refine awp_block ?_
 refine awp_loopV (fun n σ' H' => ∃ (i : Nat) (bs : List Bool), n = l.length - i ∧ σ' 1 = σ3 1 ∧ σ' 2 = σ3 2 ∧ σ' 5 = σ3 5 ∧ σ' 6 = (AV.int IntKind.i64) i ∧ H'.get 0 = H2.get 0 ∧ H'.get 1 = some (.row 4 1 0 (bs.map .bool)) ∧ H'.n = H2.n ∧ H'.st = H2.st ∧ (i ≤ l.length) ∧ (MSound g l bs) ∧ (MBase (l.take i) bs)) ?_ ?_
 ·refine ⟨_, 0, List.replicate g.nodes.length false, rfl, rfl, rfl, rfl, (by simp [h6_3]), rfl, (by simp [g1_2]), rfl, rfl, ?_, ?_, ?_⟩
  ·first | omega | (simp; done) | assumption
  ·exact ⟨by simp, fun v hv => by simp [List.getElem?_replicate] at hv⟩
  ·intro x hx; simp at hx
 ·rintro n1 σ4 H4 ⟨i, bs, hn1, q1_4, q2_4, q5_4, h6_4, qg0_4, g1_4, qn_4, qst_4, p1, p2, p3⟩
  have h1_4 := q1_4.trans h1_3;have h2_4 := q2_4.trans h2_3;have h5_4 := q5_4.trans h5_3;have g0_4 := qg0_4.trans g0_2;have hst_4 := qst_4.trans hst_2;have hn_4 := qn_4.trans hn_2;refine awp_seq ?_;refine stp_reg TT_ok (by rfl) fun K hK => ?_;simp [h1_4, h6_4, g0_4, g1_4, encG];(try refine And.intro (by first|omega|rfl) ?_);refine hK _ _ fun σ5 hσ H5 hH => ?_;clear hK K;obtain ⟨h1_5, h2_5, h5_5, h6_5, h17_5⟩ := fs5 hσ 1 2 5 6 17;simp [h1_4, h2_4, h5_4, h6_4] at h1_5 h2_5 h5_5 h6_5 h17_5;clear hσ;replace hH : H4 = H5 := Eq.symm hH;subst hH;refine awp_cond _ (by simp only [aeval_tmp]; exact h17_5) (fun hc17 => ?_) (fun hc17 => ?_)
  ·(try simp at hc17);have hlt : i < l.length := by simpa using hc17
   obtain ⟨e1, e2⟩ := hl _ (List.getElem_mem hlt);have e3 : l[i].toNat < bs.length := by rw [p2.len]; omega
   refine awp_skip ?_;refine q_seq ?_;refine awp_seq ?_;refine awp_block ?_;refine stp_regl TT_ok (by rfl) fun K hK => ?_;simp [h1_5, h5_5, h6_5, g0_4, g1_4, encG, hlt, e1, e2, e3, p2.len];(try refine And.intro (by first|omega|rfl) ?_);refine hK _ _ fun σ6 hσ H6 hH => ?_;clear hK K;obtain ⟨h1_6, h2_6, h5_6, h6_6⟩ := fs4 hσ 1 2 5 6;simp [h1_5, h2_5, h5_5, h6_5] at h1_6 h2_6 h5_6 h6_6;clear hσ;have g0_6 := gt_of hH 0;have g1_6 := gt_of hH 1;simp [g0_4, g1_4, hn_4, hst_4] at g0_6 g1_6;have hn_6 : H6.n = _ := (congrArg AHeap.n hH).trans hn_4;have hst_6 : H6.st = _ := (congrArg AHeap.st hH).trans hst_4;clear hH;refine q_block ?_;refine q_seq ?_;refine stp_regl TT_ok (by rfl) fun K hK => ?_;simp [h6_6, g0_6, g1_6, encG, wrap_ok (n := (i : Int) + 1) (by omega) (by omega)];(try refine And.intro (by first|omega|rfl) ?_);refine hK _ _ fun σ7 hσ H7 hH => ?_;clear hK K;obtain ⟨h1_7, h2_7, h5_7, h6_7⟩ := fs4 hσ 1 2 5 6;simp [h1_6, h2_6, h5_6] at h1_7 h2_7 h5_7 h6_7;clear hσ;replace hH : H6 = H7 := Eq.symm hH;subst hH;refine ⟨_, ?_, i + 1, bs.set l[i].toNat true, rfl, (h1_7.trans h1_3.symm), (h2_7.trans h2_3.symm), (h5_7.trans h5_3.symm), (by simp [h6_7]), (g0_6.trans g0_2.symm), (by simp [g1_6]), (hn_6.trans hn_2.symm), (hst_6.trans hst_2.symm), ?_, ?_, ?_⟩
   ·subst hn1; omega
   ·first | omega | assumption | (simp; done)
   ·exact p2.set (.base (List.getElem_mem hlt)) ⟨e1, e2⟩
   ·rw [List.take_succ_eq_append_getElem hlt]; exact p3.snoc e3
  ·(try simp at hc17);refine awp_exit ?_;refine q_seq_exit ?_;refine q_loop_exit ?_;refine q_block_hit ?_;refine q_seq ?_;refine stp_reg TT_ok (by rfl) fun K hK => ?_;simp [g0_4, g1_4, encG];(try refine And.intro (by first|omega|rfl) ?_);refine hK _ _ fun σ8 hσ H8 hH => ?_;clear hK K;obtain ⟨h2_8, h5_8, h7_8⟩ := fs3 hσ 2 5 7;simp [h2_5, h5_5] at h2_8 h5_8 h7_8;clear hσ;replace hH : H4 = H8 := Eq.symm hH;subst hH;refine awp_seq ?_;refine awp_block ?_;have hil : i = l.length := by have := hc17; omega
   subst hil;rw [List.take_length] at p3;refine awp_loopV (fun n σ' H' => ∃ (bs : List Bool) (ch : Bool), n = 2 * bs.count false + (bif ch then 1 else 0) ∧ σ' 2 = σ8 2 ∧ σ' 5 = σ8 5 ∧ σ' 7 = .bool ch ∧ H'.get 0 = H4.get 0 ∧ H'.get 1 = some (.row 4 1 0 (bs.map .bool)) ∧ H'.st = H4.st ∧ (MSound g l bs) ∧ (MBase l bs) ∧ (ch = false → MClosed g.edges bs)) ?_ ?_
   ·refine ⟨_, bs, true, rfl, rfl, rfl, (by simp [h7_8]), rfl, (by simp [g1_4]), rfl, ?_, ?_, ?_⟩
    ·exact p2
    ·exact p3
    ·intro h; cases h
   ·rintro n2 σ9 H9 ⟨bs, ch, hn2, q2_9, q5_9, h7_9, qg0_9, g1_9, qst_9, r1, r2, r3⟩
    have h2_9 := q2_9.trans h2_8;have h5_9 := q5_9.trans h5_8;have g0_9 := qg0_9.trans g0_4;have hst_9 := qst_9.trans hst_4;refine awp_seq ?_;refine stp_reg TT_ok (by rfl) fun K hK => ?_;simp [h7_9, g0_9, g1_9, encG];(try refine And.intro (by first|omega|rfl) ?_);refine hK _ _ fun σ10 hσ H10 hH => ?_;clear hK K;obtain ⟨h2_10, h5_10, h26_10⟩ := fs3 hσ 2 5 26;simp [h2_9, h5_9] at h2_10 h5_10 h26_10;clear hσ;replace hH : H9 = H10 := Eq.symm hH;subst hH;refine awp_cond _ (by simp only [aeval_tmp]; exact h26_10) (fun hc26 => ?_) (fun hc26 => ?_)
    ·(try simp at hc26);refine awp_skip ?_;refine q_seq ?_;refine awp_block ?_;refine stp_reg TT_ok (by rfl) fun K hK => ?_;simp [g0_9, g1_9, encG];(try refine And.intro (by first|omega|rfl) ?_);refine hK _ _ fun σ11 hσ H11 hH => ?_;clear hK K;obtain ⟨h2_11, h5_11, h7_11⟩ := fs3 hσ 2 5 7;simp [h2_10, h5_10] at h2_11 h5_11 h7_11;clear hσ;replace hH : H9 = H11 := Eq.symm hH;subst hH;refine stp_reg TT_ok (by rfl) fun K hK => ?_;simp [g0_9, g1_9, encG];(try refine And.intro (by first|omega|rfl) ?_);refine hK _ _ fun σ12 hσ H12 hH => ?_;clear hK K;obtain ⟨h2_12, h5_12, h7_12, h8_12⟩ := fs4 hσ 2 5 7 8;simp [h2_11, h5_11, h7_11] at h2_12 h5_12 h7_12 h8_12;clear hσ;replace hH : H9 = H12 := Eq.symm hH;subst hH;refine awp_block ?_;refine awp_loopV (fun n σ' H' => ∃ (i : Nat) (bs2 : List Bool) (ch2 : Bool), n = g.edges.length - i ∧ σ' 2 = σ12 2 ∧ σ' 5 = σ12 5 ∧ σ' 7 = .bool ch2 ∧ σ' 8 = (AV.int IntKind.i64) i ∧ H'.get 0 = H9.get 0 ∧ H'.get 1 = some (.row 4 1 0 (bs2.map .bool)) ∧ H'.st = H9.st ∧ (i ≤ g.edges.length) ∧ (MSound g l bs2) ∧ (MBase l bs2) ∧ (ch2 = false → bs2 = bs ∧ MClosed (g.edges.take i) bs) ∧ (ch2 = true → bs2.count false < bs.count false)) ?_ ?_
     ·refine ⟨_, 0, bs, false, rfl, rfl, rfl, (by simp [h7_12]), (by simp [h8_12]), rfl, (by simp [g1_9]), rfl, ?_, ?_, ?_, ?_, ?_⟩
      ·first | omega | (simp; done) | assumption
      ·exact r1
      ·exact r2
      ·intro _; exact ⟨rfl, fun e he => by simp at he⟩
      ·intro h; cases h
     ·rintro n3 σ13 H13 ⟨i, bs2, ch2, hn3, q2_13, q5_13, h7_13, h8_13, qg0_13, g1_13, qst_13, q1, q2, q3, q4, q5⟩
      have h2_13 := q2_13.trans h2_12;have h5_13 := q5_13.trans h5_12;have g0_13 := qg0_13.trans g0_9;have hst_13 := qst_13.trans hst_9;refine awp_seq ?_;refine stp_reg TT_ok (by rfl) fun K hK => ?_;simp [h2_13, h8_13, g0_13, g1_13, encG];(try refine And.intro (by first|omega|rfl) ?_);refine hK _ _ fun σ14 hσ H14 hH => ?_;clear hK K;obtain ⟨h2_14, h5_14, h7_14, h8_14, h31_14⟩ := fs5 hσ 2 5 7 8 31;simp [h2_13, h5_13, h7_13, h8_13] at h2_14 h5_14 h7_14 h8_14 h31_14;clear hσ;replace hH : H13 = H14 := Eq.symm hH;subst hH;refine awp_cond _ (by simp only [aeval_tmp]; exact h31_14) (fun hc31 => ?_) (fun hc31 => ?_)
      ·(try simp at hc31);have hlt : i < g.edges.length := by simpa using hc31
       have hge : (g.edges.map encE)[i]? = some (encE g.edges[i]) := by simp [hlt]
       obtain ⟨⟨e1, e2⟩, e3, e4⟩ := valid_edge hv (List.getElem_mem hlt);have e5 : g.edges[i].1.toNat < bs2.length := by rw [q2.len]; omega
       have e6 : g.edges[i].2.toNat < bs2.length := by rw [q2.len]; omega
       have hsn : g.edges.take (i + 1) = g.edges.take i ++ [g.edges[i]] := List.take_succ_eq_append_getElem hlt;refine awp_skip ?_;refine q_seq ?_;refine awp_seq ?_;refine awp_block ?_;refine awp_ok fun hok => ?_;obtain ⟨m15, hn_m15⟩ : ∃ m, H13.n = m := ⟨_, rfl⟩;have hf_m15_0 := hok.free 0;simp [hn_m15, hst_13] at hf_m15_0;have nx1 := ne_get hf_m15_0 g0_13;have nx2 := ne_get hf_m15_0 g1_13;refine stp_reg TT_ok (by rfl) fun K hK => ?_;simp [h2_14, h8_14, g0_13, g1_13, hn_m15, hst_13, nx1, nx2, encG, hge, hlt, encE];(try refine And.intro (by first|omega|rfl) ?_);refine hK _ _ fun σ16 hσ H16 hH => ?_;clear hK K;obtain ⟨h2_16, h5_16, h7_16, h8_16, h9_16⟩ := fs5 hσ 2 5 7 8 9;simp [h2_14, h5_14, h7_14, h8_14] at h2_16 h5_16 h7_16 h8_16 h9_16;clear hσ;have g0_16 := gt_of hH 0;have g1_16 := gt_of hH 1;have gm15_16 := gt_of hH m15;simp [g0_13, g1_13, hn_m15, hst_13, nx1, nx2] at g0_16 g1_16 gm15_16;have hst_16 := congrArg AHeap.st hH;simp [hst_13] at hst_16;clear hH
       by_cases ha : bs2[g.edges[i].1.toNat] = true
       ·skip
        by_cases hb : bs2[g.edges[i].2.toNat] = true
        ·skip;refine stp_reg TT_ok (by rfl) fun K hK => ?_;simp [h5_16, h9_16, g0_16, g1_16, gm15_16, nx1, nx2, ha, beq_iff_eq.2 ha, hb, beq_iff_eq.2 hb, encG, e1, e2, e3, e4, e5, e6, q2.len];(try refine And.intro (by first|omega|rfl) ?_);refine hK _ _ fun σ17 hσ H17 hH => ?_;clear hK K;obtain ⟨h2_17, h5_17, h7_17, h8_17, h9_17, h51_17⟩ := fs6 hσ 2 5 7 8 9 51;simp [h2_16, h5_16, h7_16, h8_16, h9_16] at h2_17 h5_17 h7_17 h8_17 h9_17 h51_17;clear hσ;replace hH : H16 = H17 := Eq.symm hH;subst hH;refine stp_false (by simp [aeval_tmp, h51_17, nx1, nx2, ha, beq_iff_eq.2 ha, hb, beq_iff_eq.2 hb, encG]) ?_;refine awp_skip ?_;refine q_block ?_;refine q_seq ?_;refine stp_regl TT_ok (by rfl) fun K hK => ?_;simp [h8_17, g0_16, g1_16, gm15_16, nx1, nx2, ha, beq_iff_eq.2 ha, hb, beq_iff_eq.2 hb, encG, wrap_ok (n := (i : Int) + 1) (by omega) (by omega)];(try refine And.intro (by first|omega|rfl) ?_);refine hK _ _ fun σ18 hσ H18 hH => ?_;clear hK K;obtain ⟨h2_18, h5_18, h7_18, h8_18⟩ := fs4 hσ 2 5 7 8;simp [h2_17, h5_17, h7_17] at h2_18 h5_18 h7_18 h8_18;clear hσ;replace hH : H16 = H18 := Eq.symm hH;subst hH;refine ⟨_, ?_, i + 1, bs2, ch2, rfl, (h2_18.trans h2_12.symm), (h5_18.trans h5_12.symm), (by simp [h7_18]), (by simp [h8_18]), (g0_16.trans g0_9.symm), (by simp [g1_16]), (hst_16.trans hst_9.symm), ?_, ?_, ?_, ?_, ?_⟩
         ·subst hn3; omega
         ·first | omega | assumption | (simp; done)
         ·exact q2
         ·exact q3
         ·intro h; obtain ⟨a, b⟩ := q4 h; refine ⟨a, ?_⟩; rw [hsn]; exact b.snoc (by intro h1; rw [← a, List.getElem?_eq_getElem e6, hb])
         ·exact q5
        ·skip;refine stp_reg TT_ok (by rfl) fun K hK => ?_;simp [h5_16, h9_16, g0_16, g1_16, gm15_16, nx1, nx2, ha, beq_iff_eq.2 ha, hb, beq_eq_false_iff_ne.2 hb, encG, e1, e2, e3, e4, e5, e6, q2.len];(try refine And.intro (by first|omega|rfl) ?_);refine hK _ _ fun σ19 hσ H19 hH => ?_;clear hK K;obtain ⟨h2_19, h5_19, h7_19, h8_19, h9_19, h51_19⟩ := fs6 hσ 2 5 7 8 9 51;simp [h2_16, h5_16, h7_16, h8_16, h9_16] at h2_19 h5_19 h7_19 h8_19 h9_19 h51_19;clear hσ;replace hH : H16 = H19 := Eq.symm hH;subst hH;refine stp_true (by simp [aeval_tmp, h51_19, nx1, nx2, ha, beq_iff_eq.2 ha, hb, beq_eq_false_iff_ne.2 hb, encG]) ?_;refine stp_reg TT_ok (by rfl) fun K hK => ?_;simp [h5_19, h9_19, g0_16, g1_16, gm15_16, nx1, nx2, ha, beq_iff_eq.2 ha, hb, beq_eq_false_iff_ne.2 hb, encG, e1, e2, e3, e4, e5, e6, q2.len];(try refine And.intro (by first|omega|rfl) ?_);refine hK _ _ fun σ20 hσ H20 hH => ?_;clear hK K;obtain ⟨h2_20, h5_20, h8_20⟩ := fs3 hσ 2 5 8;simp [h2_19, h5_19, h8_19] at h2_20 h5_20 h8_20;clear hσ;have g0_20 := gt_of hH 0;have g1_20 := gt_of hH 1;have gm15_20 := gt_of hH m15;simp [g0_16, g1_16, gm15_16, hst_16, nx1, nx2, ha, beq_iff_eq.2 ha, hb, beq_eq_false_iff_ne.2 hb] at g0_20 g1_20 gm15_20;have hst_20 := congrArg AHeap.st hH;simp [hst_16] at hst_20;clear hH;refine stp_regl TT_ok (by rfl) fun K hK => ?_;simp [g0_20, g1_20, gm15_20, nx1, nx2, ha, beq_iff_eq.2 ha, hb, beq_eq_false_iff_ne.2 hb, encG];(try refine And.intro (by first|omega|rfl) ?_)
         refine hK _ _ fun σ21 hσ H21 hH => ?_;clear hK K;obtain ⟨h2_21, h5_21, h7_21, h8_21⟩ := fs4 hσ 2 5 7 8;simp [h2_20, h5_20, h8_20] at h2_21 h5_21 h7_21 h8_21;clear hσ;replace hH : H20 = H21 := Eq.symm hH;subst hH;refine q_block ?_;refine q_seq ?_;refine stp_regl TT_ok (by rfl) fun K hK => ?_;simp [h8_21, g0_20, g1_20, gm15_20, nx1, nx2, ha, beq_iff_eq.2 ha, hb, beq_eq_false_iff_ne.2 hb, encG, wrap_ok (n := (i : Int) + 1) (by omega) (by omega)];(try refine And.intro (by first|omega|rfl) ?_);refine hK _ _ fun σ22 hσ H22 hH => ?_;clear hK K;obtain ⟨h2_22, h5_22, h7_22, h8_22⟩ := fs4 hσ 2 5 7 8;simp [h2_21, h5_21, h7_21] at h2_22 h5_22 h7_22 h8_22;clear hσ;replace hH : H20 = H22 := Eq.symm hH;subst hH;refine ⟨_, ?_, i + 1, bs2.set g.edges[i].2.toNat true, true, rfl, (h2_22.trans h2_12.symm), (h5_22.trans h5_12.symm), (by simp [h7_22]), (by simp [h8_22]), (g0_20.trans g0_9.symm), (by simp [g1_20]), (hst_20.trans hst_9.symm), ?_, ?_, ?_, ?_, ?_⟩
         ·subst hn3; omega
         ·first | omega | assumption | (simp; done)
         ·exact q2.set (.step (q2.sound _ (by rw [List.getElem?_eq_getElem e5, ha])) (by rw [Int.toNat_of_nonneg e1]; exact List.getElem_mem hlt)) ⟨e3, e4⟩
         ·exact q3.set _
         ·intro h; cases h
         ·intro _;have hc := count_set (bs := bs2) (k := g.edges[i].2.toNat) (by rw [List.getElem?_eq_getElem e6]; simpa using hb);cases hch : ch2 with
          | false => rw [← (q4 hch).1]; omega
          | true => have := q5 hch; omega
       ·skip;refine stp_reg TT_ok (by rfl) fun K hK => ?_;simp [h5_16, h9_16, g0_16, g1_16, gm15_16, nx1, nx2, ha, beq_eq_false_iff_ne.2 ha, encG, e1, e2, e3, e4, e5, e6, q2.len];(try refine And.intro (by first|omega|rfl) ?_);refine hK _ _ fun σ23 hσ H23 hH => ?_;clear hK K;obtain ⟨h2_23, h5_23, h7_23, h8_23, h9_23, h51_23⟩ := fs6 hσ 2 5 7 8 9 51;simp [h2_16, h5_16, h7_16, h8_16, h9_16] at h2_23 h5_23 h7_23 h8_23 h9_23 h51_23;clear hσ;replace hH : H16 = H23 := Eq.symm hH;subst hH;refine stp_false (by simp [aeval_tmp, h51_23, nx1, nx2, ha, beq_eq_false_iff_ne.2 ha, encG]) ?_;refine awp_skip ?_;refine q_block ?_;refine q_seq ?_;refine stp_regl TT_ok (by rfl) fun K hK => ?_;simp [h8_23, g0_16, g1_16, gm15_16, nx1, nx2, ha, beq_eq_false_iff_ne.2 ha, encG, wrap_ok (n := (i : Int) + 1) (by omega) (by omega)];(try refine And.intro (by first|omega|rfl) ?_);refine hK _ _ fun σ24 hσ H24 hH => ?_;clear hK K;obtain ⟨h2_24, h5_24, h7_24, h8_24⟩ := fs4 hσ 2 5 7 8;simp [h2_23, h5_23, h7_23] at h2_24 h5_24 h7_24 h8_24;clear hσ;replace hH : H16 = H24 := Eq.symm hH;subst hH;refine ⟨_, ?_, i + 1, bs2, ch2, rfl, (h2_24.trans h2_12.symm), (h5_24.trans h5_12.symm), (by simp [h7_24]), (by simp [h8_24]), (g0_16.trans g0_9.symm), (by simp [g1_16]), (hst_16.trans hst_9.symm), ?_, ?_, ?_, ?_, ?_⟩
        ·subst hn3; omega
        ·first | omega | assumption | (simp; done)
        ·exact q2
        ·exact q3
        ·intro h; obtain ⟨a, b⟩ := q4 h; refine ⟨a, ?_⟩; rw [hsn]; exact b.snoc (by intro h1; rw [← a, List.getElem?_eq_getElem e5] at h1; exact absurd (by simpa using h1) ha)
        ·exact q5
      ·(try simp at hc31);refine awp_exit ?_;refine q_seq_exit ?_;refine q_loop_exit ?_;refine q_block_hit ?_;refine q_block ?_;have hi : i = g.edges.length := by have := hc31; omega
       subst hi;rw [List.take_length] at q4;refine ⟨_, ?_, bs2, ch2, rfl, (h2_14.trans h2_8.symm), (h5_14.trans h5_8.symm), (by simp [h7_14]), (g0_13.trans g0_4.symm), (by simp [g1_13]), (hst_13.trans hst_4.symm), ?_, ?_, ?_⟩
       ·subst hn2;rw [hc26];cases hch : ch2 with
        | false => rw [(q4 hch).1]; simp
        | true => have := q5 hch; simp; omega
       ·exact q2
       ·exact q3
       ·intro h; obtain ⟨a, b⟩ := q4 h; rw [a]; exact b
    ·(try simp at hc26);refine awp_exit ?_;refine q_seq_exit ?_;refine q_loop_exit ?_;refine q_block_hit ?_;refine q_seq ?_;refine stp_reg TT_ok (by rfl) fun K hK => ?_;simp [h5_10, g0_9, g1_9, encG];(try refine And.intro (by first|omega|rfl) ?_);refine hK _ _ fun σ25 hσ H25 hH => ?_;clear hK K;have h4_25 := congrFun hσ 4;simp [] at h4_25;clear hσ;replace hH : H9 = H25 := Eq.symm hH;subst hH;refine awp_ret ?_;refine q_fin1 h4_25 ?_;exact ⟨bs, isMarks_of hv hl r1 r2 (r3 hc26), 1, 0, by simp [r1.len], g1_9⟩
def growL (es : List (Int × Int)) (bs : List Bool) : List Bool := es.foldl (fun bs e => if bs.getD e.1.toNat false then bs.set e.2.toNat true else bs) bs
def growN (es : List (Int × Int)) : Nat → List Bool → List Bool
 | 0, bs => bs
 | n + 1, bs => growN es n (growL es bs)
def Gr.marks (g : Gr) (l : List Int) : List Bool := growN g.edges g.nodes.length (l.foldl (fun bs x => bs.set x.toNat true) (List.replicate g.nodes.length false))
theorem growL_len (es : List (Int × Int)) (bs : List Bool) : (growL es bs).length = bs.length := by
 unfold growL
 induction es generalizing bs with
 | nil => rfl
 | cons e es ih => simp only [List.foldl_cons]; rw [ih]; split <;> simp
theorem growL_mono {es : List (Int × Int)} {bs : List Bool} {j : Nat} (h : bs[j]? = some true) : (growL es bs)[j]? = some true := by
 unfold growL
 induction es generalizing bs with
 | nil => exact h
 | cons e es ih => simp only [List.foldl_cons]; exact ih (by split; exact set_true_mono h; exact h)
theorem getD_true {bs : List Bool} {k : Nat} : bs.getD k false = true ↔ bs[k]? = some true := by
 rw [List.getD_eq_getElem?_getD]; cases bs[k]? with
 | none => simp
 | some b => simp
theorem count_set_le (bs : List Bool) (k : Nat) : (bs.set k true).count false ≤ bs.count false := by
 induction bs generalizing k with
 | nil => simp
 | cons b bs ih =>
  cases k with
  | zero => simp [List.count_cons]
  | succ k => simp only [List.set_cons_succ, List.count_cons]; have := ih k; omega
theorem growL_count (es : List (Int × Int)) (bs : List Bool) : (growL es bs).count false ≤ bs.count false := by
 unfold growL
 induction es generalizing bs with
 | nil => exact Nat.le_refl _
 | cons e es ih => simp only [List.foldl_cons]; refine Nat.le_trans (ih _) ?_; split; exact count_set_le _ _; exact Nat.le_refl _
theorem growL_step (es : List (Int × Int)) (bs : List Bool) (hr : ∀ e ∈ es, e.2.toNat < bs.length) : (growL es bs = bs ∧ MClosed es bs) ∨ (growL es bs).count false < bs.count false := by
 unfold growL
 induction es generalizing bs with
 | nil => exact .inl ⟨rfl, fun _ h => by cases h⟩
 | cons e es ih =>
  simp only [List.foldl_cons]
  have hc := growL_count es (if bs.getD e.1.toNat false then bs.set e.2.toNat true else bs)
  unfold growL at hc
  have he := hr e (by simp)
  cases h1 : bs.getD e.1.toNat false with
  | false =>
   simp only [h1, Bool.false_eq_true, if_false] at hc ⊢
   rcases ih bs (fun e he => hr e (by simp [he])) with ⟨h2, h3⟩ | h2
   ·refine .inl ⟨h2, fun x hx => ?_⟩
    rcases List.mem_cons.1 hx with rfl | hx
    ·intro h; rw [getD_true.2 h] at h1; cases h1
    ·exact h3 x hx
   ·exact .inr h2
  | true =>
   simp only [h1, if_true] at hc ⊢
   cases h4 : bs[e.2.toNat] with
   | false =>
    have := count_set (bs := bs) (k := e.2.toNat) (by rw [List.getElem?_eq_getElem he, h4])
    exact .inr (by omega)
   | true =>
    have hsame : bs.set e.2.toNat true = bs := by
     refine List.ext_getElem (by simp) fun i q1 q2 => ?_
     rw [List.getElem_set]; split
     ·rename_i e'; subst e'; exact h4.symm
     ·rfl
    rw [hsame]
    rcases ih bs (fun e he => hr e (by simp [he])) with ⟨h2, h3⟩ | h2
    ·refine .inl ⟨h2, fun x hx => ?_⟩
     rcases List.mem_cons.1 hx with rfl | hx
     ·intro _; rw [List.getElem?_eq_getElem he, h4]
     ·exact h3 x hx
    ·exact .inr h2
theorem growN_fix {es : List (Int × Int)} {bs : List Bool} (h : growL es bs = bs) : ∀ n, growN es n bs = bs
 | 0 => rfl
 | n + 1 => by rw [growN, h]; exact growN_fix h n
theorem growN_closed {es : List (Int × Int)} : ∀ (n : Nat) (bs : List Bool), (∀ e ∈ es, e.2.toNat < bs.length) → bs.count false ≤ n → MClosed es (growN es n bs)
 | 0, bs, hr, hc => fun e he _ => by
  have h := hr e he
  rw [growN, List.getElem?_eq_getElem h]
  cases hb : bs[e.2.toNat] with
  | true => rfl
  | false =>
   have : 0 < bs.count false := List.count_pos_iff.2 (hb ▸ List.getElem_mem h)
   omega
 | n + 1, bs, hr, hc => by
  rw [growN]
  rcases growL_step es bs hr with ⟨h1, h2⟩ | h1
  ·rw [h1, growN_fix h1]; exact h2
  ·exact growN_closed n _ (by rw [growL_len]; exact hr) (by omega)
theorem growL_sound {g : Gr} (hv : g.valid = true) {l : List Int} : ∀ (es : List (Int × Int)) (bs : List Bool), (∀ e ∈ es, e ∈ g.edges) → MSound g l bs → MSound g l (growL es bs)
 | [], _, _, h => h
 | e :: es, bs, he, h => by
  unfold growL
  simp only [List.foldl_cons]
  refine growL_sound hv es _ (fun x hx => he x (by simp [hx])) ?_
  split
  ·rename_i h1
   have h2 := he e (by simp)
   obtain ⟨⟨q1, _⟩, q2⟩ := valid_edge hv h2
   exact h.set (.step (h.sound _ (getD_true.1 h1)) (by rw [Int.toNat_of_nonneg q1]; exact h2)) q2
  ·exact h
theorem growN_keeps {g : Gr} (hv : g.valid = true) {l : List Int} : ∀ (n : Nat) (bs : List Bool), MSound g l bs → MBase l bs → MSound g l (growN g.edges n bs) ∧ MBase l (growN g.edges n bs)
 | 0, _, h, hb => ⟨h, hb⟩
 | n + 1, bs, h, hb => growN_keeps hv n _ (growL_sound hv _ _ (fun _ h => h) h) fun x hx => growL_mono (hb x hx)
theorem marks_is {g : Gr} (hv : g.valid = true) {l : List Int} (hl : ∀ x ∈ l, inR g.nodes.length x) : IsMarks g l (g.marks l) := by
 have h0 : ∀ (l' : List Int) (bs : List Bool) (l0 : List Int), (∀ x ∈ l', x ∈ l) → MSound g l bs → MBase l0 bs → MSound g l (l'.foldl (fun bs x => bs.set x.toNat true) bs) ∧ MBase (l0 ++ l') (l'.foldl (fun bs x => bs.set x.toNat true) bs) := by
  intro l'
  induction l' with
  | nil => intro bs l0 _ h1 h2; exact ⟨h1, by simpa using h2⟩
  | cons x l' ih =>
   intro bs l0 hx h1 h2
   have hx' := hl x (hx x (by simp))
   have := ih (bs.set x.toNat true) (l0 ++ [x]) (fun y hy => hx y (by simp [hy])) (h1.set (.base (hx x (by simp))) hx') (h2.snoc (by rw [h1.len]; exact in_toNat hx'))
   simpa using this
 obtain ⟨h1, h2⟩ := h0 l (List.replicate g.nodes.length false) [] (fun _ h => h) ⟨by simp, fun v hv => by simp [List.getElem?_replicate] at hv⟩ (fun x hx => by cases hx)
 obtain ⟨h3, h4⟩ := growN_keeps hv g.nodes.length _ h1 (by simpa using h2)
 refine isMarks_of hv hl h3 h4 (growN_closed _ _ (fun e he => ?_) ?_)
 ·rw [h1.len]; exact in_toNat (valid_edge hv he).2
 ·exact Nat.le_trans List.count_le_length (Nat.le_of_eq h1.len)
theorem marks_w (g : Gr) (hv : g.valid = true) (l : List Int) (hl : ∀ x ∈ l, inR g.nodes.length x) (hll : l.length ≤ 1000000) :
  FunW Try.prog 45 [encG g, .ro (l.map (.int .i64))] (.ro ((g.marks l).map .bool)) :=
 funW_row ((marks0 g hv l hl hll).mono fun r H ⟨bs, h1, h2⟩ => by rw [← h1.uniq (marks_is hv hl)]; exact h2) (pu_cons (pu_graph _) (pu_cons (pu_ints _) pu_nil)) (fun _ => pu_of_bools) (fun _ => scal_bools) (fun _ => one_bools)
def dstep (k : Int) (d : List Int) (e : Int × Int) : List Int := if d.getD e.2.toNat 0 = k ∧ d.getD e.1.toNat 0 < 0 then d.set e.1.toNat (k + 1) else d
def drounds (g : Gr) (n : Nat) (d : List Int) : List Int := (List.range n).foldl (fun d k => g.edges.foldl (dstep (k : Nat)) d) d
def Gr.dist (g : Gr) (to : Int) : List Int := drounds g g.nodes.length ((List.replicate g.nodes.length (-1)).set to.toNat 0)
theorem dstep_len (k : Int) (d : List Int) (e : Int × Int) : (dstep k d e).length = d.length := by unfold dstep; split <;> simp
theorem dfold_len (k : Int) (es : List (Int × Int)) (d : List Int) : (es.foldl (dstep k) d).length = d.length := by
 induction es generalizing d with
 | nil => rfl
 | cons e es ih => simp only [List.foldl_cons]; rw [ih, dstep_len]
theorem drounds_succ (g : Gr) (n : Nat) (d : List Int) : drounds g (n + 1) d = g.edges.foldl (dstep (n : Nat)) (drounds g n d) := by simp [drounds, List.range_succ]
theorem drounds_len (g : Gr) (n : Nat) (d : List Int) : (drounds g n d).length = d.length := by
 induction n with
 | zero => rfl
 | succ n ih => rw [drounds_succ, dfold_len, ih]
theorem foldl_take_succ {α β : Type} {f : β → α → β} {l : List α} {i : Nat} (h : i < l.length) (b : β) : (l.take (i + 1)).foldl f b = f ((l.take i).foldl f b) l[i] := by
 rw [List.take_succ_eq_append_getElem h, List.foldl_append]; rfl
set_option maxHeartbeats 1000000 in
theorem dist0 (g : Gr) (hv : g.valid = true) (to : Int) (ht : inR g.nodes.length to) : ACalls Try.prog 48 [encG g, (AV.int IntKind.i64) to] AHeap.nil (RowOut 3 1 ((g.dist to).map (AV.int IntKind.i64))) := by
 refine acalls_body TT_ok Try.func48 rfl rfl (by simp [Try.ntmps48]) ?_;rw [Try.ntmps48];obtain ⟨σ, hσ⟩ : ∃ σ, σ = st0 [encG g, (AV.int IntKind.i64) to] := ⟨_, rfl⟩;rw [← hσ];obtain ⟨h0_0, h1_0⟩ := fs2 hσ 0 1;simp [st0] at h0_0 h1_0;clear hσ;obtain ⟨H, hH⟩ : ∃ H, H = AHeap.nil := ⟨_, rfl⟩;rw [← hH];have hn_0 : H.n = 0 := by rw [hH]; rfl
 have hst_0 : H.st = 1 := by rw [hH]; rfl
 clear hH;refine stp_reg TT_ok (by rfl) fun K hK => ?_;simp [h0_0, hn_0, hst_0, encG];(try refine And.intro (by first|omega|rfl) ?_);refine hK _ _ fun σ1 hσ H1 hH => ?_;clear hK K;obtain ⟨h1_1, h2_1⟩ := fs2 hσ 1 2;simp [h1_0] at h1_1 h2_1;clear hσ;have g0_1 := gt_of hH 0;simp [hn_0, hst_0] at g0_1;have hn_1 := congrArg AHeap.n hH;simp [hn_0, hst_0] at hn_1;have hst_1 := congrArg AHeap.st hH;simp [hn_0, hst_0] at hst_1;clear hH;refine stp_reg TT_ok (by rfl) fun K hK => ?_;simp [g0_1, hn_1, hst_1, encG];(try refine And.intro (by first|omega|rfl) ?_);refine hK _ _ fun σ2 hσ H2 hH => ?_;clear hK K;obtain ⟨h1_2, h2_2, h5_2⟩ := fs3 hσ 1 2 5;simp [h1_1, h2_1] at h1_2 h2_2 h5_2;clear hσ;have g0_2 := gt_of hH 0;have g1_2 := gt_of hH 1;simp [g0_1, hn_1, hst_1] at g0_2 g1_2;have hn_2 := congrArg AHeap.n hH;simp [hn_1, hst_1] at hn_2;have hst_2 := congrArg AHeap.st hH;simp [hn_1, hst_1] at hst_2;clear hH;refine awp_seq ?_;refine stp_reg TT_ok (by rfl) fun K hK => ?_;simp [g0_2, g1_2, encG];(try refine And.intro (by first|omega|rfl) ?_);refine hK _ _ fun σ3 hσ H3 hH => ?_;clear hK K;obtain ⟨h1_3, h2_3, h5_3, h6_3⟩ := fs4 hσ 1 2 5 6;simp [h1_2, h2_2, h5_2] at h1_3 h2_3 h5_3 h6_3;clear hσ;replace hH : H2 = H3 := Eq.symm hH;subst hH;refine awp_block ?_;obtain ⟨hn1, hn2⟩ := valid_nodes hv;obtain ⟨ht1, ht2⟩ := ht
 refine awp_loopV (fun n σ' H' => ∃ (i : Nat) (gn : Nat), n = g.nodes.length - i ∧ σ' 1 = σ3 1 ∧ σ' 2 = σ3 2 ∧ σ' 5 = .sl 1 gn 0 i ∧ σ' 6 = (AV.int IntKind.i64) i ∧ H'.get 0 = H2.get 0 ∧ H'.get 1 = some (.row 3 1 gn ((List.replicate i (-1)).map (AV.int IntKind.i64))) ∧ H'.st = H2.st ∧ (i ≤ g.nodes.length)) ?_ ?_
 ·refine ⟨_, 0, 0, rfl, rfl, rfl, (by simp [h5_3]), (by simp [h6_3]), rfl, (by simp [g1_2]), rfl, ?_⟩
  ·first | omega | (simp; done) | assumption
 ·rintro n1 σ4 H4 ⟨i, gn, hn1, q1_4, q2_4, h5_4, h6_4, qg0_4, g1_4, qst_4, p1⟩
  have h1_4 := q1_4.trans h1_3;have h2_4 := q2_4.trans h2_3;have g0_4 := qg0_4.trans g0_2;have hst_4 := qst_4.trans hst_2;refine awp_seq ?_;refine stp_reg TT_ok (by rfl) fun K hK => ?_;simp [h2_4, h6_4, g0_4, g1_4, encG];(try refine And.intro (by first|omega|rfl) ?_);refine hK _ _ fun σ5 hσ H5 hH => ?_;clear hK K;obtain ⟨h1_5, h2_5, h5_5, h6_5, h15_5⟩ := fs5 hσ 1 2 5 6 15;simp [h1_4, h2_4, h5_4, h6_4] at h1_5 h2_5 h5_5 h6_5 h15_5;clear hσ;replace hH : H4 = H5 := Eq.symm hH;subst hH;refine awp_cond _ (by simp only [aeval_tmp]; exact h15_5) (fun hc15 => ?_) (fun hc15 => ?_)
  ·(try simp at hc15);have hlt : i < g.nodes.length := by simpa using hc15
   refine awp_skip ?_;refine q_seq ?_;refine awp_seq ?_;refine awp_block ?_;refine awp_ok fun hok => ?_;obtain ⟨m6, hn_m6⟩ : ∃ m, H4.n = m := ⟨_, rfl⟩;have hf_m6_0 := hok.free 0;simp [hn_m6, hst_4] at hf_m6_0;have nx1 := ne_get hf_m6_0 g0_4;have nx2 := ne_get hf_m6_0 g1_4;refine stp_regl TT_ok (by rfl) fun K hK => ?_;simp [h5_5, g0_4, g1_4, hn_m6, hst_4, nx1, nx2, encG, show (i + 1) * 8 ≤ 140737488355328 by omega, show i ≤ 9223372036854775806 by omega];(try refine And.intro (by first|omega|rfl) ?_);refine hK _ _ fun σ7 hσ H7 hH => ?_;clear hK K;obtain ⟨h1_7, h2_7, h5_7, h6_7⟩ := fs4 hσ 1 2 5 6;simp [h1_5, h2_5, h6_5] at h1_7 h2_7 h5_7 h6_7;clear hσ;have g0_7 := gt_of hH 0;have g1_7 := gt_of hH 1;have gm6_7 := gt_of hH m6;simp [g0_4, g1_4, hn_m6, hst_4, nx1, nx2] at g0_7 g1_7 gm6_7;have hst_7 := congrArg AHeap.st hH;simp [hst_4] at hst_7;clear hH;refine q_block ?_;refine q_seq ?_;refine stp_regl TT_ok (by rfl) fun K hK => ?_;simp [h6_7, g0_7, g1_7, gm6_7, nx1, nx2, encG, wrap_ok (n := (i : Int) + 1) (by omega) (by omega)];(try refine And.intro (by first|omega|rfl) ?_);refine hK _ _ fun σ8 hσ H8 hH => ?_;clear hK K;obtain ⟨h1_8, h2_8, h5_8, h6_8⟩ := fs4 hσ 1 2 5 6;simp [h1_7, h2_7, h5_7] at h1_8 h2_8 h5_8 h6_8;clear hσ;replace hH : H7 = H8 := Eq.symm hH;subst hH
   refine ⟨_, ?_, i + 1, gn + 1, rfl, (h1_8.trans h1_3.symm), (h2_8.trans h2_3.symm), (by simp [h5_8, List.replicate_succ']), (by simp [h6_8, List.replicate_succ']), (g0_7.trans g0_2.symm), (by simp [g1_7, List.replicate_succ']), (hst_7.trans hst_2.symm), ?_⟩
   ·subst hn1; omega
   ·first | omega | assumption | (simp; done)
  ·(try simp at hc15);refine awp_exit ?_;refine q_seq_exit ?_;refine q_loop_exit ?_;refine q_block_hit ?_;refine q_seq ?_;have hi : i = g.nodes.length := by have := hc15; omega
   subst hi;have ht3 : to.toNat < g.nodes.length := by omega
   refine stp_reg TT_ok (by rfl) fun K hK => ?_;simp [h1_5, h5_5, g0_4, g1_4, encG, ht1, ht2, ht3];(try refine And.intro (by first|omega|rfl) ?_);refine hK _ _ fun σ9 hσ H9 hH => ?_;clear hK K;obtain ⟨h2_9, h5_9⟩ := fs2 hσ 2 5;simp [h2_5, h5_5] at h2_9 h5_9;clear hσ;have g0_9 := gt_of hH 0;have g1_9 := gt_of hH 1;simp [g0_4, g1_4, hst_4] at g0_9 g1_9;have hst_9 := congrArg AHeap.st hH;simp [hst_4] at hst_9;clear hH;refine awp_seq ?_;refine stp_reg TT_ok (by rfl) fun K hK => ?_;simp [g0_9, g1_9, encG];(try refine And.intro (by first|omega|rfl) ?_);refine hK _ _ fun σ10 hσ H10 hH => ?_;clear hK K;obtain ⟨h2_10, h5_10, h7_10⟩ := fs3 hσ 2 5 7;simp [h2_9, h5_9] at h2_10 h5_10 h7_10;clear hσ;replace hH : H9 = H10 := Eq.symm hH;subst hH;refine awp_block ?_;refine awp_loopV (fun n σ' H' => ∃ (k : Nat) (d : List Int), n = g.nodes.length - k ∧ σ' 2 = σ10 2 ∧ σ' 5 = σ10 5 ∧ σ' 7 = (AV.int IntKind.i64) k ∧ H'.get 0 = H9.get 0 ∧ H'.get 1 = some (.row 3 1 gn (d.map (AV.int IntKind.i64))) ∧ H'.st = H9.st ∧ (k ≤ g.nodes.length) ∧ (d = drounds g k ((List.replicate g.nodes.length (-1)).set to.toNat 0))) ?_ ?_
   ·refine ⟨_, 0, ((List.replicate g.nodes.length (-1)).set to.toNat 0), rfl, rfl, rfl, (by simp [h7_10]), rfl, (by simp [g1_9]), rfl, ?_, ?_⟩
    ·first | omega | (simp; done) | assumption
    ·rfl
   ·rintro n2 σ11 H11 ⟨k, d, hn2, q2_11, q5_11, h7_11, qg0_11, g1_11, qst_11, r1, r2⟩
    have h2_11 := q2_11.trans h2_10;have h5_11 := q5_11.trans h5_10;have g0_11 := qg0_11.trans g0_9;have hst_11 := qst_11.trans hst_9;have hdl : d.length = g.nodes.length := by rw [r2, drounds_len]; simp
    refine awp_seq ?_;refine stp_reg TT_ok (by rfl) fun K hK => ?_;simp [h2_11, h7_11, g0_11, g1_11, encG];(try refine And.intro (by first|omega|rfl) ?_);refine hK _ _ fun σ12 hσ H12 hH => ?_;clear hK K;obtain ⟨h2_12, h5_12, h7_12, h28_12⟩ := fs4 hσ 2 5 7 28;simp [h2_11, h5_11, h7_11] at h2_12 h5_12 h7_12 h28_12;clear hσ;replace hH : H11 = H12 := Eq.symm hH;subst hH;refine awp_cond _ (by simp only [aeval_tmp]; exact h28_12) (fun hc28 => ?_) (fun hc28 => ?_)
    ·(try simp at hc28);refine awp_skip ?_;refine q_seq ?_;refine awp_seq ?_;refine awp_block ?_;refine stp_reg TT_ok (by rfl) fun K hK => ?_;simp [g0_11, g1_11, encG];(try refine And.intro (by first|omega|rfl) ?_);refine hK _ _ fun σ13 hσ H13 hH => ?_;clear hK K;obtain ⟨h2_13, h5_13, h7_13, h8_13⟩ := fs4 hσ 2 5 7 8;simp [h2_12, h5_12, h7_12] at h2_13 h5_13 h7_13 h8_13;clear hσ;replace hH : H11 = H13 := Eq.symm hH;subst hH;refine awp_block ?_;refine awp_loopV (fun n σ' H' => ∃ (i : Nat) (d2 : List Int), n = g.edges.length - i ∧ σ' 2 = σ13 2 ∧ σ' 5 = σ13 5 ∧ σ' 7 = σ13 7 ∧ σ' 8 = (AV.int IntKind.i64) i ∧ H'.get 0 = H11.get 0 ∧ H'.get 1 = some (.row 3 1 gn (d2.map (AV.int IntKind.i64))) ∧ H'.st = H11.st ∧ (i ≤ g.edges.length) ∧ (d2 = (g.edges.take i).foldl (dstep k) d)) ?_ ?_
     ·refine ⟨_, 0, d, rfl, rfl, rfl, rfl, (by simp [h8_13]), rfl, (by simp [g1_11]), rfl, ?_, ?_⟩
      ·first | omega | (simp; done) | assumption
      ·rfl
     ·rintro n3 σ14 H14 ⟨i, d2, hn3, q2_14, q5_14, q7_14, h8_14, qg0_14, g1_14, qst_14, q1, q2⟩
      have h2_14 := q2_14.trans h2_13;have h5_14 := q5_14.trans h5_13;have h7_14 := q7_14.trans h7_13;have g0_14 := qg0_14.trans g0_11;have hst_14 := qst_14.trans hst_11;have hd2 : d2.length = g.nodes.length := by rw [q2, dfold_len, hdl]
      refine awp_seq ?_;refine stp_reg TT_ok (by rfl) fun K hK => ?_;simp [h2_14, h8_14, g0_14, g1_14, encG];(try refine And.intro (by first|omega|rfl) ?_);refine hK _ _ fun σ15 hσ H15 hH => ?_;clear hK K;obtain ⟨h2_15, h5_15, h7_15, h8_15, h35_15⟩ := fs5 hσ 2 5 7 8 35;simp [h2_14, h5_14, h7_14, h8_14] at h2_15 h5_15 h7_15 h8_15 h35_15;clear hσ;replace hH : H14 = H15 := Eq.symm hH;subst hH;refine awp_cond _ (by simp only [aeval_tmp]; exact h35_15) (fun hc35 => ?_) (fun hc35 => ?_)
      ·(try simp at hc35);have hlt : i < g.edges.length := by simpa using hc35
       have hge : (g.edges.map encE)[i]? = some (encE g.edges[i]) := by simp [hlt]
       obtain ⟨⟨e1, e2⟩, e3, e4⟩ := valid_edge hv (List.getElem_mem hlt);have e5 : g.edges[i].1.toNat < d2.length := by omega
       have e6 : g.edges[i].2.toNat < d2.length := by omega
       have e7 : d2.getD g.edges[i].1.toNat 0 = d2[g.edges[i].1.toNat] := by simp [e5]
       have e8 : d2.getD g.edges[i].2.toNat 0 = d2[g.edges[i].2.toNat] := by simp [e6]
       refine awp_skip ?_;refine q_seq ?_;refine awp_seq ?_;refine awp_block ?_;refine awp_ok fun hok => ?_;obtain ⟨m16, hn_m16⟩ : ∃ m, H14.n = m := ⟨_, rfl⟩;have hf_m16_0 := hok.free 0;simp [hn_m16, hst_14] at hf_m16_0;have nx3 := ne_get hf_m16_0 g0_14;have nx4 := ne_get hf_m16_0 g1_14;refine stp_reg TT_ok (by rfl) fun K hK => ?_;simp [h2_15, h8_15, g0_14, g1_14, hn_m16, hst_14, nx3, nx4, encG, hge, hlt, encE];(try refine And.intro (by first|omega|rfl) ?_);refine hK _ _ fun σ17 hσ H17 hH => ?_;clear hK K;obtain ⟨h2_17, h5_17, h7_17, h8_17, h9_17⟩ := fs5 hσ 2 5 7 8 9;simp [h2_15, h5_15, h7_15, h8_15] at h2_17 h5_17 h7_17 h8_17 h9_17;clear hσ;have g0_17 := gt_of hH 0;have g1_17 := gt_of hH 1;have gm16_17 := gt_of hH m16;simp [g0_14, g1_14, hn_m16, hst_14, nx3, nx4] at g0_17 g1_17 gm16_17;have hst_17 := congrArg AHeap.st hH;simp [hst_14] at hst_17;clear hH
       by_cases ha : d2[g.edges[i].2.toNat] = (k : Int)
       ·skip
        by_cases hb : d2[g.edges[i].1.toNat] < 0
        ·skip;refine stp_reg TT_ok (by rfl) fun K hK => ?_;simp [h5_17, h7_17, h9_17, g0_17, g1_17, gm16_17, nx3, nx4, ha, beq_iff_eq.2 ha, hb, encG, e1, e2, e3, e4, e5, e6, hd2];(try refine And.intro (by first|omega|rfl) ?_);refine hK _ _ fun σ18 hσ H18 hH => ?_;clear hK K;obtain ⟨h2_18, h5_18, h7_18, h8_18, h9_18, h57_18⟩ := fs6 hσ 2 5 7 8 9 57;simp [h2_17, h5_17, h7_17, h8_17, h9_17] at h2_18 h5_18 h7_18 h8_18 h9_18 h57_18;clear hσ;replace hH : H17 = H18 := Eq.symm hH;subst hH;refine stp_true (by simp [aeval_tmp, h57_18, nx3, nx4, ha, beq_iff_eq.2 ha, hb, encG]) ?_;refine stp_regl TT_ok (by rfl) fun K hK => ?_;simp [h5_18, h7_18, h9_18, g0_17, g1_17, gm16_17, nx3, nx4, ha, beq_iff_eq.2 ha, hb, encG, e1, e2, e3, e4, e5, e6, hd2, wrap_ok (n := (k : Int) + 1) (by omega) (by omega)];(try refine And.intro (by first|omega|rfl) ?_);refine hK _ _ fun σ19 hσ H19 hH => ?_;clear hK K;obtain ⟨h2_19, h5_19, h7_19, h8_19⟩ := fs4 hσ 2 5 7 8;simp [h2_18, h5_18, h7_18, h8_18] at h2_19 h5_19 h7_19 h8_19;clear hσ;have g0_19 := gt_of hH 0;have g1_19 := gt_of hH 1;have gm16_19 := gt_of hH m16;simp [g0_17, g1_17, gm16_17, hst_17, nx3, nx4, ha, beq_iff_eq.2 ha, hb] at g0_19 g1_19 gm16_19;have hst_19 := congrArg AHeap.st hH;simp [hst_17] at hst_19;clear hH;refine q_block ?_;refine q_seq ?_;refine stp_regl TT_ok (by rfl) fun K hK => ?_;simp [h8_19, g0_19, g1_19, gm16_19, nx3, nx4, ha, beq_iff_eq.2 ha, hb, encG, wrap_ok (n := (i : Int) + 1) (by omega) (by omega)]
         (try refine And.intro (by first|omega|rfl) ?_);refine hK _ _ fun σ20 hσ H20 hH => ?_;clear hK K;obtain ⟨h2_20, h5_20, h7_20, h8_20⟩ := fs4 hσ 2 5 7 8;simp [h2_19, h5_19, h7_19] at h2_20 h5_20 h7_20 h8_20;clear hσ;replace hH : H19 = H20 := Eq.symm hH;subst hH;refine ⟨_, ?_, i + 1, d2.set g.edges[i].1.toNat (k + 1), rfl, (h2_20.trans h2_13.symm), (h5_20.trans h5_13.symm), (h7_20.trans h7_13.symm), (by simp [h8_20]), (g0_19.trans g0_11.symm), (by simp [g1_19]), (hst_19.trans hst_11.symm), ?_, ?_⟩
         ·subst hn3; omega
         ·first | omega | assumption | (simp; done)
         ·rw [foldl_take_succ hlt, ← q2]; unfold dstep; rw [if_pos (by rw [e7, e8]; exact ⟨ha, hb⟩)]
        ·skip;refine stp_reg TT_ok (by rfl) fun K hK => ?_;simp [h5_17, h7_17, h9_17, g0_17, g1_17, gm16_17, nx3, nx4, ha, beq_iff_eq.2 ha, hb, encG, e1, e2, e3, e4, e5, e6, hd2];(try refine And.intro (by first|omega|rfl) ?_);refine hK _ _ fun σ21 hσ H21 hH => ?_;clear hK K;obtain ⟨h2_21, h5_21, h7_21, h8_21, h9_21, h57_21⟩ := fs6 hσ 2 5 7 8 9 57;simp [h2_17, h5_17, h7_17, h8_17, h9_17] at h2_21 h5_21 h7_21 h8_21 h9_21 h57_21;clear hσ;replace hH : H17 = H21 := Eq.symm hH;subst hH;refine stp_false (by simp [aeval_tmp, h57_21, nx3, nx4, ha, beq_iff_eq.2 ha, hb, encG]) ?_;refine awp_skip ?_;refine q_block ?_;refine q_seq ?_;refine stp_regl TT_ok (by rfl) fun K hK => ?_;simp [h8_21, g0_17, g1_17, gm16_17, nx3, nx4, ha, beq_iff_eq.2 ha, hb, encG, wrap_ok (n := (i : Int) + 1) (by omega) (by omega)];(try refine And.intro (by first|omega|rfl) ?_);refine hK _ _ fun σ22 hσ H22 hH => ?_;clear hK K;obtain ⟨h2_22, h5_22, h7_22, h8_22⟩ := fs4 hσ 2 5 7 8;simp [h2_21, h5_21, h7_21] at h2_22 h5_22 h7_22 h8_22;clear hσ;replace hH : H17 = H22 := Eq.symm hH;subst hH;refine ⟨_, ?_, i + 1, d2, rfl, (h2_22.trans h2_13.symm), (h5_22.trans h5_13.symm), (h7_22.trans h7_13.symm), (by simp [h8_22]), (g0_17.trans g0_11.symm), (by simp [g1_17]), (hst_17.trans hst_11.symm), ?_, ?_⟩
         ·subst hn3; omega
         ·first | omega | assumption | (simp; done)
         ·rw [foldl_take_succ hlt, ← q2]; unfold dstep; rw [if_neg (by rw [e7]; exact fun h => hb h.2)]
       ·skip;refine stp_reg TT_ok (by rfl) fun K hK => ?_;simp [h5_17, h7_17, h9_17, g0_17, g1_17, gm16_17, nx3, nx4, ha, beq_eq_false_iff_ne.2 ha, encG, e1, e2, e3, e4, e5, e6, hd2];(try refine And.intro (by first|omega|rfl) ?_);refine hK _ _ fun σ23 hσ H23 hH => ?_;clear hK K;obtain ⟨h2_23, h5_23, h7_23, h8_23, h9_23, h57_23⟩ := fs6 hσ 2 5 7 8 9 57;simp [h2_17, h5_17, h7_17, h8_17, h9_17] at h2_23 h5_23 h7_23 h8_23 h9_23 h57_23;clear hσ;replace hH : H17 = H23 := Eq.symm hH;subst hH;refine stp_false (by simp [aeval_tmp, h57_23, nx3, nx4, ha, beq_eq_false_iff_ne.2 ha, encG]) ?_;refine awp_skip ?_;refine q_block ?_;refine q_seq ?_;refine stp_regl TT_ok (by rfl) fun K hK => ?_;simp [h8_23, g0_17, g1_17, gm16_17, nx3, nx4, ha, beq_eq_false_iff_ne.2 ha, encG, wrap_ok (n := (i : Int) + 1) (by omega) (by omega)];(try refine And.intro (by first|omega|rfl) ?_);refine hK _ _ fun σ24 hσ H24 hH => ?_;clear hK K;obtain ⟨h2_24, h5_24, h7_24, h8_24⟩ := fs4 hσ 2 5 7 8;simp [h2_23, h5_23, h7_23] at h2_24 h5_24 h7_24 h8_24;clear hσ;replace hH : H17 = H24 := Eq.symm hH;subst hH;refine ⟨_, ?_, i + 1, d2, rfl, (h2_24.trans h2_13.symm), (h5_24.trans h5_13.symm), (h7_24.trans h7_13.symm), (by simp [h8_24]), (g0_17.trans g0_11.symm), (by simp [g1_17]), (hst_17.trans hst_11.symm), ?_, ?_⟩
        ·subst hn3; omega
        ·first | omega | assumption | (simp; done)
        ·rw [foldl_take_succ hlt, ← q2]; unfold dstep; rw [if_neg (by rw [e8]; exact fun h => ha h.1)]
      ·(try simp at hc35);refine awp_exit ?_;refine q_seq_exit ?_;refine q_loop_exit ?_;refine q_block_hit ?_;refine q_block ?_;refine q_seq ?_;refine stp_regl TT_ok (by rfl) fun K hK => ?_;simp [h7_15, g0_14, g1_14, encG, wrap_ok (n := (k : Int) + 1) (by omega) (by omega)];(try refine And.intro (by first|omega|rfl) ?_);refine hK _ _ fun σ25 hσ H25 hH => ?_;clear hK K;obtain ⟨h2_25, h5_25, h7_25⟩ := fs3 hσ 2 5 7;simp [h2_15, h5_15] at h2_25 h5_25 h7_25;clear hσ;replace hH : H14 = H25 := Eq.symm hH;subst hH;have hi : i = g.edges.length := by have := hc35; omega
       subst hi;rw [List.take_length] at q2;have hk : k < g.nodes.length := by simpa using hc28
       refine ⟨_, ?_, k + 1, d2, rfl, (h2_25.trans h2_10.symm), (h5_25.trans h5_10.symm), (by simp [h7_25]), (g0_14.trans g0_9.symm), (by simp [g1_14]), (hst_14.trans hst_9.symm), ?_, ?_⟩
       ·subst hn2; omega
       ·first | omega | assumption | (simp; done)
       ·rw [drounds_succ, ← r2, q2]
    ·(try simp at hc28);refine awp_exit ?_;refine q_seq_exit ?_;refine q_loop_exit ?_;refine q_block_hit ?_;refine q_seq ?_;refine stp_reg TT_ok (by rfl) fun K hK => ?_;simp [h5_12, g0_11, g1_11, encG];(try refine And.intro (by first|omega|rfl) ?_);refine hK _ _ fun σ26 hσ H26 hH => ?_;clear hK K;have h4_26 := congrFun hσ 4;simp [] at h4_26;clear hσ;replace hH : H11 = H26 := Eq.symm hH;subst hH;refine awp_ret ?_;have hk : k = g.nodes.length := by have := hc28; omega
     subst hk;refine q_fin1 h4_26 ?_;exact ⟨1, gn, by simp [Gr.dist, drounds_len], by rw [g1_11, r2]; rfl⟩
theorem dist_ok (g : Gr) (hv : g.valid = true) (to : Int) (ht : inR g.nodes.length to) : Fun1 Try.prog 48 [encG g, (AV.int IntKind.i64) to] (.ro ((g.dist to).map (AV.int IntKind.i64))) :=
 fun1_row (dist0 g hv to ht) (pu_cons (pu_graph _) (pu_cons (pu_int _ _) pu_nil)) (fun _ => pu_of_ints) (fun _ => one_ints)
inductive Gr.Walk (g : Gr) (ok : Int → Prop) (to : Int) : Nat → Int → Prop
 | nil : Gr.Walk g ok to 0 to
 | cons {a b : Int} {k : Nat} (he : (a, b) ∈ g.edges) (ha : ok a) (h : Gr.Walk g ok to k b) : Gr.Walk g ok to (k + 1) a
def Gr.Far (g : Gr) (ok : Int → Prop) (to : Int) (k : Nat) (v : Int) : Prop := g.Walk ok to k v ∧ ∀ j, j < k → ¬ g.Walk ok to j v
theorem Gr.Walk.far {g : Gr} {ok : Int → Prop} {to : Int} {k : Nat} {v : Int} (h : g.Walk ok to k v) : ∃ j, j ≤ k ∧ g.Far ok to j v := by
 induction k using Nat.strongRecOn with
 | _ k ih =>
  by_cases hj : ∃ j, j < k ∧ g.Walk ok to j v
  ·obtain ⟨j, h1, h2⟩ := hj
   obtain ⟨i, h3, h4⟩ := ih j h1 h2
   exact ⟨i, by omega, h4⟩
  ·exact ⟨k, Nat.le_refl _, h, fun j h1 h2 => hj ⟨j, h1, h2⟩⟩
theorem Gr.Far.uniq {g : Gr} {ok : Int → Prop} {to : Int} {j k : Nat} {v : Int} (h : g.Far ok to j v) (h' : g.Far ok to k v) : j = k := by
 rcases Nat.lt_trichotomy j k with h1 | h1 | h1
 ·exact absurd h.1 (h'.2 j h1)
 ·exact h1
 ·exact absurd h'.1 (h.2 k h1)
theorem Gr.Far.pred {g : Gr} {ok : Int → Prop} {to : Int} {k : Nat} {v : Int} (h : g.Far ok to (k + 1) v) : ∃ w, (v, w) ∈ g.edges ∧ ok v ∧ g.Far ok to k w := by
 obtain ⟨h1, h2⟩ := h
 cases h1 with
 | @cons _ b _ he ha hw =>
  refine ⟨b, he, ha, hw, fun j hj hw' => ?_⟩
  exact h2 (j + 1) (by omega) (.cons he ha hw')
theorem Gr.Far.zero {g : Gr} {ok : Int → Prop} {to v : Int} (h : g.Far ok to 0 v) : v = to := by
 obtain ⟨h1, _⟩ := h; cases h1; rfl
theorem Gr.far_to (g : Gr) (ok : Int → Prop) (to : Int) : g.Far ok to 0 to := ⟨.nil, fun j h => by omega⟩
structure Dn (g : Gr) (ok : Int → Prop) (to : Int) (n : Nat) (d : List Int) : Prop where
 len : d.length = g.nodes.length
 val : ∀ (v : Nat) (x : Int), d[v]? = some x → x = -1 ∨ ∃ k : Nat, x = k ∧ k ≤ n ∧ g.Far ok to k v
 all : ∀ (v k : Nat), v < g.nodes.length → k ≤ n → g.Far ok to k v → d[v]? = some (k : Int)
structure IsDist (g : Gr) (ok : Int → Prop) (to : Int) (d : List Int) : Prop where
 len : d.length = g.nodes.length
 val : ∀ (v : Nat) (x : Int), d[v]? = some x → x = -1 ∨ ∃ k : Nat, x = k ∧ g.Far ok to k v
 all : ∀ (v k : Nat), v < g.nodes.length → g.Far ok to k v → d[v]? = some (k : Int)
theorem IsDist.uniq {g : Gr} {ok : Int → Prop} {to : Int} {d d' : List Int} (h : IsDist g ok to d) (h' : IsDist g ok to d') : d = d' := by
 refine List.ext_getElem (h.len.trans h'.len.symm) fun i h1 h2 => ?_
 have hi : i < g.nodes.length := h.len ▸ h1
 have e1 := List.getElem?_eq_getElem h1
 have e2 := List.getElem?_eq_getElem h2
 rcases h.val i _ e1 with q | ⟨k, q, hk⟩
 ·rcases h'.val i _ e2 with q' | ⟨k, q', hk⟩
  ·rw [q, q']
  ·have := h.all i k hi hk
   rw [e1] at this
   rw [q'] ; simpa using this
 ·have := h'.all i k hi hk
  rw [e2] at this
  rw [q]; simpa using this.symm
theorem php : ∀ (n k : Nat) (f : Nat → Nat), (∀ j, j ≤ k → f j < n) → (∀ i j, i ≤ k → j ≤ k → f i = f j → i = j) → k < n
 | 0, k, f, h, _ => absurd (h 0 (Nat.zero_le _)) (by omega)
 | n + 1, 0, f, _, _ => Nat.succ_pos _
 | n + 1, k + 1, f, h, hi => by
  have := php n k (fun j => if f j = n then f (k + 1) else f j) (fun j hj => ?_) (fun i j h1 h2 e => ?_)
  ·omega
  ·have h1 := h j (by omega)
   have h2 := h (k + 1) (Nat.le_refl _)
   split
   ·rename_i e
    have : f (k + 1) ≠ n := fun e' => by have := hi j (k + 1) (by omega) (Nat.le_refl _) (by omega); omega
    omega
   ·omega
  ·split at e
   ·split at e
    ·exact hi i j (by omega) (by omega) (by omega)
    ·have := hi (k + 1) j (Nat.le_refl _) (by omega) e; omega
   ·split at e
    ·have := hi i (k + 1) (by omega) (Nat.le_refl _) e; omega
    ·exact hi i j (by omega) (by omega) e
theorem Gr.Far.down {g : Gr} {ok : Int → Prop} {to : Int} (hv : g.valid = true) : ∀ {k : Nat} {v : Int}, inR g.nodes.length v → g.Far ok to k v → ∀ j, j ≤ k → ∃ w : Nat, w < g.nodes.length ∧ g.Far ok to j w
 | 0, v, hr, h, j, hj => by
  have : j = 0 := by omega
  subst this
  exact ⟨v.toNat, in_toNat hr, by rw [Int.toNat_of_nonneg hr.1]; exact h⟩
 | k + 1, v, hr, h, j, hj => by
  by_cases e : j = k + 1
  ·subst e; exact ⟨v.toNat, in_toNat hr, by rw [Int.toNat_of_nonneg hr.1]; exact h⟩
  ·obtain ⟨w, he, _, hw⟩ := h.pred
   exact hw.down hv (valid_edge hv he).2 j (by omega)
theorem Gr.Far.lt {g : Gr} {ok : Int → Prop} {to : Int} (hv : g.valid = true) {k : Nat} {v : Int} (hr : inR g.nodes.length v) (h : g.Far ok to k v) : k < g.nodes.length := by
 have hd := h.down hv hr
 let f : Nat → Nat := fun j => if hj : j ≤ k then (hd j hj).choose else 0
 have hf : ∀ j, j ≤ k → f j < g.nodes.length ∧ g.Far ok to j (f j) := fun j hj => by simp only [f, hj, dif_pos]; exact (hd j hj).choose_spec
 exact php _ k f (fun j hj => (hf j hj).1) fun i j hi hj e => by
  have h1 := (hf i hi).2
  rw [e] at h1
  exact h1.uniq (hf j hj).2
structure Dm (g : Gr) (ok : Int → Prop) (to : Int) (n : Nat) (pre : List (Int × Int)) (d : List Int) : Prop where
 len : d.length = g.nodes.length
 val : ∀ (v : Nat) (x : Int), d[v]? = some x → x = -1 ∨ ∃ k : Nat, x = k ∧ k ≤ n + 1 ∧ g.Far ok to k v
 all : ∀ (v k : Nat), v < g.nodes.length → k ≤ n → g.Far ok to k v → d[v]? = some (k : Int)
 pre : ∀ (a b : Nat), a < g.nodes.length → ((a : Int), (b : Int)) ∈ pre → g.Far ok to n b → g.Far ok to (n + 1) a → d[a]? = some ((n + 1 : Nat) : Int)
theorem Dm.step {g : Gr} {to : Int} {n : Nat} {pre : List (Int × Int)} {d : List Int} (hv : g.valid = true) (h : Dm g (fun _ => True) to n pre d) {e : Int × Int} (he : e ∈ g.edges) : Dm g (fun _ => True) to n (pre ++ [e]) (dstep n d e) := by
 obtain ⟨a, b⟩ := e
 obtain ⟨ha, hb⟩ := valid_edge hv he
 simp only at ha hb
 have ha1 : a.toNat < d.length := by rw [h.len]; exact in_toNat ha
 have hb1 : b.toNat < d.length := by rw [h.len]; exact in_toNat hb
 have ea : (a.toNat : Int) = a := Int.toNat_of_nonneg ha.1
 have eb : (b.toNat : Int) = b := Int.toNat_of_nonneg hb.1
 have hda : d.getD a.toNat 0 = d[a.toNat] := by simp [ha1]
 have hdb : d.getD b.toNat 0 = d[b.toNat] := by simp [hb1]
 unfold dstep
 simp only [hda, hdb]
 by_cases hc : d[b.toNat] = (n : Int) ∧ d[a.toNat] < 0
 ·rw [if_pos hc]
  have hfb : g.Far (fun _ => True) to n b := by
   rcases h.val b.toNat _ (List.getElem?_eq_getElem hb1) with q | ⟨k, q, _, hk⟩
   ·rw [hc.1] at q; omega
   ·have : k = n := by rw [hc.1] at q; omega
    subst this; rwa [eb] at hk
  have hno : ∀ j, j ≤ n → ¬ g.Walk (fun _ => True) to j a := fun j hj hw => by
   obtain ⟨i, hi, hf⟩ := hw.far
   have := h.all a.toNat i (in_toNat ha) (by omega) (by rw [ea]; exact hf)
   rw [List.getElem?_eq_getElem ha1] at this
   have h2 := hc.2
   simp only [Option.some.injEq] at this
   omega
  have hfa : g.Far (fun _ => True) to (n + 1) a := ⟨.cons he trivial hfb.1, fun j hj => hno j (by omega)⟩
  refine ⟨by simpa using h.len, fun v x hx => ?_, fun v k hvn hk hf => ?_, fun u w hu hm hw hf => ?_⟩
  ·rw [List.getElem?_set] at hx
   split at hx
   ·rename_i e; subst e
    simp [ha1] at hx
    exact .inr ⟨n + 1, by omega, Nat.le_refl _, by rw [ea]; exact hfa⟩
   ·exact h.val v x hx
  ·rw [List.getElem?_set]
   split
   ·rename_i e; subst e
    rw [ea] at hf
    exact absurd hf.1 (hno k hk)
   ·exact h.all v k hvn hk hf
  ·rw [List.getElem?_set]
   split
   ·rename_i e; subst e; simp [ha1]
   ·rename_i e
    rcases List.mem_append.1 hm with hm | hm
    ·exact h.pre u w hu hm hw hf
    ·simp at hm; omega
 ·rw [if_neg hc]
  refine ⟨h.len, h.val, h.all, fun u w hu hm hw hf => ?_⟩
  rcases List.mem_append.1 hm with hm | hm
  ·exact h.pre u w hu hm hw hf
  ·simp at hm
   obtain ⟨rfl, rfl⟩ := hm
   have hu2 : u < d.length := by rw [h.len]; exact hu
   have hw2 : w < d.length := by simpa using hb1
   simp only [Int.toNat_natCast] at hc
   have hb2 := h.all w n (by have := hb.2; omega) (Nat.le_refl _) hw
   rw [List.getElem?_eq_getElem hw2] at hb2
   simp only [Option.some.injEq] at hb2
   have hge : ¬ d[u] < 0 := fun h' => hc ⟨hb2, h'⟩
   rcases h.val u _ (List.getElem?_eq_getElem hu2) with q | ⟨k, q, _, hk⟩
   ·omega
   ·rw [List.getElem?_eq_getElem hu2, q, hk.uniq hf]
theorem Dn.next {g : Gr} {to : Int} {n : Nat} {d : List Int} (hv : g.valid = true) (h : Dn g (fun _ => True) to n d) : Dn g (fun _ => True) to (n + 1) (g.edges.foldl (dstep n) d) := by
 have key : ∀ (es pre : List (Int × Int)) (d : List Int), (∀ e ∈ es, e ∈ g.edges) → Dm g (fun _ => True) to n pre d → Dm g (fun _ => True) to n (pre ++ es) (es.foldl (dstep n) d) := by
  intro es
  induction es with
  | nil => intro pre d _ h; simpa using h
  | cons e es ih =>
   intro pre d he h
   have := ih (pre ++ [e]) _ (fun x hx => he x (by simp [hx])) (h.step hv (he e (by simp)))
   simpa using this
 have hm := key g.edges [] d (fun _ h => h) ⟨h.len, fun v x hx => by
  rcases h.val v x hx with q | ⟨k, q, hk, hf⟩
  ·exact .inl q
  ·exact .inr ⟨k, q, by omega, hf⟩, h.all, fun a b _ hm => by cases hm⟩
 refine ⟨hm.len, hm.val, fun v k hvn hk hf => ?_⟩
 by_cases e : k = n + 1
 ·subst e
  obtain ⟨w, he, _, hw⟩ := hf.pred
  obtain ⟨_, hwr⟩ := valid_edge hv he
  have ew : (w.toNat : Int) = w := Int.toNat_of_nonneg hwr.1
  refine hm.pre v w.toNat hvn ?_ (by rw [ew]; exact hw) hf
  simpa [ew] using he
 ·exact hm.all v k hvn (by omega) hf
theorem dist_is {g : Gr} (hv : g.valid = true) {to : Int} (ht : inR g.nodes.length to) : IsDist g (fun _ => True) to (g.dist to) := by
 have h0 : Dn g (fun _ => True) to 0 ((List.replicate g.nodes.length (-1)).set to.toNat 0) := by
  have e0 : (to.toNat : Int) = to := Int.toNat_of_nonneg ht.1
  refine ⟨by simp, fun v x hx => ?_, fun v k hvn hk hf => ?_⟩
  ·rw [List.getElem?_set] at hx
   split at hx
   ·rename_i e; subst e
    simp [in_toNat ht] at hx
    exact .inr ⟨0, by omega, Nat.le_refl _, by rw [e0]; exact g.far_to _ _⟩
   ·rw [List.getElem?_replicate] at hx
    split at hx
    ·simp at hx; exact .inl hx.symm
    ·cases hx
  ·have : k = 0 := by omega
   subst this
   have := hf.zero
   have : v = to.toNat := by omega
   subst this
   rw [List.getElem?_set_self (by simpa using hvn)]; rfl
 have hn : ∀ n, Dn g (fun _ => True) to n (drounds g n ((List.replicate g.nodes.length (-1)).set to.toNat 0)) := by
  intro n
  induction n with
  | zero => exact h0
  | succ n ih => rw [drounds_succ]; exact ih.next hv
 have hN := hn g.nodes.length
 refine ⟨hN.len, fun v x hx => ?_, fun v k hvn hf => hN.all v k hvn ?_ hf⟩
 ·rcases hN.val v x hx with q | ⟨k, q, _, hf⟩
  ·exact .inl q
  ·exact .inr ⟨k, q, hf⟩
 ·exact Nat.le_of_lt (hf.lt hv ⟨by omega, by omega⟩)
def Gr.onward (g : Gr) (d : List Int) (a : Int) (i : Nat) : Bool := decide (d.getD i 0 = d.getD a.toNat 0 - 1) && g.hasEdge a i
def Gr.nextFrom (g : Gr) (d : List Int) (a : Int) : Nat → Nat → Int
 | 0, _ => -1
 | m + 1, j => if g.onward d a j then (j : Int) else g.nextFrom d a m (j + 1)
def Gr.next (g : Gr) (d : List Int) (a : Int) : Int := g.nextFrom d a g.nodes.length 0
def Gr.way (g : Gr) (d : List Int) : Nat → Int → List Int
 | 0, a => [a]
 | k + 1, a => a :: g.way d k (g.next d a)
theorem way_head {g : Gr} {d : List Int} {k : Nat} {a : Int} : g.way d k a = a :: (g.way d k a).tail := by cases k <;> rfl
def Gr.path (g : Gr) (a b : Int) : List Int :=
 if g.exist [a, b] then (if (g.dist b).getD a.toNat 0 < 0 then [] else g.way (g.dist b) ((g.dist b).getD a.toNat 0).toNat a) else []
theorem hasEdge_iff {g : Gr} {a b : Int} : g.hasEdge a b = true ↔ (a, b) ∈ g.edges := by
 simp only [Gr.hasEdge, List.any_eq_true, Bool.and_eq_true, decide_eq_true_eq]
 constructor
 ·rintro ⟨⟨x, y⟩, h, rfl, rfl⟩; exact h
 ·intro h; exact ⟨_, h, rfl, rfl⟩
theorem nextFrom_some {g : Gr} {d : List Int} {a : Int} : ∀ {m j : Nat}, (∃ i, j ≤ i ∧ i < j + m ∧ g.onward d a i = true) → ∃ i : Nat, g.nextFrom d a m j = i ∧ j ≤ i ∧ i < j + m ∧ g.onward d a i = true
 | 0, j, ⟨i, h1, h2, _⟩ => by omega
 | m + 1, j, ⟨i, h1, h2, h3⟩ => by
  simp only [Gr.nextFrom]
  split
  ·rename_i h; exact ⟨j, rfl, Nat.le_refl _, by omega, h⟩
  ·rename_i h
   have : i ≠ j := fun e => h (e ▸ h3)
   obtain ⟨q, q1, q2, q3, q4⟩ := nextFrom_some (g := g) (d := d) (a := a) (m := m) (j := j + 1) ⟨i, by omega, by omega, h3⟩
   exact ⟨q, q1, by omega, by omega, q4⟩
theorem nextFrom_step {g : Gr} {d : List Int} {a : Int} {n j : Nat} (h : j < n) : g.nextFrom d a (n - j) j = if g.onward d a j then (j : Int) else g.nextFrom d a (n - (j + 1)) (j + 1) := by
 rw [show n - j = n - (j + 1) + 1 by omega]; rfl
theorem exist_iff {g : Gr} {l : List Int} : g.exist l = true ↔ (∀ x ∈ l, inR g.nodes.length x) ∧ g.valid = true := by
 simp only [Gr.exist, Bool.and_eq_true, List.all_eq_true, decide_eq_true_eq, inR]
theorem next_far {g : Gr} (hv : g.valid = true) {to : Int} {d : List Int} (hd : IsDist g (fun _ => True) to d) {k : Nat} {a : Int} (ha : inR g.nodes.length a) (hf : g.Far (fun _ => True) to (k + 1) a) :
  inR g.nodes.length (g.next d a) ∧ (a, g.next d a) ∈ g.edges ∧ g.Far (fun _ => True) to k (g.next d a) := by
 obtain ⟨w, he, _, hw⟩ := hf.pred
 have hwr := (valid_edge hv he).2
 have ew : (w.toNat : Int) = w := Int.toNat_of_nonneg hwr.1
 have ea : (a.toNat : Int) = a := Int.toNat_of_nonneg ha.1
 have h1 := hd.all w.toNat k (in_toNat hwr) (by rw [ew]; exact hw)
 have h2 := hd.all a.toNat (k + 1) (in_toNat ha) (by rw [ea]; exact hf)
 have hon : ∀ i : Nat, g.onward d a i = true ↔ d[i]?.getD 0 = (k : Int) ∧ (a, (i : Int)) ∈ g.edges := fun i => by
  simp only [Gr.onward, Bool.and_eq_true, decide_eq_true_eq, hasEdge_iff, List.getD_eq_getElem?_getD, h2, Option.getD_some]
  constructor
  ·rintro ⟨q1, q2⟩; exact ⟨by omega, q2⟩
  ·rintro ⟨q1, q2⟩; exact ⟨by omega, q2⟩
 obtain ⟨i, q1, q2, q3, q4⟩ := nextFrom_some (g := g) (d := d) (a := a) (m := g.nodes.length) (j := 0) ⟨w.toNat, Nat.zero_le _, by have := in_toNat hwr; omega, (hon _).2 ⟨by rw [h1]; rfl, by rw [ew]; exact he⟩⟩
 have hq : g.next d a = i := q1
 obtain ⟨r1, r2⟩ := (hon i).1 q4
 have hi : i < g.nodes.length := by omega
 rw [hq]
 refine ⟨⟨by omega, by omega⟩, r2, ?_⟩
 have hi' : i < d.length := by rw [hd.len]; exact hi
 rw [List.getElem?_eq_getElem hi'] at r1
 simp only [Option.getD_some] at r1
 rcases hd.val i _ (List.getElem?_eq_getElem hi') with q | ⟨j, q, hj⟩
 ·omega
 ·have : j = k := by omega
  subst this; exact hj
theorem dist_range {g : Gr} (hv : g.valid = true) {to : Int} {d : List Int} (hd : IsDist g (fun _ => True) to d) {i : Nat} (hi : i < d.length) : -1 ≤ d[i] ∧ d[i] < g.nodes.length := by
 rcases hd.val i _ (List.getElem?_eq_getElem hi) with q | ⟨k, q, hk⟩
 ·omega
 ·have := hk.lt hv ⟨by omega, by rw [hd.len] at hi; omega⟩
  omega
set_option maxHeartbeats 1000000 in
theorem path0 (g : Gr) (a b : Int) (hg : g.edges.length ≤ 1000000) : ACalls Try.prog 16 [encG g, (AV.int IntKind.i64) a, (AV.int IntKind.i64) b] AHeap.nil (RowN 3 1 ((g.path a b).map (AV.int IntKind.i64))) := by
 refine acalls_body TT_ok Try.func16 rfl rfl (by simp [Try.ntmps16]) ?_;rw [Try.ntmps16];obtain ⟨σ, hσ⟩ : ∃ σ, σ = st0 [encG g, (AV.int IntKind.i64) a, (AV.int IntKind.i64) b] := ⟨_, rfl⟩;rw [← hσ];obtain ⟨h0_0, h1_0, h2_0⟩ := fs3 hσ 0 1 2;simp [st0] at h0_0 h1_0 h2_0;clear hσ;obtain ⟨H, hH⟩ : ∃ H, H = AHeap.nil := ⟨_, rfl⟩;rw [← hH];have hn_0 : H.n = 0 := by rw [hH]; rfl
 have hst_0 : H.st = 1 := by rw [hH]; rfl
 clear hH;refine stp_reg TT_ok (by rfl) fun K hK => ?_;simp [h0_0, hn_0, hst_0, encG];(try refine And.intro (by first|omega|rfl) ?_);refine hK _ _ fun σ1 hσ H1 hH => ?_;clear hK K;obtain ⟨h1_1, h2_1, h3_1⟩ := fs3 hσ 1 2 3;simp [h1_0, h2_0] at h1_1 h2_1 h3_1;clear hσ;have g0_1 := gt_of hH 0;simp [hn_0, hst_0] at g0_1;have hn_1 := congrArg AHeap.n hH;simp [hn_0, hst_0] at hn_1;have hst_1 := congrArg AHeap.st hH;simp [hn_0, hst_0] at hst_1;clear hH;refine awp_seq ?_;have hFF0 := an6 h1_1 h2_1 h3_1 g0_1 hn_1 hst_1;refine stp_reg TT_ok (by rfl) fun K hK => ?_;simp [hFF0, encG];(try refine And.intro (by first|omega|rfl) ?_);refine FunW.at (refExist_w g [a, b] (by simp)) ?hf ?_
 case hf => exact FrzL.cons (.pure (pu_graph g)) (FrzL.cons (frz_ints (xs := [a, b]) (by simp [hFF0, encG]; rfl) rfl) (FrzL.nil _))
 simp [hFF0, encG];(try refine And.intro (by first|omega|rfl) ?_);refine hK _ _ fun σ2 hσ H2 hH => ?_;clear hK K hFF0;obtain ⟨h1_2, h2_2, h3_2, h17_2⟩ := fs4 hσ 1 2 3 17;simp [h1_1, h2_1, h3_1] at h1_2 h2_2 h3_2 h17_2;clear hσ;have g0_2 := gt_of hH 0;have g1_2 := gt_of hH 1;simp [g0_1, hn_1, hst_1] at g0_2 g1_2;have hn_2 := congrArg AHeap.n hH;simp [hn_1, hst_1] at hn_2;have hst_2 := congrArg AHeap.st hH;simp [hn_1, hst_1] at hst_2;clear hH;refine awp_cond _ (by simp only [aeval_tmp]; exact h17_2) (fun hc17 => ?_) (fun hc17 => ?_)
 ·(try simp at hc17);refine stp_reg TT_ok (by rfl) fun K hK => ?_;simp [g0_2, g1_2, encG];(try refine And.intro (by first|omega|rfl) ?_);refine hK _ _ fun σ3 hσ H3 hH => ?_;clear hK K;have h6_3 := congrFun hσ 6;simp [] at h6_3;clear hσ;replace hH : H2 = H3 := Eq.symm hH;subst hH;refine awp_ret ?_;refine q_seq_ret ?_;refine q_fin1 h6_3 ?_;exact .inl ⟨rfl, by simp [Gr.path, hc17]⟩
 ·(try simp at hc17);obtain ⟨hin, hv⟩ := exist_iff.1 hc17;have ha := hin a (by simp);have hb := hin b (by simp);have hD := dist_is hv hb;obtain ⟨d, hd⟩ : ∃ d, d = g.dist b := ⟨_, rfl⟩;rw [← hd] at hD;obtain ⟨a1, a2⟩ := ha;obtain ⟨b1, b2⟩ := hb;have hal : a.toNat < d.length := by rw [hD.len]; omega
  have hdl := hD.len;refine awp_skip ?_;refine q_seq ?_;have hFF0 := an4 h2_2 h3_2 g0_2 g1_2;refine stp_reg TT_ok (by rfl) fun K hK => ?_;simp [hFF0, encG];(try refine And.intro (by first|omega|rfl) ?_);refine stp_call (dist_ok g hv b ⟨b1, b2⟩) ?_;simp [hFF0, encG];(try refine And.intro (by first|omega|rfl) ?_);refine hK _ _ fun σ4 hσ H4 hH => ?_;clear hK K hFF0;obtain ⟨h1_4, h2_4, h3_4, h7_4⟩ := fs4 hσ 1 2 3 7;simp [h1_2, h2_2, h3_2] at h1_4 h2_4 h3_4 h7_4;clear hσ;replace hH : H2 = H4 := Eq.symm hH;subst hH;refine awp_seq ?_;rw [← hd] at h7_4;refine stp_reg TT_ok (by rfl) fun K hK => ?_;simp [h1_4, h7_4, g0_2, g1_2, encG, a1, a2, hal, hdl];(try refine And.intro (by first|omega|rfl) ?_);refine hK _ _ fun σ5 hσ H5 hH => ?_;clear hK K;obtain ⟨h1_5, h2_5, h3_5, h7_5, h25_5⟩ := fs5 hσ 1 2 3 7 25;simp [h1_4, h2_4, h3_4, h7_4] at h1_5 h2_5 h3_5 h7_5 h25_5;clear hσ;replace hH : H2 = H5 := Eq.symm hH;subst hH;refine awp_cond _ (by simp only [aeval_tmp]; exact h25_5) (fun hc25 => ?_) (fun hc25 => ?_)
  ·(try simp at hc25);refine stp_reg TT_ok (by rfl) fun K hK => ?_;simp [g0_2, g1_2, encG];(try refine And.intro (by first|omega|rfl) ?_);refine hK _ _ fun σ6 hσ H6 hH => ?_;clear hK K;have h6_6 := congrFun hσ 6;simp [] at h6_6;clear hσ;replace hH : H2 = H6 := Eq.symm hH;subst hH;refine awp_ret ?_;refine q_seq_ret ?_;refine q_fin1 h6_6 ?_;exact .inl ⟨rfl, by simp [Gr.path, hc17, ← hd, hal, hc25]⟩
  ·(try simp at hc25);refine awp_skip ?_;refine q_seq ?_;refine stp_reg TT_ok (by rfl) fun K hK => ?_;simp [h1_5, g0_2, g1_2, hn_2, hst_2, encG];(try refine And.intro (by first|omega|rfl) ?_);refine hK _ _ fun σ7 hσ H7 hH => ?_;clear hK K;obtain ⟨h1_7, h2_7, h3_7, h7_7, h8_7⟩ := fs5 hσ 1 2 3 7 8;simp [h1_5, h2_5, h3_5, h7_5] at h1_7 h2_7 h3_7 h7_7 h8_7;clear hσ;have g0_7 := gt_of hH 0;have g1_7 := gt_of hH 1;have g2_7 := gt_of hH 2;simp [g0_2, g1_2, hn_2, hst_2] at g0_7 g1_7 g2_7;have hn_7 := congrArg AHeap.n hH;simp [hn_2, hst_2] at hn_7;have hst_7 := congrArg AHeap.st hH;simp [hn_2, hst_2] at hst_7;clear hH;refine awp_seq ?_;refine stp_reg TT_ok (by rfl) fun K hK => ?_;simp [h1_7, g0_7, g1_7, g2_7, encG];(try refine And.intro (by first|omega|rfl) ?_);refine hK _ _ fun σ8 hσ H8 hH => ?_;clear hK K;obtain ⟨h2_8, h3_8, h7_8, h8_8, h9_8⟩ := fs5 hσ 2 3 7 8 9;simp [h2_7, h3_7, h7_7, h8_7] at h2_8 h3_8 h7_8 h8_8 h9_8;clear hσ;replace hH : H7 = H8 := Eq.symm hH;subst hH;refine awp_block ?_;obtain ⟨hn1, hn2⟩ := valid_nodes hv
   obtain ⟨K0, hK0, hF0⟩ : ∃ k : Nat, d[a.toNat] = k ∧ g.Far (fun _ => True) b k a := by
    rcases hD.val a.toNat _ (List.getElem?_eq_getElem hal) with q | ⟨k, q, hk⟩
    ·omega
    ·exact ⟨k, q, by rwa [Int.toNat_of_nonneg a1] at hk⟩
   have hK1 := hF0.lt hv ⟨a1, a2⟩;refine awp_loopV (fun n σ' H' => ∃ (k : Nat) (at_ : Int) (es : List Int) (gn : Nat), n = k ∧ σ' 2 = σ8 2 ∧ σ' 3 = σ8 3 ∧ σ' 7 = σ8 7 ∧ σ' 8 = .sl 2 gn 0 es.length ∧ σ' 9 = (AV.int IntKind.i64) at_ ∧ H'.get 0 = H7.get 0 ∧ H'.get 1 = H7.get 1 ∧ H'.get 2 = some (.row 3 1 gn (es.map (AV.int IntKind.i64))) ∧ H'.st = H7.st ∧ (inR g.nodes.length at_) ∧ (g.Far (fun _ => True) b k at_) ∧ (es ++ (g.way d k at_).tail = g.way d K0 a) ∧ (es.length + k ≤ 1024)) ?_ ?_
   ·refine ⟨_, K0, a, [a], 0, rfl, rfl, rfl, rfl, (by simp [h8_8]), (by simp [h9_8]), rfl, rfl, (by simp [g2_7]), rfl, ?_, ?_, ?_, ?_⟩
    ·exact ⟨a1, a2⟩
    ·exact hF0
    ·cases K0 <;> simp [Gr.way]
    ·simp; omega
   ·rintro n1 σ9 H9 ⟨k, at_, es, gn, hn1, q2_9, q3_9, q7_9, h8_9, h9_9, qg0_9, qg1_9, g2_9, qst_9, p1, p2, p3, p4⟩
    have h2_9 := q2_9.trans h2_8;have h3_9 := q3_9.trans h3_8;have h7_9 := q7_9.trans h7_8;have g0_9 := qg0_9.trans g0_7;have g1_9 := qg1_9.trans g1_7;have hst_9 := qst_9.trans hst_7;refine awp_seq ?_;refine stp_reg TT_ok (by rfl) fun K hK => ?_;simp [h2_9, h9_9, g0_9, g1_9, g2_9, encG];(try refine And.intro (by first|omega|rfl) ?_);refine hK _ _ fun σ10 hσ H10 hH => ?_;clear hK K;obtain ⟨h2_10, h3_10, h7_10, h8_10, h9_10, h31_10⟩ := fs6 hσ 2 3 7 8 9 31;simp [h2_9, h3_9, h7_9, h8_9, h9_9] at h2_10 h3_10 h7_10 h8_10 h9_10 h31_10;clear hσ;replace hH : H9 = H10 := Eq.symm hH;subst hH;refine awp_cond _ (by simp only [aeval_tmp]; exact h31_10) (fun hc31 => ?_) (fun hc31 => ?_)
    ·(try simp at hc31)
     obtain ⟨k2, rfl⟩ : ∃ k2, k = k2 + 1 := by
      cases k with
      | zero => exact absurd p2.zero hc31
      | succ k => exact ⟨k, rfl⟩
     obtain ⟨t1, t2⟩ := p1;have tl : at_.toNat < d.length := by omega
     have tl2 : at_.toNat < g.nodes.length := by omega
     have tr := dist_range hv hD tl;refine awp_skip ?_;refine q_seq ?_;refine awp_block ?_;refine stp_reg TT_ok (by rfl) fun K hK => ?_;simp [g0_9, g1_9, g2_9, encG];(try refine And.intro (by first|omega|rfl) ?_);refine hK _ _ fun σ11 hσ H11 hH => ?_;clear hK K;obtain ⟨h2_11, h3_11, h7_11, h8_11, h9_11, h10_11⟩ := fs6 hσ 2 3 7 8 9 10;simp [h2_10, h3_10, h7_10, h8_10, h9_10] at h2_11 h3_11 h7_11 h8_11 h9_11 h10_11;clear hσ;replace hH : H9 = H11 := Eq.symm hH;subst hH;refine awp_seq ?_;refine stp_reg TT_ok (by rfl) fun K hK => ?_;simp [h3_11, g0_9, g1_9, g2_9, encG, wrap_ok (n := (g.nodes.length : Int) - 1) (by omega) (by omega)];(try refine And.intro (by first|omega|rfl) ?_);refine hK _ _ fun σ12 hσ H12 hH => ?_;clear hK K;obtain ⟨h2_12, h3_12, h7_12, h8_12, h9_12, h10_12, h11_12⟩ := fs7 hσ 2 3 7 8 9 10 11;simp [h2_11, h3_11, h7_11, h8_11, h9_11, h10_11] at h2_12 h3_12 h7_12 h8_12 h9_12 h10_12 h11_12;clear hσ;replace hH : H9 = H12 := Eq.symm hH;subst hH;refine awp_block ?_;refine awp_loopV (fun n σ' H' => ∃ (j : Nat), n = j ∧ σ' 2 = σ12 2 ∧ σ' 3 = σ12 3 ∧ σ' 7 = σ12 7 ∧ σ' 8 = σ12 8 ∧ σ' 9 = σ12 9 ∧ σ' 10 = (AV.int IntKind.i64) (g.nextFrom d at_ (g.nodes.length - j) j) ∧ σ' 11 = (AV.int IntKind.i64) ((j : Int) - 1) ∧ H' = H9 ∧ (j ≤ g.nodes.length)) ?_ ?_
     ·refine ⟨_, g.nodes.length, rfl, rfl, rfl, rfl, rfl, rfl, (by simp [h10_12, Gr.nextFrom]), (by simp [h11_12, Gr.nextFrom]), rfl, ?_⟩
      ·first | omega | (simp; done) | assumption
     ·rintro n2 σ13 H13 ⟨j, hn2, q2_13, q3_13, q7_13, q8_13, q9_13, h10_13, h11_13, hHq, r1⟩
      have h2_13 := q2_13.trans h2_12;have h3_13 := q3_13.trans h3_12;have h7_13 := q7_13.trans h7_12;have h8_13 := q8_13.trans h8_12;have h9_13 := q9_13.trans h9_12;replace hHq := hHq.symm;subst hHq;refine awp_seq ?_;refine stp_reg TT_ok (by rfl) fun K hK => ?_;simp [h11_13, g0_9, g1_9, g2_9, encG];(try refine And.intro (by first|omega|rfl) ?_);refine hK _ _ fun σ14 hσ H14 hH => ?_;clear hK K;obtain ⟨h2_14, h3_14, h7_14, h8_14, h9_14, h10_14, h11_14, h37_14⟩ := fs8 hσ 2 3 7 8 9 10 11 37;simp [h2_13, h3_13, h7_13, h8_13, h9_13, h10_13, h11_13] at h2_14 h3_14 h7_14 h8_14 h9_14 h10_14 h11_14 h37_14;clear hσ;replace hH : H9 = H14 := Eq.symm hH;subst hH;refine awp_cond _ (by simp only [aeval_tmp]; exact h37_14) (fun hc37 => ?_) (fun hc37 => ?_)
      ·(try simp at hc37);obtain ⟨j2, rfl⟩ : ∃ j2, j = j2 + 1 := ⟨j - 1, by omega⟩;have jl : j2 < d.length := by omega
       have jl2 : j2 < g.nodes.length := by omega
       have jr := dist_range hv hD jl;rw [show (((j2 + 1 : Nat) : Int) - 1) = j2 by omega] at h11_14;refine awp_skip ?_;refine q_seq ?_;refine awp_seq ?_;refine awp_block ?_
       by_cases hj : d[j2] = d[at_.toNat] - 1
       ·skip;have hFF0 := an9 h3_14 h7_14 h9_14 h11_14 g0_9 g1_9 g2_9 hj (beq_iff_eq.2 hj);refine stp_lex false TT_ok mixed (by rfl) (by rfl) (by kernel_rfl) (by rfl) fun U hU K hK => ?_;simp [hFF0, encG, t1, t2, tl, jl, tl2, jl2, hdl, wrap_ok (n := d[at_.toNat] - 1) (by omega) (by omega)];(try refine And.intro (by first|omega|rfl) ?_);refine lex_call (edge_ok g at_ j2 hg) ?_;simp [hFF0, encG, t1, t2, tl, jl, tl2, jl2, hdl, wrap_ok (n := d[at_.toNat] - 1) (by omega) (by omega)];(try refine And.intro (by first|omega|rfl) ?_);refine hK _ _ _ (by subst hU; kernel_rfl) fun σ15 hσ H15 hH => ?_;clear hK K hU U hFF0;obtain ⟨h2_15, h3_15, h7_15, h8_15, h9_15, h10_15, h11_15, h55_15⟩ := fs8 hσ 2 3 7 8 9 10 11 55;simp [h2_14, h3_14, h7_14, h8_14, h9_14, h10_14, h11_14] at h2_15 h3_15 h7_15 h8_15 h9_15 h10_15 h11_15 h55_15;clear hσ;replace hH : H9 = H15 := Eq.symm hH;subst hH;refine awp_cond _ (by simp only [aeval_tmp]; exact h55_15) (fun hc55 => ?_) (fun hc55 => ?_)
        ·(try simp at hc55);refine stp_regl TT_ok (by rfl) fun K hK => ?_;simp [h11_15, g0_9, g1_9, g2_9, hj, beq_iff_eq.2 hj, encG];(try refine And.intro (by first|omega|rfl) ?_);refine hK _ _ fun σ16 hσ H16 hH => ?_;clear hK K;obtain ⟨h2_16, h3_16, h7_16, h8_16, h9_16, h10_16, h11_16⟩ := fs7 hσ 2 3 7 8 9 10 11;simp [h2_15, h3_15, h7_15, h8_15, h9_15, h11_15] at h2_16 h3_16 h7_16 h8_16 h9_16 h10_16 h11_16;clear hσ;replace hH : H9 = H16 := Eq.symm hH;subst hH;refine q_block ?_;refine q_seq ?_;refine stp_regl TT_ok (by rfl) fun K hK => ?_;simp [h11_16, g0_9, g1_9, g2_9, hj, beq_iff_eq.2 hj, encG, wrap_ok (n := (j2 : Int) - 1) (by omega) (by omega)];(try refine And.intro (by first|omega|rfl) ?_);refine hK _ _ fun σ17 hσ H17 hH => ?_;clear hK K;obtain ⟨h2_17, h3_17, h7_17, h8_17, h9_17, h10_17, h11_17⟩ := fs7 hσ 2 3 7 8 9 10 11;simp [h2_16, h3_16, h7_16, h8_16, h9_16, h10_16] at h2_17 h3_17 h7_17 h8_17 h9_17 h10_17 h11_17;clear hσ;replace hH : H9 = H17 := Eq.symm hH;subst hH;refine ⟨_, ?_, j2, rfl, (h2_17.trans h2_12.symm), (h3_17.trans h3_12.symm), (h7_17.trans h7_12.symm), (h8_17.trans h8_12.symm), (h9_17.trans h9_12.symm), (by simp [h10_17, show g.nextFrom d at_ (g.nodes.length - j2) j2 = (j2 : Int) from (nextFrom_step (by omega)).trans (if_pos (by simp [Gr.onward, jl, tl, hj, hc55]))]), (by simp [h11_17, show g.nextFrom d at_ (g.nodes.length - j2) j2 = (j2 : Int) from (nextFrom_step (by omega)).trans (if_pos (by simp [Gr.onward, jl, tl, hj, hc55]))]), rfl, ?_⟩
         ·subst hn2; omega
         ·first | omega | assumption | (simp; done)
        ·(try simp at hc55);refine awp_skip ?_;refine q_block ?_;refine q_seq ?_;refine stp_regl TT_ok (by rfl) fun K hK => ?_;simp [h11_15, g0_9, g1_9, g2_9, hj, beq_iff_eq.2 hj, encG, wrap_ok (n := (j2 : Int) - 1) (by omega) (by omega)];(try refine And.intro (by first|omega|rfl) ?_);refine hK _ _ fun σ18 hσ H18 hH => ?_;clear hK K;obtain ⟨h2_18, h3_18, h7_18, h8_18, h9_18, h10_18, h11_18⟩ := fs7 hσ 2 3 7 8 9 10 11;simp [h2_15, h3_15, h7_15, h8_15, h9_15, h10_15] at h2_18 h3_18 h7_18 h8_18 h9_18 h10_18 h11_18;clear hσ;replace hH : H9 = H18 := Eq.symm hH;subst hH;refine ⟨_, ?_, j2, rfl, (h2_18.trans h2_12.symm), (h3_18.trans h3_12.symm), (h7_18.trans h7_12.symm), (h8_18.trans h8_12.symm), (h9_18.trans h9_12.symm), (by simp [h10_18, show g.nextFrom d at_ (g.nodes.length - j2) j2 = g.nextFrom d at_ (g.nodes.length - (j2 + 1)) (j2 + 1) from (nextFrom_step (by omega)).trans (if_neg (by simp [Gr.onward, jl, tl, hj, hc55]))]), (by simp [h11_18, show g.nextFrom d at_ (g.nodes.length - j2) j2 = g.nextFrom d at_ (g.nodes.length - (j2 + 1)) (j2 + 1) from (nextFrom_step (by omega)).trans (if_neg (by simp [Gr.onward, jl, tl, hj, hc55]))]), rfl, ?_⟩
         ·subst hn2; omega
         ·first | omega | assumption | (simp; done)
       ·skip;refine stp_lex false TT_ok mixed (by rfl) (by rfl) (by kernel_rfl) (by rfl) fun U hU K hK => ?_;simp [h3_14, h7_14, h9_14, h11_14, g0_9, g1_9, g2_9, hj, beq_eq_false_iff_ne.2 hj, encG, t1, t2, tl, jl, tl2, jl2, hdl, wrap_ok (n := d[at_.toNat] - 1) (by omega) (by omega)];(try refine And.intro (by first|omega|rfl) ?_);refine hK _ _ _ (by subst hU; kernel_rfl) fun σ19 hσ H19 hH => ?_;clear hK K hU U;obtain ⟨h2_19, h3_19, h7_19, h8_19, h9_19, h10_19, h11_19, h55_19⟩ := fs8 hσ 2 3 7 8 9 10 11 55;simp [h2_14, h3_14, h7_14, h8_14, h9_14, h10_14, h11_14] at h2_19 h3_19 h7_19 h8_19 h9_19 h10_19 h11_19 h55_19;clear hσ;replace hH : H9 = H19 := Eq.symm hH;subst hH;refine stp_false (by simp [aeval_tmp, h55_19, hj, beq_eq_false_iff_ne.2 hj, encG]) ?_;refine awp_skip ?_;refine q_block ?_;refine q_seq ?_;refine stp_regl TT_ok (by rfl) fun K hK => ?_;simp [h11_19, g0_9, g1_9, g2_9, hj, beq_eq_false_iff_ne.2 hj, encG, wrap_ok (n := (j2 : Int) - 1) (by omega) (by omega)];(try refine And.intro (by first|omega|rfl) ?_);refine hK _ _ fun σ20 hσ H20 hH => ?_;clear hK K;obtain ⟨h2_20, h3_20, h7_20, h8_20, h9_20, h10_20, h11_20⟩ := fs7 hσ 2 3 7 8 9 10 11;simp [h2_19, h3_19, h7_19, h8_19, h9_19, h10_19] at h2_20 h3_20 h7_20 h8_20 h9_20 h10_20 h11_20;clear hσ;replace hH : H9 = H20 := Eq.symm hH;subst hH
        refine ⟨_, ?_, j2, rfl, (h2_20.trans h2_12.symm), (h3_20.trans h3_12.symm), (h7_20.trans h7_12.symm), (h8_20.trans h8_12.symm), (h9_20.trans h9_12.symm), (by simp [h10_20, show g.nextFrom d at_ (g.nodes.length - j2) j2 = g.nextFrom d at_ (g.nodes.length - (j2 + 1)) (j2 + 1) from (nextFrom_step (by omega)).trans (if_neg (by simp [Gr.onward, jl, tl, hj]))]), (by simp [h11_20, show g.nextFrom d at_ (g.nodes.length - j2) j2 = g.nextFrom d at_ (g.nodes.length - (j2 + 1)) (j2 + 1) from (nextFrom_step (by omega)).trans (if_neg (by simp [Gr.onward, jl, tl, hj]))]), rfl, ?_⟩
        ·subst hn2; omega
        ·first | omega | assumption | (simp; done)
      ·(try simp at hc37);obtain rfl : j = 0 := by omega
       rw [Nat.sub_zero] at h10_14;obtain ⟨u1, u2, u3⟩ := next_far hv hD ⟨t1, t2⟩ p2;have u4 : g.nextFrom d at_ g.nodes.length 0 = g.next d at_ := rfl;rw [u4] at h10_14;refine awp_exit ?_;refine q_seq_exit ?_;refine q_loop_exit ?_;refine q_block_hit ?_;refine q_seq ?_;refine stp_reg TT_ok (by rfl) fun K hK => ?_;simp [h10_14, g0_9, g1_9, g2_9, encG];(try refine And.intro (by first|omega|rfl) ?_);refine hK _ _ fun σ21 hσ H21 hH => ?_;clear hK K;obtain ⟨h2_21, h3_21, h7_21, h8_21, h9_21⟩ := fs5 hσ 2 3 7 8 9;simp [h2_14, h3_14, h7_14, h8_14] at h2_21 h3_21 h7_21 h8_21 h9_21;clear hσ;replace hH : H9 = H21 := Eq.symm hH;subst hH;refine awp_ok fun hok => ?_;obtain ⟨m22, hn_m22⟩ : ∃ m, H9.n = m := ⟨_, rfl⟩;have hf_m22_0 := hok.free 0;simp [hn_m22, hst_9] at hf_m22_0;have nx1 := ne_get hf_m22_0 g0_9;have nx2 := ne_get hf_m22_0 g1_9;have nx3 := ne_get hf_m22_0 g2_9;refine stp_regl TT_ok (by rfl) fun K hK => ?_;simp [h8_21, h9_21, g0_9, g1_9, g2_9, hn_m22, hst_9, nx1, nx2, nx3, encG, take_map_len, show (es.length + 1) * 8 ≤ 140737488355328 by omega, show es.length ≤ 9223372036854775806 by omega];(try refine And.intro (by first|omega|rfl) ?_);refine hK _ _ fun σ23 hσ H23 hH => ?_;clear hK K;obtain ⟨h2_23, h3_23, h7_23, h8_23, h9_23⟩ := fs5 hσ 2 3 7 8 9;simp [h2_21, h3_21, h7_21, h9_21] at h2_23 h3_23 h7_23 h8_23 h9_23;clear hσ;have g0_23 := gt_of hH 0;have g1_23 := gt_of hH 1;have g2_23 := gt_of hH 2;have gm22_23 := gt_of hH m22
       simp [g0_9, g1_9, g2_9, hn_m22, hst_9, nx1, nx2, nx3] at g0_23 g1_23 g2_23 gm22_23;have hst_23 := congrArg AHeap.st hH;simp [hst_9] at hst_23;clear hH;refine q_block ?_;refine ⟨_, ?_, k2, g.next d at_, es ++ [g.next d at_], gn + 1, rfl, (h2_23.trans h2_8.symm), (h3_23.trans h3_8.symm), (h7_23.trans h7_8.symm), (by simp [h8_23]), (by simp [h9_23]), (g0_23.trans g0_7.symm), (g1_23.trans g1_7.symm), (by simp [g2_23]), (hst_23.trans hst_7.symm), ?_, ?_, ?_, ?_⟩
       ·omega
       ·exact u1
       ·exact u3
       ·rw [← p3]; simp only [Gr.way, List.tail_cons, List.append_assoc, List.singleton_append]; rw [← way_head]
       ·simp; omega
    ·(try simp at hc31);obtain rfl : k = 0 := by rw [hc31] at p2; exact p2.uniq (g.far_to _ _)
     refine awp_exit ?_;refine q_seq_exit ?_;refine q_loop_exit ?_;refine q_block_hit ?_;refine q_seq ?_;refine stp_reg TT_ok (by rfl) fun K hK => ?_;simp [h8_10, g0_9, g1_9, g2_9, encG];(try refine And.intro (by first|omega|rfl) ?_);refine hK _ _ fun σ24 hσ H24 hH => ?_;clear hK K;have h6_24 := congrFun hσ 6;simp [] at h6_24;clear hσ;replace hH : H9 = H24 := Eq.symm hH;subst hH;refine awp_ret ?_;have hD0 : d.getD a.toNat 0 = K0 := by rw [List.getD_eq_getElem?_getD, List.getElem?_eq_getElem hal]; exact hK0
     have e : g.path a b = es := by simp only [Gr.path, hc17, if_true, ← hd]; rw [hD0, if_neg (by omega), Int.toNat_natCast, ← p3]; simp [Gr.way]
     refine q_fin1 h6_24 ?_;exact .inr ⟨2, gn, by rw [e]; simp, by rw [g2_9, e]⟩
def idxOf {α : Type} (p : α → Bool) (l : List α) : Int := match l.findIdx? p with | some i => (i : Int) | none => -1
theorem idxOf_at {α : Type} {p : α → Bool} {l : List α} {i : Nat} (h : i < l.length) (h1 : (l.take i).any p = false) (h2 : p l[i] = true) : idxOf p l = i := by
 have : l.findIdx? p = some i := by
  rw [List.findIdx?_eq_some_iff_getElem];refine ⟨h, h2, fun j hj => ?_⟩;have := List.any_eq_false.1 h1 l[j] (by rw [List.mem_take_iff_getElem]; exact ⟨j, by omega, rfl⟩)
  simpa using this
 simp [idxOf, this]
theorem idxOf_none {α : Type} {p : α → Bool} {l : List α} (h1 : l.any p = false) : idxOf p l = -1 := by
 have : l.findIdx? p = none := by
  rw [List.findIdx?_eq_none_iff]; intro x hx
  simpa using List.any_eq_false.1 h1 x hx
 simp [idxOf, this]
theorem idxOf_nonneg {α : Type} {p : α → Bool} {l : List α} : decide (0 ≤ idxOf p l) = l.any p := by
 cases h : l.any p with
 | false => rw [idxOf_none h]; rfl
 | true =>
  have : (l.findIdx? p).isSome = true := by rw [List.findIdx?_isSome]; exact h
  obtain ⟨i, hi⟩ := Option.isSome_iff_exists.1 this;simp [idxOf, hi]
set_option maxHeartbeats 1000000 in
theorem indexFuncE0 (es : List (Int × Int)) (f : FuncId) (caps : List AV) (p : (Int × Int) → Bool) (hp : ∀ e ∈ es, Fun1 Try.prog f (encE e :: caps) (.bool (p e))) (hl : es.length ≤ 1000000) : ACalls Try.prog 59 [.ro (es.map encE), .fn f caps] AHeap.nil (fun r _ => r = .int .i64 (idxOf p es)) := by
 refine acalls_body TT_ok Try.func59 rfl rfl (by simp [Try.ntmps59]) ?_;rw [Try.ntmps59];obtain ⟨σ, hσ⟩ : ∃ σ, σ = st0 [.ro (es.map encE), .fn f caps] := ⟨_, rfl⟩;rw [← hσ];obtain ⟨h0_0, h1_0⟩ := fs2 hσ 0 1;simp [st0] at h0_0 h1_0;clear hσ;obtain ⟨H, hH⟩ : ∃ H, H = AHeap.nil := ⟨_, rfl⟩;rw [← hH];have hn_0 : H.n = 0 := by rw [hH]; rfl
 have hst_0 : H.st = 1 := by rw [hH]; rfl
 clear hH;refine stp_reg TT_ok (by rfl) fun K hK => ?_;simp [];(try refine And.intro (by first|omega|rfl) ?_);refine hK _ _ fun σ1 hσ H1 hH => ?_;clear hK K;obtain ⟨h0_1, h1_1⟩ := fs2 hσ 0 1;simp [h0_0, h1_0] at h0_1 h1_1;clear hσ;replace hH : H = H1 := Eq.symm hH;subst hH;refine awp_seq ?_;refine stp_reg TT_ok (by rfl) fun K hK => ?_;simp [h0_1];(try refine And.intro (by first|omega|rfl) ?_);refine hK _ _ fun σ2 hσ H2 hH => ?_;clear hK K;obtain ⟨h0_2, h1_2, h7_2, h8_2⟩ := fs4 hσ 0 1 7 8;simp [h0_1, h1_1] at h0_2 h1_2 h7_2 h8_2;clear hσ;replace hH : H = H2 := Eq.symm hH;subst hH;refine awp_block ?_;refine awp_loopV (fun n σ' H' => ∃ (i : Nat), n = es.length - i ∧ σ' 0 = σ2 0 ∧ σ' 1 = σ2 1 ∧ σ' 7 = .int .i64 es.length ∧ σ' 8 = .int .i64 i ∧ H' = H ∧ (i ≤ es.length) ∧ ((es.take i).any p = false)) ?_ ?_
 ·refine ⟨_, 0, rfl, rfl, rfl, (by simp [h7_2]), (by simp [h8_2]), rfl, ?_, ?_⟩
  ·first | omega | (simp; done) | assumption
  ·first | omega | (simp; done) | assumption
 ·rintro n1 σ3 H3 ⟨i, hn1, q0_3, q1_3, h7_3, h8_3, hHq, p1, p2⟩
  have h0_3 := q0_3.trans h0_2;have h1_3 := q1_3.trans h1_2;replace hHq := hHq.symm;subst hHq;refine stp_reg TT_ok (by rfl) fun K hK => ?_;simp [h7_3, h8_3];(try refine And.intro (by first|omega|rfl) ?_);refine hK _ _ fun σ4 hσ H4 hH => ?_;clear hK K;obtain ⟨h0_4, h1_4, h7_4, h8_4, h9_4⟩ := fs5 hσ 0 1 7 8 9;simp [h0_3, h1_3, h7_3, h8_3] at h0_4 h1_4 h7_4 h8_4 h9_4;clear hσ;replace hH : H = H4 := Eq.symm hH;subst hH;refine awp_seq ?_;refine awp_cond _ (by simp only [aeval_tmp]; exact h9_4) (fun hc9 => ?_) (fun hc9 => ?_)
  ·(try simp at hc9);have hlt : i < es.length := by simpa using hc9
   have hge : (es.map encE)[i]? = some (encE es[i]) := by simp [hlt]
   refine awp_skip ?_;refine q_seq ?_;refine awp_seq ?_;refine awp_block ?_;refine stp_reg TT_ok (by rfl) fun K hK => ?_;simp [h8_4];(try refine And.intro (by first|omega|rfl) ?_);refine hK _ _ fun σ5 hσ H5 hH => ?_;clear hK K;obtain ⟨h0_5, h1_5, h5_5, h7_5, h8_5⟩ := fs5 hσ 0 1 5 7 8;simp [h0_4, h1_4, h7_4, h8_4] at h0_5 h1_5 h5_5 h7_5 h8_5;clear hσ;replace hH : H = H5 := Eq.symm hH;subst hH;have hFF0 := an3 h0_5 h1_5 h5_5;refine stp_reg TT_ok (by rfl) fun K hK => ?_;simp [hFF0, hge, hlt, encE];(try refine And.intro (by first|omega|rfl) ?_);refine stp_call (hp es[i] (List.getElem_mem hlt)) ?_;simp [hFF0, hge, hlt, encE];(try refine And.intro (by first|omega|rfl) ?_);refine hK _ _ fun σ6 hσ H6 hH => ?_;clear hK K hFF0;obtain ⟨h0_6, h1_6, h5_6, h7_6, h8_6, h16_6⟩ := fs6 hσ 0 1 5 7 8 16;simp [h0_5, h1_5, h5_5, h7_5, h8_5] at h0_6 h1_6 h5_6 h7_6 h8_6 h16_6;clear hσ;replace hH : H = H6 := Eq.symm hH;subst hH;refine awp_cond _ (by simp only [aeval_tmp]; exact h16_6) (fun hc16 => ?_) (fun hc16 => ?_)
   ·(try simp at hc16);refine stp_reg TT_ok (by rfl) fun K hK => ?_;simp [h5_6];(try refine And.intro (by first|omega|rfl) ?_);refine hK _ _ fun σ7 hσ H7 hH => ?_;clear hK K;have h4_7 := congrFun hσ 4;simp [] at h4_7;clear hσ;replace hH : H = H7 := Eq.symm hH;subst hH;refine awp_ret ?_;refine q_block_ret ?_;refine q_seq_ret ?_;refine q_loop_ret ?_;refine q_block_ret ?_;refine q_seq_ret ?_;refine q_fin1 h4_7 ?_;rw [idxOf_at hlt p2 hc16]
   ·(try simp at hc16);refine awp_skip ?_;refine q_block ?_;refine q_seq ?_;refine stp_regl TT_ok (by rfl) fun K hK => ?_;simp [h8_6, wrap_ok (n := (i : Int) + 1) (by omega) (by omega)];(try refine And.intro (by first|omega|rfl) ?_);refine hK _ _ fun σ8 hσ H8 hH => ?_;clear hK K;obtain ⟨h0_8, h1_8, h7_8, h8_8⟩ := fs4 hσ 0 1 7 8;simp [h0_6, h1_6, h7_6] at h0_8 h1_8 h7_8 h8_8;clear hσ;replace hH : H = H8 := Eq.symm hH;subst hH;refine ⟨_, ?_, i + 1, rfl, (h0_8.trans h0_2.symm), (h1_8.trans h1_2.symm), (by simp [h7_8]), (by simp [h8_8]), rfl, ?_, ?_⟩
    ·subst hn1; omega
    ·first | omega | assumption | (simp; done)
    ·exact any_take_succ hlt p2 hc16
  ·(try simp at hc9);refine awp_exit ?_;refine q_seq_exit ?_;refine q_loop_exit ?_;refine q_block_hit ?_;refine q_seq ?_;refine stp_reg TT_ok (by rfl) fun K hK => ?_;simp [];(try refine And.intro (by first|omega|rfl) ?_);refine hK _ _ fun σ9 hσ H9 hH => ?_;clear hK K;have h4_9 := congrFun hσ 4;simp [] at h4_9;clear hσ;replace hH : H = H9 := Eq.symm hH;subst hH;refine awp_ret ?_;refine q_fin1 h4_9 ?_;have : i = es.length := by have := hc9; omega
   subst this;rw [List.take_length] at p2;rw [idxOf_none p2]
theorem indexFuncE_ok (es : List (Int × Int)) (f : FuncId) (caps : List AV) (p : (Int × Int) → Bool) (hp : ∀ e ∈ es, Fun1 Try.prog f (encE e :: caps) (.bool (p e))) (hl : es.length ≤ 1000000) (hc : ∀ c ∈ caps, Pu c) : Fun1 Try.prog 59 [.ro (es.map encE), .fn f caps] (.int .i64 (idxOf p es)) :=
 fun1_pure (indexFuncE0 es f caps p hp hl) (pu_cons (.ro fun v hv => by obtain ⟨x, _, rfl⟩ := List.mem_map.1 hv; exact pu_edge _) (pu_cons (.fn hc) pu_nil)) (.int _ _)
set_option maxHeartbeats 1000000 in
theorem containsFuncE0 (es : List (Int × Int)) (f : FuncId) (caps : List AV) (p : (Int × Int) → Bool) (hp : ∀ e ∈ es, Fun1 Try.prog f (encE e :: caps) (.bool (p e))) (hl : es.length ≤ 1000000) (hc : ∀ c ∈ caps, Pu c) : ACalls Try.prog 34 [.ro (es.map encE), .fn f caps] AHeap.nil (fun r _ => r = .bool (es.any p)) := by
 refine acalls_body TT_ok Try.func34 rfl rfl (by simp [Try.ntmps34]) ?_;rw [Try.ntmps34];obtain ⟨σ, hσ⟩ : ∃ σ, σ = st0 [.ro (es.map encE), .fn f caps] := ⟨_, rfl⟩;rw [← hσ];obtain ⟨h0_0, h1_0⟩ := fs2 hσ 0 1;simp [st0] at h0_0 h1_0;clear hσ;obtain ⟨H, hH⟩ : ∃ H, H = AHeap.nil := ⟨_, rfl⟩;rw [← hH];have hn_0 : H.n = 0 := by rw [hH]; rfl
 have hst_0 : H.st = 1 := by rw [hH]; rfl
 clear hH;refine stp_reg TT_ok (by rfl) fun K hK => ?_;simp [];(try refine And.intro (by first|omega|rfl) ?_);refine hK _ _ fun σ1 hσ H1 hH => ?_;clear hK K;obtain ⟨h0_1, h1_1⟩ := fs2 hσ 0 1;simp [h0_0, h1_0] at h0_1 h1_1;clear hσ;replace hH : H = H1 := Eq.symm hH;subst hH;refine stp_reg TT_ok (by rfl) fun K hK => ?_;simp [h0_1, h1_1];(try refine And.intro (by first|omega|rfl) ?_);refine stp_call (indexFuncE_ok es f caps p hp hl hc) ?_;simp [h0_1, h1_1];(try refine And.intro (by first|omega|rfl) ?_);refine hK _ _ fun σ2 hσ H2 hH => ?_;clear hK K;have h4_2 := congrFun hσ 4;simp [] at h4_2;clear hσ;replace hH : H = H2 := Eq.symm hH;subst hH;refine awp_ret ?_;refine q_fin1 h4_2 ?_;rw [idxOf_nonneg]
theorem containsFuncE_w (es : List (Int × Int)) (f : FuncId) (caps : List AV) (p : (Int × Int) → Bool) (hp : ∀ e ∈ es, Fun1 Try.prog f (encE e :: caps) (.bool (p e))) (hl : es.length ≤ 1000000) (hc : ∀ c ∈ caps, Pu c) : FunW Try.prog 34 [.ro (es.map encE), .fn f caps] (.bool (es.any p)) :=
 funW_pure (containsFuncE0 es f caps p hp hl hc) (pu_cons (.ro fun v hv => by obtain ⟨x, _, rfl⟩ := List.mem_map.1 hv; exact pu_edge _) (pu_cons (.fn hc) pu_nil)) (.bool _) (.bool _)
set_option maxHeartbeats 1000000 in
theorem indexFuncI0 (es : List Int) (f : FuncId) (caps : List AV) (p : Int → Bool) (hp : ∀ e ∈ es, Fun1 Try.prog f ((AV.int .i64) e :: caps) (.bool (p e))) (hl : es.length ≤ 1000000) : ACalls Try.prog 71 [.ro (es.map (AV.int .i64)), .fn f caps] AHeap.nil (fun r _ => r = .int .i64 (idxOf p es)) := by
 refine acalls_body TT_ok Try.func71 rfl rfl (by simp [Try.ntmps71]) ?_;rw [Try.ntmps71];obtain ⟨σ, hσ⟩ : ∃ σ, σ = st0 [.ro (es.map (AV.int .i64)), .fn f caps] := ⟨_, rfl⟩;rw [← hσ];obtain ⟨h0_0, h1_0⟩ := fs2 hσ 0 1;simp [st0] at h0_0 h1_0;clear hσ;obtain ⟨H, hH⟩ : ∃ H, H = AHeap.nil := ⟨_, rfl⟩;rw [← hH];have hn_0 : H.n = 0 := by rw [hH]; rfl
 have hst_0 : H.st = 1 := by rw [hH]; rfl
 clear hH;refine stp_reg TT_ok (by rfl) fun K hK => ?_;simp [];(try refine And.intro (by first|omega|rfl) ?_);refine hK _ _ fun σ1 hσ H1 hH => ?_;clear hK K;obtain ⟨h0_1, h1_1⟩ := fs2 hσ 0 1;simp [h0_0, h1_0] at h0_1 h1_1;clear hσ;replace hH : H = H1 := Eq.symm hH;subst hH;refine awp_seq ?_;refine stp_reg TT_ok (by rfl) fun K hK => ?_;simp [h0_1];(try refine And.intro (by first|omega|rfl) ?_);refine hK _ _ fun σ2 hσ H2 hH => ?_;clear hK K;obtain ⟨h0_2, h1_2, h7_2, h8_2⟩ := fs4 hσ 0 1 7 8;simp [h0_1, h1_1] at h0_2 h1_2 h7_2 h8_2;clear hσ;replace hH : H = H2 := Eq.symm hH;subst hH;refine awp_block ?_;refine awp_loopV (fun n σ' H' => ∃ (i : Nat), n = es.length - i ∧ σ' 0 = σ2 0 ∧ σ' 1 = σ2 1 ∧ σ' 7 = .int .i64 es.length ∧ σ' 8 = .int .i64 i ∧ H' = H ∧ (i ≤ es.length) ∧ ((es.take i).any p = false)) ?_ ?_
 ·refine ⟨_, 0, rfl, rfl, rfl, (by simp [h7_2]), (by simp [h8_2]), rfl, ?_, ?_⟩
  ·first | omega | (simp; done) | assumption
  ·first | omega | (simp; done) | assumption
 ·rintro n1 σ3 H3 ⟨i, hn1, q0_3, q1_3, h7_3, h8_3, hHq, p1, p2⟩
  have h0_3 := q0_3.trans h0_2;have h1_3 := q1_3.trans h1_2;replace hHq := hHq.symm;subst hHq;refine stp_reg TT_ok (by rfl) fun K hK => ?_;simp [h7_3, h8_3];(try refine And.intro (by first|omega|rfl) ?_);refine hK _ _ fun σ4 hσ H4 hH => ?_;clear hK K;obtain ⟨h0_4, h1_4, h7_4, h8_4, h9_4⟩ := fs5 hσ 0 1 7 8 9;simp [h0_3, h1_3, h7_3, h8_3] at h0_4 h1_4 h7_4 h8_4 h9_4;clear hσ;replace hH : H = H4 := Eq.symm hH;subst hH;refine awp_seq ?_;refine awp_cond _ (by simp only [aeval_tmp]; exact h9_4) (fun hc9 => ?_) (fun hc9 => ?_)
  ·(try simp at hc9);have hlt : i < es.length := by simpa using hc9
   have hge : (es.map (AV.int .i64))[i]? = some ((AV.int .i64) es[i]) := by simp [hlt]
   refine awp_skip ?_;refine q_seq ?_;refine awp_seq ?_;refine awp_block ?_;refine stp_reg TT_ok (by rfl) fun K hK => ?_;simp [h8_4];(try refine And.intro (by first|omega|rfl) ?_);refine hK _ _ fun σ5 hσ H5 hH => ?_;clear hK K;obtain ⟨h0_5, h1_5, h5_5, h7_5, h8_5⟩ := fs5 hσ 0 1 5 7 8;simp [h0_4, h1_4, h7_4, h8_4] at h0_5 h1_5 h5_5 h7_5 h8_5;clear hσ;replace hH : H = H5 := Eq.symm hH;subst hH;have hFF0 := an3 h0_5 h1_5 h5_5;refine stp_reg TT_ok (by rfl) fun K hK => ?_;simp [hFF0, hge, hlt];(try refine And.intro (by first|omega|rfl) ?_);refine stp_call (hp es[i] (List.getElem_mem hlt)) ?_;simp [hFF0, hge, hlt];(try refine And.intro (by first|omega|rfl) ?_);refine hK _ _ fun σ6 hσ H6 hH => ?_;clear hK K hFF0;obtain ⟨h0_6, h1_6, h5_6, h7_6, h8_6, h16_6⟩ := fs6 hσ 0 1 5 7 8 16;simp [h0_5, h1_5, h5_5, h7_5, h8_5] at h0_6 h1_6 h5_6 h7_6 h8_6 h16_6;clear hσ;replace hH : H = H6 := Eq.symm hH;subst hH;refine awp_cond _ (by simp only [aeval_tmp]; exact h16_6) (fun hc16 => ?_) (fun hc16 => ?_)
   ·(try simp at hc16);refine stp_reg TT_ok (by rfl) fun K hK => ?_;simp [h5_6];(try refine And.intro (by first|omega|rfl) ?_);refine hK _ _ fun σ7 hσ H7 hH => ?_;clear hK K;have h4_7 := congrFun hσ 4;simp [] at h4_7;clear hσ;replace hH : H = H7 := Eq.symm hH;subst hH;refine awp_ret ?_;refine q_block_ret ?_;refine q_seq_ret ?_;refine q_loop_ret ?_;refine q_block_ret ?_;refine q_seq_ret ?_;refine q_fin1 h4_7 ?_;rw [idxOf_at hlt p2 hc16]
   ·(try simp at hc16);refine awp_skip ?_;refine q_block ?_;refine q_seq ?_;refine stp_regl TT_ok (by rfl) fun K hK => ?_;simp [h8_6, wrap_ok (n := (i : Int) + 1) (by omega) (by omega)];(try refine And.intro (by first|omega|rfl) ?_);refine hK _ _ fun σ8 hσ H8 hH => ?_;clear hK K;obtain ⟨h0_8, h1_8, h7_8, h8_8⟩ := fs4 hσ 0 1 7 8;simp [h0_6, h1_6, h7_6] at h0_8 h1_8 h7_8 h8_8;clear hσ;replace hH : H = H8 := Eq.symm hH;subst hH;refine ⟨_, ?_, i + 1, rfl, (h0_8.trans h0_2.symm), (h1_8.trans h1_2.symm), (by simp [h7_8]), (by simp [h8_8]), rfl, ?_, ?_⟩
    ·subst hn1; omega
    ·first | omega | assumption | (simp; done)
    ·exact any_take_succ hlt p2 hc16
  ·(try simp at hc9);refine awp_exit ?_;refine q_seq_exit ?_;refine q_loop_exit ?_;refine q_block_hit ?_;refine q_seq ?_;refine stp_reg TT_ok (by rfl) fun K hK => ?_;simp [];(try refine And.intro (by first|omega|rfl) ?_);refine hK _ _ fun σ9 hσ H9 hH => ?_;clear hK K;have h4_9 := congrFun hσ 4;simp [] at h4_9;clear hσ;replace hH : H = H9 := Eq.symm hH;subst hH;refine awp_ret ?_;refine q_fin1 h4_9 ?_;have : i = es.length := by have := hc9; omega
   subst this;rw [List.take_length] at p2;rw [idxOf_none p2]
theorem indexFuncI_ok (es : List Int) (f : FuncId) (caps : List AV) (p : Int → Bool) (hp : ∀ e ∈ es, Fun1 Try.prog f ((AV.int .i64) e :: caps) (.bool (p e))) (hl : es.length ≤ 1000000) (hc : ∀ c ∈ caps, Pu c) : Fun1 Try.prog 71 [.ro (es.map (AV.int .i64)), .fn f caps] (.int .i64 (idxOf p es)) :=
 fun1_pure (indexFuncI0 es f caps p hp hl) (pu_cons (.ro fun v hv => by obtain ⟨x, _, rfl⟩ := List.mem_map.1 hv; exact pu_int _ _) (pu_cons (.fn hc) pu_nil)) (.int _ _)
set_option maxHeartbeats 1000000 in
theorem containsFuncI0 (es : List Int) (f : FuncId) (caps : List AV) (p : Int → Bool) (hp : ∀ e ∈ es, Fun1 Try.prog f ((AV.int .i64) e :: caps) (.bool (p e))) (hl : es.length ≤ 1000000) (hc : ∀ c ∈ caps, Pu c) : ACalls Try.prog 61 [.ro (es.map (AV.int .i64)), .fn f caps] AHeap.nil (fun r _ => r = .bool (es.any p)) := by
 refine acalls_body TT_ok Try.func61 rfl rfl (by simp [Try.ntmps61]) ?_;rw [Try.ntmps61];obtain ⟨σ, hσ⟩ : ∃ σ, σ = st0 [.ro (es.map (AV.int .i64)), .fn f caps] := ⟨_, rfl⟩;rw [← hσ];obtain ⟨h0_0, h1_0⟩ := fs2 hσ 0 1;simp [st0] at h0_0 h1_0;clear hσ;obtain ⟨H, hH⟩ : ∃ H, H = AHeap.nil := ⟨_, rfl⟩;rw [← hH];have hn_0 : H.n = 0 := by rw [hH]; rfl
 have hst_0 : H.st = 1 := by rw [hH]; rfl
 clear hH;refine stp_reg TT_ok (by rfl) fun K hK => ?_;simp [];(try refine And.intro (by first|omega|rfl) ?_);refine hK _ _ fun σ1 hσ H1 hH => ?_;clear hK K;obtain ⟨h0_1, h1_1⟩ := fs2 hσ 0 1;simp [h0_0, h1_0] at h0_1 h1_1;clear hσ;replace hH : H = H1 := Eq.symm hH;subst hH;refine stp_reg TT_ok (by rfl) fun K hK => ?_;simp [h0_1, h1_1];(try refine And.intro (by first|omega|rfl) ?_);refine stp_call (indexFuncI_ok es f caps p hp hl hc) ?_;simp [h0_1, h1_1];(try refine And.intro (by first|omega|rfl) ?_);refine hK _ _ fun σ2 hσ H2 hH => ?_;clear hK K;have h4_2 := congrFun hσ 4;simp [] at h4_2;clear hσ;replace hH : H = H2 := Eq.symm hH;subst hH;refine awp_ret ?_;refine q_fin1 h4_2 ?_;rw [idxOf_nonneg]
theorem containsFuncI_w (es : List Int) (f : FuncId) (caps : List AV) (p : Int → Bool) (hp : ∀ e ∈ es, Fun1 Try.prog f ((AV.int .i64) e :: caps) (.bool (p e))) (hl : es.length ≤ 1000000) (hc : ∀ c ∈ caps, Pu c) : FunW Try.prog 61 [.ro (es.map (AV.int .i64)), .fn f caps] (.bool (es.any p)) :=
 funW_pure (containsFuncI0 es f caps p hp hl hc) (pu_cons (.ro fun v hv => by obtain ⟨x, _, rfl⟩ := List.mem_map.1 hv; exact pu_int _ _) (pu_cons (.fn hc) pu_nil)) (.bool _) (.bool _)
def capG (g : Gr) : AV := .rop [.ro (g.nodes.map .str), .ro (g.edges.map encE)]
theorem pu_capG (g : Gr) : Pu (capG g) := .rop fun v hv => by
 simp only [List.mem_cons, List.not_mem_nil, or_false] at hv;rcases hv with rfl | rfl
 ·exact .ro fun v hv => by obtain ⟨x, _, rfl⟩ := List.mem_map.1 hv; exact .str _
 ·exact .ro fun v hv => by obtain ⟨x, _, rfl⟩ := List.mem_map.1 hv; exact pu_edge _
set_option maxHeartbeats 1000000 in
theorem valid1_0 (g : Gr) (i : Int) : ACalls Try.prog 51 [(AV.int IntKind.i64) i, capG g] AHeap.nil (fun r _ => r = .bool (decide (0 ≤ i ∧ i < g.nodes.length))) := by
 refine acalls_body TT_ok Try.func51 rfl rfl (by simp [Try.ntmps51]) ?_;rw [Try.ntmps51];obtain ⟨σ, hσ⟩ : ∃ σ, σ = st0 [(AV.int IntKind.i64) i, capG g] := ⟨_, rfl⟩;rw [← hσ];obtain ⟨h0_0, h1_0⟩ := fs2 hσ 0 1;simp [st0] at h0_0 h1_0;clear hσ;obtain ⟨H, hH⟩ : ∃ H, H = AHeap.nil := ⟨_, rfl⟩;rw [← hH];have hn_0 : H.n = 0 := by rw [hH]; rfl
 have hst_0 : H.st = 1 := by rw [hH]; rfl
 clear hH;refine stp_reg TT_ok (by rfl) fun K hK => ?_;simp [capG];(try refine And.intro (by first|omega|rfl) ?_);refine hK _ _ fun σ1 hσ H1 hH => ?_;clear hK K;obtain ⟨h0_1, h1_1⟩ := fs2 hσ 0 1;simp [h0_0, h1_0] at h0_1 h1_1;clear hσ;replace hH : H = H1 := Eq.symm hH;subst hH
 by_cases hs : 0 ≤ i
 ·skip;refine stp_reg TT_ok (by rfl) fun K hK => ?_;simp [h0_1, h1_1, hs, capG];(try refine And.intro (by first|omega|rfl) ?_);refine hK _ _ fun σ2 hσ H2 hH => ?_;clear hK K;have h3_2 := congrFun hσ 3;simp [] at h3_2;clear hσ;replace hH : H = H2 := Eq.symm hH;subst hH;refine awp_ret ?_;refine q_fin1 h3_2 ?_;simp [hs]
 ·skip;refine stp_reg TT_ok (by rfl) fun K hK => ?_;simp [h0_1, h1_1, hs, capG];(try refine And.intro (by first|omega|rfl) ?_);refine hK _ _ fun σ3 hσ H3 hH => ?_;clear hK K;have h3_3 := congrFun hσ 3;simp [] at h3_3;clear hσ;replace hH : H = H3 := Eq.symm hH;subst hH;refine awp_ret ?_;refine q_fin1 h3_3 ?_;have : ¬ (0 ≤ i ∧ i < g.nodes.length) := by omega
  simp [this]
theorem valid1_ok (g : Gr) (i : Int) : Fun1 Try.prog 51 [(AV.int IntKind.i64) i, capG g] (.bool (decide (0 ≤ i ∧ i < g.nodes.length))) :=
 fun1_pure (valid1_0 g i) (pu_cons (pu_int _ _) (pu_cons (pu_capG g) pu_nil)) (.bool _)
def capV (g : Gr) : AV := .rop [.fn 51 [capG g]]
theorem pu_capV (g : Gr) : Pu (capV g) := .rop (pu_cons (.fn (pu_cons (pu_capG g) pu_nil)) pu_nil)
set_option maxHeartbeats 1000000 in
theorem valid2_0 (g : Gr) (e : Int × Int) : ACalls Try.prog 52 [encE e, capV g] AHeap.nil (fun r _ => r = .bool (!okE g.nodes.length e)) := by
 refine acalls_body TT_ok Try.func52 rfl rfl (by simp [Try.ntmps52]) ?_;rw [Try.ntmps52];obtain ⟨σ, hσ⟩ : ∃ σ, σ = st0 [encE e, capV g] := ⟨_, rfl⟩;rw [← hσ];obtain ⟨h0_0, h1_0⟩ := fs2 hσ 0 1;simp [st0] at h0_0 h1_0;clear hσ;obtain ⟨H, hH⟩ : ∃ H, H = AHeap.nil := ⟨_, rfl⟩;rw [← hH];have hn_0 : H.n = 0 := by rw [hH]; rfl
 have hst_0 : H.st = 1 := by rw [hH]; rfl
 clear hH;refine stp_reg TT_ok (by rfl) fun K hK => ?_;simp [h0_0, hn_0, hst_0, encE, capV];(try refine And.intro (by first|omega|rfl) ?_);refine hK _ _ fun σ1 hσ H1 hH => ?_;clear hK K;obtain ⟨h1_1, h2_1⟩ := fs2 hσ 1 2;simp [h1_0] at h1_1 h2_1;clear hσ;have g0_1 := gt_of hH 0;simp [hn_0, hst_0] at g0_1;have hn_1 := congrArg AHeap.n hH;simp [hn_0, hst_0] at hn_1;have hst_1 := congrArg AHeap.st hH;simp [hn_0, hst_0] at hst_1;clear hH
 by_cases hs : (0 ≤ e.1 ∧ e.1 < g.nodes.length)
 ·skip;have hFF0 := an4 h1_1 h2_1 g0_1 hs;refine stp_reg TT_ok (by rfl) fun K hK => ?_;simp [hFF0, encE, capV];(try refine And.intro (by first|omega|rfl) ?_);refine stp_call (valid1_ok g e.1) ?_;simp [hFF0, encE, capV];(try refine And.intro (by first|omega|rfl) ?_);refine stp_call (valid1_ok g e.2) ?_;simp [hFF0, encE, capV];(try refine And.intro (by first|omega|rfl) ?_);refine hK _ _ fun σ2 hσ H2 hH => ?_;clear hK K hFF0;have h3_2 := congrFun hσ 3;simp [] at h3_2;clear hσ;replace hH : H1 = H2 := Eq.symm hH;subst hH;refine awp_ret ?_;refine q_fin1 h3_2 ?_;obtain ⟨a, b⟩ := hs;simp [okE, a, b]
 ·skip;have hFF0 := an4 h1_1 h2_1 g0_1 hs;refine stp_reg TT_ok (by rfl) fun K hK => ?_;simp [hFF0, encE, capV];(try refine And.intro (by first|omega|rfl) ?_);refine stp_call (valid1_ok g e.1) ?_;simp [hFF0, encE, capV];(try refine And.intro (by first|omega|rfl) ?_);refine hK _ _ fun σ3 hσ H3 hH => ?_;clear hK K hFF0;have h3_3 := congrFun hσ 3;simp [] at h3_3;clear hσ;replace hH : H1 = H3 := Eq.symm hH;subst hH;refine awp_ret ?_;refine q_fin1 h3_3 ?_;have : okE g.nodes.length e = false := by simp only [okE, decide_eq_false_iff_not]; omega
  simp [this]
theorem valid2_ok (g : Gr) (e : Int × Int) : Fun1 Try.prog 52 [encE e, capV g] (.bool (!okE g.nodes.length e)) :=
 fun1_pure (valid2_0 g e) (pu_cons (pu_edge _) (pu_cons (pu_capV g) pu_nil)) (.bool _)
theorem frz_g {H : AHeap} {id k sz : Nat} {e : TypeId} {g : Gr} (hb : H.get id = some (.row e sz k [.agg [.ro (g.nodes.map .str), .ro (g.edges.map encE)]])) : Frz H (.ptr id k 0 0) (capG g) :=
 frz_box hb (FrzL.cons (.pure (pu_strs _)) (FrzL.cons (.pure (pu_edges _)) (FrzL.nil _))) (by simp [AV.one])
theorem frz_v {H : AHeap} {id id' k k' sz : Nat} {e : TypeId} {g : Gr} (hb : Frz H (.ptr id k 0 0) (capG g)) (hb' : H.get id' = some (.row e sz k' [.fn 51 [.ptr id k 0 0]])) : Frz H (.ptr id' k' 0 0) (capV g) :=
 frz_box hb' (FrzL.cons (frz_fn (FrzL.cons hb (FrzL.nil _))) (FrzL.nil _)) (by simp [AV.one])
set_option maxHeartbeats 1000000 in
theorem valid0 (g : Gr) : ACalls Try.prog 19 [encG g] AHeap.nil (fun r _ => r = .bool g.valid) := by
 refine acalls_body TT_ok Try.func19 rfl rfl (by simp [Try.ntmps19]) ?_;rw [Try.ntmps19];obtain ⟨σ, hσ⟩ : ∃ σ, σ = st0 [encG g] := ⟨_, rfl⟩;rw [← hσ];have h0_0 := congrFun hσ 0;simp [st0] at h0_0;clear hσ;obtain ⟨H, hH⟩ : ∃ H, H = AHeap.nil := ⟨_, rfl⟩;rw [← hH];have hn_0 : H.n = 0 := by rw [hH]; rfl
 have hst_0 : H.st = 1 := by rw [hH]; rfl
 clear hH;refine stp_reg TT_ok (by rfl) fun K hK => ?_;simp [h0_0, hn_0, hst_0, encG];(try refine And.intro (by first|omega|rfl) ?_);refine hK _ _ fun σ1 hσ H1 hH => ?_;clear hK K;have h1_1 := congrFun hσ 1;simp [] at h1_1;clear hσ;have g0_1 := gt_of hH 0;simp [hn_0, hst_0] at g0_1;have hn_1 := congrArg AHeap.n hH;simp [hn_0, hst_0] at hn_1;have hst_1 := congrArg AHeap.st hH;simp [hn_0, hst_0] at hst_1;clear hH;refine stp_reg TT_ok (by rfl) fun K hK => ?_;simp [h1_1, g0_1, hn_1, hst_1, encG];(try refine And.intro (by first|omega|rfl) ?_);refine hK _ _ fun σ2 hσ H2 hH => ?_;clear hK K;obtain ⟨h1_2, h3_2⟩ := fs2 hσ 1 3;simp [h1_1] at h1_2 h3_2;clear hσ;have g0_2 := gt_of hH 0;have g1_2 := gt_of hH 1;simp [g0_1, hn_1, hst_1] at g0_2 g1_2;have hn_2 := congrArg AHeap.n hH;simp [hn_1, hst_1] at hn_2;have hst_2 := congrArg AHeap.st hH;simp [hn_1, hst_1] at hst_2;clear hH
 by_cases hn1 : (g.nodes.length : Int) ≤ 1024
 ·skip
  by_cases hn2 : (g.edges.length : Int) ≤ 4096
  ·skip;have hFF0 := an6 h1_2 h3_2 g0_2 g1_2 hn1 hn2;refine stp_reg TT_ok (by rfl) fun K hK => ?_;simp [hFF0, encG];(try refine And.intro (by first|omega|rfl) ?_);refine FunW.at (containsFuncE_w g.edges 52 [capV g] (fun e => !okE g.nodes.length e) (fun e _ => valid2_ok g e) (by omega) (pu_cons (pu_capV g) pu_nil)) ?hf ?_
   case hf => exact FrzL.cons (.pure (pu_edges _)) (FrzL.cons (frz_fn (FrzL.cons (frz_v (frz_g g0_2) g1_2) (FrzL.nil _))) (FrzL.nil _))
   simp [hFF0, encG];(try refine And.intro (by first|omega|rfl) ?_);refine hK _ _ fun σ3 hσ H3 hH => ?_;clear hK K hFF0;have h2_3 := congrFun hσ 2;simp [] at h2_3;clear hσ;replace hH : H2 = H3 := Eq.symm hH;subst hH;refine awp_ret ?_;refine q_fin1 h2_3 ?_;have h1 : g.nodes.length ≤ 1024 := by omega
   have h2 : g.edges.length ≤ 4096 := by omega
   simp [Gr.valid, h1, h2, List.all_eq_not_any_not]
  ·skip;refine stp_reg TT_ok (by rfl) fun K hK => ?_;simp [h1_2, h3_2, g0_2, g1_2, hn1, hn2, encG];(try refine And.intro (by first|omega|rfl) ?_);refine hK _ _ fun σ4 hσ H4 hH => ?_;clear hK K;have h2_4 := congrFun hσ 2;simp [] at h2_4;clear hσ;replace hH : H2 = H4 := Eq.symm hH;subst hH;refine awp_ret ?_;refine q_fin1 h2_4 ?_;have : ¬ g.edges.length ≤ 4096 := by omega
   simp [Gr.valid, this]
 ·skip;refine stp_reg TT_ok (by rfl) fun K hK => ?_;simp [h1_2, h3_2, g0_2, g1_2, hn1, encG];(try refine And.intro (by first|omega|rfl) ?_);refine hK _ _ fun σ5 hσ H5 hH => ?_;clear hK K;have h2_5 := congrFun hσ 2;simp [] at h2_5;clear hσ;replace hH : H2 = H5 := Eq.symm hH;subst hH;refine awp_ret ?_;refine q_fin1 h2_5 ?_;have : ¬ g.nodes.length ≤ 1024 := by omega
  simp [Gr.valid, this]
theorem valid_ok (g : Gr) : Fun1 Try.prog 19 [encG g] (.bool g.valid) := fun1_pure (valid0 g) (pu_cons (pu_graph _) pu_nil) (.bool _)
set_option maxHeartbeats 1000000 in
theorem exist1_0 (g : Gr) (i : Int) : ACalls Try.prog 62 [(AV.int IntKind.i64) i, capG g] AHeap.nil (fun r _ => r = .bool (!decide (0 ≤ i ∧ i < g.nodes.length))) := by
 refine acalls_body TT_ok Try.func62 rfl rfl (by simp [Try.ntmps62]) ?_;rw [Try.ntmps62];obtain ⟨σ, hσ⟩ : ∃ σ, σ = st0 [(AV.int IntKind.i64) i, capG g] := ⟨_, rfl⟩;rw [← hσ];obtain ⟨h0_0, h1_0⟩ := fs2 hσ 0 1;simp [st0] at h0_0 h1_0;clear hσ;obtain ⟨H, hH⟩ : ∃ H, H = AHeap.nil := ⟨_, rfl⟩;rw [← hH];have hn_0 : H.n = 0 := by rw [hH]; rfl
 have hst_0 : H.st = 1 := by rw [hH]; rfl
 clear hH;refine stp_reg TT_ok (by rfl) fun K hK => ?_;simp [capG];(try refine And.intro (by first|omega|rfl) ?_);refine hK _ _ fun σ1 hσ H1 hH => ?_;clear hK K;obtain ⟨h0_1, h1_1⟩ := fs2 hσ 0 1;simp [h0_0, h1_0] at h0_1 h1_1;clear hσ;replace hH : H = H1 := Eq.symm hH;subst hH
 by_cases hs : i < 0
 ·skip;refine stp_reg TT_ok (by rfl) fun K hK => ?_;simp [h0_1, h1_1, hs, capG];(try refine And.intro (by first|omega|rfl) ?_);refine hK _ _ fun σ2 hσ H2 hH => ?_;clear hK K;have h3_2 := congrFun hσ 3;simp [] at h3_2;clear hσ;replace hH : H = H2 := Eq.symm hH;subst hH;refine awp_ret ?_;refine q_fin1 h3_2 ?_;have : ¬ (0 ≤ i ∧ i < g.nodes.length) := by omega
  simp [this]
 ·skip;refine stp_reg TT_ok (by rfl) fun K hK => ?_;simp [h0_1, h1_1, hs, capG];(try refine And.intro (by first|omega|rfl) ?_);refine hK _ _ fun σ3 hσ H3 hH => ?_;clear hK K;have h3_3 := congrFun hσ 3;simp [] at h3_3;clear hσ;replace hH : H = H3 := Eq.symm hH;subst hH;refine awp_ret ?_;refine q_fin1 h3_3 ?_;have : 0 ≤ i := by omega
  simp [this, ← Int.not_lt]
theorem exist1_ok (g : Gr) (i : Int) : Fun1 Try.prog 62 [(AV.int IntKind.i64) i, capG g] (.bool (!decide (0 ≤ i ∧ i < g.nodes.length))) :=
 fun1_pure (exist1_0 g i) (pu_cons (pu_int _ _) (pu_cons (pu_capG g) pu_nil)) (.bool _)
set_option maxHeartbeats 1000000 in
theorem exist0 (g : Gr) (l : List Int) (hl : l.length ≤ 1000000) : ACalls Try.prog 39 [encG g, .ro (l.map (AV.int IntKind.i64))] AHeap.nil (fun r _ => r = .bool (g.exist l)) := by
 refine acalls_body TT_ok Try.func39 rfl rfl (by simp [Try.ntmps39]) ?_;rw [Try.ntmps39];obtain ⟨σ, hσ⟩ : ∃ σ, σ = st0 [encG g, .ro (l.map (AV.int IntKind.i64))] := ⟨_, rfl⟩;rw [← hσ];obtain ⟨h0_0, h1_0⟩ := fs2 hσ 0 1;simp [st0] at h0_0 h1_0;clear hσ;obtain ⟨H, hH⟩ : ∃ H, H = AHeap.nil := ⟨_, rfl⟩;rw [← hH];have hn_0 : H.n = 0 := by rw [hH]; rfl
 have hst_0 : H.st = 1 := by rw [hH]; rfl
 clear hH;refine stp_reg TT_ok (by rfl) fun K hK => ?_;simp [h0_0, hn_0, hst_0, encG];(try refine And.intro (by first|omega|rfl) ?_);refine hK _ _ fun σ1 hσ H1 hH => ?_;clear hK K;obtain ⟨h1_1, h2_1⟩ := fs2 hσ 1 2;simp [h1_0] at h1_1 h2_1;clear hσ;have g0_1 := gt_of hH 0;simp [hn_0, hst_0] at g0_1;have hn_1 := congrArg AHeap.n hH;simp [hn_0, hst_0] at hn_1;have hst_1 := congrArg AHeap.st hH;simp [hn_0, hst_0] at hst_1;clear hH
 by_cases hv : g.valid = true
 ·skip;have hFF0 := an5 h1_1 h2_1 g0_1 hv (beq_iff_eq.2 hv);refine stp_reg TT_ok (by rfl) fun K hK => ?_;simp [hFF0, encG];(try refine And.intro (by first|omega|rfl) ?_);refine stp_call (valid_ok g) ?_;simp [hFF0, encG];(try refine And.intro (by first|omega|rfl) ?_);refine FunW.at (containsFuncI_w l 62 [capG g] (fun i => !decide (0 ≤ i ∧ i < g.nodes.length)) (fun i _ => exist1_ok g i) hl (pu_cons (pu_capG g) pu_nil)) ?hf ?_
  case hf => exact FrzL.cons (.pure (pu_ints _)) (FrzL.cons (frz_fn (FrzL.cons (frz_g g0_1) (FrzL.nil _))) (FrzL.nil _))
  simp [hFF0, encG];(try refine And.intro (by first|omega|rfl) ?_);refine hK _ _ fun σ2 hσ H2 hH => ?_;clear hK K hFF0;have h4_2 := congrFun hσ 4;simp [] at h4_2;clear hσ;replace hH : H1 = H2 := Eq.symm hH;subst hH;refine awp_ret ?_;refine q_fin1 h4_2 ?_;simp [Gr.exist, hv, List.all_eq_not_any_not]
 ·skip;have hFF0 := an5 h1_1 h2_1 g0_1 hv (beq_eq_false_iff_ne.2 hv);refine stp_reg TT_ok (by rfl) fun K hK => ?_;simp [hFF0, encG];(try refine And.intro (by first|omega|rfl) ?_);refine stp_call (valid_ok g) ?_;simp [hFF0, encG];(try refine And.intro (by first|omega|rfl) ?_);refine hK _ _ fun σ3 hσ H3 hH => ?_;clear hK K hFF0;have h4_3 := congrFun hσ 4;simp [] at h4_3;clear hσ;replace hH : H1 = H3 := Eq.symm hH;subst hH;refine awp_ret ?_;refine q_fin1 h4_3 ?_;simp [Gr.exist, hv]
theorem exist_ok (g : Gr) (l : List Int) (hl : l.length ≤ 1000000) : Fun1 Try.prog 39 [encG g, .ro (l.map (AV.int IntKind.i64))] (.bool (g.exist l)) :=
 fun1_pure (exist0 g l hl) (pu_cons (pu_graph _) (pu_cons (pu_ints _) pu_nil)) (.bool _)
theorem exist_w (g : Gr) (l : List Int) (hl : l.length ≤ 1000000) : FunW Try.prog 39 [encG g, .ro (l.map (AV.int IntKind.i64))] (.bool (g.exist l)) :=
 funW_pure (exist0 g l hl) (pu_cons (pu_graph _) (pu_cons (pu_ints _) pu_nil)) (.bool _) (.bool _)
set_option maxHeartbeats 1000000 in
theorem cloneS_nil  : ACalls Try.prog 50 [.nils] AHeap.nil (fun r H => Frw H r (.ro [])) := by
 refine acalls_body TT_ok Try.func50 rfl rfl (by simp [Try.ntmps50]) ?_;rw [Try.ntmps50];obtain ⟨σ, hσ⟩ : ∃ σ, σ = st0 [.nils] := ⟨_, rfl⟩;rw [← hσ];have h0_0 := congrFun hσ 0;simp [st0] at h0_0;clear hσ;obtain ⟨H, hH⟩ : ∃ H, H = AHeap.nil := ⟨_, rfl⟩;rw [← hH];have hn_0 : H.n = 0 := by rw [hH]; rfl
 have hst_0 : H.st = 1 := by rw [hH]; rfl
 clear hH;refine stp_reg TT_ok (by rfl) fun K hK => ?_;simp [];(try refine And.intro (by first|omega|rfl) ?_);refine hK _ _ fun σ1 hσ H1 hH => ?_;clear hK K;have h0_1 := congrFun hσ 0;simp [h0_0] at h0_1;clear hσ;replace hH : H = H1 := Eq.symm hH;subst hH;refine awp_seq ?_;refine stp_reg TT_ok (by rfl) fun K hK => ?_;simp [h0_1];(try refine And.intro (by first|omega|rfl) ?_);refine hK _ _ fun σ2 hσ H2 hH => ?_;clear hK K;obtain ⟨h0_2, h4_2⟩ := fs2 hσ 0 4;simp [h0_1] at h0_2 h4_2;clear hσ;replace hH : H = H2 := Eq.symm hH;subst hH;refine stp_true (by simp [aeval_tmp, h4_2]) ?_;refine stp_reg TT_ok (by rfl) fun K hK => ?_;simp [];(try refine And.intro (by first|omega|rfl) ?_);refine hK _ _ fun σ3 hσ H3 hH => ?_;clear hK K;have h2_3 := congrFun hσ 2;simp [] at h2_3;clear hσ;replace hH : H = H3 := Eq.symm hH;subst hH;refine awp_ret ?_;refine q_seq_ret ?_;refine q_fin1 h2_3 ?_;exact .nils
set_option maxHeartbeats 1000000 in
theorem cloneS_roe  : ACalls Try.prog 50 [.roe] AHeap.nil (fun r H => Frw H r (.ro [])) := by
 refine acalls_body TT_ok Try.func50 rfl rfl (by simp [Try.ntmps50]) ?_;rw [Try.ntmps50];obtain ⟨σ, hσ⟩ : ∃ σ, σ = st0 [.roe] := ⟨_, rfl⟩;rw [← hσ];have h0_0 := congrFun hσ 0;simp [st0] at h0_0;clear hσ;obtain ⟨H, hH⟩ : ∃ H, H = AHeap.nil := ⟨_, rfl⟩;rw [← hH];have hn_0 : H.n = 0 := by rw [hH]; rfl
 have hst_0 : H.st = 1 := by rw [hH]; rfl
 clear hH;refine stp_reg TT_ok (by rfl) fun K hK => ?_;simp [];(try refine And.intro (by first|omega|rfl) ?_);refine hK _ _ fun σ1 hσ H1 hH => ?_;clear hK K;have h0_1 := congrFun hσ 0;simp [h0_0] at h0_1;clear hσ;replace hH : H = H1 := Eq.symm hH;subst hH;refine awp_seq ?_;refine stp_reg TT_ok (by rfl) fun K hK => ?_;simp [h0_1];(try refine And.intro (by first|omega|rfl) ?_);refine hK _ _ fun σ2 hσ H2 hH => ?_;clear hK K;obtain ⟨h0_2, h4_2⟩ := fs2 hσ 0 4;simp [h0_1] at h0_2 h4_2;clear hσ;replace hH : H = H2 := Eq.symm hH;subst hH;refine stp_false (by simp [aeval_tmp, h4_2]) ?_;refine awp_skip ?_;refine q_seq ?_;refine stp_reg TT_ok (by rfl) fun K hK => ?_;simp [h0_2, hn_0, hst_0];(try refine And.intro (by first|omega|rfl) ?_);refine hK _ _ fun σ3 hσ H3 hH => ?_;clear hK K;have h2_3 := congrFun hσ 2;simp [] at h2_3;clear hσ;have g0_3 := gt_of hH 0;simp [hn_0, hst_0] at g0_3;have hn_3 := congrArg AHeap.n hH;simp [hn_0, hst_0] at hn_3;have hst_3 := congrArg AHeap.st hH;simp [hn_0, hst_0] at hst_3;clear hH;refine awp_ret ?_;refine q_fin1 h2_3 ?_;exact frw_row g0_3 rfl (by simp) (by simp)
set_option maxHeartbeats 1000000 in
theorem cloneS_some (s : ByteArray) (ss : List ByteArray) (hl : ss.length ≤ 1000000) : ACalls Try.prog 50 [.ro ((s :: ss).map .str)] AHeap.nil (fun r H => Frw H r (.ro ((s :: ss).map .str))) := by
 refine acalls_body TT_ok Try.func50 rfl rfl (by simp [Try.ntmps50]) ?_;rw [Try.ntmps50];obtain ⟨σ, hσ⟩ : ∃ σ, σ = st0 [.ro ((s :: ss).map .str)] := ⟨_, rfl⟩;rw [← hσ];have h0_0 := congrFun hσ 0;simp [st0] at h0_0;clear hσ;obtain ⟨H, hH⟩ : ∃ H, H = AHeap.nil := ⟨_, rfl⟩;rw [← hH];have hn_0 : H.n = 0 := by rw [hH]; rfl
 have hst_0 : H.st = 1 := by rw [hH]; rfl
 clear hH;refine stp_reg TT_ok (by rfl) fun K hK => ?_;simp [];(try refine And.intro (by first|omega|rfl) ?_);refine hK _ _ fun σ1 hσ H1 hH => ?_;clear hK K;have h0_1 := congrFun hσ 0;simp [h0_0] at h0_1;clear hσ;replace hH : H = H1 := Eq.symm hH;subst hH;refine awp_seq ?_;refine stp_reg TT_ok (by rfl) fun K hK => ?_;simp [h0_1];(try refine And.intro (by first|omega|rfl) ?_);refine hK _ _ fun σ2 hσ H2 hH => ?_;clear hK K;obtain ⟨h0_2, h4_2⟩ := fs2 hσ 0 4;simp [h0_1] at h0_2 h4_2;clear hσ;replace hH : H = H2 := Eq.symm hH;subst hH;refine stp_false (by simp [aeval_tmp, h4_2]) ?_;refine awp_skip ?_;refine q_seq ?_;refine stp_reg TT_ok (by rfl) fun K hK => ?_;simp [h0_2, hn_0, hst_0, show (ss.length + 1) * 16 ≤ 140737488355328 by omega, show ss.length ≤ 9223372036854775806 by omega];(try refine And.intro (by first|omega|rfl) ?_);refine hK _ _ fun σ3 hσ H3 hH => ?_;clear hK K;have h2_3 := congrFun hσ 2;simp [] at h2_3;clear hσ;have g0_3 := gt_of hH 0;simp [hn_0, hst_0] at g0_3;have hn_3 := congrArg AHeap.n hH;simp [hn_0, hst_0] at hn_3;have hst_3 := congrArg AHeap.st hH;simp [hn_0, hst_0] at hst_3;clear hH;refine awp_ret ?_;refine q_fin1 h2_3 ?_;exact frw_row g0_3 (by simp) (fun _ => scal_strs (ss := s :: ss)) (fun _ => one_strs (ss := s :: ss))
theorem cloneS_w (ss : List ByteArray) (hl : ss.length ≤ 1000000) : FunW Try.prog 50 [.ro (ss.map .str)] (.ro (ss.map .str)) := by
 refine funW_frw ?_ (pu_cons (pu_strs _) pu_nil) (pu_strs _);cases ss with
 | nil => exact ACalls.ro_split cloneS_nil cloneS_roe
 | cons s ss => exact cloneS_some s ss (by simp at hl; omega)
theorem cloneS_ok (ss : List ByteArray) (hl : ss.length ≤ 1000000) : Fun1 Try.prog 50 [.ro (ss.map .str)] (.ro (ss.map .str)) := (cloneS_w ss hl).fun1 (pu_cons (pu_strs _) pu_nil)
def Gr.rev (g : Gr) : Gr := if g.valid then ⟨g.nodes, g.edges.map fun e => (e.2, e.1)⟩ else ⟨[], []⟩
end Go.Proofs.Yteifhcohmipdcaa
