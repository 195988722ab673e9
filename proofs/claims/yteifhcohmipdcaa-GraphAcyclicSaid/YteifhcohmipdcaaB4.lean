/-
  What the functions that the law calls answer, whatever they are handed: part 4. Conditions: none.
-/
import Derived.Test.YteifhcohmipdcaaB3
namespace Go.Proofs.Yteifhcohmipdcaa
open Go.Abs
set_option linter.unusedSimpArgs false
set_option linter.unusedVariables false
def gt (l : List Int) (v : Int) : Int := l.getD v.toNat 0
theorem gt_set {l : List Int} {k v x : Int} (hk : inR l.length k) (hv : inR l.length v) : gt (l.set k.toNat x) v = if v = k then x else gt l v := by
 simp only [gt, List.getD_eq_getElem?_getD, List.getElem?_set]
 by_cases h : v = k
 ·subst h; simp [in_toNat hv]
 ·have : k.toNat ≠ v.toNat := fun e => h (by rw [← toNat_cast hk, ← toNat_cast hv, e])
  simp [this, h]
theorem gt_get {l : List Int} {v : Int} (hv : inR l.length v) : l[v.toNat]? = some (gt l v) := by
 have := in_toNat hv
 simp [gt, List.getD_eq_getElem?_getD, this]
def Gr.R (g : Gr) (a b : Int) : Prop := g.Reach [a] b
theorem Gr.R.refl (g : Gr) (a : Int) : g.R a a := .base (by simp)
theorem Gr.R.edge {g : Gr} {a b : Int} (h : (a, b) ∈ g.edges) : g.R a b := .step (.base (by simp)) h
theorem Gr.R.trans {g : Gr} {a b c : Int} (h : g.R a b) (k : g.R b c) : g.R a c := by
 induction k with
 | base hx => simp at hx; subst hx; exact h
 | step _ he ih => exact .step ih he
theorem Gr.R.closed {g : Gr} {S : Int → Prop} (hS : ∀ v w, S v → (v, w) ∈ g.edges → S w) {a b : Int} (ha : S a) (h : g.R a b) : S b := by
 induction h with
 | base hx => simp at hx; subst hx; exact ha
 | step _ he ih => exact hS _ _ ih he
structure TS where
 idx : List Int
 low : List Int
 cmp : List Int
 stk : List Int
 nxt : Int
 cnt : Int
structure TI (g : Gr) (s : TS) (gray : List Int) : Prop where
 il : s.idx.length = g.nodes.length
 ll : s.low.length = g.nodes.length
 cl : s.cmp.length = g.nodes.length
 zero : (s.idx.count 0 : Int) + s.nxt = g.nodes.length + 1
 cn0 : 0 ≤ s.cnt
 cn : s.cnt + gray.length + 1 ≤ s.nxt
 rng : ∀ v, inR g.nodes.length v → 0 ≤ gt s.idx v ∧ gt s.idx v < s.nxt
 inj : ∀ u v, inR g.nodes.length u → inR g.nodes.length v → gt s.idx u = gt s.idx v → gt s.idx u ≠ 0 → u = v
 stk : ∀ v, v ∈ s.stk ↔ inR g.nodes.length v ∧ gt s.idx v ≠ 0 ∧ gt s.cmp v < 0
 sorted : s.stk.Pairwise (fun u v => gt s.idx u < gt s.idx v)
 gin : ∀ v ∈ gray, v ∈ s.stk
 black : ∀ v w, inR g.nodes.length v → gt s.idx v ≠ 0 → v ∉ gray → (v, w) ∈ g.edges → gt s.idx w ≠ 0
 dn : ∀ v, inR g.nodes.length v → 0 ≤ gt s.cmp v → gt s.idx v ≠ 0 ∧ gt s.cmp v < s.cnt
 dcl : ∀ v w, inR g.nodes.length v → 0 ≤ gt s.cmp v → (v, w) ∈ g.edges → 0 ≤ gt s.cmp w
 same : ∀ u v, inR g.nodes.length u → inR g.nodes.length v → 0 ≤ gt s.cmp u → 0 ≤ gt s.cmp v → (gt s.cmp u = gt s.cmp v ↔ g.R u v ∧ g.R v u)
 fwd : ∀ x y, x ∈ s.stk → y ∈ s.stk → gt s.idx x ≤ gt s.idx y → g.R x y
 back : ∀ y ∈ s.stk, ∃ x ∈ gray, gt s.idx x ≤ gt s.idx y ∧ g.R y x
structure TP (g : Gr) (s s' : TS) (gray : List Int) (n : Int) : Prop where
 inv : TI g s' gray
 vis : gt s'.idx n ≠ 0
 ki : ∀ v, inR g.nodes.length v → gt s.idx v ≠ 0 → gt s'.idx v = gt s.idx v
 kl : ∀ v, inR g.nodes.length v → gt s.idx v ≠ 0 → gt s'.low v = gt s.low v
 kc : ∀ v, inR g.nodes.length v → 0 ≤ gt s.cmp v → gt s'.cmp v = gt s.cmp v
 seg : ∃ seg, s'.stk = s.stk ++ seg ∧ (∀ y ∈ seg, gt s.idx y = 0) ∧ ∀ y ∈ seg, ∀ z ∈ s.stk, (y, z) ∈ g.edges → gt s'.low n ≤ gt s.idx z
 low : gt s'.low n ≤ gt s'.idx n ∧ ((0 ≤ gt s'.cmp n ∧ gt s'.low n = gt s'.idx n) ∨ ∃ z ∈ s'.stk, gt s'.idx z = gt s'.low n ∧ g.R n z)
 less : s'.idx.count 0 < s.idx.count 0
 new : ∀ v, inR g.nodes.length v → gt s.idx v = 0 → gt s'.idx v ≠ 0 → s.nxt ≤ gt s'.idx v
structure TL (g : Gr) (s : TS) (gray : List Int) (n : Int) (pre : List Int) (s2 : TS) : Prop where
 inv : TI g s2 (gray ++ [n])
 hn : gt s2.idx n = s.nxt
 ki : ∀ v, inR g.nodes.length v → gt s.idx v ≠ 0 → gt s2.idx v = gt s.idx v
 kl : ∀ v, inR g.nodes.length v → gt s.idx v ≠ 0 → gt s2.low v = gt s.low v
 kc : ∀ v, inR g.nodes.length v → 0 ≤ gt s.cmp v → gt s2.cmp v = gt s.cmp v
 seg : ∃ seg, s2.stk = s.stk ++ n :: seg ∧ (∀ y ∈ seg, gt s.idx y = 0) ∧ ∀ y ∈ seg, ∀ z ∈ s.stk, (y, z) ∈ g.edges → gt s2.low n ≤ gt s.idx z
 pre : ∀ k ∈ pre, inR g.nodes.length k ∧ gt s2.idx k ≠ 0 ∧ (k ∈ s.stk → gt s2.low n ≤ gt s.idx k)
 low : gt s2.low n ≤ s.nxt ∧ ∃ z ∈ s2.stk, gt s2.idx z = gt s2.low n ∧ g.R n z
 less : s2.idx.count 0 < s.idx.count 0
 new : ∀ v, inR g.nodes.length v → gt s.idx v = 0 → gt s2.idx v ≠ 0 → s.nxt ≤ gt s2.idx v
theorem count_set_0 {d : List Int} {k : Nat} (h : d[k]? = some 0) {x : Int} (hx : x ≠ 0) : (d.set k x).count 0 + 1 = d.count 0 := by
 induction d generalizing k with
 | nil => simp at h
 | cons b d ih =>
  cases k with
  | zero =>
   simp at h; subst h
   simp [List.count_cons, hx]
  | succ k =>
   simp at h
   have := ih h
   simp only [List.set_cons_succ, List.count_cons]
   omega
section
variable {g : Gr}
theorem TI.up (hval : g.valid = true) {s : TS} {gray : List Int} (h : TI g s gray) {n : Int} (hn : inR g.nodes.length n) (h0 : gt s.idx n = 0) (hg : ∀ x ∈ gray, g.R x n) :
  TL g s gray n [] ⟨s.idx.set n.toNat s.nxt, s.low.set n.toNat s.nxt, s.cmp, s.stk ++ [n], s.nxt + 1, s.cnt⟩ := by
 have hni : inR s.idx.length n := by rw [h.il]; exact hn
 have hnl : inR s.low.length n := by rw [h.ll]; exact hn
 have hnx : 1 ≤ s.nxt := by have := h.cn; have := h.cn0; omega
 have hI : ∀ v, inR g.nodes.length v → gt (s.idx.set n.toNat s.nxt) v = if v = n then s.nxt else gt s.idx v := fun v hv => gt_set hni (by rw [h.il]; exact hv)
 have hL : ∀ v, inR g.nodes.length v → gt (s.low.set n.toNat s.nxt) v = if v = n then s.nxt else gt s.low v := fun v hv => gt_set hnl (by rw [h.ll]; exact hv)
 have hns : n ∉ s.stk := fun hin => ((h.stk n).1 hin).2.1 h0
 have hnc : gt s.cmp n < 0 := by
  rcases Int.lt_or_le (gt s.cmp n) 0 with h1 | h1
  ·exact h1
  ·exact absurd h0 (h.dn n hn h1).1
 have hcnt := count_set_0 (d := s.idx) (k := n.toNat) (by rw [gt_get hni, h0]) (x := s.nxt) (by omega)
 have hne : ∀ v ∈ s.stk, v ≠ n := fun v hv e => hns (e ▸ hv)
 have hst : ∀ v ∈ s.stk, inR g.nodes.length v := fun v hv => ((h.stk v).1 hv).1
 have hlt : ∀ v ∈ s.stk, gt s.idx v < s.nxt := fun v hv => (h.rng v (hst v hv)).2
 have hr : ∀ v ∈ s.stk, g.R v n := fun v hv => by
  obtain ⟨x, hx, _, hR⟩ := h.back v hv
  exact hR.trans (hg x hx)
 refine ⟨⟨by simpa using h.il, by simpa using h.ll, h.cl, ?_, h.cn0, ?_, ?_, ?_, ?_, ?_, ?_, ?_, ?_, h.dcl, h.same, ?_, ?_⟩, by rw [hI n hn, if_pos rfl], ?_, ?_, fun _ _ _ => rfl, ⟨[], rfl, by simp, by simp⟩, by simp, ⟨by rw [hL n hn, if_pos rfl]; exact Int.le_refl _, n, by simp, by rw [hI n hn, hL n hn, if_pos rfl, if_pos rfl], .refl g n⟩, by simp only; omega, ?_⟩
 ·have := h.zero; simp only; omega
 ·have := h.cn; simp only [List.length_append, List.length_singleton]; omega
 ·intro v hv
  simp only [hI v hv]
  have := h.rng v hv
  split <;> omega
 ·intro u v hu hv he h1
  simp only [hI u hu, hI v hv] at he h1
  have := (h.rng u hu).2; have := (h.rng v hv).2
  split at he
  ·split at he
   ·rename_i a b; rw [a, b]
   ·omega
  ·rename_i hune
   split at he
   ·omega
   ·rw [if_neg hune] at h1; exact h.inj u v hu hv he h1
 ·intro v
  simp only [List.mem_append, List.mem_singleton, h.stk]
  constructor
  ·rintro (⟨a, b, c⟩ | rfl)
   ·refine ⟨a, ?_, c⟩; rw [hI v a]; split <;> omega
   ·refine ⟨hn, ?_, hnc⟩; rw [hI v hn, if_pos rfl]; omega
  ·rintro ⟨a, b, c⟩
   by_cases e : v = n
   ·exact .inr e
   ·rw [hI v a, if_neg e] at b; exact .inl ⟨a, b, c⟩
 ·simp only
  rw [List.pairwise_append]
  refine ⟨?_, by simp, ?_⟩
  ·exact h.sorted.imp_of_mem fun {u v} hu hv huv => by rw [hI u (hst u hu), hI v (hst v hv), if_neg (hne u hu), if_neg (hne v hv)]; exact huv
  ·intro u hu v hv
   simp at hv; subst hv
   rw [hI u (hst u hu), if_neg (hne u hu), hI _ hn, if_pos rfl]
   exact hlt u hu
 ·intro v hv
  rcases List.mem_append.1 hv with hv | hv
  ·exact List.mem_append.2 (.inl (h.gin v hv))
  ·exact List.mem_append.2 (.inr hv)
 ·intro v w hv h1 hng he
  simp only [List.mem_append, List.mem_singleton, not_or] at hng
  simp only [hI v hv, if_neg hng.2] at h1
  have hb := h.black v w hv h1 hng.1 he
  have hw : inR g.nodes.length w := (valid_edge hval he).2
  simp only [hI w hw]
  split
  ·omega
  ·exact hb
 ·intro v hv hc
  have := h.dn v hv hc
  simp only
  refine ⟨?_, this.2⟩
  rw [hI v hv]; split
  ·omega
  ·exact this.1
 ·intro x y hx hy hxy
  simp only [List.mem_append, List.mem_singleton] at hx hy
  rcases hx with hx | rfl
  ·rcases hy with hy | rfl
   ·rw [hI x (hst x hx), hI y (hst y hy), if_neg (hne x hx), if_neg (hne y hy)] at hxy
    exact h.fwd x y hx hy hxy
   ·exact hr x hx
  ·rcases hy with hy | rfl
   ·rw [hI x hn, if_pos rfl, hI y (hst y hy), if_neg (hne y hy)] at hxy
    have := hlt y hy; omega
   ·exact .refl g _
 ·intro y hy
  simp only [List.mem_append, List.mem_singleton] at hy
  rcases hy with hy | rfl
  ·obtain ⟨x, hx, hxi, hR⟩ := h.back y hy
   have hxs := h.gin x hx
   exact ⟨x, List.mem_append.2 (.inl hx), by rw [hI x (hst x hxs), hI y (hst y hy), if_neg (hne x hxs), if_neg (hne y hy)]; exact hxi, hR⟩
  ·exact ⟨y, by simp, Int.le_refl _, .refl g _⟩
 ·intro v hv hv0
  rw [hI v hv, if_neg (fun e => hv0 (by rw [e]; exact h0))]
 ·intro v hv hv0
  rw [hL v hv, if_neg (fun e => hv0 (by rw [e]; exact h0))]
 ·intro v hv hv0 hv1
  simp only [hI v hv] at hv1 ⊢
  split
  ·omega
  ·rename_i e; rw [if_neg e] at hv1; exact absurd hv0 hv1
theorem TI.setLow {s : TS} {gray : List Int} (h : TI g s gray) (n : Nat) (x : Int) : TI g { s with low := s.low.set n x } gray :=
 ⟨h.il, by simpa using h.ll, h.cl, h.zero, h.cn0, h.cn, h.rng, h.inj, h.stk, h.sorted, h.gin, h.black, h.dn, h.dcl, h.same, h.fwd, h.back⟩
theorem TL.lower {s s2 : TS} {gray pre : List Int} {n k x : Int} (h : TL g s gray n pre s2) (hn : inR g.nodes.length n) (hn0 : gt s.idx n = 0) (hk : inR g.nodes.length k) (hk0 : gt s2.idx k ≠ 0) (hx : x ≤ gt s2.low n)
  (hz : ∃ z ∈ s2.stk, gt s2.idx z = x ∧ g.R n z) (hks : k ∈ s.stk → x ≤ gt s.idx k) : TL g s gray n (pre ++ [k]) { s2 with low := s2.low.set n.toNat x } := by
 have hnl : inR s2.low.length n := by rw [h.inv.ll]; exact hn
 have hL : ∀ v, inR g.nodes.length v → gt (s2.low.set n.toNat x) v = if v = n then x else gt s2.low v := fun v hv => gt_set hnl (by rw [h.inv.ll]; exact hv)
 have hLn : gt (s2.low.set n.toNat x) n = x := by rw [hL n hn, if_pos rfl]
 obtain ⟨seg, h1, h2, h3⟩ := h.seg
 refine ⟨h.inv.setLow _ _, h.hn, h.ki, fun v hv hv0 => ?_, h.kc, ⟨seg, h1, h2, fun y hy z hz' he => ?_⟩, fun j hj => ?_, ⟨?_, ?_⟩, h.less, h.new⟩
 ·simp only; rw [hL v hv, if_neg (fun e => hv0 (by rw [e]; exact hn0))]; exact h.kl v hv hv0
 ·simp only; rw [hLn]; exact Int.le_trans hx (h3 y hy z hz' he)
 ·simp only; rw [hLn]
  rcases List.mem_append.1 hj with hj | hj
  ·exact ⟨(h.pre j hj).1, (h.pre j hj).2.1, fun hs => Int.le_trans hx ((h.pre j hj).2.2 hs)⟩
  ·simp at hj; subst hj; exact ⟨hk, hk0, hks⟩
 ·simp only; rw [hLn]; exact Int.le_trans hx h.low.1
 ·simp only; rw [hLn]; exact hz
theorem TL.keep {s s2 : TS} {gray pre : List Int} {n k : Int} (h : TL g s gray n pre s2) (hk : inR g.nodes.length k) (hk0 : gt s2.idx k ≠ 0) (hks : k ∈ s.stk → gt s2.low n ≤ gt s.idx k) : TL g s gray n (pre ++ [k]) s2 :=
 ⟨h.inv, h.hn, h.ki, h.kl, h.kc, h.seg, fun j hj => by
  rcases List.mem_append.1 hj with hj | hj
  ·exact h.pre j hj
  ·simp at hj; subst hj; exact ⟨hk, hk0, hks⟩, h.low, h.less, h.new⟩
theorem TL.onstk {s s2 : TS} {gray pre : List Int} {n : Int} (h : TL g s gray n pre s2) {z : Int} (hz : z ∈ s.stk) : z ∈ s2.stk := by
 obtain ⟨seg, h1, _⟩ := h.seg
 rw [h1]; exact List.mem_append.2 (.inl hz)
theorem TL.nstk {s s2 : TS} {gray pre : List Int} {n : Int} (h : TL g s gray n pre s2) : n ∈ s2.stk := by
 obtain ⟨seg, h1, _⟩ := h.seg
 rw [h1]; simp
theorem TL.cross {s s2 : TS} {gray pre : List Int} {n k : Int} (h : TL g s gray n pre s2) (hs : TI g s gray) (hn : inR g.nodes.length n) (hn0 : gt s.idx n = 0) (hk : inR g.nodes.length k) (he : (n, k) ∈ g.edges) (hk0 : gt s2.idx k ≠ 0) (hkc : gt s2.cmp k < 0) :
  TL g s gray n (pre ++ [k]) { s2 with low := s2.low.set n.toNat (min (gt s2.low n) (gt s2.idx k)) } := by
 have hks : k ∈ s2.stk := (h.inv.stk k).2 ⟨hk, hk0, hkc⟩
 refine h.lower hn hn0 hk hk0 (Int.min_le_left _ _) ?_ fun hin => ?_
 ·rcases Int.le_total (gt s2.low n) (gt s2.idx k) with h1 | h1
  ·rw [Int.min_eq_left h1]; exact h.low.2
  ·rw [Int.min_eq_right h1]; exact ⟨k, hks, rfl, .edge he⟩
 ·rw [h.ki k hk ((hs.stk k).1 hin).2.1]; exact Int.min_le_right _ _
theorem TL.done {s s2 : TS} {gray pre : List Int} {n k : Int} (h : TL g s gray n pre s2) (hk : inR g.nodes.length k) (hk0 : gt s2.idx k ≠ 0) (hkc : 0 ≤ gt s2.cmp k) : TL g s gray n (pre ++ [k]) s2 :=
 h.keep hk hk0 fun hin => by have := ((h.inv.stk k).1 (h.onstk hin)).2.2; omega
theorem TL.child {s s2 s3 : TS} {gray pre : List Int} {n k : Int} (h : TL g s gray n pre s2) (hs : TI g s gray) (hn : inR g.nodes.length n) (hn0 : gt s.idx n = 0) (hk : inR g.nodes.length k) (he : (n, k) ∈ g.edges) (hk0 : gt s2.idx k = 0)
  (hp : TP g s2 s3 (gray ++ [n]) k) : TL g s gray n (pre ++ [k]) { s3 with low := s3.low.set n.toNat (min (gt s3.low n) (gt s3.low k)) } := by
 obtain ⟨sg, q1, q2, q3⟩ := h.seg
 obtain ⟨sg', r1, r2, r3⟩ := hp.seg
 have hnx : 1 ≤ s.nxt := by have := hs.cn; have := hs.cn0; omega
 have hn2 : gt s2.idx n ≠ 0 := by rw [h.hn]; omega
 have hzs : ∀ z ∈ s.stk, inR g.nodes.length z ∧ gt s.idx z ≠ 0 := fun z hz => ⟨((hs.stk z).1 hz).1, ((hs.stk z).1 hz).2.1⟩
 have hv2 : ∀ v, inR g.nodes.length v → gt s.idx v ≠ 0 → gt s2.idx v ≠ 0 := fun v hv hv0 => by rw [h.ki v hv hv0]; exact hv0
 have hlow3 : gt s3.low n = gt s2.low n := hp.kl n hn hn2
 have hmono : ∀ z ∈ s2.stk, z ∈ s3.stk ∧ gt s3.idx z = gt s2.idx z := fun z hz =>
  ⟨by rw [r1]; exact List.mem_append.2 (.inl hz), hp.ki z ((h.inv.stk z).1 hz).1 ((h.inv.stk z).1 hz).2.1⟩
 have hks : k ∉ s.stk := fun hin => hv2 k hk (hzs k hin).2 hk0
 have hn3 : inR s3.low.length n := by rw [hp.inv.ll]; exact hn
 obtain ⟨m, hm⟩ : ∃ m, m = min (gt s3.low n) (gt s3.low k) := ⟨_, rfl⟩
 have hm1 : m ≤ gt s2.low n := by rw [hm, hlow3]; exact Int.min_le_left _ _
 have hm2 : m ≤ gt s3.low k := by rw [hm]; exact Int.min_le_right _ _
 rw [← hm]
 have hL : ∀ v, inR g.nodes.length v → gt (s3.low.set n.toNat m) v = if v = n then m else gt s3.low v := fun v hv => gt_set hn3 (by rw [hp.inv.ll]; exact hv)
 have hLn : gt (s3.low.set n.toNat m) n = m := by rw [hL n hn, if_pos rfl]
 refine ⟨hp.inv.setLow _ _, by rw [hp.ki n hn hn2, h.hn], fun v hv hv0 => ?_, fun v hv hv0 => ?_, fun v hv hc => ?_, ⟨sg ++ sg', by rw [r1, q1]; simp, fun y hy => ?_, fun y hy z hz hyz => ?_⟩, fun j hj => ?_, ⟨?_, ?_⟩, Nat.lt_trans hp.less h.less, fun v hv hv0 hv1 => ?_⟩
 ·simp only; rw [hp.ki v hv (hv2 v hv hv0), h.ki v hv hv0]
 ·simp only; rw [hL v hv, if_neg (fun e => hv0 (by rw [e]; exact hn0)), hp.kl v hv (hv2 v hv hv0), h.kl v hv hv0]
 ·simp only
  have e := h.kc v hv hc
  rw [hp.kc v hv (by rw [e]; exact hc), e]
 ·rcases List.mem_append.1 hy with hy | hy
  ·exact q2 y hy
  ·have h0 := r2 y hy
   by_cases hz : gt s.idx y = 0
   ·exact hz
   ·have hyr : inR g.nodes.length y := ((hp.inv.stk y).1 (by rw [r1]; exact List.mem_append.2 (.inr hy))).1
    exact absurd h0 (hv2 y hyr hz)
 ·simp only; rw [hLn]
  rcases List.mem_append.1 hy with hy | hy
  ·exact Int.le_trans hm1 (q3 y hy z hz hyz)
  ·have := r3 y hy z (h.onstk hz) hyz
   rw [h.ki z (hzs z hz).1 (hzs z hz).2] at this
   exact Int.le_trans hm2 this
 ·simp only; rw [hLn]
  rcases List.mem_append.1 hj with hj | hj
  ·have := h.pre j hj
   exact ⟨this.1, by rw [hp.ki j this.1 this.2.1]; exact this.2.1, fun hs => Int.le_trans hm1 (this.2.2 hs)⟩
  ·simp at hj; subst hj; exact ⟨hk, hp.vis, fun hin => absurd hin hks⟩
 ·simp only; rw [hLn]; exact Int.le_trans hm1 h.low.1
 ·simp only; rw [hLn]
  rcases Int.le_total (gt s3.low n) (gt s3.low k) with h1 | h1
  ·rw [Int.min_eq_left h1, hlow3] at hm
   obtain ⟨z, hz, e1, e2⟩ := h.low.2
   exact ⟨z, (hmono z hz).1, by rw [(hmono z hz).2, hm, e1], e2⟩
  ·rw [Int.min_eq_right h1] at hm
   rcases hp.low.2 with ⟨d1, d2⟩ | ⟨z, hz, e1, e2⟩
   ·exfalso
    have hki : s2.nxt ≤ gt s3.idx k := hp.new k hk hk0 hp.vis
    have hkn : gt s2.low n ≤ s.nxt := h.low.1
    have := (h.inv.rng n hn).2
    rw [h.hn] at this
    rw [hlow3, d2] at h1
    omega
   ·exact ⟨z, hz, by rw [hm, e1], (Gr.R.edge he).trans e2⟩
 ·by_cases hz : gt s2.idx v = 0
  ·have := hp.new v hv hz hv1
   have := h.inv.zero; have := hs.zero; have := h.less
   simp only; omega
  ·simp only; rw [hp.ki v hv hz]; exact h.new v hv hv0 hz
theorem TL.ret (hval : g.valid = true) {s s2 : TS} {gray pre : List Int} {n : Int} (h : TL g s gray n pre s2) (hs : TI g s gray) (hn : inR g.nodes.length n) (hn0 : gt s.idx n = 0) (hng : n ∉ gray) (hall : ∀ w, (n, w) ∈ g.edges → w ∈ pre) (hlt : gt s2.low n < gt s2.idx n) : TP g s s2 gray n := by
 obtain ⟨sg, q1, q2, q3⟩ := h.seg
 have hnx : 1 ≤ s.nxt := by have := hs.cn; have := hs.cn0; omega
 obtain ⟨z, hz, e1, e2⟩ := h.low.2
 have I := h.inv
 refine ⟨⟨I.il, I.ll, I.cl, I.zero, I.cn0, ?_, I.rng, I.inj, I.stk, I.sorted, fun v hv => I.gin v (List.mem_append.2 (.inl hv)), fun v w hv hv0 hvg he => ?_, I.dn, I.dcl, I.same, I.fwd, fun y hy => ?_⟩, by rw [h.hn]; omega, h.ki, h.kl, h.kc, ⟨n :: sg, q1, fun y hy => ?_, fun y hy z' hz' he => ?_⟩, ⟨Int.le_of_lt hlt, .inr ⟨z, hz, e1, e2⟩⟩, h.less, h.new⟩
 ·have := I.cn; simp only [List.length_append, List.length_singleton] at this; omega
 ·by_cases e : v = n
  ·subst e; exact (h.pre w (hall w he)).2.1
  ·exact I.black v w hv hv0 (by simp [hvg, e]) he
 ·obtain ⟨x, hx, hxi, hR⟩ := I.back y hy
  rcases List.mem_append.1 hx with hx | hx
  ·exact ⟨x, hx, hxi, hR⟩
  ·simp at hx; subst hx
   obtain ⟨x', hx', hxi', hR'⟩ := I.back z hz
   rcases List.mem_append.1 hx' with hx' | hx'
   ·exact ⟨x', hx', by omega, hR.trans (e2.trans hR')⟩
   ·simp at hx'; subst hx'; omega
 ·rcases List.mem_cons.1 hy with hy | hy
  ·subst hy; exact hn0
  ·exact q2 y hy
 ·rcases List.mem_cons.1 hy with hy | hy
  ·subst hy; exact (h.pre z' (hall z' he)).2.2 hz'
  ·exact q3 y hy z' hz' he
theorem TL.close (hval : g.valid = true) {s s2 : TS} {gray pre seg cmp : List Int} {n : Int} (h : TL g s gray n pre s2) (hs : TI g s gray) (hn : inR g.nodes.length n) (hn0 : gt s.idx n = 0) (hng : n ∉ gray) (hall : ∀ w, (n, w) ∈ g.edges → w ∈ pre) (hge : gt s2.idx n ≤ gt s2.low n)
  (hseg : s2.stk = s.stk ++ n :: seg) (hcl : cmp.length = g.nodes.length) (hcmp : ∀ v, inR g.nodes.length v → gt cmp v = if v ∈ n :: seg then s2.cnt else gt s2.cmp v) :
  TP g s { s2 with cmp := cmp, stk := s.stk, cnt := s2.cnt + 1 } gray n := by
 obtain ⟨sg, q1, q2, q3⟩ := h.seg
 have : sg = seg := by
  rw [hseg] at q1
  have := List.append_cancel_left q1
  simpa using this.symm
 subst this
 have I := h.inv
 have hnx : 1 ≤ s.nxt := by have := hs.cn; have := hs.cn0; omega
 have hlow : gt s2.low n = gt s2.idx n := by have := h.low.1; rw [h.hn] at hge ⊢; omega
 have hc0 := I.cn0
 have hsegin : ∀ y ∈ n :: sg, y ∈ s2.stk := fun y hy => by rw [hseg]; exact List.mem_append.2 (.inr hy)
 have hsegr : ∀ y ∈ n :: sg, inR g.nodes.length y ∧ gt s2.idx y ≠ 0 ∧ gt s2.cmp y < 0 := fun y hy => (I.stk y).1 (hsegin y hy)
 have hord : ∀ z ∈ s.stk, ∀ y ∈ n :: sg, gt s2.idx z < gt s2.idx y := fun z hz y hy => by
  have := I.sorted; rw [hseg] at this
  exact (List.pairwise_append.1 this).2.2 z hz y hy
 have hdisj : ∀ y ∈ n :: sg, y ∉ s.stk := fun y hy hin => by have := hord y hin y hy; omega
 have hnle : ∀ y ∈ n :: sg, gt s2.idx n ≤ gt s2.idx y := fun y hy => by
  rcases List.mem_cons.1 hy with hy | hy
  ·subst hy; exact Int.le_refl _
  ·have := I.sorted; rw [hseg] at this
   exact Int.le_of_lt ((List.pairwise_cons.1 (List.pairwise_append.1 this).2.1).1 y hy)
 have hto : ∀ y ∈ n :: sg, g.R n y := fun y hy => I.fwd n y h.nstk (hsegin y hy) (hnle y hy)
 have hfrom : ∀ y ∈ n :: sg, g.R y n := fun y hy => by
  obtain ⟨x, hx, hxi, hR⟩ := I.back y (hsegin y hy)
  rcases List.mem_append.1 hx with hx' | hx'
  ·have hxs : x ∈ s.stk := hs.gin x hx'
   exact hR.trans (I.fwd x n (h.onstk hxs) h.nstk (Int.le_of_lt (hord x hxs n (by simp))))
  ·simp at hx'; subst hx'; exact hR
 have hout : ∀ y w, y ∈ n :: sg → (y, w) ∈ g.edges → w ∈ n :: sg ∨ 0 ≤ gt s2.cmp w := by
  intro y w hy he
  have hw : inR g.nodes.length w := (valid_edge hval he).2
  have hw0 : gt s2.idx w ≠ 0 := by
   rcases List.mem_cons.1 hy with hy' | hy'
   ·subst hy'; exact (h.pre w (hall w he)).2.1
   ·refine I.black y w (hsegr y hy).1 (hsegr y hy).2.1 (fun hg => ?_) he
    rcases List.mem_append.1 hg with hg | hg
    ·exact hdisj y hy (hs.gin y hg)
    ·simp at hg; subst hg
     have := I.sorted; rw [hseg] at this
     have := (List.pairwise_cons.1 (List.pairwise_append.1 this).2.1).1 y hy'
     omega
  by_cases hwc : 0 ≤ gt s2.cmp w
  ·exact .inr hwc
  ·have hws : w ∈ s2.stk := (I.stk w).2 ⟨hw, hw0, by omega⟩
   rw [hseg] at hws
   rcases List.mem_append.1 hws with hwo | hwo
   ·exfalso
    have hwi : gt s2.idx w = gt s.idx w := h.ki w hw ((hs.stk w).1 hwo).2.1
    have h1 := hord w hwo n (by simp)
    rcases List.mem_cons.1 hy with hy' | hy'
    ·subst hy'
     have := (h.pre w (hall w he)).2.2 hwo
     omega
    ·have := q3 y hy' w hwo he
     omega
   ·exact .inl hwo
 have hdone : ∀ v, inR g.nodes.length v → (0 ≤ gt cmp v ↔ v ∈ n :: sg ∨ 0 ≤ gt s2.cmp v) := fun v hv => by
  rw [hcmp v hv]
  split
  ·rename_i hin; exact ⟨fun _ => .inl hin, fun _ => hc0⟩
  ·rename_i hin; exact ⟨.inr, fun hh => hh.resolve_left hin⟩
 have hclosed : ∀ v w, inR g.nodes.length v → 0 ≤ gt cmp v → (v, w) ∈ g.edges → 0 ≤ gt cmp w := fun v w hv hc he => by
  have hw : inR g.nodes.length w := (valid_edge hval he).2
  rw [hdone w hw]
  rcases (hdone v hv).1 hc with h1 | h1
  ·exact hout v w h1 he
  ·exact .inr (I.dcl v w hv h1 he)
 have hold : ∀ {a b : Int}, inR g.nodes.length a → 0 ≤ gt s2.cmp a → g.R a b → inR g.nodes.length b ∧ 0 ≤ gt s2.cmp b := fun {a b} ha hc hR =>
  hR.closed (S := fun v => inR g.nodes.length v ∧ 0 ≤ gt s2.cmp v) (fun v w hvw he => ⟨(valid_edge hval he).2, I.dcl v w hvw.1 hvw.2 he⟩) ⟨ha, hc⟩
 refine ⟨⟨I.il, I.ll, hcl, I.zero, by simp only; omega, ?_, I.rng, I.inj, fun v => ?_, ?_, fun v hv => hs.gin v hv, fun v w hv hv0 hvg he => ?_, fun v hv hc => ?_, fun v w hv hc he => hclosed v w hv hc he, fun u v hu hv hcu hcv => ?_, fun x y hx hy => I.fwd x y (h.onstk hx) (h.onstk hy), fun y hy => ?_⟩,
  by simp only; rw [h.hn]; omega, h.ki, h.kl, fun v hv hc => ?_, ⟨[], by simp, by simp, by simp⟩, ⟨Int.le_of_eq hlow, .inl ⟨?_, hlow⟩⟩, h.less, h.new⟩
 ·have := I.cn; simp only [List.length_append, List.length_singleton] at this; simp only; omega
 ·simp only
  constructor
  ·intro hin
   have hv := (I.stk v).1 (h.onstk hin)
   refine ⟨hv.1, hv.2.1, ?_⟩
   rw [hcmp v hv.1, if_neg (fun hh => hdisj v hh hin)]; exact hv.2.2
  ·rintro ⟨hv, hv0, hc⟩
   have hns : v ∉ n :: sg := fun hh => by rw [hcmp v hv, if_pos hh] at hc; omega
   rw [hcmp v hv, if_neg hns] at hc
   have := (I.stk v).2 ⟨hv, hv0, hc⟩
   rw [hseg] at this
   exact (List.mem_append.1 this).resolve_right hns
 ·have := I.sorted; rw [hseg] at this
  exact (List.pairwise_append.1 this).1
 ·by_cases e : v = n
  ·subst e; exact (h.pre w (hall w he)).2.1
  ·exact I.black v w hv hv0 (by simp [hvg, e]) he
 ·simp only
  rcases (hdone v hv).1 hc with h1 | h1
  ·refine ⟨(hsegr v h1).2.1, ?_⟩; rw [hcmp v hv, if_pos h1]; omega
  ·have := I.dn v hv h1
   refine ⟨this.1, ?_⟩
   rw [hcmp v hv]; split <;> omega
 ·simp only at hcu hcv ⊢
  rcases (hdone u hu).1 hcu with h1 | h1
  ·rcases (hdone v hv).1 hcv with h2 | h2
   ·rw [hcmp u hu, hcmp v hv, if_pos h1, if_pos h2]
    exact ⟨fun _ => ⟨(hfrom u h1).trans (hto v h2), (hfrom v h2).trans (hto u h1)⟩, fun _ => rfl⟩
   ·by_cases h3 : v ∈ n :: sg
    ·have := (hsegr v h3).2.2; omega
    ·rw [hcmp u hu, hcmp v hv, if_pos h1, if_neg h3]
     have := (I.dn v hv h2).2
     refine ⟨fun e => by omega, fun ⟨_, hR⟩ => ?_⟩
     have := (hold hv h2 hR).2; have := (hsegr u h1).2.2; omega
  ·by_cases h3 : u ∈ n :: sg
   ·have := (hsegr u h3).2.2; omega
   ·rcases (hdone v hv).1 hcv with h2 | h2
    ·rw [hcmp u hu, hcmp v hv, if_neg h3, if_pos h2]
     have := (I.dn u hu h1).2
     refine ⟨fun e => by omega, fun ⟨hR, _⟩ => ?_⟩
     have := (hold hu h1 hR).2; have := (hsegr v h2).2.2; omega
    ·by_cases h4 : v ∈ n :: sg
     ·have := (hsegr v h4).2.2; omega
     ·rw [hcmp u hu, hcmp v hv, if_neg h3, if_neg h4]
      exact I.same u v hu hv h1 h2
 ·obtain ⟨x, hx, hxi, hR⟩ := I.back y (h.onstk hy)
  rcases List.mem_append.1 hx with hx | hx
  ·exact ⟨x, hx, hxi, hR⟩
  ·simp at hx; subst hx
   have := hord y hy x (by simp); omega
 ·simp only
  have e := h.kc v hv hc
  rw [hcmp v hv, if_neg (fun hh => by have := (hsegr v hh).2.2; omega), e]
 ·simp only; rw [hcmp n hn, if_pos (by simp)]; exact hc0
theorem TI.start (hval : g.valid = true) : TI g ⟨List.replicate g.nodes.length 0, List.replicate g.nodes.length 0, List.replicate g.nodes.length (-1), [], 1, 0⟩ [] := by
 have h0 : ∀ v, gt (List.replicate g.nodes.length 0) v = 0 := fun v => by simp only [gt, List.getD_eq_getElem?_getD, List.getElem?_replicate]; split <;> rfl
 have h1 : ∀ v, inR g.nodes.length v → gt (List.replicate g.nodes.length (-1)) v = -1 := fun v hv => by simp [gt, List.getD_eq_getElem?_getD, List.getElem?_replicate, in_toNat hv]
 refine ⟨by simp, by simp, by simp, by simp, by simp, by simp, fun v _ => ?_, fun u v _ _ _ hh => absurd (h0 u) hh, fun v => ?_, by simp, by simp, fun v w _ hh => absurd (h0 v) hh, fun v hv hc => ?_, fun v w hv hc => ?_, fun u v hu _ hc => ?_, by simp, by simp⟩
 ·simp only [h0]; omega
 ·simp [h0]
 ·simp only [h1 v hv] at hc; omega
 ·simp only [h1 v hv] at hc; omega
 ·simp only [h1 u hu] at hc; omega
structure IsNum (g : Gr) (cmp : List Int) (cnt : Int) : Prop where
 len : cmp.length = g.nodes.length
 rng : ∀ v, inR g.nodes.length v → 0 ≤ gt cmp v ∧ gt cmp v < cnt
 same : ∀ u v, inR g.nodes.length u → inR g.nodes.length v → (gt cmp u = gt cmp v ↔ g.R u v ∧ g.R v u)
 cnt : 0 ≤ cnt ∧ cnt ≤ g.nodes.length
theorem TI.end {s : TS} (h : TI g s []) (hall : ∀ v, inR g.nodes.length v → gt s.idx v ≠ 0) : IsNum g s.cmp s.cnt := by
 have hd : ∀ v, inR g.nodes.length v → 0 ≤ gt s.cmp v := fun v hv => by
  rcases Int.lt_or_le (gt s.cmp v) 0 with h1 | h1
  ·obtain ⟨x, hx, _⟩ := h.back v ((h.stk v).2 ⟨hv, hall v hv, h1⟩)
   simp at hx
  ·exact h1
 have hc := h.cn; have hz := h.zero
 simp only [List.length_nil] at hc
 exact ⟨h.cl, fun v hv => ⟨hd v hv, (h.dn v hv (hd v hv)).2⟩, fun u v hu hv => h.same u v hu hv (hd u hu) (hd v hv), h.cn0, by omega⟩
theorem strict_len : ∀ {l : List Int} {lo hi : Int}, l.Pairwise (· < ·) → (∀ x ∈ l, lo ≤ x ∧ x < hi) → lo ≤ hi → (l.length : Int) ≤ hi - lo
 | [], lo, hi, _, _, h => by simp; omega
 | a :: l, lo, hi, hp, hb, h => by
  have hp' := List.pairwise_cons.1 hp
  have ha := hb a (by simp)
  have := strict_len (l := l) (lo := a + 1) (hi := hi) hp'.2 (fun x hx => ⟨by have := hp'.1 x hx; omega, (hb x (by simp [hx])).2⟩) (by omega)
  simp only [List.length_cons]; omega
theorem TI.stkLen {s : TS} {gray : List Int} (h : TI g s gray) : s.stk.length ≤ g.nodes.length := by
 have hz := h.zero; have hc := h.cn; have h0 := h.cn0
 have := strict_len (l := s.stk.map (gt s.idx)) (lo := 1) (hi := s.nxt) (by rw [List.pairwise_map]; exact h.sorted) (fun x hx => by
  obtain ⟨v, hv, rfl⟩ := List.mem_map.1 hx
  have hh := (h.stk v).1 hv
  have := h.rng v hh.1
  exact ⟨by have := hh.2.1; omega, this.2⟩) (by omega)
 rw [List.length_map] at this
 omega
end
end Go.Proofs.Yteifhcohmipdcaa

namespace Go.Proofs.Yteifhcohmipdcaa
open Go.Abs
set_option linter.unusedSimpArgs false
set_option linter.unusedVariables false
theorem ite_min (a b : Int) : (if b < a then b else a) = min a b := by rw [Int.min_def]; split <;> split <;> omega
theorem gt_elem {l : List Int} {v : Int} (h : v.toNat < l.length) : l[v.toNat] = gt l v := by simp [gt, h]
def NumOk (j : Nat) : Prop := ¬ j = 0 ∧ ¬ j = 3 ∧ ¬ j = 6 ∧ ¬ j = 10 ∧ ¬ j = 11 ∧ ¬ j = 12 ∧ ¬ j = 13 ∧ ¬ j = 17 ∧ ¬ j = 18 ∧ ¬ j = 19 ∧ ¬ j = 20
def SvOk (stk : List Int) (sv : AV) (H : AHeap) : Prop := (sv = .nils ∧ stk = []) ∨ ∃ id g rest, sv = .sl id g 0 stk.length ∧ H.get id = some (.row 3 1 g (stk.map (AV.int IntKind.i64) ++ rest)) ∧ NumOk id
def Frm (H0 : AHeap) (sv : AV) (j : Nat) : Prop := H0.get j ≠ none ∧ j ≠ 3 ∧ j ≠ 6 ∧ j ≠ 10 ∧ j ≠ 17 ∧ j ≠ 18 ∧ j ≠ 19 ∧ ∀ gg m, sv ≠ .sl j gg 0 m
set_option maxHeartbeats 2000000 in
theorem num0 (g : Gr) (hv : g.valid = true) (e0 e11 e12 e13 e20 : TypeId) : ∀ (k : Nat) (s : TS) (gray : List Int) (n : Int) (sv : AV) (H0 : AHeap), s.idx.count 0 = k → TI g s gray → inR g.nodes.length n → gt s.idx n = 0 → (∀ x ∈ gray, g.R x n) → H0.st = 1 → SvOk s.stk sv H0 →
  (H0.get 0 = some (.row e0 1 0 [encS g.succs]) ∧ H0.get 3 = some (.row 3 1 0 (s.idx.map (AV.int IntKind.i64))) ∧ H0.get 6 = some (.row 3 1 0 (s.low.map (AV.int IntKind.i64))) ∧ H0.get 10 = some (.row 3 1 0 (s.cmp.map (AV.int IntKind.i64))) ∧ H0.get 11 = some (.row e11 1 0 [.sl 3 0 0 g.nodes.length]) ∧ H0.get 12 = some (.row e12 1 0 [.sl 6 0 0 g.nodes.length]) ∧ H0.get 13 = some (.row e13 1 0 [.sl 10 0 0 g.nodes.length]) ∧ H0.get 17 = some (.row 26 1 0 [sv]) ∧ H0.get 18 = some (.row 3 1 0 [(AV.int IntKind.i64) s.nxt]) ∧ H0.get 19 = some (.row 3 1 0 [(AV.int IntKind.i64) s.cnt]) ∧ H0.get 20 = some (.row e20 1 0 [.fn 73 [.ptr 18 0 0 0, .ptr 11 0 0 0, .ptr 12 0 0 0, .ptr 17 0 0 0, .ptr 0 0 0 0, .ptr 20 0 0 0, .ptr 13 0 0 0, .ptr 19 0 0 0]])) →
  ACalls Try.prog 73 [(AV.int IntKind.i64) n, .ptr 18 0 0 0, .ptr 11 0 0 0, .ptr 12 0 0 0, .ptr 17 0 0 0, .ptr 0 0 0 0, .ptr 20 0 0 0, .ptr 13 0 0 0, .ptr 19 0 0 0] H0 fun r H => r = .tup [] ∧ ∃ s' sv', TP g s s' gray n ∧ SvOk s'.stk sv' H ∧ (H.get 0 = some (.row e0 1 0 [encS g.succs]) ∧ H.get 3 = some (.row 3 1 0 (s'.idx.map (AV.int IntKind.i64))) ∧ H.get 6 = some (.row 3 1 0 (s'.low.map (AV.int IntKind.i64))) ∧ H.get 10 = some (.row 3 1 0 (s'.cmp.map (AV.int IntKind.i64))) ∧ H.get 11 = some (.row e11 1 0 [.sl 3 0 0 g.nodes.length]) ∧ H.get 12 = some (.row e12 1 0 [.sl 6 0 0 g.nodes.length]) ∧ H.get 13 = some (.row e13 1 0 [.sl 10 0 0 g.nodes.length]) ∧ H.get 17 = some (.row 26 1 0 [sv']) ∧ H.get 18 = some (.row 3 1 0 [(AV.int IntKind.i64) s'.nxt]) ∧ H.get 19 = some (.row 3 1 0 [(AV.int IntKind.i64) s'.cnt]) ∧ H.get 20 = some (.row e20 1 0 [.fn 73 [.ptr 18 0 0 0, .ptr 11 0 0 0, .ptr 12 0 0 0, .ptr 17 0 0 0, .ptr 0 0 0 0, .ptr 20 0 0 0, .ptr 13 0 0 0, .ptr 19 0 0 0]])) ∧ (∀ j, Frm H0 sv j → H.get j = H0.get j ∧ ∀ gg m, sv' ≠ .sl j gg 0 m) ∧ (∀ id gg m, sv = .sl id gg 0 m → ∃ gg' m', sv' = .sl id gg' 0 m') ∧ H.st = 1 := by
 intro k
 induction k using Nat.strongRecOn
 rename_i k ih
 rintro s gray n sv H0 hcnt hti hn hn0 hgr hst0 hsv ⟨h0, h3, h6, h10, h11, h12, h13, h17, h18, h19, h20⟩
 obtain ⟨hb1, hb2⟩ := valid_nodes hv
 have hup := hti.up hv hn hn0 hgr
 have hnr := hn
 obtain ⟨x1, x2⟩ := hn
 have hz := hti.zero
 have hcn := hti.cn
 have hcn0 := hti.cn0
 have hil := hti.il
 have hll := hti.ll
 have x3 : n.toNat < g.nodes.length := by omega
 refine acalls_body TT_ok Try.func73 rfl rfl (by simp [Try.ntmps73]) ?_
 rw [Try.ntmps73]
 obtain ⟨σ, hσ⟩ : ∃ σ, σ = st0 [(AV.int IntKind.i64) n, .ptr 18 0 0 0, .ptr 11 0 0 0, .ptr 12 0 0 0, .ptr 17 0 0 0, .ptr 0 0 0 0, .ptr 20 0 0 0, .ptr 13 0 0 0, .ptr 19 0 0 0] := ⟨_, rfl⟩
 rw [← hσ]
 obtain ⟨h0_0, h1_0, h2_0, h3_0, h4_0, h5_0, h6_0, h7_0, h8_0⟩ := fs9 hσ 0 1 2 3 4 5 6 7 8
 simp [st0] at h0_0 h1_0 h2_0 h3_0 h4_0 h5_0 h6_0 h7_0 h8_0
 clear hσ
 refine awp_ok fun hok => ?_
 obtain ⟨m1, hn_m1⟩ : ∃ m, H0.n = m := ⟨_, rfl⟩
 have hf_m1_0 := hok.free 0
 simp [hn_m1, hst0] at hf_m1_0
 have nx1 := ne_get hf_m1_0 h0
 have nx2 := ne_get hf_m1_0 h3
 have nx3 := ne_get hf_m1_0 h6
 have nx4 := ne_get hf_m1_0 h10
 have nx5 := ne_get hf_m1_0 h11
 have nx6 := ne_get hf_m1_0 h12
 have nx7 := ne_get hf_m1_0 h13
 have nx8 := ne_get hf_m1_0 h17
 have nx9 := ne_get hf_m1_0 h18
 have nx10 := ne_get hf_m1_0 h19
 have nx11 := ne_get hf_m1_0 h20
 refine stp_reg TT_ok (by rfl) fun K hK => ?_
 simp [h0_0, h0, h3, h6, h10, h11, h12, h13, h17, h18, h19, h20, hn_m1, hst0, nx1, nx2, nx3, nx4, nx5, nx6, nx7, nx8, nx9, nx10, nx11]
 try refine And.intro (by first | omega | rfl) ?_
 refine hK _ _ fun σ2 hσ H2 hH => ?_
 clear hK K
 obtain ⟨h1_2, h2_2, h3_2, h4_2, h5_2, h6_2, h7_2, h8_2, h9_2⟩ := fs9 hσ 1 2 3 4 5 6 7 8 9
 simp [h1_0, h2_0, h3_0, h4_0, h5_0, h6_0, h7_0, h8_0] at h1_2 h2_2 h3_2 h4_2 h5_2 h6_2 h7_2 h8_2 h9_2
 clear hσ
 have g0_2 := gt_of hH 0
 have g3_2 := gt_of hH 3
 have g6_2 := gt_of hH 6
 have g10_2 := gt_of hH 10
 have g11_2 := gt_of hH 11
 have g12_2 := gt_of hH 12
 have g13_2 := gt_of hH 13
 have g17_2 := gt_of hH 17
 have g18_2 := gt_of hH 18
 have g19_2 := gt_of hH 19
 have g20_2 := gt_of hH 20
 have gm1_2 := gt_of hH m1
 simp [h0, h3, h6, h10, h11, h12, h13, h17, h18, h19, h20, hn_m1, hst0, nx1, nx2, nx3, nx4, nx5, nx6, nx7, nx8, nx9, nx10, nx11] at g0_2 g3_2 g6_2 g10_2 g11_2 g12_2 g13_2 g17_2 g18_2 g19_2 g20_2 gm1_2
 have hst_2 := congrArg AHeap.st hH
 simp [hst0] at hst_2
 have k0 : ∀ j, H0.get j ≠ none → H2.get j = H0.get j := fun j hj => by
  rw [hH]; have hjm : ¬ j = m1 := by { intro e; rw [e, hf_m1_0] at hj; exact hj rfl }
  simp [hn_m1, hjm]
 clear hH
 refine stp_lex false TT_ok mixed (by rfl) (by rfl) (by kernel_rfl) (by rfl) fun U hU K hK => ?_
 simp [h1_2, h2_2, h3_2, h9_2, g0_2, g3_2, g6_2, g10_2, g11_2, g12_2, g13_2, g17_2, g18_2, g19_2, g20_2, gm1_2, nx1, nx2, nx3, nx4, nx5, nx6, nx7, nx8, nx9, nx10, nx11, x1, x2, x3, hil, hll]
 try refine And.intro (by first | omega | rfl) ?_
 refine hK _ _ _ (by rw [hU.trans (by kernel_rfl : _ = [(0, 1), (0, 2), (1, 2), (0, 3), (1, 3), (2, 3), (0, 4), (1, 4), (2, 4), (3, 4), (0, 5), (1, 5), (2, 5), (3, 5), (4, 5), (2, 6), (3, 6), (5, 6), (2, 7), (3, 7), (5, 7)])]; simp [logOk, ftFree, h1_2, h2_2, h3_2, h9_2, g0_2, g3_2, g6_2, g10_2, g11_2, g12_2, g13_2, g17_2, g18_2, g19_2, g20_2, gm1_2, nx1, nx2, nx3, nx4, nx5, nx6, nx7, nx8, nx9, nx10, nx11, x1, x2, x3, hil, hll]) fun σ3 hσ H3 hH => ?_
 clear hK K hU U
 obtain ⟨h1_3, h2_3, h3_3, h4_3, h5_3, h6_3, h7_3, h8_3, h9_3⟩ := fs9 hσ 1 2 3 4 5 6 7 8 9
 simp [h1_2, h2_2, h3_2, h4_2, h5_2, h6_2, h7_2, h8_2, h9_2] at h1_3 h2_3 h3_3 h4_3 h5_3 h6_3 h7_3 h8_3 h9_3
 clear hσ
 have g0_3 := gt_of hH 0
 have g3_3 := gt_of hH 3
 have g6_3 := gt_of hH 6
 have g10_3 := gt_of hH 10
 have g11_3 := gt_of hH 11
 have g12_3 := gt_of hH 12
 have g13_3 := gt_of hH 13
 have g17_3 := gt_of hH 17
 have g18_3 := gt_of hH 18
 have g19_3 := gt_of hH 19
 have g20_3 := gt_of hH 20
 have gm1_3 := gt_of hH m1
 simp [g0_2, g3_2, g6_2, g10_2, g11_2, g12_2, g13_2, g17_2, g18_2, g19_2, g20_2, gm1_2, hst_2, nx1, nx2, nx3, nx4, nx5, nx6, nx7, nx8, nx9, nx10, nx11] at g0_3 g3_3 g6_3 g10_3 g11_3 g12_3 g13_3 g17_3 g18_3 g19_3 g20_3 gm1_3
 have hst_3 := congrArg AHeap.st hH
 simp [hst_2] at hst_3
 have k1 : ∀ j, H0.get j ≠ none → j ≠ 3 → j ≠ 6 → H3.get j = H0.get j := fun j hj h1 h2 => by rw [hH]; simp [h1, h2]; exact k0 j hj
 clear hH
 refine stp_reg TT_ok (by rfl) fun K hK => ?_
 simp [h1_3, g0_3, g3_3, g6_3, g10_3, g11_3, g12_3, g13_3, g17_3, g18_3, g19_3, g20_3, gm1_3, nx1, nx2, nx3, nx4, nx5, nx6, nx7, nx8, nx9, nx10, nx11, wrap_ok (n := s.nxt + 1) (by omega) (by omega)]
 try refine And.intro (by first | omega | rfl) ?_
 refine hK _ _ fun σ4 hσ H4 hH => ?_
 clear hK K
 obtain ⟨h2_4, h3_4, h4_4, h5_4, h6_4, h7_4, h8_4, h9_4⟩ := fs8 hσ 2 3 4 5 6 7 8 9
 simp [h2_3, h3_3, h4_3, h5_3, h6_3, h7_3, h8_3, h9_3] at h2_4 h3_4 h4_4 h5_4 h6_4 h7_4 h8_4 h9_4
 clear hσ
 have g0_4 := gt_of hH 0
 have g3_4 := gt_of hH 3
 have g6_4 := gt_of hH 6
 have g10_4 := gt_of hH 10
 have g11_4 := gt_of hH 11
 have g12_4 := gt_of hH 12
 have g13_4 := gt_of hH 13
 have g17_4 := gt_of hH 17
 have g18_4 := gt_of hH 18
 have g19_4 := gt_of hH 19
 have g20_4 := gt_of hH 20
 have gm1_4 := gt_of hH m1
 simp [g0_3, g3_3, g6_3, g10_3, g11_3, g12_3, g13_3, g17_3, g18_3, g19_3, g20_3, gm1_3, hst_3, nx1, nx2, nx3, nx4, nx5, nx6, nx7, nx8, nx9, nx10, nx11] at g0_4 g3_4 g6_4 g10_4 g11_4 g12_4 g13_4 g17_4 g18_4 g19_4 g20_4 gm1_4
 have hst_4 := congrArg AHeap.st hH
 simp [hst_3] at hst_4
 have k2 : ∀ j, H0.get j ≠ none → j ≠ 3 → j ≠ 6 → j ≠ 18 → H4.get j = H0.get j := fun j hj h1 h2 h3 => by rw [hH]; simp [h3]; exact k1 j hj h1 h2
 clear hH
 refine stp_cut (fun σ' H' => ∃ (rs : Nat) (gs : Nat) (rest : List AV), σ' 2 = σ4 2 ∧ σ' 3 = σ4 3 ∧ σ' 4 = σ4 4 ∧ σ' 5 = σ4 5 ∧ σ' 6 = σ4 6 ∧ σ' 7 = σ4 7 ∧ σ' 8 = σ4 8 ∧ σ' 9 = σ4 9 ∧ H'.get 0 = H4.get 0 ∧ H'.get 3 = H4.get 3 ∧ H'.get 6 = H4.get 6 ∧ H'.get 10 = H4.get 10 ∧ H'.get 11 = H4.get 11 ∧ H'.get 12 = H4.get 12 ∧ H'.get 13 = H4.get 13 ∧ H'.get 17 = some (.row 26 1 0 [.sl rs gs 0 (s.stk.length + 1)]) ∧ H'.get 18 = H4.get 18 ∧ H'.get 19 = H4.get 19 ∧ H'.get 20 = H4.get 20 ∧ H'.get m1 = H4.get m1 ∧ H'.get rs = some (.row 3 1 gs ((s.stk ++ [n]).map (AV.int IntKind.i64) ++ rest)) ∧ H'.st = H4.st ∧ (NumOk rs) ∧ (∀ j, Frm H0 sv j → H'.get j = H0.get j ∧ j ≠ rs) ∧ (∀ id gg m, sv = .sl id gg 0 m → rs = id) ∧ (¬ rs = m1)) ?_ ?_
 ·skip
  have hslen := hti.stkLen
  rcases hsv with ⟨rfl, hnil⟩ | ⟨id, gn, rest, rfl, hb, hok⟩
  ·skip
   refine awp_ok fun hok => ?_
   obtain ⟨m6, hn_m6⟩ : ∃ m, H4.n = m := ⟨_, rfl⟩
   have hf_m6_0 := hok.free 0
   simp [hn_m6, hst_4] at hf_m6_0
   have nx12 := ne_get hf_m6_0 g0_4
   have nx13 := ne_get hf_m6_0 g3_4
   have nx14 := ne_get hf_m6_0 g6_4
   have nx15 := ne_get hf_m6_0 g10_4
   have nx16 := ne_get hf_m6_0 g11_4
   have nx17 := ne_get hf_m6_0 g12_4
   have nx18 := ne_get hf_m6_0 g13_4
   have nx19 := ne_get hf_m6_0 g17_4
   have nx20 := ne_get hf_m6_0 g18_4
   have nx21 := ne_get hf_m6_0 g19_4
   have nx22 := ne_get hf_m6_0 g20_4
   have nx23 := ne_get hf_m6_0 gm1_4
   have hf_m6_1 := hok.free 1
   simp [hn_m6, hst_4] at hf_m6_1
   have nx24 := ne_get hf_m6_1 g0_4
   have nx25 := ne_get hf_m6_1 g3_4
   have nx26 : ¬ m6 = 2 ∧ ¬ 2 = m6 := by omega
   have nx27 := ne_get hf_m6_1 g6_4
   have nx28 : ¬ m6 = 5 ∧ ¬ 5 = m6 := by omega
   have nx29 := ne_get hf_m6_1 g10_4
   have nx30 : ¬ m6 = 9 ∧ ¬ 9 = m6 := by omega
   have nx31 := ne_get hf_m6_1 g11_4
   have nx32 : ¬ m6 = 10 ∧ ¬ 10 = m6 := by omega
   have nx33 := ne_get hf_m6_1 g12_4
   have nx34 : ¬ m6 = 11 ∧ ¬ 11 = m6 := by omega
   have nx35 := ne_get hf_m6_1 g13_4
   have nx36 : ¬ m6 = 12 ∧ ¬ 12 = m6 := by omega
   have nx37 := ne_get hf_m6_1 g17_4
   have nx38 : ¬ m6 = 16 ∧ ¬ 16 = m6 := by omega
   have nx39 := ne_get hf_m6_1 g18_4
   have nx40 : ¬ m6 = 17 ∧ ¬ 17 = m6 := by omega
   have nx41 := ne_get hf_m6_1 g19_4
   have nx42 : ¬ m6 = 18 ∧ ¬ 18 = m6 := by omega
   have nx43 := ne_get hf_m6_1 g20_4
   have nx44 : ¬ m6 = 19 ∧ ¬ 19 = m6 := by omega
   have nx45 := ne_get hf_m6_1 gm1_4
   refine stp_regl TT_ok (by rfl) fun K hK => ?_
   simp [h4_4, h9_4, g0_4, g3_4, g6_4, g10_4, g11_4, g12_4, g13_4, g17_4, g18_4, g19_4, g20_4, gm1_4, hn_m6, hst_4, nx1, nx2, nx3, nx4, nx5, nx6, nx7, nx8, nx9, nx10, nx11, nx12, nx13, nx14, nx15, nx16, nx17, nx18, nx19, nx20, nx21, nx22, nx23, nx24, nx25, nx26, nx27, nx28, nx29, nx30, nx31, nx32, nx33, nx34, nx35, nx36, nx37, nx38, nx39, nx40, nx41, nx42, nx43, nx44, nx45]
   try refine And.intro (by first | omega | rfl) ?_
   refine hK _ _ fun σ7 hσ H7 hH => ?_
   clear hK K
   obtain ⟨h2_7, h3_7, h4_7, h5_7, h6_7, h7_7, h8_7, h9_7⟩ := fs8 hσ 2 3 4 5 6 7 8 9
   simp [h2_4, h3_4, h4_4, h5_4, h6_4, h7_4, h8_4, h9_4] at h2_7 h3_7 h4_7 h5_7 h6_7 h7_7 h8_7 h9_7
   clear hσ
   have g0_7 := gt_of hH 0
   have g3_7 := gt_of hH 3
   have g6_7 := gt_of hH 6
   have g10_7 := gt_of hH 10
   have g11_7 := gt_of hH 11
   have g12_7 := gt_of hH 12
   have g13_7 := gt_of hH 13
   have g17_7 := gt_of hH 17
   have g18_7 := gt_of hH 18
   have g19_7 := gt_of hH 19
   have g20_7 := gt_of hH 20
   have gm1_7 := gt_of hH m1
   have gm6_7 := gt_of hH m6
   have g_m6_1__7 := gt_of hH (m6 + 1)
   simp [g0_4, g3_4, g6_4, g10_4, g11_4, g12_4, g13_4, g17_4, g18_4, g19_4, g20_4, gm1_4, hn_m6, hst_4, nx1, nx2, nx3, nx4, nx5, nx6, nx7, nx8, nx9, nx10, nx11, nx12, nx13, nx14, nx15, nx16, nx17, nx18, nx19, nx20, nx21, nx22, nx23, nx24, nx25, nx26, nx27, nx28, nx29, nx30, nx31, nx32, nx33, nx34, nx35, nx36, nx37, nx38, nx39, nx40, nx41, nx42, nx43, nx44, nx45] at g0_7 g3_7 g6_7 g10_7 g11_7 g12_7 g13_7 g17_7 g18_7 g19_7 g20_7 gm1_7 gm6_7 g_m6_1__7
   have hst_7 := congrArg AHeap.st hH
   simp [hst_4] at hst_7
   have k3 : ∀ j, H0.get j ≠ none → j ≠ 3 → j ≠ 6 → j ≠ 18 → j ≠ 17 → H7.get j = H0.get j ∧ j ≠ m6 + 1 := fun j hj h1 h2 h3 h4 => by
    have hq := k2 j hj h1 h2 h3
    have hjm : ¬ j = m6 := by { intro e; rw [← hq, e, hf_m6_0] at hj; exact hj rfl }
    have hjm1 : ¬ j = m6 + 1 := by { intro e; rw [← hq, e, hf_m6_1] at hj; exact hj rfl }
    exact ⟨by rw [hH]; simp [hn_m6, hst_4, hjm, hjm1, h4, hq], hjm1⟩
   clear hH
   refine ⟨rfl, m6 + 1, 0, [], (h2_7.trans h2_4.symm), (h3_7.trans h3_4.symm), (h4_7.trans h4_4.symm), (h5_7.trans h5_4.symm), (h6_7.trans h6_4.symm), (h7_7.trans h7_4.symm), (h8_7.trans h8_4.symm), (h9_7.trans h9_4.symm), (g0_7.trans g0_4.symm), (g3_7.trans g3_4.symm), (g6_7.trans g6_4.symm), (g10_7.trans g10_4.symm), (g11_7.trans g11_4.symm), (g12_7.trans g12_4.symm), (g13_7.trans g13_4.symm), (by simp [g17_7, hnil]), (g18_7.trans g18_4.symm), (g19_7.trans g19_4.symm), (g20_7.trans g20_4.symm), (gm1_7.trans gm1_4.symm), (by rw [g_m6_1__7]; simp [hnil]), (hst_7.trans hst_4.symm), ?_, ?_, ?_, ?_⟩
   ·exact ⟨by omega, by omega, by omega, by omega, by omega, by omega, by omega, by omega, by omega, by omega, by omega⟩
   ·exact fun j hj => k3 j hj.1 hj.2.1 hj.2.2.1 hj.2.2.2.2.2.1 hj.2.2.2.2.1
   ·intro id gg m e; cases e
   ·first | omega | assumption | (simp; done)
  ·skip
   obtain ⟨o0, o3, o6, o10, o11, o12, o13, o17, o18, o19, o20⟩ := hok
   have hbb := (k2 id (by rw [hb]; simp) o3 o6 o18).trans hb
   have om : ¬ id = m1 := by intro e; rw [e, hf_m1_0] at hb; cases hb
   have nx46 : ¬ id = 0 ∧ ¬ 0 = id := by omega
   have nx47 : ¬ id = 3 ∧ ¬ 3 = id := by omega
   have nx48 : ¬ id = 6 ∧ ¬ 6 = id := by omega
   have nx49 : ¬ id = 10 ∧ ¬ 10 = id := by omega
   have nx50 : ¬ id = 11 ∧ ¬ 11 = id := by omega
   have nx51 : ¬ id = 12 ∧ ¬ 12 = id := by omega
   have nx52 : ¬ id = 13 ∧ ¬ 13 = id := by omega
   have nx53 : ¬ id = 17 ∧ ¬ 17 = id := by omega
   have nx54 : ¬ id = 18 ∧ ¬ 18 = id := by omega
   have nx55 : ¬ id = 19 ∧ ¬ 19 = id := by omega
   have nx56 : ¬ id = 20 ∧ ¬ 20 = id := by omega
   refine awp_ok fun hok => ?_
   obtain ⟨m8, hn_m8⟩ : ∃ m, H4.n = m := ⟨_, rfl⟩
   have hf_m8_0 := hok.free 0
   simp [hn_m8, hst_4] at hf_m8_0
   have nx57 := ne_get hf_m8_0 g0_4
   have nx58 := ne_get hf_m8_0 g3_4
   have nx59 := ne_get hf_m8_0 g6_4
   have nx60 := ne_get hf_m8_0 g10_4
   have nx61 := ne_get hf_m8_0 g11_4
   have nx62 := ne_get hf_m8_0 g12_4
   have nx63 := ne_get hf_m8_0 g13_4
   have nx64 := ne_get hf_m8_0 g17_4
   have nx65 := ne_get hf_m8_0 g18_4
   have nx66 := ne_get hf_m8_0 g19_4
   have nx67 := ne_get hf_m8_0 g20_4
   have nx68 := ne_get hf_m8_0 gm1_4
   have nx69 := ne_get hf_m8_0 hbb
   refine stp_regl TT_ok (by rfl) fun K hK => ?_
   simp [h4_4, h9_4, g0_4, g3_4, g6_4, g10_4, g11_4, g12_4, g13_4, g17_4, g18_4, g19_4, g20_4, gm1_4, hbb, hn_m8, hst_4, nx1, nx2, nx3, nx4, nx5, nx6, nx7, nx8, nx9, nx10, nx11, om, Ne.symm om, nx46, nx47, nx48, nx49, nx50, nx51, nx52, nx53, nx54, nx55, nx56, nx57, nx58, nx59, nx60, nx61, nx62, nx63, nx64, nx65, nx66, nx67, nx68, nx69, show s.stk.length ≤ 9223372036854775806 by omega, show (s.stk.length + 1) * 8 ≤ 140737488355328 by omega]
   try refine And.intro (by first | omega | rfl) ?_
   refine hK _ _ fun σ9 hσ H9 hH => ?_
   clear hK K
   obtain ⟨h2_9, h3_9, h4_9, h5_9, h6_9, h7_9, h8_9, h9_9⟩ := fs8 hσ 2 3 4 5 6 7 8 9
   simp [h2_4, h3_4, h4_4, h5_4, h6_4, h7_4, h8_4, h9_4] at h2_9 h3_9 h4_9 h5_9 h6_9 h7_9 h8_9 h9_9
   clear hσ
   have g0_9 := gt_of hH 0
   have g3_9 := gt_of hH 3
   have g6_9 := gt_of hH 6
   have g10_9 := gt_of hH 10
   have g11_9 := gt_of hH 11
   have g12_9 := gt_of hH 12
   have g13_9 := gt_of hH 13
   have g17_9 := gt_of hH 17
   have g18_9 := gt_of hH 18
   have g19_9 := gt_of hH 19
   have g20_9 := gt_of hH 20
   have gm1_9 := gt_of hH m1
   have gid_9 := gt_of hH id
   have gm8_9 := gt_of hH m8
   simp [g0_4, g3_4, g6_4, g10_4, g11_4, g12_4, g13_4, g17_4, g18_4, g19_4, g20_4, gm1_4, hbb, hn_m8, hst_4, nx1, nx2, nx3, nx4, nx5, nx6, nx7, nx8, nx9, nx10, nx11, om, Ne.symm om, nx46, nx47, nx48, nx49, nx50, nx51, nx52, nx53, nx54, nx55, nx56, nx57, nx58, nx59, nx60, nx61, nx62, nx63, nx64, nx65, nx66, nx67, nx68, nx69] at g0_9 g3_9 g6_9 g10_9 g11_9 g12_9 g13_9 g17_9 g18_9 g19_9 g20_9 gm1_9 gid_9 gm8_9
   have hst_9 := congrArg AHeap.st hH
   simp [hst_4] at hst_9
   have k3 : ∀ j, H0.get j ≠ none → j ≠ 3 → j ≠ 6 → j ≠ 18 → j ≠ 17 → j ≠ id → H9.get j = H0.get j := fun j hj h1 h2 h3 h4 h5 => by
    have hq := k2 j hj h1 h2 h3
    have hjm : ¬ j = m8 := by { intro e; rw [← hq, e, hf_m8_0] at hj; exact hj rfl }
    rw [hH]; simp [hn_m8, hjm, h4, h5, hq]
   clear hH
   refine ⟨rfl, id, gn + 1, [], (h2_9.trans h2_4.symm), (h3_9.trans h3_4.symm), (h4_9.trans h4_4.symm), (h5_9.trans h5_4.symm), (h6_9.trans h6_4.symm), (h7_9.trans h7_4.symm), (h8_9.trans h8_4.symm), (h9_9.trans h9_4.symm), (g0_9.trans g0_4.symm), (g3_9.trans g3_4.symm), (g6_9.trans g6_4.symm), (g10_9.trans g10_4.symm), (g11_9.trans g11_4.symm), (g12_9.trans g12_4.symm), (g13_9.trans g13_4.symm), (by simp [g17_9]), (g18_9.trans g18_4.symm), (g19_9.trans g19_4.symm), (g20_9.trans g20_4.symm), (gm1_9.trans gm1_4.symm), (by rw [gid_9]; simp), (hst_9.trans hst_4.symm), ?_, ?_, ?_, ?_⟩
   ·exact ⟨o0, o3, o6, o10, o11, o12, o13, o17, o18, o19, o20⟩
   ·exact fun j hj => have hji : j ≠ id := (fun e => hj.2.2.2.2.2.2.2 gn s.stk.length (by rw [e])); ⟨k3 j hj.1 hj.2.1 hj.2.2.1 hj.2.2.2.2.2.1 hj.2.2.2.2.1 hji, hji⟩
   ·intro id' gg m e; cases e; rfl
   ·first | omega | assumption | (simp; done)
 ·rintro σ5 H5 ⟨rs, gs, rest, q2_5, q3_5, q4_5, q5_5, q6_5, q7_5, q8_5, q9_5, qg0_5, qg3_5, qg6_5, qg10_5, qg11_5, qg12_5, qg13_5, g17_5, qg18_5, qg19_5, qg20_5, qgm1_5, grs_5, qst_5, p1, p2, p3, p4⟩
  have h2_5 := q2_5.trans h2_4
  have h3_5 := q3_5.trans h3_4
  have h4_5 := q4_5.trans h4_4
  have h5_5 := q5_5.trans h5_4
  have h6_5 := q6_5.trans h6_4
  have h7_5 := q7_5.trans h7_4
  have h8_5 := q8_5.trans h8_4
  have h9_5 := q9_5.trans h9_4
  have g0_5 := qg0_5.trans g0_4
  have g3_5 := qg3_5.trans g3_4
  have g6_5 := qg6_5.trans g6_4
  have g10_5 := qg10_5.trans g10_4
  have g11_5 := qg11_5.trans g11_4
  have g12_5 := qg12_5.trans g12_4
  have g13_5 := qg13_5.trans g13_4
  have g18_5 := qg18_5.trans g18_4
  have g19_5 := qg19_5.trans g19_4
  have g20_5 := qg20_5.trans g20_4
  have gm1_5 := qgm1_5.trans gm1_4
  have hst_5 := qst_5.trans hst_4
  have hnok := p1
  obtain ⟨o0, o3, o6, o10, o11, o12, o13, o17, o18, o19, o20⟩ := p1
  refine awp_seq ?_
  have hFF0 := an24 h5_5 h9_5 g0_5 g3_5 g6_5 g10_5 g11_5 g12_5 g13_5 g17_5 g18_5 g19_5 g20_5 gm1_5 grs_5 nx1 nx2 nx3 nx4 nx5 nx6 nx7 nx8 nx9
  have hFF1 := an24 nx10 nx11 o0 (Ne.symm o0) o3 (Ne.symm o3) o6 (Ne.symm o6) o10 (Ne.symm o10) o11 (Ne.symm o11) o12 (Ne.symm o12) o13 (Ne.symm o13) o17 (Ne.symm o17) o18 (Ne.symm o18) o19 (Ne.symm o19) o20 (Ne.symm o20)
  have hFF2 := an2 p4 (Ne.symm p4)
  refine stp_reg TT_ok (by rfl) fun K hK => ?_
  simp [hFF0, hFF1, hFF2, encS]
  try refine And.intro (by first | omega | rfl) ?_
  refine stp_call (of_ok g.succs n 0) ?_
  simp [hFF0, hFF1, hFF2, encS]
  try refine And.intro (by first | omega | rfl) ?_
  refine hK _ _ fun σ10 hσ H10 hH => ?_
  clear hK K hFF0 hFF1 hFF2
  obtain ⟨h2_10, h3_10, h4_10, h6_10, h7_10, h8_10, h9_10, h28_10⟩ := fs8 hσ 2 3 4 6 7 8 9 28
  simp [h2_5, h3_5, h4_5, h6_5, h7_5, h8_5, h9_5] at h2_10 h3_10 h4_10 h6_10 h7_10 h8_10 h9_10 h28_10
  clear hσ
  replace hH : H5 = H10 := Eq.symm hH
  subst hH
  refine awp_block ?_
  refine awp_ok fun hok11 => ?_
  obtain ⟨k11, hn_k11⟩ : ∃ m, H5.n = m := ⟨_, rfl⟩
  have hf_k11 := hok11.now
  rw [hn_k11] at hf_k11
  have nx70 := ne_get hf_k11 g0_5
  have nx71 := ne_get hf_k11 g3_5
  have nx72 := ne_get hf_k11 g6_5
  have nx73 := ne_get hf_k11 g10_5
  have nx74 := ne_get hf_k11 g11_5
  have nx75 := ne_get hf_k11 g12_5
  have nx76 := ne_get hf_k11 g13_5
  have nx77 := ne_get hf_k11 g17_5
  have nx78 := ne_get hf_k11 g18_5
  have nx79 := ne_get hf_k11 g19_5
  have nx80 := ne_get hf_k11 g20_5
  have nx81 := ne_get hf_k11 gm1_5
  have nx82 := ne_get hf_k11 grs_5
  refine stp_rangeOf k11 hn_k11 (by rw [aeval_tmp]; exact h28_10) (by decide) x1 (succs_get ⟨x1, x2⟩) (Nat.le_trans (succ_len _ _) (by omega)) (fun pre H' => ∃ (s2 : TS) (gs2 : Nat) (rest2 : List AV), H'.get 0 = H5.get 0 ∧ H'.get 3 = some (.row 3 1 0 (s2.idx.map (AV.int IntKind.i64))) ∧ H'.get 6 = some (.row 3 1 0 (s2.low.map (AV.int IntKind.i64))) ∧ H'.get 10 = some (.row 3 1 0 (s2.cmp.map (AV.int IntKind.i64))) ∧ H'.get 11 = H5.get 11 ∧ H'.get 12 = H5.get 12 ∧ H'.get 13 = H5.get 13 ∧ H'.get 17 = some (.row 26 1 0 [.sl rs gs2 0 s2.stk.length]) ∧ H'.get 18 = some (.row 3 1 0 [(AV.int IntKind.i64) s2.nxt]) ∧ H'.get 19 = some (.row 3 1 0 [(AV.int IntKind.i64) s2.cnt]) ∧ H'.get 20 = H5.get 20 ∧ H'.get m1 = H5.get m1 ∧ H'.get rs = some (.row 3 1 gs2 (s2.stk.map (AV.int IntKind.i64) ++ rest2)) ∧ H'.st = H5.st ∧ (TL g s gray n pre s2) ∧ (∀ j, Frm H0 sv j → H'.get j = H0.get j)) ?_ ?_ ?_
  ·intro b11 H11 hH
   have hkeep : ∀ j, H5.get j ≠ none → H11.get j = H5.get j := fun j hj => by rw [hH, alloc_get, if_neg (fun e => hj (by rw [e]; exact hok11.now))]
   refine ⟨⟨s.idx.set n.toNat s.nxt, s.low.set n.toNat s.nxt, s.cmp, s.stk ++ [n], s.nxt + 1, s.cnt⟩, gs, rest, (by rw [hH]; simp [g0_5, g3_5, g6_5, g10_5, g11_5, g12_5, g13_5, g17_5, g18_5, g19_5, g20_5, gm1_5, grs_5, hn_k11, hst_5, nx1, nx2, nx3, nx4, nx5, nx6, nx7, nx8, nx9, nx10, nx11, o0, Ne.symm o0, o3, Ne.symm o3, o6, Ne.symm o6, o10, Ne.symm o10, o11, Ne.symm o11, o12, Ne.symm o12, o13, Ne.symm o13, o17, Ne.symm o17, o18, Ne.symm o18, o19, Ne.symm o19, o20, Ne.symm o20, p4, Ne.symm p4, nx70, nx71, nx72, nx73, nx74, nx75, nx76, nx77, nx78, nx79, nx80, nx81, nx82]), (by rw [hH]; simp [g0_5, g3_5, g6_5, g10_5, g11_5, g12_5, g13_5, g17_5, g18_5, g19_5, g20_5, gm1_5, grs_5, hn_k11, hst_5, nx1, nx2, nx3, nx4, nx5, nx6, nx7, nx8, nx9, nx10, nx11, o0, Ne.symm o0, o3, Ne.symm o3, o6, Ne.symm o6, o10, Ne.symm o10, o11, Ne.symm o11, o12, Ne.symm o12, o13, Ne.symm o13, o17, Ne.symm o17, o18, Ne.symm o18, o19, Ne.symm o19, o20, Ne.symm o20, p4, Ne.symm p4, nx70, nx71, nx72, nx73, nx74, nx75, nx76, nx77, nx78, nx79, nx80, nx81, nx82]), (by rw [hH]; simp [g0_5, g3_5, g6_5, g10_5, g11_5, g12_5, g13_5, g17_5, g18_5, g19_5, g20_5, gm1_5, grs_5, hn_k11, hst_5, nx1, nx2, nx3, nx4, nx5, nx6, nx7, nx8, nx9, nx10, nx11, o0, Ne.symm o0, o3, Ne.symm o3, o6, Ne.symm o6, o10, Ne.symm o10, o11, Ne.symm o11, o12, Ne.symm o12, o13, Ne.symm o13, o17, Ne.symm o17, o18, Ne.symm o18, o19, Ne.symm o19, o20, Ne.symm o20, p4, Ne.symm p4, nx70, nx71, nx72, nx73, nx74, nx75, nx76, nx77, nx78, nx79, nx80, nx81, nx82]), (by rw [hH]; simp [g0_5, g3_5, g6_5, g10_5, g11_5, g12_5, g13_5, g17_5, g18_5, g19_5, g20_5, gm1_5, grs_5, hn_k11, hst_5, nx1, nx2, nx3, nx4, nx5, nx6, nx7, nx8, nx9, nx10, nx11, o0, Ne.symm o0, o3, Ne.symm o3, o6, Ne.symm o6, o10, Ne.symm o10, o11, Ne.symm o11, o12, Ne.symm o12, o13, Ne.symm o13, o17, Ne.symm o17, o18, Ne.symm o18, o19, Ne.symm o19, o20, Ne.symm o20, p4, Ne.symm p4, nx70, nx71, nx72, nx73, nx74, nx75, nx76, nx77, nx78, nx79, nx80, nx81, nx82]), (by rw [hH]; simp [g0_5, g3_5, g6_5, g10_5, g11_5, g12_5, g13_5, g17_5, g18_5, g19_5, g20_5, gm1_5, grs_5, hn_k11, hst_5, nx1, nx2, nx3, nx4, nx5, nx6, nx7, nx8, nx9, nx10, nx11, o0, Ne.symm o0, o3, Ne.symm o3, o6, Ne.symm o6, o10, Ne.symm o10, o11, Ne.symm o11, o12, Ne.symm o12, o13, Ne.symm o13, o17, Ne.symm o17, o18, Ne.symm o18, o19, Ne.symm o19, o20, Ne.symm o20, p4, Ne.symm p4, nx70, nx71, nx72, nx73, nx74, nx75, nx76, nx77, nx78, nx79, nx80, nx81, nx82]), (by rw [hH]; simp [g0_5, g3_5, g6_5, g10_5, g11_5, g12_5, g13_5, g17_5, g18_5, g19_5, g20_5, gm1_5, grs_5, hn_k11, hst_5, nx1, nx2, nx3, nx4, nx5, nx6, nx7, nx8, nx9, nx10, nx11, o0, Ne.symm o0, o3, Ne.symm o3, o6, Ne.symm o6, o10, Ne.symm o10, o11, Ne.symm o11, o12, Ne.symm o12, o13, Ne.symm o13, o17, Ne.symm o17, o18, Ne.symm o18, o19, Ne.symm o19, o20, Ne.symm o20, p4, Ne.symm p4, nx70, nx71, nx72, nx73, nx74, nx75, nx76, nx77, nx78, nx79, nx80, nx81, nx82]), (by rw [hH]; simp [g0_5, g3_5, g6_5, g10_5, g11_5, g12_5, g13_5, g17_5, g18_5, g19_5, g20_5, gm1_5, grs_5, hn_k11, hst_5, nx1, nx2, nx3, nx4, nx5, nx6, nx7, nx8, nx9, nx10, nx11, o0, Ne.symm o0, o3, Ne.symm o3, o6, Ne.symm o6, o10, Ne.symm o10, o11, Ne.symm o11, o12, Ne.symm o12, o13, Ne.symm o13, o17, Ne.symm o17, o18, Ne.symm o18, o19, Ne.symm o19, o20, Ne.symm o20, p4, Ne.symm p4, nx70, nx71, nx72, nx73, nx74, nx75, nx76, nx77, nx78, nx79, nx80, nx81, nx82]), (by rw [hH]; simp [g0_5, g3_5, g6_5, g10_5, g11_5, g12_5, g13_5, g17_5, g18_5, g19_5, g20_5, gm1_5, grs_5, hn_k11, hst_5, nx1, nx2, nx3, nx4, nx5, nx6, nx7, nx8, nx9, nx10, nx11, o0, Ne.symm o0, o3, Ne.symm o3, o6, Ne.symm o6, o10, Ne.symm o10, o11, Ne.symm o11, o12, Ne.symm o12, o13, Ne.symm o13, o17, Ne.symm o17, o18, Ne.symm o18, o19, Ne.symm o19, o20, Ne.symm o20, p4, Ne.symm p4, nx70, nx71, nx72, nx73, nx74, nx75, nx76, nx77, nx78, nx79, nx80, nx81, nx82]), (by rw [hH]; simp [g0_5, g3_5, g6_5, g10_5, g11_5, g12_5, g13_5, g17_5, g18_5, g19_5, g20_5, gm1_5, grs_5, hn_k11, hst_5, nx1, nx2, nx3, nx4, nx5, nx6, nx7, nx8, nx9, nx10, nx11, o0, Ne.symm o0, o3, Ne.symm o3, o6, Ne.symm o6, o10, Ne.symm o10, o11, Ne.symm o11, o12, Ne.symm o12, o13, Ne.symm o13, o17, Ne.symm o17, o18, Ne.symm o18, o19, Ne.symm o19, o20, Ne.symm o20, p4, Ne.symm p4, nx70, nx71, nx72, nx73, nx74, nx75, nx76, nx77, nx78, nx79, nx80, nx81, nx82]), (by rw [hH]; simp [g0_5, g3_5, g6_5, g10_5, g11_5, g12_5, g13_5, g17_5, g18_5, g19_5, g20_5, gm1_5, grs_5, hn_k11, hst_5, nx1, nx2, nx3, nx4, nx5, nx6, nx7, nx8, nx9, nx10, nx11, o0, Ne.symm o0, o3, Ne.symm o3, o6, Ne.symm o6, o10, Ne.symm o10, o11, Ne.symm o11, o12, Ne.symm o12, o13, Ne.symm o13, o17, Ne.symm o17, o18, Ne.symm o18, o19, Ne.symm o19, o20, Ne.symm o20, p4, Ne.symm p4, nx70, nx71, nx72, nx73, nx74, nx75, nx76, nx77, nx78, nx79, nx80, nx81, nx82]), (by rw [hH]; simp [g0_5, g3_5, g6_5, g10_5, g11_5, g12_5, g13_5, g17_5, g18_5, g19_5, g20_5, gm1_5, grs_5, hn_k11, hst_5, nx1, nx2, nx3, nx4, nx5, nx6, nx7, nx8, nx9, nx10, nx11, o0, Ne.symm o0, o3, Ne.symm o3, o6, Ne.symm o6, o10, Ne.symm o10, o11, Ne.symm o11, o12, Ne.symm o12, o13, Ne.symm o13, o17, Ne.symm o17, o18, Ne.symm o18, o19, Ne.symm o19, o20, Ne.symm o20, p4, Ne.symm p4, nx70, nx71, nx72, nx73, nx74, nx75, nx76, nx77, nx78, nx79, nx80, nx81, nx82]), (by rw [hH]; simp [g0_5, g3_5, g6_5, g10_5, g11_5, g12_5, g13_5, g17_5, g18_5, g19_5, g20_5, gm1_5, grs_5, hn_k11, hst_5, nx1, nx2, nx3, nx4, nx5, nx6, nx7, nx8, nx9, nx10, nx11, o0, Ne.symm o0, o3, Ne.symm o3, o6, Ne.symm o6, o10, Ne.symm o10, o11, Ne.symm o11, o12, Ne.symm o12, o13, Ne.symm o13, o17, Ne.symm o17, o18, Ne.symm o18, o19, Ne.symm o19, o20, Ne.symm o20, p4, Ne.symm p4, nx70, nx71, nx72, nx73, nx74, nx75, nx76, nx77, nx78, nx79, nx80, nx81, nx82]), (by rw [hH]; simp [g0_5, g3_5, g6_5, g10_5, g11_5, g12_5, g13_5, g17_5, g18_5, g19_5, g20_5, gm1_5, grs_5, hn_k11, hst_5, nx1, nx2, nx3, nx4, nx5, nx6, nx7, nx8, nx9, nx10, nx11, o0, Ne.symm o0, o3, Ne.symm o3, o6, Ne.symm o6, o10, Ne.symm o10, o11, Ne.symm o11, o12, Ne.symm o12, o13, Ne.symm o13, o17, Ne.symm o17, o18, Ne.symm o18, o19, Ne.symm o19, o20, Ne.symm o20, p4, Ne.symm p4, nx70, nx71, nx72, nx73, nx74, nx75, nx76, nx77, nx78, nx79, nx80, nx81, nx82]), (by rw [hH]; rfl), ?_, ?_⟩
   ·exact hup
   ·exact fun j hj => (hkeep j (by rw [(p2 j hj).1]; exact hj.1)).trans (p2 j hj).1
  ·rintro busy rdy pre y H11 ⟨post, hpost⟩ ⟨s2, gs2, rest2, qg0_11, g3_11, g6_11, g10_11, qg11_11, qg12_11, qg13_11, g17_11, g18_11, g19_11, qg20_11, qgm1_11, grs_11, qst_11, d1, d2⟩ hrdy_11 σ11 hσ
   have g0_11 := qg0_11.trans g0_5
   have g11_11 := qg11_11.trans g11_5
   have g12_11 := qg12_11.trans g12_5
   have g13_11 := qg13_11.trans g13_5
   have g20_11 := qg20_11.trans g20_5
   have gm1_11 := qgm1_11.trans gm1_5
   have hst_11 := qst_11.trans hst_5
   have h2_11 := congrFun hσ 2
   simp [h2_10] at h2_11
   have h3_11 := congrFun hσ 3
   simp [h3_10] at h3_11
   have h6_11 := congrFun hσ 6
   simp [h6_10] at h6_11
   have h7_11 := congrFun hσ 7
   simp [h7_10] at h7_11
   have h9_11 := congrFun hσ 9
   simp [h9_10] at h9_11
   have h29_11 := congrFun hσ 29
   simp [] at h29_11
   clear hσ
   rw [geL0_succ hv] at hpost
   have hys : y ∈ g.succ n.toNat := by rw [hpost]; simp
   have hye : (n, y) ∈ g.edges := by rw [succ_mem hv, toNat_cast hnr] at hys; exact hys
   have hyr : inR g.nodes.length y := (valid_edge hv hye).2
   obtain ⟨y1, y2⟩ := hyr
   have y3 : y.toNat < g.nodes.length := by omega
   have hi2 := d1.inv.il
   have hl2 := d1.inv.ll
   have hc2 := d1.inv.cl
   have y4 : y.toNat < s2.idx.length := by omega
   have y5 : y.toNat < s2.low.length := by omega
   have y6 : y.toNat < s2.cmp.length := by omega
   have x4 : n.toNat < s2.low.length := by omega
   have hyr : inR g.nodes.length y := ⟨y1, y2⟩
   refine stp_regl TT_ok (by rfl) fun K hK => ?_
   simp [h29_11, g0_11, g3_11, g6_11, g10_11, g11_11, g12_11, g13_11, g17_11, g18_11, g19_11, g20_11, gm1_11, grs_11, hrdy_11, nx1, nx2, nx3, nx4, nx5, nx6, nx7, nx8, nx9, nx10, nx11, o0, Ne.symm o0, o3, Ne.symm o3, o6, Ne.symm o6, o10, Ne.symm o10, o11, Ne.symm o11, o12, Ne.symm o12, o13, Ne.symm o13, o17, Ne.symm o17, o18, Ne.symm o18, o19, Ne.symm o19, o20, Ne.symm o20, p4, Ne.symm p4, nx70, nx71, nx72, nx73, nx74, nx75, nx76, nx77, nx78, nx79, nx80, nx81, nx82]
   try refine And.intro (by first | omega | rfl) ?_
   refine hK _ _ fun σ12 hσ H12 hH => ?_
   clear hK K
   obtain ⟨h2_12, h3_12, h6_12, h7_12, h9_12, h10_12⟩ := fs6 hσ 2 3 6 7 9 10
   simp [h2_11, h3_11, h6_11, h7_11, h9_11] at h2_12 h3_12 h6_12 h7_12 h9_12 h10_12
   clear hσ
   replace hH : H11 = H12 := Eq.symm hH
   subst hH
   refine q_ra hrdy_11 fun H13 hH => ?_
   have hkeep : ∀ j, j ≠ k11 → H13.get j = H11.get j := fun j hj => by rw [hH, put_getH, if_neg hj]
   have g0_14 := gt_of hH 0
   have g3_14 := gt_of hH 3
   have g6_14 := gt_of hH 6
   have g10_14 := gt_of hH 10
   have g11_14 := gt_of hH 11
   have g12_14 := gt_of hH 12
   have g13_14 := gt_of hH 13
   have g17_14 := gt_of hH 17
   have g18_14 := gt_of hH 18
   have g19_14 := gt_of hH 19
   have g20_14 := gt_of hH 20
   have gm1_14 := gt_of hH m1
   have grs_14 := gt_of hH rs
   have gk11_14 := gt_of hH k11
   simp [g0_11, g3_11, g6_11, g10_11, g11_11, g12_11, g13_11, g17_11, g18_11, g19_11, g20_11, gm1_11, grs_11, hrdy_11, hst_11, nx1, nx2, nx3, nx4, nx5, nx6, nx7, nx8, nx9, nx10, nx11, o0, Ne.symm o0, o3, Ne.symm o3, o6, Ne.symm o6, o10, Ne.symm o10, o11, Ne.symm o11, o12, Ne.symm o12, o13, Ne.symm o13, o17, Ne.symm o17, o18, Ne.symm o18, o19, Ne.symm o19, o20, Ne.symm o20, p4, Ne.symm p4, nx70, nx71, nx72, nx73, nx74, nx75, nx76, nx77, nx78, nx79, nx80, nx81, nx82] at g0_14 g3_14 g6_14 g10_14 g11_14 g12_14 g13_14 g17_14 g18_14 g19_14 g20_14 gm1_14 grs_14 gk11_14
   have hst_14 : H13.st = _ := (congrArg AHeap.st hH).trans hst_11
   have hka := hkeep
   clear hkeep hH
   refine awp_block ?_
   by_cases hi0 : gt s2.idx y = 0
   ·skip
    refine stp_reg TT_ok (by rfl) fun K hK => ?_
    simp [h2_12, h10_12, g0_14, g3_14, g6_14, g10_14, g11_14, g12_14, g13_14, g17_14, g18_14, g19_14, g20_14, gm1_14, grs_14, gk11_14, nx1, nx2, nx3, nx4, nx5, nx6, nx7, nx8, nx9, nx10, nx11, o0, Ne.symm o0, o3, Ne.symm o3, o6, Ne.symm o6, o10, Ne.symm o10, o11, Ne.symm o11, o12, Ne.symm o12, o13, Ne.symm o13, o17, Ne.symm o17, o18, Ne.symm o18, o19, Ne.symm o19, o20, Ne.symm o20, p4, Ne.symm p4, nx70, nx71, nx72, nx73, nx74, nx75, nx76, nx77, nx78, nx79, nx80, nx81, nx82, hi0, beq_iff_eq.2 hi0, y1, y2, y3, hi2, gt_elem y4]
    try refine And.intro (by first | omega | rfl) ?_
    refine hK _ _ fun σ15 hσ H15 hH => ?_
    clear hK K
    obtain ⟨h2_15, h3_15, h6_15, h7_15, h9_15, h10_15, h34_15⟩ := fs7 hσ 2 3 6 7 9 10 34
    simp [h2_12, h3_12, h6_12, h7_12, h9_12, h10_12] at h2_15 h3_15 h6_15 h7_15 h9_15 h10_15 h34_15
    clear hσ
    replace hH : H13 = H15 := Eq.symm hH
    subst hH
    refine stp_true (by simp [aeval_tmp, h34_15, nx1, nx2, nx3, nx4, nx5, nx6, nx7, nx8, nx9, nx10, nx11, o0, Ne.symm o0, o3, Ne.symm o3, o6, Ne.symm o6, o10, Ne.symm o10, o11, Ne.symm o11, o12, Ne.symm o12, o13, Ne.symm o13, o17, Ne.symm o17, o18, Ne.symm o18, o19, Ne.symm o19, o20, Ne.symm o20, p4, Ne.symm p4, nx70, nx71, nx72, nx73, nx74, nx75, nx76, nx77, nx78, nx79, nx80, nx81, nx82, hi0, beq_iff_eq.2 hi0]) ?_
    have hFF0 := an24 h6_15 h10_15 g0_14 g3_14 g6_14 g10_14 g11_14 g12_14 g13_14 g17_14 g18_14 g19_14 g20_14 gm1_14 grs_14 gk11_14 nx1 nx2 nx3 nx4 nx5 nx6 nx7 nx8
    have hFF1 := an24 nx9 nx10 nx11 o0 (Ne.symm o0) o3 (Ne.symm o3) o6 (Ne.symm o6) o10 (Ne.symm o10) o11 (Ne.symm o11) o12 (Ne.symm o12) o13 (Ne.symm o13) o17 (Ne.symm o17) o18 (Ne.symm o18) o19 (Ne.symm o19) o20
    have hFF2 := an18 (Ne.symm o20) p4 (Ne.symm p4) nx70 nx71 nx72 nx73 nx74 nx75 nx76 nx77 nx78 nx79 nx80 nx81 nx82 hi0 (beq_iff_eq.2 hi0)
    refine stp_reg TT_ok (by rfl) fun K hK => ?_
    simp [hFF0, hFF1, hFF2]
    try refine And.intro (by first | omega | rfl) ?_
    have hgr2 : ∀ x ∈ gray ++ [n], g.R x y := fun x hx => by
     rcases List.mem_append.1 hx with hx | hx
     ·exact (hgr x hx).trans (.edge hye)
     ·simp at hx; subst hx; exact .edge hye
    refine (ih (s2.idx.count 0) (by have := d1.less; omega) s2 (gray ++ [n]) y (.sl rs gs2 0 s2.stk.length) H13 rfl d1.inv hyr hi0 hgr2 hst_14 (.inr ⟨rs, gs2, rest2, rfl, grs_14, hnok⟩) ⟨g0_14, g3_14, g6_14, g10_14, g11_14, g12_14, g13_14, g17_14, g18_14, g19_14, g20_14⟩).mono ?_
    rintro r Hy ⟨rfl, s3, sv3, htp, hsv3, ⟨q0, q3, q6, q10, q11, q12, q13, q17, q18, q19, q20⟩, hfr3, hsame, hst3⟩
    obtain ⟨gs3, m3, rfl⟩ := hsame rs gs2 _ rfl
    rcases hsv3 with ⟨he, _⟩ | ⟨id3, gs4, rest3, he, hb3, hok3⟩
    ·cases he
    cases he
    have hk3 : ∀ j, H13.get j ≠ none → (¬ j = 3 ∧ ¬ j = 6 ∧ ¬ j = 10 ∧ ¬ j = 17 ∧ ¬ j = 18 ∧ ¬ j = 19 ∧ ¬ j = rs) → Hy.get j = H13.get j := fun j h1 ⟨a, b, c, d, e, f, h⟩ => (hfr3 j ⟨h1, a, b, c, d, e, f, fun gg m e => h (by cases e; rfl)⟩).1
    have z1 : n.toNat < s3.low.length := by rw [htp.inv.ll]; exact x3
    have z2 : y.toNat < s3.low.length := by rw [htp.inv.ll]; exact y3
    have z3 := htp.inv.ll
    simp [hFF0, hFF1, hFF2]
    try refine And.intro (by first | omega | rfl) ?_
    refine hK _ _ fun σ16 hσ H16 hH => ?_
    clear hK K hFF0 hFF1 hFF2
    obtain ⟨h3_16, h9_16, h10_16⟩ := fs3 hσ 3 9 10
    simp [h3_15, h9_15, h10_15] at h3_16 h9_16 h10_16
    clear hσ
    subst hH
    have g0_16 := (hk3 0 (by rw [g0_14]; simp) ⟨by omega, by omega, by omega, by omega, by omega, by omega, by omega⟩).trans g0_14
    have g3_16 := q3
    have g6_16 := q6
    have g10_16 := q10
    have g11_16 := (hk3 11 (by rw [g11_14]; simp) ⟨by omega, by omega, by omega, by omega, by omega, by omega, by omega⟩).trans g11_14
    have g12_16 := (hk3 12 (by rw [g12_14]; simp) ⟨by omega, by omega, by omega, by omega, by omega, by omega, by omega⟩).trans g12_14
    have g13_16 := (hk3 13 (by rw [g13_14]; simp) ⟨by omega, by omega, by omega, by omega, by omega, by omega, by omega⟩).trans g13_14
    have g17_16 := q17
    have g18_16 := q18
    have g19_16 := q19
    have g20_16 := (hk3 20 (by rw [g20_14]; simp) ⟨by omega, by omega, by omega, by omega, by omega, by omega, by omega⟩).trans g20_14
    have gm1_16 := (hk3 m1 (by rw [gm1_14]; simp) ⟨by omega, by omega, by omega, by omega, by omega, by omega, by omega⟩).trans gm1_14
    have grs_16 := hb3
    have gk11_16 := (hk3 k11 (by rw [gk11_14]; simp) ⟨by omega, by omega, by omega, by omega, by omega, by omega, by omega⟩).trans gk11_14
    have hst_16 := hst3
    refine stp_lexl false TT_ok mixed (by rfl) (by rfl) (by kernel_rfl) (by rfl) fun U hU K hK => ?_
    simp [h3_16, h9_16, h10_16, g0_16, g3_16, g6_16, g10_16, g11_16, g12_16, g13_16, g17_16, g18_16, g19_16, g20_16, gm1_16, grs_16, gk11_16, nx1, nx2, nx3, nx4, nx5, nx6, nx7, nx8, nx9, nx10, nx11, o0, Ne.symm o0, o3, Ne.symm o3, o6, Ne.symm o6, o10, Ne.symm o10, o11, Ne.symm o11, o12, Ne.symm o12, o13, Ne.symm o13, o17, Ne.symm o17, o18, Ne.symm o18, o19, Ne.symm o19, o20, Ne.symm o20, p4, Ne.symm p4, nx70, nx71, nx72, nx73, nx74, nx75, nx76, nx77, nx78, nx79, nx80, nx81, nx82, hi0, beq_iff_eq.2 hi0, x1, x2, x3, y1, y2, y3, z1, z2, z3, gt_elem z1, gt_elem z2, ite_min]
    try refine And.intro (by first | omega | rfl) ?_
    refine hK _ _ _ (by rw [hU.trans (by kernel_rfl : _ = [(0, 1), (0, 2), (1, 2), (0, 3), (1, 3), (2, 3), (0, 4), (1, 4), (0, 5), (1, 5), (0, 6), (1, 6), (2, 6), (3, 6), (4, 6), (5, 6), (0, 7), (1, 7), (2, 7), (3, 7), (4, 7), (5, 7), (6, 7), (0, 8), (1, 8), (2, 8), (3, 8), (4, 8), (5, 8), (0, 9), (1, 9), (2, 9), (3, 9), (4, 9), (5, 9), (0, 10), (1, 10)])]; simp [logOk, ftFree, h3_16, h9_16, h10_16, g0_16, g3_16, g6_16, g10_16, g11_16, g12_16, g13_16, g17_16, g18_16, g19_16, g20_16, gm1_16, grs_16, gk11_16, nx1, nx2, nx3, nx4, nx5, nx6, nx7, nx8, nx9, nx10, nx11, o0, Ne.symm o0, o3, Ne.symm o3, o6, Ne.symm o6, o10, Ne.symm o10, o11, Ne.symm o11, o12, Ne.symm o12, o13, Ne.symm o13, o17, Ne.symm o17, o18, Ne.symm o18, o19, Ne.symm o19, o20, Ne.symm o20, p4, Ne.symm p4, nx70, nx71, nx72, nx73, nx74, nx75, nx76, nx77, nx78, nx79, nx80, nx81, nx82, hi0, beq_iff_eq.2 hi0, x1, x2, x3, y1, y2, y3, z1, z2, z3, gt_elem z1, gt_elem z2, ite_min]) fun σ17 hσ H17 hH => ?_
    clear hK K hU U
    clear hσ
    have g0_17 := gt_of hH 0
    have g3_17 := gt_of hH 3
    have g6_17 := gt_of hH 6
    have g10_17 := gt_of hH 10
    have g11_17 := gt_of hH 11
    have g12_17 := gt_of hH 12
    have g13_17 := gt_of hH 13
    have g17_17 := gt_of hH 17
    have g18_17 := gt_of hH 18
    have g19_17 := gt_of hH 19
    have g20_17 := gt_of hH 20
    have gm1_17 := gt_of hH m1
    have grs_17 := gt_of hH rs
    have gk11_17 := gt_of hH k11
    simp [g0_16, g3_16, g6_16, g10_16, g11_16, g12_16, g13_16, g17_16, g18_16, g19_16, g20_16, gm1_16, grs_16, gk11_16, hst_16, nx1, nx2, nx3, nx4, nx5, nx6, nx7, nx8, nx9, nx10, nx11, o0, Ne.symm o0, o3, Ne.symm o3, o6, Ne.symm o6, o10, Ne.symm o10, o11, Ne.symm o11, o12, Ne.symm o12, o13, Ne.symm o13, o17, Ne.symm o17, o18, Ne.symm o18, o19, Ne.symm o19, o20, Ne.symm o20, p4, Ne.symm p4, nx70, nx71, nx72, nx73, nx74, nx75, nx76, nx77, nx78, nx79, nx80, nx81, nx82, hi0, beq_iff_eq.2 hi0] at g0_17 g3_17 g6_17 g10_17 g11_17 g12_17 g13_17 g17_17 g18_17 g19_17 g20_17 gm1_17 grs_17 gk11_17
    have hst_17 := congrArg AHeap.st hH
    simp [hst_16] at hst_17
    have kk : ∀ j, j ≠ 6 → H17.get j = H16.get j := fun j h1 => by rw [hH]; simp [h1]
    clear hH
    refine q_block ?_
    refine q_rb gk11_17 fun H18 hH => ?_
    have hkeep : ∀ j, j ≠ k11 → H18.get j = H17.get j := fun j hj => by rw [hH, put_getH, if_neg hj]
    have hjL : ∀ j, Frm H0 sv j → j ≠ k11 := fun j hj e => by
     have h1 := hj.1
     rw [← (p2 j hj).1, e, hf_k11] at h1; exact h1 rfl
    refine ⟨{ s3 with low := s3.low.set n.toNat (min (gt s3.low n) (gt s3.low y)) }, gs3, rest3, (by rw [hH]; simp [g0_17, g3_17, g6_17, g10_17, g11_17, g12_17, g13_17, g17_17, g18_17, g19_17, g20_17, gm1_17, grs_17, gk11_17, hst_17, nx1, nx2, nx3, nx4, nx5, nx6, nx7, nx8, nx9, nx10, nx11, o0, Ne.symm o0, o3, Ne.symm o3, o6, Ne.symm o6, o10, Ne.symm o10, o11, Ne.symm o11, o12, Ne.symm o12, o13, Ne.symm o13, o17, Ne.symm o17, o18, Ne.symm o18, o19, Ne.symm o19, o20, Ne.symm o20, p4, Ne.symm p4, nx70, nx71, nx72, nx73, nx74, nx75, nx76, nx77, nx78, nx79, nx80, nx81, nx82, hi0, beq_iff_eq.2 hi0, g0_5]), (by rw [hH]; simp [g0_17, g3_17, g6_17, g10_17, g11_17, g12_17, g13_17, g17_17, g18_17, g19_17, g20_17, gm1_17, grs_17, gk11_17, hst_17, nx1, nx2, nx3, nx4, nx5, nx6, nx7, nx8, nx9, nx10, nx11, o0, Ne.symm o0, o3, Ne.symm o3, o6, Ne.symm o6, o10, Ne.symm o10, o11, Ne.symm o11, o12, Ne.symm o12, o13, Ne.symm o13, o17, Ne.symm o17, o18, Ne.symm o18, o19, Ne.symm o19, o20, Ne.symm o20, p4, Ne.symm p4, nx70, nx71, nx72, nx73, nx74, nx75, nx76, nx77, nx78, nx79, nx80, nx81, nx82, hi0, beq_iff_eq.2 hi0]), (by rw [hH]; simp [g0_17, g3_17, g6_17, g10_17, g11_17, g12_17, g13_17, g17_17, g18_17, g19_17, g20_17, gm1_17, grs_17, gk11_17, hst_17, nx1, nx2, nx3, nx4, nx5, nx6, nx7, nx8, nx9, nx10, nx11, o0, Ne.symm o0, o3, Ne.symm o3, o6, Ne.symm o6, o10, Ne.symm o10, o11, Ne.symm o11, o12, Ne.symm o12, o13, Ne.symm o13, o17, Ne.symm o17, o18, Ne.symm o18, o19, Ne.symm o19, o20, Ne.symm o20, p4, Ne.symm p4, nx70, nx71, nx72, nx73, nx74, nx75, nx76, nx77, nx78, nx79, nx80, nx81, nx82, hi0, beq_iff_eq.2 hi0]), (by rw [hH]; simp [g0_17, g3_17, g6_17, g10_17, g11_17, g12_17, g13_17, g17_17, g18_17, g19_17, g20_17, gm1_17, grs_17, gk11_17, hst_17, nx1, nx2, nx3, nx4, nx5, nx6, nx7, nx8, nx9, nx10, nx11, o0, Ne.symm o0, o3, Ne.symm o3, o6, Ne.symm o6, o10, Ne.symm o10, o11, Ne.symm o11, o12, Ne.symm o12, o13, Ne.symm o13, o17, Ne.symm o17, o18, Ne.symm o18, o19, Ne.symm o19, o20, Ne.symm o20, p4, Ne.symm p4, nx70, nx71, nx72, nx73, nx74, nx75, nx76, nx77, nx78, nx79, nx80, nx81, nx82, hi0, beq_iff_eq.2 hi0]), (by rw [hH]; simp [g0_17, g3_17, g6_17, g10_17, g11_17, g12_17, g13_17, g17_17, g18_17, g19_17, g20_17, gm1_17, grs_17, gk11_17, hst_17, nx1, nx2, nx3, nx4, nx5, nx6, nx7, nx8, nx9, nx10, nx11, o0, Ne.symm o0, o3, Ne.symm o3, o6, Ne.symm o6, o10, Ne.symm o10, o11, Ne.symm o11, o12, Ne.symm o12, o13, Ne.symm o13, o17, Ne.symm o17, o18, Ne.symm o18, o19, Ne.symm o19, o20, Ne.symm o20, p4, Ne.symm p4, nx70, nx71, nx72, nx73, nx74, nx75, nx76, nx77, nx78, nx79, nx80, nx81, nx82, hi0, beq_iff_eq.2 hi0, g11_5]), (by rw [hH]; simp [g0_17, g3_17, g6_17, g10_17, g11_17, g12_17, g13_17, g17_17, g18_17, g19_17, g20_17, gm1_17, grs_17, gk11_17, hst_17, nx1, nx2, nx3, nx4, nx5, nx6, nx7, nx8, nx9, nx10, nx11, o0, Ne.symm o0, o3, Ne.symm o3, o6, Ne.symm o6, o10, Ne.symm o10, o11, Ne.symm o11, o12, Ne.symm o12, o13, Ne.symm o13, o17, Ne.symm o17, o18, Ne.symm o18, o19, Ne.symm o19, o20, Ne.symm o20, p4, Ne.symm p4, nx70, nx71, nx72, nx73, nx74, nx75, nx76, nx77, nx78, nx79, nx80, nx81, nx82, hi0, beq_iff_eq.2 hi0, g12_5]), (by rw [hH]; simp [g0_17, g3_17, g6_17, g10_17, g11_17, g12_17, g13_17, g17_17, g18_17, g19_17, g20_17, gm1_17, grs_17, gk11_17, hst_17, nx1, nx2, nx3, nx4, nx5, nx6, nx7, nx8, nx9, nx10, nx11, o0, Ne.symm o0, o3, Ne.symm o3, o6, Ne.symm o6, o10, Ne.symm o10, o11, Ne.symm o11, o12, Ne.symm o12, o13, Ne.symm o13, o17, Ne.symm o17, o18, Ne.symm o18, o19, Ne.symm o19, o20, Ne.symm o20, p4, Ne.symm p4, nx70, nx71, nx72, nx73, nx74, nx75, nx76, nx77, nx78, nx79, nx80, nx81, nx82, hi0, beq_iff_eq.2 hi0, g13_5]), (by rw [hH]; simp [g0_17, g3_17, g6_17, g10_17, g11_17, g12_17, g13_17, g17_17, g18_17, g19_17, g20_17, gm1_17, grs_17, gk11_17, hst_17, nx1, nx2, nx3, nx4, nx5, nx6, nx7, nx8, nx9, nx10, nx11, o0, Ne.symm o0, o3, Ne.symm o3, o6, Ne.symm o6, o10, Ne.symm o10, o11, Ne.symm o11, o12, Ne.symm o12, o13, Ne.symm o13, o17, Ne.symm o17, o18, Ne.symm o18, o19, Ne.symm o19, o20, Ne.symm o20, p4, Ne.symm p4, nx70, nx71, nx72, nx73, nx74, nx75, nx76, nx77, nx78, nx79, nx80, nx81, nx82, hi0, beq_iff_eq.2 hi0]), (by rw [hH]; simp [g0_17, g3_17, g6_17, g10_17, g11_17, g12_17, g13_17, g17_17, g18_17, g19_17, g20_17, gm1_17, grs_17, gk11_17, hst_17, nx1, nx2, nx3, nx4, nx5, nx6, nx7, nx8, nx9, nx10, nx11, o0, Ne.symm o0, o3, Ne.symm o3, o6, Ne.symm o6, o10, Ne.symm o10, o11, Ne.symm o11, o12, Ne.symm o12, o13, Ne.symm o13, o17, Ne.symm o17, o18, Ne.symm o18, o19, Ne.symm o19, o20, Ne.symm o20, p4, Ne.symm p4, nx70, nx71, nx72, nx73, nx74, nx75, nx76, nx77, nx78, nx79, nx80, nx81, nx82, hi0, beq_iff_eq.2 hi0]), (by rw [hH]; simp [g0_17, g3_17, g6_17, g10_17, g11_17, g12_17, g13_17, g17_17, g18_17, g19_17, g20_17, gm1_17, grs_17, gk11_17, hst_17, nx1, nx2, nx3, nx4, nx5, nx6, nx7, nx8, nx9, nx10, nx11, o0, Ne.symm o0, o3, Ne.symm o3, o6, Ne.symm o6, o10, Ne.symm o10, o11, Ne.symm o11, o12, Ne.symm o12, o13, Ne.symm o13, o17, Ne.symm o17, o18, Ne.symm o18, o19, Ne.symm o19, o20, Ne.symm o20, p4, Ne.symm p4, nx70, nx71, nx72, nx73, nx74, nx75, nx76, nx77, nx78, nx79, nx80, nx81, nx82, hi0, beq_iff_eq.2 hi0]), (by rw [hH]; simp [g0_17, g3_17, g6_17, g10_17, g11_17, g12_17, g13_17, g17_17, g18_17, g19_17, g20_17, gm1_17, grs_17, gk11_17, hst_17, nx1, nx2, nx3, nx4, nx5, nx6, nx7, nx8, nx9, nx10, nx11, o0, Ne.symm o0, o3, Ne.symm o3, o6, Ne.symm o6, o10, Ne.symm o10, o11, Ne.symm o11, o12, Ne.symm o12, o13, Ne.symm o13, o17, Ne.symm o17, o18, Ne.symm o18, o19, Ne.symm o19, o20, Ne.symm o20, p4, Ne.symm p4, nx70, nx71, nx72, nx73, nx74, nx75, nx76, nx77, nx78, nx79, nx80, nx81, nx82, hi0, beq_iff_eq.2 hi0, g20_5]), (by rw [hH]; simp [g0_17, g3_17, g6_17, g10_17, g11_17, g12_17, g13_17, g17_17, g18_17, g19_17, g20_17, gm1_17, grs_17, gk11_17, hst_17, nx1, nx2, nx3, nx4, nx5, nx6, nx7, nx8, nx9, nx10, nx11, o0, Ne.symm o0, o3, Ne.symm o3, o6, Ne.symm o6, o10, Ne.symm o10, o11, Ne.symm o11, o12, Ne.symm o12, o13, Ne.symm o13, o17, Ne.symm o17, o18, Ne.symm o18, o19, Ne.symm o19, o20, Ne.symm o20, p4, Ne.symm p4, nx70, nx71, nx72, nx73, nx74, nx75, nx76, nx77, nx78, nx79, nx80, nx81, nx82, hi0, beq_iff_eq.2 hi0, gm1_5]), (by rw [hH]; simp [g0_17, g3_17, g6_17, g10_17, g11_17, g12_17, g13_17, g17_17, g18_17, g19_17, g20_17, gm1_17, grs_17, gk11_17, hst_17, nx1, nx2, nx3, nx4, nx5, nx6, nx7, nx8, nx9, nx10, nx11, o0, Ne.symm o0, o3, Ne.symm o3, o6, Ne.symm o6, o10, Ne.symm o10, o11, Ne.symm o11, o12, Ne.symm o12, o13, Ne.symm o13, o17, Ne.symm o17, o18, Ne.symm o18, o19, Ne.symm o19, o20, Ne.symm o20, p4, Ne.symm p4, nx70, nx71, nx72, nx73, nx74, nx75, nx76, nx77, nx78, nx79, nx80, nx81, nx82, hi0, beq_iff_eq.2 hi0]), ((congrArg AHeap.st hH).trans (hst_17.trans hst_5.symm)), ?_, ?_⟩
    ·exact d1.child hti hnr hn0 hyr hye hi0 htp
    ·intro j hj
     have q1 := hka j (hjL j hj)
     have q2 := d2 j hj
     rw [hkeep j (hjL j hj), kk j hj.2.2.1, (hfr3 j ⟨by rw [q1, q2]; exact hj.1, hj.2.1, hj.2.2.1, hj.2.2.2.1, hj.2.2.2.2.1, hj.2.2.2.2.2.1, hj.2.2.2.2.2.2.1, fun gg m e => (p2 j hj).2 (by cases e; rfl)⟩).1, q1, q2]
   ·skip
    refine stp_reg TT_ok (by rfl) fun K hK => ?_
    simp [h2_12, h10_12, g0_14, g3_14, g6_14, g10_14, g11_14, g12_14, g13_14, g17_14, g18_14, g19_14, g20_14, gm1_14, grs_14, gk11_14, nx1, nx2, nx3, nx4, nx5, nx6, nx7, nx8, nx9, nx10, nx11, o0, Ne.symm o0, o3, Ne.symm o3, o6, Ne.symm o6, o10, Ne.symm o10, o11, Ne.symm o11, o12, Ne.symm o12, o13, Ne.symm o13, o17, Ne.symm o17, o18, Ne.symm o18, o19, Ne.symm o19, o20, Ne.symm o20, p4, Ne.symm p4, nx70, nx71, nx72, nx73, nx74, nx75, nx76, nx77, nx78, nx79, nx80, nx81, nx82, hi0, beq_eq_false_iff_ne.2 hi0, y1, y2, y3, hi2, gt_elem y4]
    try refine And.intro (by first | omega | rfl) ?_
    refine hK _ _ fun σ19 hσ H19 hH => ?_
    clear hK K
    obtain ⟨h2_19, h3_19, h6_19, h7_19, h9_19, h10_19, h34_19⟩ := fs7 hσ 2 3 6 7 9 10 34
    simp [h2_12, h3_12, h6_12, h7_12, h9_12, h10_12] at h2_19 h3_19 h6_19 h7_19 h9_19 h10_19 h34_19
    clear hσ
    replace hH : H13 = H19 := Eq.symm hH
    subst hH
    refine stp_false (by simp [aeval_tmp, h34_19, nx1, nx2, nx3, nx4, nx5, nx6, nx7, nx8, nx9, nx10, nx11, o0, Ne.symm o0, o3, Ne.symm o3, o6, Ne.symm o6, o10, Ne.symm o10, o11, Ne.symm o11, o12, Ne.symm o12, o13, Ne.symm o13, o17, Ne.symm o17, o18, Ne.symm o18, o19, Ne.symm o19, o20, Ne.symm o20, p4, Ne.symm p4, nx70, nx71, nx72, nx73, nx74, nx75, nx76, nx77, nx78, nx79, nx80, nx81, nx82, hi0, beq_eq_false_iff_ne.2 hi0]) ?_
    by_cases hc0 : gt s2.cmp y < 0
    ·skip
     refine stp_reg TT_ok (by rfl) fun K hK => ?_
     simp [h7_19, h10_19, g0_14, g3_14, g6_14, g10_14, g11_14, g12_14, g13_14, g17_14, g18_14, g19_14, g20_14, gm1_14, grs_14, gk11_14, nx1, nx2, nx3, nx4, nx5, nx6, nx7, nx8, nx9, nx10, nx11, o0, Ne.symm o0, o3, Ne.symm o3, o6, Ne.symm o6, o10, Ne.symm o10, o11, Ne.symm o11, o12, Ne.symm o12, o13, Ne.symm o13, o17, Ne.symm o17, o18, Ne.symm o18, o19, Ne.symm o19, o20, Ne.symm o20, p4, Ne.symm p4, nx70, nx71, nx72, nx73, nx74, nx75, nx76, nx77, nx78, nx79, nx80, nx81, nx82, hi0, beq_eq_false_iff_ne.2 hi0, hc0, y1, y2, y3, hc2, gt_elem y6]
     try refine And.intro (by first | omega | rfl) ?_
     refine hK _ _ fun σ20 hσ H20 hH => ?_
     clear hK K
     obtain ⟨h2_20, h3_20, h9_20, h10_20, h54_20⟩ := fs5 hσ 2 3 9 10 54
     simp [h2_19, h3_19, h9_19, h10_19] at h2_20 h3_20 h9_20 h10_20 h54_20
     clear hσ
     replace hH : H13 = H20 := Eq.symm hH
     subst hH
     refine stp_true (by simp [aeval_tmp, h54_20, nx1, nx2, nx3, nx4, nx5, nx6, nx7, nx8, nx9, nx10, nx11, o0, Ne.symm o0, o3, Ne.symm o3, o6, Ne.symm o6, o10, Ne.symm o10, o11, Ne.symm o11, o12, Ne.symm o12, o13, Ne.symm o13, o17, Ne.symm o17, o18, Ne.symm o18, o19, Ne.symm o19, o20, Ne.symm o20, p4, Ne.symm p4, nx70, nx71, nx72, nx73, nx74, nx75, nx76, nx77, nx78, nx79, nx80, nx81, nx82, hi0, beq_eq_false_iff_ne.2 hi0, hc0]) ?_
     refine stp_lexl false TT_ok mixed (by rfl) (by rfl) (by kernel_rfl) (by rfl) fun U hU K hK => ?_
     simp [h2_20, h3_20, h9_20, h10_20, g0_14, g3_14, g6_14, g10_14, g11_14, g12_14, g13_14, g17_14, g18_14, g19_14, g20_14, gm1_14, grs_14, gk11_14, nx1, nx2, nx3, nx4, nx5, nx6, nx7, nx8, nx9, nx10, nx11, o0, Ne.symm o0, o3, Ne.symm o3, o6, Ne.symm o6, o10, Ne.symm o10, o11, Ne.symm o11, o12, Ne.symm o12, o13, Ne.symm o13, o17, Ne.symm o17, o18, Ne.symm o18, o19, Ne.symm o19, o20, Ne.symm o20, p4, Ne.symm p4, nx70, nx71, nx72, nx73, nx74, nx75, nx76, nx77, nx78, nx79, nx80, nx81, nx82, hi0, beq_eq_false_iff_ne.2 hi0, hc0, x1, x2, x3, x4, y1, y2, y3, y4, hi2, hl2, gt_elem x4, gt_elem y4, ite_min]
     try refine And.intro (by first | omega | rfl) ?_
     refine hK _ _ _ (by rw [hU.trans (by kernel_rfl : _ = [(0, 1), (0, 2), (1, 2), (0, 3), (1, 3), (2, 3), (0, 4), (1, 4), (0, 5), (1, 5), (0, 6), (1, 6), (2, 6), (3, 6), (4, 6), (5, 6), (0, 7), (1, 7), (2, 7), (3, 7), (4, 7), (5, 7), (6, 7), (0, 8), (1, 8), (2, 8), (3, 8), (4, 8), (5, 8), (0, 9), (1, 9), (2, 9), (3, 9), (4, 9), (5, 9), (0, 10), (1, 10)])]; simp [logOk, ftFree, h2_20, h3_20, h9_20, h10_20, g0_14, g3_14, g6_14, g10_14, g11_14, g12_14, g13_14, g17_14, g18_14, g19_14, g20_14, gm1_14, grs_14, gk11_14, nx1, nx2, nx3, nx4, nx5, nx6, nx7, nx8, nx9, nx10, nx11, o0, Ne.symm o0, o3, Ne.symm o3, o6, Ne.symm o6, o10, Ne.symm o10, o11, Ne.symm o11, o12, Ne.symm o12, o13, Ne.symm o13, o17, Ne.symm o17, o18, Ne.symm o18, o19, Ne.symm o19, o20, Ne.symm o20, p4, Ne.symm p4, nx70, nx71, nx72, nx73, nx74, nx75, nx76, nx77, nx78, nx79, nx80, nx81, nx82, hi0, beq_eq_false_iff_ne.2 hi0, hc0, x1, x2, x3, x4, y1, y2, y3, y4, hi2, hl2, gt_elem x4, gt_elem y4, ite_min]) fun σ21 hσ H21 hH => ?_
     clear hK K hU U
     clear hσ
     have g0_21 := gt_of hH 0
     have g3_21 := gt_of hH 3
     have g6_21 := gt_of hH 6
     have g10_21 := gt_of hH 10
     have g11_21 := gt_of hH 11
     have g12_21 := gt_of hH 12
     have g13_21 := gt_of hH 13
     have g17_21 := gt_of hH 17
     have g18_21 := gt_of hH 18
     have g19_21 := gt_of hH 19
     have g20_21 := gt_of hH 20
     have gm1_21 := gt_of hH m1
     have grs_21 := gt_of hH rs
     have gk11_21 := gt_of hH k11
     simp [g0_14, g3_14, g6_14, g10_14, g11_14, g12_14, g13_14, g17_14, g18_14, g19_14, g20_14, gm1_14, grs_14, gk11_14, hst_14, nx1, nx2, nx3, nx4, nx5, nx6, nx7, nx8, nx9, nx10, nx11, o0, Ne.symm o0, o3, Ne.symm o3, o6, Ne.symm o6, o10, Ne.symm o10, o11, Ne.symm o11, o12, Ne.symm o12, o13, Ne.symm o13, o17, Ne.symm o17, o18, Ne.symm o18, o19, Ne.symm o19, o20, Ne.symm o20, p4, Ne.symm p4, nx70, nx71, nx72, nx73, nx74, nx75, nx76, nx77, nx78, nx79, nx80, nx81, nx82, hi0, beq_eq_false_iff_ne.2 hi0, hc0] at g0_21 g3_21 g6_21 g10_21 g11_21 g12_21 g13_21 g17_21 g18_21 g19_21 g20_21 gm1_21 grs_21 gk11_21
     have hst_21 := congrArg AHeap.st hH
     simp [hst_14] at hst_21
     have kk : ∀ j, j ≠ 6 → H21.get j = H13.get j := fun j h1 => by rw [hH]; simp [h1]
     clear hH
     refine q_block ?_
     refine q_rb gk11_21 fun H22 hH => ?_
     have hkeep : ∀ j, j ≠ k11 → H22.get j = H21.get j := fun j hj => by rw [hH, put_getH, if_neg hj]
     have hjL : ∀ j, Frm H0 sv j → j ≠ k11 := fun j hj e => by
      have h1 := hj.1
      rw [← (p2 j hj).1, e, hf_k11] at h1; exact h1 rfl
     refine ⟨{ s2 with low := s2.low.set n.toNat (min (gt s2.low n) (gt s2.idx y)) }, gs2, rest2, (by rw [hH]; simp [g0_21, g3_21, g6_21, g10_21, g11_21, g12_21, g13_21, g17_21, g18_21, g19_21, g20_21, gm1_21, grs_21, gk11_21, hst_21, nx1, nx2, nx3, nx4, nx5, nx6, nx7, nx8, nx9, nx10, nx11, o0, Ne.symm o0, o3, Ne.symm o3, o6, Ne.symm o6, o10, Ne.symm o10, o11, Ne.symm o11, o12, Ne.symm o12, o13, Ne.symm o13, o17, Ne.symm o17, o18, Ne.symm o18, o19, Ne.symm o19, o20, Ne.symm o20, p4, Ne.symm p4, nx70, nx71, nx72, nx73, nx74, nx75, nx76, nx77, nx78, nx79, nx80, nx81, nx82, hi0, beq_eq_false_iff_ne.2 hi0, hc0, g0_5]), (by rw [hH]; simp [g0_21, g3_21, g6_21, g10_21, g11_21, g12_21, g13_21, g17_21, g18_21, g19_21, g20_21, gm1_21, grs_21, gk11_21, hst_21, nx1, nx2, nx3, nx4, nx5, nx6, nx7, nx8, nx9, nx10, nx11, o0, Ne.symm o0, o3, Ne.symm o3, o6, Ne.symm o6, o10, Ne.symm o10, o11, Ne.symm o11, o12, Ne.symm o12, o13, Ne.symm o13, o17, Ne.symm o17, o18, Ne.symm o18, o19, Ne.symm o19, o20, Ne.symm o20, p4, Ne.symm p4, nx70, nx71, nx72, nx73, nx74, nx75, nx76, nx77, nx78, nx79, nx80, nx81, nx82, hi0, beq_eq_false_iff_ne.2 hi0, hc0]), (by rw [hH]; simp [g0_21, g3_21, g6_21, g10_21, g11_21, g12_21, g13_21, g17_21, g18_21, g19_21, g20_21, gm1_21, grs_21, gk11_21, hst_21, nx1, nx2, nx3, nx4, nx5, nx6, nx7, nx8, nx9, nx10, nx11, o0, Ne.symm o0, o3, Ne.symm o3, o6, Ne.symm o6, o10, Ne.symm o10, o11, Ne.symm o11, o12, Ne.symm o12, o13, Ne.symm o13, o17, Ne.symm o17, o18, Ne.symm o18, o19, Ne.symm o19, o20, Ne.symm o20, p4, Ne.symm p4, nx70, nx71, nx72, nx73, nx74, nx75, nx76, nx77, nx78, nx79, nx80, nx81, nx82, hi0, beq_eq_false_iff_ne.2 hi0, hc0]), (by rw [hH]; simp [g0_21, g3_21, g6_21, g10_21, g11_21, g12_21, g13_21, g17_21, g18_21, g19_21, g20_21, gm1_21, grs_21, gk11_21, hst_21, nx1, nx2, nx3, nx4, nx5, nx6, nx7, nx8, nx9, nx10, nx11, o0, Ne.symm o0, o3, Ne.symm o3, o6, Ne.symm o6, o10, Ne.symm o10, o11, Ne.symm o11, o12, Ne.symm o12, o13, Ne.symm o13, o17, Ne.symm o17, o18, Ne.symm o18, o19, Ne.symm o19, o20, Ne.symm o20, p4, Ne.symm p4, nx70, nx71, nx72, nx73, nx74, nx75, nx76, nx77, nx78, nx79, nx80, nx81, nx82, hi0, beq_eq_false_iff_ne.2 hi0, hc0]), (by rw [hH]; simp [g0_21, g3_21, g6_21, g10_21, g11_21, g12_21, g13_21, g17_21, g18_21, g19_21, g20_21, gm1_21, grs_21, gk11_21, hst_21, nx1, nx2, nx3, nx4, nx5, nx6, nx7, nx8, nx9, nx10, nx11, o0, Ne.symm o0, o3, Ne.symm o3, o6, Ne.symm o6, o10, Ne.symm o10, o11, Ne.symm o11, o12, Ne.symm o12, o13, Ne.symm o13, o17, Ne.symm o17, o18, Ne.symm o18, o19, Ne.symm o19, o20, Ne.symm o20, p4, Ne.symm p4, nx70, nx71, nx72, nx73, nx74, nx75, nx76, nx77, nx78, nx79, nx80, nx81, nx82, hi0, beq_eq_false_iff_ne.2 hi0, hc0, g11_5]), (by rw [hH]; simp [g0_21, g3_21, g6_21, g10_21, g11_21, g12_21, g13_21, g17_21, g18_21, g19_21, g20_21, gm1_21, grs_21, gk11_21, hst_21, nx1, nx2, nx3, nx4, nx5, nx6, nx7, nx8, nx9, nx10, nx11, o0, Ne.symm o0, o3, Ne.symm o3, o6, Ne.symm o6, o10, Ne.symm o10, o11, Ne.symm o11, o12, Ne.symm o12, o13, Ne.symm o13, o17, Ne.symm o17, o18, Ne.symm o18, o19, Ne.symm o19, o20, Ne.symm o20, p4, Ne.symm p4, nx70, nx71, nx72, nx73, nx74, nx75, nx76, nx77, nx78, nx79, nx80, nx81, nx82, hi0, beq_eq_false_iff_ne.2 hi0, hc0, g12_5]), (by rw [hH]; simp [g0_21, g3_21, g6_21, g10_21, g11_21, g12_21, g13_21, g17_21, g18_21, g19_21, g20_21, gm1_21, grs_21, gk11_21, hst_21, nx1, nx2, nx3, nx4, nx5, nx6, nx7, nx8, nx9, nx10, nx11, o0, Ne.symm o0, o3, Ne.symm o3, o6, Ne.symm o6, o10, Ne.symm o10, o11, Ne.symm o11, o12, Ne.symm o12, o13, Ne.symm o13, o17, Ne.symm o17, o18, Ne.symm o18, o19, Ne.symm o19, o20, Ne.symm o20, p4, Ne.symm p4, nx70, nx71, nx72, nx73, nx74, nx75, nx76, nx77, nx78, nx79, nx80, nx81, nx82, hi0, beq_eq_false_iff_ne.2 hi0, hc0, g13_5]), (by rw [hH]; simp [g0_21, g3_21, g6_21, g10_21, g11_21, g12_21, g13_21, g17_21, g18_21, g19_21, g20_21, gm1_21, grs_21, gk11_21, hst_21, nx1, nx2, nx3, nx4, nx5, nx6, nx7, nx8, nx9, nx10, nx11, o0, Ne.symm o0, o3, Ne.symm o3, o6, Ne.symm o6, o10, Ne.symm o10, o11, Ne.symm o11, o12, Ne.symm o12, o13, Ne.symm o13, o17, Ne.symm o17, o18, Ne.symm o18, o19, Ne.symm o19, o20, Ne.symm o20, p4, Ne.symm p4, nx70, nx71, nx72, nx73, nx74, nx75, nx76, nx77, nx78, nx79, nx80, nx81, nx82, hi0, beq_eq_false_iff_ne.2 hi0, hc0]), (by rw [hH]; simp [g0_21, g3_21, g6_21, g10_21, g11_21, g12_21, g13_21, g17_21, g18_21, g19_21, g20_21, gm1_21, grs_21, gk11_21, hst_21, nx1, nx2, nx3, nx4, nx5, nx6, nx7, nx8, nx9, nx10, nx11, o0, Ne.symm o0, o3, Ne.symm o3, o6, Ne.symm o6, o10, Ne.symm o10, o11, Ne.symm o11, o12, Ne.symm o12, o13, Ne.symm o13, o17, Ne.symm o17, o18, Ne.symm o18, o19, Ne.symm o19, o20, Ne.symm o20, p4, Ne.symm p4, nx70, nx71, nx72, nx73, nx74, nx75, nx76, nx77, nx78, nx79, nx80, nx81, nx82, hi0, beq_eq_false_iff_ne.2 hi0, hc0]), (by rw [hH]; simp [g0_21, g3_21, g6_21, g10_21, g11_21, g12_21, g13_21, g17_21, g18_21, g19_21, g20_21, gm1_21, grs_21, gk11_21, hst_21, nx1, nx2, nx3, nx4, nx5, nx6, nx7, nx8, nx9, nx10, nx11, o0, Ne.symm o0, o3, Ne.symm o3, o6, Ne.symm o6, o10, Ne.symm o10, o11, Ne.symm o11, o12, Ne.symm o12, o13, Ne.symm o13, o17, Ne.symm o17, o18, Ne.symm o18, o19, Ne.symm o19, o20, Ne.symm o20, p4, Ne.symm p4, nx70, nx71, nx72, nx73, nx74, nx75, nx76, nx77, nx78, nx79, nx80, nx81, nx82, hi0, beq_eq_false_iff_ne.2 hi0, hc0]), (by rw [hH]; simp [g0_21, g3_21, g6_21, g10_21, g11_21, g12_21, g13_21, g17_21, g18_21, g19_21, g20_21, gm1_21, grs_21, gk11_21, hst_21, nx1, nx2, nx3, nx4, nx5, nx6, nx7, nx8, nx9, nx10, nx11, o0, Ne.symm o0, o3, Ne.symm o3, o6, Ne.symm o6, o10, Ne.symm o10, o11, Ne.symm o11, o12, Ne.symm o12, o13, Ne.symm o13, o17, Ne.symm o17, o18, Ne.symm o18, o19, Ne.symm o19, o20, Ne.symm o20, p4, Ne.symm p4, nx70, nx71, nx72, nx73, nx74, nx75, nx76, nx77, nx78, nx79, nx80, nx81, nx82, hi0, beq_eq_false_iff_ne.2 hi0, hc0, g20_5]), (by rw [hH]; simp [g0_21, g3_21, g6_21, g10_21, g11_21, g12_21, g13_21, g17_21, g18_21, g19_21, g20_21, gm1_21, grs_21, gk11_21, hst_21, nx1, nx2, nx3, nx4, nx5, nx6, nx7, nx8, nx9, nx10, nx11, o0, Ne.symm o0, o3, Ne.symm o3, o6, Ne.symm o6, o10, Ne.symm o10, o11, Ne.symm o11, o12, Ne.symm o12, o13, Ne.symm o13, o17, Ne.symm o17, o18, Ne.symm o18, o19, Ne.symm o19, o20, Ne.symm o20, p4, Ne.symm p4, nx70, nx71, nx72, nx73, nx74, nx75, nx76, nx77, nx78, nx79, nx80, nx81, nx82, hi0, beq_eq_false_iff_ne.2 hi0, hc0, gm1_5]), (by rw [hH]; simp [g0_21, g3_21, g6_21, g10_21, g11_21, g12_21, g13_21, g17_21, g18_21, g19_21, g20_21, gm1_21, grs_21, gk11_21, hst_21, nx1, nx2, nx3, nx4, nx5, nx6, nx7, nx8, nx9, nx10, nx11, o0, Ne.symm o0, o3, Ne.symm o3, o6, Ne.symm o6, o10, Ne.symm o10, o11, Ne.symm o11, o12, Ne.symm o12, o13, Ne.symm o13, o17, Ne.symm o17, o18, Ne.symm o18, o19, Ne.symm o19, o20, Ne.symm o20, p4, Ne.symm p4, nx70, nx71, nx72, nx73, nx74, nx75, nx76, nx77, nx78, nx79, nx80, nx81, nx82, hi0, beq_eq_false_iff_ne.2 hi0, hc0]), ((congrArg AHeap.st hH).trans (hst_21.trans hst_5.symm)), ?_, ?_⟩
     ·exact d1.cross hti hnr hn0 hyr hye hi0 hc0
     ·intro j hj
      rw [hkeep j (hjL j hj), kk j hj.2.2.1, hka j (hjL j hj), d2 j hj]
    ·skip
     refine stp_reg TT_ok (by rfl) fun K hK => ?_
     simp [h7_19, h10_19, g0_14, g3_14, g6_14, g10_14, g11_14, g12_14, g13_14, g17_14, g18_14, g19_14, g20_14, gm1_14, grs_14, gk11_14, nx1, nx2, nx3, nx4, nx5, nx6, nx7, nx8, nx9, nx10, nx11, o0, Ne.symm o0, o3, Ne.symm o3, o6, Ne.symm o6, o10, Ne.symm o10, o11, Ne.symm o11, o12, Ne.symm o12, o13, Ne.symm o13, o17, Ne.symm o17, o18, Ne.symm o18, o19, Ne.symm o19, o20, Ne.symm o20, p4, Ne.symm p4, nx70, nx71, nx72, nx73, nx74, nx75, nx76, nx77, nx78, nx79, nx80, nx81, nx82, hi0, beq_eq_false_iff_ne.2 hi0, hc0, y1, y2, y3, hc2, gt_elem y6]
     try refine And.intro (by first | omega | rfl) ?_
     refine hK _ _ fun σ23 hσ H23 hH => ?_
     clear hK K
     obtain ⟨h2_23, h3_23, h9_23, h10_23, h54_23⟩ := fs5 hσ 2 3 9 10 54
     simp [h2_19, h3_19, h9_19, h10_19] at h2_23 h3_23 h9_23 h10_23 h54_23
     clear hσ
     replace hH : H13 = H23 := Eq.symm hH
     subst hH
     refine stp_false (by simp [aeval_tmp, h54_23, nx1, nx2, nx3, nx4, nx5, nx6, nx7, nx8, nx9, nx10, nx11, o0, Ne.symm o0, o3, Ne.symm o3, o6, Ne.symm o6, o10, Ne.symm o10, o11, Ne.symm o11, o12, Ne.symm o12, o13, Ne.symm o13, o17, Ne.symm o17, o18, Ne.symm o18, o19, Ne.symm o19, o20, Ne.symm o20, p4, Ne.symm p4, nx70, nx71, nx72, nx73, nx74, nx75, nx76, nx77, nx78, nx79, nx80, nx81, nx82, hi0, beq_eq_false_iff_ne.2 hi0, hc0]) ?_
     refine awp_skip ?_
     refine q_block ?_
     refine q_rb gk11_14 fun H24 hH => ?_
     have hkeep : ∀ j, j ≠ k11 → H24.get j = H13.get j := fun j hj => by rw [hH, put_getH, if_neg hj]
     have hjL : ∀ j, Frm H0 sv j → j ≠ k11 := fun j hj e => by
      have h1 := hj.1
      rw [← (p2 j hj).1, e, hf_k11] at h1; exact h1 rfl
     refine ⟨s2, gs2, rest2, (by rw [hH]; simp [g0_14, g3_14, g6_14, g10_14, g11_14, g12_14, g13_14, g17_14, g18_14, g19_14, g20_14, gm1_14, grs_14, gk11_14, hst_14, nx1, nx2, nx3, nx4, nx5, nx6, nx7, nx8, nx9, nx10, nx11, o0, Ne.symm o0, o3, Ne.symm o3, o6, Ne.symm o6, o10, Ne.symm o10, o11, Ne.symm o11, o12, Ne.symm o12, o13, Ne.symm o13, o17, Ne.symm o17, o18, Ne.symm o18, o19, Ne.symm o19, o20, Ne.symm o20, p4, Ne.symm p4, nx70, nx71, nx72, nx73, nx74, nx75, nx76, nx77, nx78, nx79, nx80, nx81, nx82, hi0, beq_eq_false_iff_ne.2 hi0, hc0, g0_5]), (by rw [hH]; simp [g0_14, g3_14, g6_14, g10_14, g11_14, g12_14, g13_14, g17_14, g18_14, g19_14, g20_14, gm1_14, grs_14, gk11_14, hst_14, nx1, nx2, nx3, nx4, nx5, nx6, nx7, nx8, nx9, nx10, nx11, o0, Ne.symm o0, o3, Ne.symm o3, o6, Ne.symm o6, o10, Ne.symm o10, o11, Ne.symm o11, o12, Ne.symm o12, o13, Ne.symm o13, o17, Ne.symm o17, o18, Ne.symm o18, o19, Ne.symm o19, o20, Ne.symm o20, p4, Ne.symm p4, nx70, nx71, nx72, nx73, nx74, nx75, nx76, nx77, nx78, nx79, nx80, nx81, nx82, hi0, beq_eq_false_iff_ne.2 hi0, hc0]), (by rw [hH]; simp [g0_14, g3_14, g6_14, g10_14, g11_14, g12_14, g13_14, g17_14, g18_14, g19_14, g20_14, gm1_14, grs_14, gk11_14, hst_14, nx1, nx2, nx3, nx4, nx5, nx6, nx7, nx8, nx9, nx10, nx11, o0, Ne.symm o0, o3, Ne.symm o3, o6, Ne.symm o6, o10, Ne.symm o10, o11, Ne.symm o11, o12, Ne.symm o12, o13, Ne.symm o13, o17, Ne.symm o17, o18, Ne.symm o18, o19, Ne.symm o19, o20, Ne.symm o20, p4, Ne.symm p4, nx70, nx71, nx72, nx73, nx74, nx75, nx76, nx77, nx78, nx79, nx80, nx81, nx82, hi0, beq_eq_false_iff_ne.2 hi0, hc0]), (by rw [hH]; simp [g0_14, g3_14, g6_14, g10_14, g11_14, g12_14, g13_14, g17_14, g18_14, g19_14, g20_14, gm1_14, grs_14, gk11_14, hst_14, nx1, nx2, nx3, nx4, nx5, nx6, nx7, nx8, nx9, nx10, nx11, o0, Ne.symm o0, o3, Ne.symm o3, o6, Ne.symm o6, o10, Ne.symm o10, o11, Ne.symm o11, o12, Ne.symm o12, o13, Ne.symm o13, o17, Ne.symm o17, o18, Ne.symm o18, o19, Ne.symm o19, o20, Ne.symm o20, p4, Ne.symm p4, nx70, nx71, nx72, nx73, nx74, nx75, nx76, nx77, nx78, nx79, nx80, nx81, nx82, hi0, beq_eq_false_iff_ne.2 hi0, hc0]), (by rw [hH]; simp [g0_14, g3_14, g6_14, g10_14, g11_14, g12_14, g13_14, g17_14, g18_14, g19_14, g20_14, gm1_14, grs_14, gk11_14, hst_14, nx1, nx2, nx3, nx4, nx5, nx6, nx7, nx8, nx9, nx10, nx11, o0, Ne.symm o0, o3, Ne.symm o3, o6, Ne.symm o6, o10, Ne.symm o10, o11, Ne.symm o11, o12, Ne.symm o12, o13, Ne.symm o13, o17, Ne.symm o17, o18, Ne.symm o18, o19, Ne.symm o19, o20, Ne.symm o20, p4, Ne.symm p4, nx70, nx71, nx72, nx73, nx74, nx75, nx76, nx77, nx78, nx79, nx80, nx81, nx82, hi0, beq_eq_false_iff_ne.2 hi0, hc0, g11_5]), (by rw [hH]; simp [g0_14, g3_14, g6_14, g10_14, g11_14, g12_14, g13_14, g17_14, g18_14, g19_14, g20_14, gm1_14, grs_14, gk11_14, hst_14, nx1, nx2, nx3, nx4, nx5, nx6, nx7, nx8, nx9, nx10, nx11, o0, Ne.symm o0, o3, Ne.symm o3, o6, Ne.symm o6, o10, Ne.symm o10, o11, Ne.symm o11, o12, Ne.symm o12, o13, Ne.symm o13, o17, Ne.symm o17, o18, Ne.symm o18, o19, Ne.symm o19, o20, Ne.symm o20, p4, Ne.symm p4, nx70, nx71, nx72, nx73, nx74, nx75, nx76, nx77, nx78, nx79, nx80, nx81, nx82, hi0, beq_eq_false_iff_ne.2 hi0, hc0, g12_5]), (by rw [hH]; simp [g0_14, g3_14, g6_14, g10_14, g11_14, g12_14, g13_14, g17_14, g18_14, g19_14, g20_14, gm1_14, grs_14, gk11_14, hst_14, nx1, nx2, nx3, nx4, nx5, nx6, nx7, nx8, nx9, nx10, nx11, o0, Ne.symm o0, o3, Ne.symm o3, o6, Ne.symm o6, o10, Ne.symm o10, o11, Ne.symm o11, o12, Ne.symm o12, o13, Ne.symm o13, o17, Ne.symm o17, o18, Ne.symm o18, o19, Ne.symm o19, o20, Ne.symm o20, p4, Ne.symm p4, nx70, nx71, nx72, nx73, nx74, nx75, nx76, nx77, nx78, nx79, nx80, nx81, nx82, hi0, beq_eq_false_iff_ne.2 hi0, hc0, g13_5]), (by rw [hH]; simp [g0_14, g3_14, g6_14, g10_14, g11_14, g12_14, g13_14, g17_14, g18_14, g19_14, g20_14, gm1_14, grs_14, gk11_14, hst_14, nx1, nx2, nx3, nx4, nx5, nx6, nx7, nx8, nx9, nx10, nx11, o0, Ne.symm o0, o3, Ne.symm o3, o6, Ne.symm o6, o10, Ne.symm o10, o11, Ne.symm o11, o12, Ne.symm o12, o13, Ne.symm o13, o17, Ne.symm o17, o18, Ne.symm o18, o19, Ne.symm o19, o20, Ne.symm o20, p4, Ne.symm p4, nx70, nx71, nx72, nx73, nx74, nx75, nx76, nx77, nx78, nx79, nx80, nx81, nx82, hi0, beq_eq_false_iff_ne.2 hi0, hc0]), (by rw [hH]; simp [g0_14, g3_14, g6_14, g10_14, g11_14, g12_14, g13_14, g17_14, g18_14, g19_14, g20_14, gm1_14, grs_14, gk11_14, hst_14, nx1, nx2, nx3, nx4, nx5, nx6, nx7, nx8, nx9, nx10, nx11, o0, Ne.symm o0, o3, Ne.symm o3, o6, Ne.symm o6, o10, Ne.symm o10, o11, Ne.symm o11, o12, Ne.symm o12, o13, Ne.symm o13, o17, Ne.symm o17, o18, Ne.symm o18, o19, Ne.symm o19, o20, Ne.symm o20, p4, Ne.symm p4, nx70, nx71, nx72, nx73, nx74, nx75, nx76, nx77, nx78, nx79, nx80, nx81, nx82, hi0, beq_eq_false_iff_ne.2 hi0, hc0]), (by rw [hH]; simp [g0_14, g3_14, g6_14, g10_14, g11_14, g12_14, g13_14, g17_14, g18_14, g19_14, g20_14, gm1_14, grs_14, gk11_14, hst_14, nx1, nx2, nx3, nx4, nx5, nx6, nx7, nx8, nx9, nx10, nx11, o0, Ne.symm o0, o3, Ne.symm o3, o6, Ne.symm o6, o10, Ne.symm o10, o11, Ne.symm o11, o12, Ne.symm o12, o13, Ne.symm o13, o17, Ne.symm o17, o18, Ne.symm o18, o19, Ne.symm o19, o20, Ne.symm o20, p4, Ne.symm p4, nx70, nx71, nx72, nx73, nx74, nx75, nx76, nx77, nx78, nx79, nx80, nx81, nx82, hi0, beq_eq_false_iff_ne.2 hi0, hc0]), (by rw [hH]; simp [g0_14, g3_14, g6_14, g10_14, g11_14, g12_14, g13_14, g17_14, g18_14, g19_14, g20_14, gm1_14, grs_14, gk11_14, hst_14, nx1, nx2, nx3, nx4, nx5, nx6, nx7, nx8, nx9, nx10, nx11, o0, Ne.symm o0, o3, Ne.symm o3, o6, Ne.symm o6, o10, Ne.symm o10, o11, Ne.symm o11, o12, Ne.symm o12, o13, Ne.symm o13, o17, Ne.symm o17, o18, Ne.symm o18, o19, Ne.symm o19, o20, Ne.symm o20, p4, Ne.symm p4, nx70, nx71, nx72, nx73, nx74, nx75, nx76, nx77, nx78, nx79, nx80, nx81, nx82, hi0, beq_eq_false_iff_ne.2 hi0, hc0, g20_5]), (by rw [hH]; simp [g0_14, g3_14, g6_14, g10_14, g11_14, g12_14, g13_14, g17_14, g18_14, g19_14, g20_14, gm1_14, grs_14, gk11_14, hst_14, nx1, nx2, nx3, nx4, nx5, nx6, nx7, nx8, nx9, nx10, nx11, o0, Ne.symm o0, o3, Ne.symm o3, o6, Ne.symm o6, o10, Ne.symm o10, o11, Ne.symm o11, o12, Ne.symm o12, o13, Ne.symm o13, o17, Ne.symm o17, o18, Ne.symm o18, o19, Ne.symm o19, o20, Ne.symm o20, p4, Ne.symm p4, nx70, nx71, nx72, nx73, nx74, nx75, nx76, nx77, nx78, nx79, nx80, nx81, nx82, hi0, beq_eq_false_iff_ne.2 hi0, hc0, gm1_5]), (by rw [hH]; simp [g0_14, g3_14, g6_14, g10_14, g11_14, g12_14, g13_14, g17_14, g18_14, g19_14, g20_14, gm1_14, grs_14, gk11_14, hst_14, nx1, nx2, nx3, nx4, nx5, nx6, nx7, nx8, nx9, nx10, nx11, o0, Ne.symm o0, o3, Ne.symm o3, o6, Ne.symm o6, o10, Ne.symm o10, o11, Ne.symm o11, o12, Ne.symm o12, o13, Ne.symm o13, o17, Ne.symm o17, o18, Ne.symm o18, o19, Ne.symm o19, o20, Ne.symm o20, p4, Ne.symm p4, nx70, nx71, nx72, nx73, nx74, nx75, nx76, nx77, nx78, nx79, nx80, nx81, nx82, hi0, beq_eq_false_iff_ne.2 hi0, hc0]), ((congrArg AHeap.st hH).trans (hst_14.trans hst_5.symm)), ?_, ?_⟩
     ·exact d1.done hyr hi0 (by omega)
     ·intro j hj
      rw [hkeep j (hjL j hj), hka j (hjL j hj), d2 j hj]
  ·rintro rdy b11 H11 ⟨s2, gs2, rest2, qg0_11, g3_11, g6_11, g10_11, qg11_11, qg12_11, qg13_11, g17_11, g18_11, g19_11, qg20_11, qgm1_11, grs_11, qst_11, d1, d2⟩ hrdy_11 Hd11 hH
   have g0_11 := qg0_11.trans g0_5
   have g11_11 := qg11_11.trans g11_5
   have g12_11 := qg12_11.trans g12_5
   have g13_11 := qg13_11.trans g13_5
   have g20_11 := qg20_11.trans g20_5
   have gm1_11 := qgm1_11.trans gm1_5
   have hst_11 := qst_11.trans hst_5
   have hkeep : ∀ j, j ≠ k11 → Hd11.get j = H11.get j := fun j hj => by rw [hH, put_getH, if_neg hj]
   have g0_25 := gt_of hH 0
   have g3_25 := gt_of hH 3
   have g6_25 := gt_of hH 6
   have g10_25 := gt_of hH 10
   have g11_25 := gt_of hH 11
   have g12_25 := gt_of hH 12
   have g13_25 := gt_of hH 13
   have g17_25 := gt_of hH 17
   have g18_25 := gt_of hH 18
   have g19_25 := gt_of hH 19
   have g20_25 := gt_of hH 20
   have gm1_25 := gt_of hH m1
   have grs_25 := gt_of hH rs
   simp [g0_11, g3_11, g6_11, g10_11, g11_11, g12_11, g13_11, g17_11, g18_11, g19_11, g20_11, gm1_11, grs_11, hst_11, nx1, nx2, nx3, nx4, nx5, nx6, nx7, nx8, nx9, nx10, nx11, o0, Ne.symm o0, o3, Ne.symm o3, o6, Ne.symm o6, o10, Ne.symm o10, o11, Ne.symm o11, o12, Ne.symm o12, o13, Ne.symm o13, o17, Ne.symm o17, o18, Ne.symm o18, o19, Ne.symm o19, o20, Ne.symm o20, p4, Ne.symm p4, nx70, nx71, nx72, nx73, nx74, nx75, nx76, nx77, nx78, nx79, nx80, nx81, nx82] at g0_25 g3_25 g6_25 g10_25 g11_25 g12_25 g13_25 g17_25 g18_25 g19_25 g20_25 gm1_25 grs_25
   have hst_25 : Hd11.st = _ := (congrArg AHeap.st hH).trans hst_11
   have hjL : ∀ j, Frm H0 sv j → j ≠ k11 := fun j hj e => by
    have h1 := hj.1
    rw [← (p2 j hj).1, e, hf_k11] at h1; exact h1 rfl
   have d3 : ∀ j, Frm H0 sv j → Hd11.get j = H0.get j := fun j hj => (hkeep j (hjL j hj)).trans (d2 j hj)
   rw [geL0_succ hv] at d1
   have hall : ∀ w, (n, w) ∈ g.edges → w ∈ g.succ n.toNat := fun w hw => by rw [succ_mem hv, toNat_cast hnr]; exact hw
   have hng : n ∉ gray := fun h => ((hti.stk n).1 (hti.gin n h)).2.1 hn0
   have hi2 := d1.inv.il
   have hl2 := d1.inv.ll
   have hc2 := d1.inv.cl
   have x4 : n.toNat < s2.low.length := by omega
   have x5 : n.toNat < s2.idx.length := by omega
   have x6 : n.toNat < s2.cmp.length := by omega
   clear hH
   refine q_block ?_
   refine q_seq ?_
   refine awp_seq ?_
   by_cases hlt : gt s2.low n < gt s2.idx n
   ·skip
    refine stp_lex false TT_ok mixed (by rfl) (by rfl) (by kernel_rfl) (by rfl) fun U hU K hK => ?_
    simp [h2_10, h3_10, h9_10, g0_25, g3_25, g6_25, g10_25, g11_25, g12_25, g13_25, g17_25, g18_25, g19_25, g20_25, gm1_25, grs_25, nx1, nx2, nx3, nx4, nx5, nx6, nx7, nx8, nx9, nx10, nx11, o0, Ne.symm o0, o3, Ne.symm o3, o6, Ne.symm o6, o10, Ne.symm o10, o11, Ne.symm o11, o12, Ne.symm o12, o13, Ne.symm o13, o17, Ne.symm o17, o18, Ne.symm o18, o19, Ne.symm o19, o20, Ne.symm o20, p4, Ne.symm p4, nx70, nx71, nx72, nx73, nx74, nx75, nx76, nx77, nx78, nx79, nx80, nx81, nx82, hlt, x1, x2, x3, x4, x5, hi2, hl2, gt_elem x4, gt_elem x5]
    try refine And.intro (by first | omega | rfl) ?_
    refine hK _ _ _ (by subst hU; kernel_rfl) fun σ26 hσ H26 hH => ?_
    clear hK K hU U
    obtain ⟨h4_26, h7_26, h8_26, h9_26, h75_26⟩ := fs5 hσ 4 7 8 9 75
    simp [h4_10, h7_10, h8_10, h9_10] at h4_26 h7_26 h8_26 h9_26 h75_26
    clear hσ
    replace hH : Hd11 = H26 := Eq.symm hH
    subst hH
    refine stp_true (by simp [aeval_tmp, h75_26, nx1, nx2, nx3, nx4, nx5, nx6, nx7, nx8, nx9, nx10, nx11, o0, Ne.symm o0, o3, Ne.symm o3, o6, Ne.symm o6, o10, Ne.symm o10, o11, Ne.symm o11, o12, Ne.symm o12, o13, Ne.symm o13, o17, Ne.symm o17, o18, Ne.symm o18, o19, Ne.symm o19, o20, Ne.symm o20, p4, Ne.symm p4, nx70, nx71, nx72, nx73, nx74, nx75, nx76, nx77, nx78, nx79, nx80, nx81, nx82, hlt]) ?_
    refine awp_ret ?_
    refine q_seq_ret ?_
    refine q_fin0r ?_
    exact ⟨rfl, s2, .sl rs gs2 0 s2.stk.length, d1.ret hv hti hnr hn0 hng hall hlt, .inr ⟨rs, gs2, rest2, rfl, grs_25, hnok⟩, ⟨g0_25, g3_25, g6_25, g10_25, g11_25, g12_25, g13_25, g17_25, g18_25, g19_25, g20_25⟩, fun j hj => ⟨d3 j hj, fun gg m e => (p2 j hj).2 (by cases e; rfl)⟩, fun id gg m e => ⟨gs2, _, by rw [p3 id gg m e]⟩, hst_25⟩
   ·skip
    refine stp_lex false TT_ok mixed (by rfl) (by rfl) (by kernel_rfl) (by rfl) fun U hU K hK => ?_
    simp [h2_10, h3_10, h9_10, g0_25, g3_25, g6_25, g10_25, g11_25, g12_25, g13_25, g17_25, g18_25, g19_25, g20_25, gm1_25, grs_25, nx1, nx2, nx3, nx4, nx5, nx6, nx7, nx8, nx9, nx10, nx11, o0, Ne.symm o0, o3, Ne.symm o3, o6, Ne.symm o6, o10, Ne.symm o10, o11, Ne.symm o11, o12, Ne.symm o12, o13, Ne.symm o13, o17, Ne.symm o17, o18, Ne.symm o18, o19, Ne.symm o19, o20, Ne.symm o20, p4, Ne.symm p4, nx70, nx71, nx72, nx73, nx74, nx75, nx76, nx77, nx78, nx79, nx80, nx81, nx82, hlt, x1, x2, x3, x4, x5, hi2, hl2, gt_elem x4, gt_elem x5]
    try refine And.intro (by first | omega | rfl) ?_
    refine hK _ _ _ (by subst hU; kernel_rfl) fun σ27 hσ H27 hH => ?_
    clear hK K hU U
    obtain ⟨h4_27, h7_27, h8_27, h9_27, h75_27⟩ := fs5 hσ 4 7 8 9 75
    simp [h4_10, h7_10, h8_10, h9_10] at h4_27 h7_27 h8_27 h9_27 h75_27
    clear hσ
    replace hH : Hd11 = H27 := Eq.symm hH
    subst hH
    refine stp_false (by simp [aeval_tmp, h75_27, nx1, nx2, nx3, nx4, nx5, nx6, nx7, nx8, nx9, nx10, nx11, o0, Ne.symm o0, o3, Ne.symm o3, o6, Ne.symm o6, o10, Ne.symm o10, o11, Ne.symm o11, o12, Ne.symm o12, o13, Ne.symm o13, o17, Ne.symm o17, o18, Ne.symm o18, o19, Ne.symm o19, o20, Ne.symm o20, p4, Ne.symm p4, nx70, nx71, nx72, nx73, nx74, nx75, nx76, nx77, nx78, nx79, nx80, nx81, nx82, hlt]) ?_
    refine awp_skip ?_
    refine q_seq ?_
    refine awp_seq ?_
    refine awp_block ?_
    obtain ⟨seg, hseg, _, _⟩ := d1.seg
    have hsl2 : s2.stk.length = s.stk.length + seg.length + 1 := by rw [hseg]; simp; omega
    have hs2l := d1.inv.stkLen
    have hsg : ∀ v ∈ seg, inR g.nodes.length v ∧ v ≠ n := fun v hv2 => by
     have h1 := (d1.inv.stk v).1 (by rw [hseg]; simp [hv2])
     refine ⟨h1.1, fun e => ?_⟩
     have h2 := d1.inv.sorted
     rw [hseg] at h2
     have h3 := (List.pairwise_cons.1 (List.pairwise_append.1 h2).2.1).1 v hv2
     rw [e] at h3; omega
    rw [hsl2] at g17_25
    refine awp_loopV (fun n σ' H' => ∃ (sg : List Int) (pp : List Int) (cm : List Int) (ln : Nat), n = sg.length ∧ σ' 4 = σ27 4 ∧ σ' 7 = σ27 7 ∧ σ' 8 = σ27 8 ∧ σ' 9 = σ27 9 ∧ H'.get 0 = Hd11.get 0 ∧ H'.get 3 = Hd11.get 3 ∧ H'.get 6 = Hd11.get 6 ∧ H'.get 10 = some (.row 3 1 0 (cm.map (AV.int IntKind.i64))) ∧ H'.get 11 = Hd11.get 11 ∧ H'.get 12 = Hd11.get 12 ∧ H'.get 13 = Hd11.get 13 ∧ H'.get 17 = some (.row 26 1 0 [.sl rs gs2 0 (ln + 1)]) ∧ H'.get 18 = Hd11.get 18 ∧ H'.get 19 = Hd11.get 19 ∧ H'.get 20 = Hd11.get 20 ∧ H'.get m1 = Hd11.get m1 ∧ H'.get rs = Hd11.get rs ∧ H'.st = Hd11.st ∧ (seg = sg ++ pp) ∧ (ln = s.stk.length + sg.length) ∧ (cm.length = g.nodes.length) ∧ (∀ v, inR g.nodes.length v → gt cm v = if v ∈ pp then s2.cnt else gt s2.cmp v) ∧ (∀ j, Frm H0 sv j → H'.get j = H0.get j)) ?_ ?_
    ·refine ⟨_, seg, [], s2.cmp, s.stk.length + seg.length, rfl, rfl, rfl, rfl, rfl, rfl, rfl, rfl, (by simp [g10_25]), rfl, rfl, rfl, (by simp [g17_25]), rfl, rfl, rfl, rfl, rfl, rfl, ?_, ?_, ?_, ?_, ?_⟩
     ·simp
     ·rfl
     ·exact hc2
     ·intro v _; simp
     ·exact d3
    ·rintro n2 σ28 H28 ⟨sg, pp, cm, ln, hn2, q4_28, q7_28, q8_28, q9_28, qg0_28, qg3_28, qg6_28, g10_28, qg11_28, qg12_28, qg13_28, g17_28, qg18_28, qg19_28, qg20_28, qgm1_28, qgrs_28, qst_28, r1, r2, r3, r4, r5⟩
     have h4_28 := q4_28.trans h4_27
     have h7_28 := q7_28.trans h7_27
     have h8_28 := q8_28.trans h8_27
     have h9_28 := q9_28.trans h9_27
     have g0_28 := qg0_28.trans g0_25
     have g3_28 := qg3_28.trans g3_25
     have g6_28 := qg6_28.trans g6_25
     have g11_28 := qg11_28.trans g11_25
     have g12_28 := qg12_28.trans g12_25
     have g13_28 := qg13_28.trans g13_25
     have g18_28 := qg18_28.trans g18_25
     have g19_28 := qg19_28.trans g19_25
     have g20_28 := qg20_28.trans g20_25
     have gm1_28 := qgm1_28.trans gm1_25
     have grs_28 := qgrs_28.trans grs_25
     have hst_28 := qst_28.trans hst_25
     have hcx : n.toNat < cm.length := by omega
     have hr1 := congrArg List.length r1
     rw [List.length_append] at hr1
     have hln0 : ln ≤ 1024 := by omega
     refine awp_block ?_
     rcases List.eq_nil_or_concat sg with rfl | ⟨sg1, y, rfl⟩
     ·skip
      have hel : (s2.stk.map (AV.int IntKind.i64) ++ rest2)[ln]? = some ((AV.int IntKind.i64) n) := by
       rw [hseg, r2]; simp
      refine stp_reg TT_ok (by rfl) fun K hK => ?_
      simp [h4_28, g0_28, g3_28, g6_28, g10_28, g11_28, g12_28, g13_28, g17_28, g18_28, g19_28, g20_28, gm1_28, grs_28, nx1, nx2, nx3, nx4, nx5, nx6, nx7, nx8, nx9, nx10, nx11, o0, Ne.symm o0, o3, Ne.symm o3, o6, Ne.symm o6, o10, Ne.symm o10, o11, Ne.symm o11, o12, Ne.symm o12, o13, Ne.symm o13, o17, Ne.symm o17, o18, Ne.symm o18, o19, Ne.symm o19, o20, Ne.symm o20, p4, Ne.symm p4, nx70, nx71, nx72, nx73, nx74, nx75, nx76, nx77, nx78, nx79, nx80, nx81, nx82, hlt, hel, show (ln : Int) < ln + 1 by omega, wrap_ok (n := (ln : Int)) (by omega) (by omega)]
      try refine And.intro (by first | omega | rfl) ?_
      refine hK _ _ fun σ29 hσ H29 hH => ?_
      clear hK K
      obtain ⟨h4_29, h7_29, h8_29, h9_29, h11_29⟩ := fs5 hσ 4 7 8 9 11
      simp [h4_28, h7_28, h8_28, h9_28] at h4_29 h7_29 h8_29 h9_29 h11_29
      clear hσ
      replace hH : H28 = H29 := Eq.symm hH
      subst hH
      refine stp_reg TT_ok (by rfl) fun K hK => ?_
      simp [h4_29, g0_28, g3_28, g6_28, g10_28, g11_28, g12_28, g13_28, g17_28, g18_28, g19_28, g20_28, gm1_28, grs_28, nx1, nx2, nx3, nx4, nx5, nx6, nx7, nx8, nx9, nx10, nx11, o0, Ne.symm o0, o3, Ne.symm o3, o6, Ne.symm o6, o10, Ne.symm o10, o11, Ne.symm o11, o12, Ne.symm o12, o13, Ne.symm o13, o17, Ne.symm o17, o18, Ne.symm o18, o19, Ne.symm o19, o20, Ne.symm o20, p4, Ne.symm p4, nx70, nx71, nx72, nx73, nx74, nx75, nx76, nx77, nx78, nx79, nx80, nx81, nx82, hlt, wrap_ok (n := (ln : Int)) (by omega) (by omega)]
      try refine And.intro (by first | omega | rfl) ?_
      refine hK _ _ fun σ30 hσ H30 hH => ?_
      clear hK K
      obtain ⟨h4_30, h7_30, h8_30, h9_30, h11_30⟩ := fs5 hσ 4 7 8 9 11
      simp [h4_29, h7_29, h8_29, h9_29, h11_29] at h4_30 h7_30 h8_30 h9_30 h11_30
      clear hσ
      have g0_30 := gt_of hH 0
      have g3_30 := gt_of hH 3
      have g6_30 := gt_of hH 6
      have g10_30 := gt_of hH 10
      have g11_30 := gt_of hH 11
      have g12_30 := gt_of hH 12
      have g13_30 := gt_of hH 13
      have g17_30 := gt_of hH 17
      have g18_30 := gt_of hH 18
      have g19_30 := gt_of hH 19
      have g20_30 := gt_of hH 20
      have gm1_30 := gt_of hH m1
      have grs_30 := gt_of hH rs
      simp [g0_28, g3_28, g6_28, g10_28, g11_28, g12_28, g13_28, g17_28, g18_28, g19_28, g20_28, gm1_28, grs_28, hst_28, nx1, nx2, nx3, nx4, nx5, nx6, nx7, nx8, nx9, nx10, nx11, o0, Ne.symm o0, o3, Ne.symm o3, o6, Ne.symm o6, o10, Ne.symm o10, o11, Ne.symm o11, o12, Ne.symm o12, o13, Ne.symm o13, o17, Ne.symm o17, o18, Ne.symm o18, o19, Ne.symm o19, o20, Ne.symm o20, p4, Ne.symm p4, nx70, nx71, nx72, nx73, nx74, nx75, nx76, nx77, nx78, nx79, nx80, nx81, nx82, hlt] at g0_30 g3_30 g6_30 g10_30 g11_30 g12_30 g13_30 g17_30 g18_30 g19_30 g20_30 gm1_30 grs_30
      have hst_30 := congrArg AHeap.st hH
      simp [hst_28] at hst_30
      have ka : ∀ j, j ≠ 17 → H30.get j = H28.get j := fun j h1 => by rw [hH]; simp [h1]
      clear hH
      refine stp_reg TT_ok (by rfl) fun K hK => ?_
      simp [h7_30, h8_30, h11_30, g0_30, g3_30, g6_30, g10_30, g11_30, g12_30, g13_30, g17_30, g18_30, g19_30, g20_30, gm1_30, grs_30, nx1, nx2, nx3, nx4, nx5, nx6, nx7, nx8, nx9, nx10, nx11, o0, Ne.symm o0, o3, Ne.symm o3, o6, Ne.symm o6, o10, Ne.symm o10, o11, Ne.symm o11, o12, Ne.symm o12, o13, Ne.symm o13, o17, Ne.symm o17, o18, Ne.symm o18, o19, Ne.symm o19, o20, Ne.symm o20, p4, Ne.symm p4, nx70, nx71, nx72, nx73, nx74, nx75, nx76, nx77, nx78, nx79, nx80, nx81, nx82, hlt, x1, x2, x3, hcx, r3]
      try refine And.intro (by first | omega | rfl) ?_
      refine hK _ _ fun σ31 hσ H31 hH => ?_
      clear hK K
      obtain ⟨h4_31, h7_31, h8_31, h9_31, h11_31⟩ := fs5 hσ 4 7 8 9 11
      simp [h4_30, h7_30, h8_30, h9_30, h11_30] at h4_31 h7_31 h8_31 h9_31 h11_31
      clear hσ
      have g0_31 := gt_of hH 0
      have g3_31 := gt_of hH 3
      have g6_31 := gt_of hH 6
      have g10_31 := gt_of hH 10
      have g11_31 := gt_of hH 11
      have g12_31 := gt_of hH 12
      have g13_31 := gt_of hH 13
      have g17_31 := gt_of hH 17
      have g18_31 := gt_of hH 18
      have g19_31 := gt_of hH 19
      have g20_31 := gt_of hH 20
      have gm1_31 := gt_of hH m1
      have grs_31 := gt_of hH rs
      simp [g0_30, g3_30, g6_30, g10_30, g11_30, g12_30, g13_30, g17_30, g18_30, g19_30, g20_30, gm1_30, grs_30, hst_30, nx1, nx2, nx3, nx4, nx5, nx6, nx7, nx8, nx9, nx10, nx11, o0, Ne.symm o0, o3, Ne.symm o3, o6, Ne.symm o6, o10, Ne.symm o10, o11, Ne.symm o11, o12, Ne.symm o12, o13, Ne.symm o13, o17, Ne.symm o17, o18, Ne.symm o18, o19, Ne.symm o19, o20, Ne.symm o20, p4, Ne.symm p4, nx70, nx71, nx72, nx73, nx74, nx75, nx76, nx77, nx78, nx79, nx80, nx81, nx82, hlt] at g0_31 g3_31 g6_31 g10_31 g11_31 g12_31 g13_31 g17_31 g18_31 g19_31 g20_31 gm1_31 grs_31
      have hst_31 := congrArg AHeap.st hH
      simp [hst_30] at hst_31
      have kb : ∀ j, j ≠ 10 → H31.get j = H30.get j := fun j h1 => by rw [hH]; simp [h1]
      clear hH
      refine stp_reg TT_ok (by rfl) fun K hK => ?_
      simp [h9_31, h11_31, g0_31, g3_31, g6_31, g10_31, g11_31, g12_31, g13_31, g17_31, g18_31, g19_31, g20_31, gm1_31, grs_31, nx1, nx2, nx3, nx4, nx5, nx6, nx7, nx8, nx9, nx10, nx11, o0, Ne.symm o0, o3, Ne.symm o3, o6, Ne.symm o6, o10, Ne.symm o10, o11, Ne.symm o11, o12, Ne.symm o12, o13, Ne.symm o13, o17, Ne.symm o17, o18, Ne.symm o18, o19, Ne.symm o19, o20, Ne.symm o20, p4, Ne.symm p4, nx70, nx71, nx72, nx73, nx74, nx75, nx76, nx77, nx78, nx79, nx80, nx81, nx82, hlt]
      try refine And.intro (by first | omega | rfl) ?_
      refine hK _ _ fun σ32 hσ H32 hH => ?_
      clear hK K
      obtain ⟨h4_32, h7_32, h8_32, h9_32, h93_32⟩ := fs5 hσ 4 7 8 9 93
      simp [h4_31, h7_31, h8_31, h9_31] at h4_32 h7_32 h8_32 h9_32 h93_32
      clear hσ
      replace hH : H31 = H32 := Eq.symm hH
      subst hH
      refine stp_true (by simp [aeval_tmp, h93_32, nx1, nx2, nx3, nx4, nx5, nx6, nx7, nx8, nx9, nx10, nx11, o0, Ne.symm o0, o3, Ne.symm o3, o6, Ne.symm o6, o10, Ne.symm o10, o11, Ne.symm o11, o12, Ne.symm o12, o13, Ne.symm o13, o17, Ne.symm o17, o18, Ne.symm o18, o19, Ne.symm o19, o20, Ne.symm o20, p4, Ne.symm p4, nx70, nx71, nx72, nx73, nx74, nx75, nx76, nx77, nx78, nx79, nx80, nx81, nx82, hlt]) ?_
      refine awp_exit ?_
      refine q_block_miss rfl ?_
      refine q_loop_exit ?_
      refine q_block_hit ?_
      refine q_seq ?_
      refine stp_regl TT_ok (by rfl) fun K hK => ?_
      simp [h8_32, g0_31, g3_31, g6_31, g10_31, g11_31, g12_31, g13_31, g17_31, g18_31, g19_31, g20_31, gm1_31, grs_31, nx1, nx2, nx3, nx4, nx5, nx6, nx7, nx8, nx9, nx10, nx11, o0, Ne.symm o0, o3, Ne.symm o3, o6, Ne.symm o6, o10, Ne.symm o10, o11, Ne.symm o11, o12, Ne.symm o12, o13, Ne.symm o13, o17, Ne.symm o17, o18, Ne.symm o18, o19, Ne.symm o19, o20, Ne.symm o20, p4, Ne.symm p4, nx70, nx71, nx72, nx73, nx74, nx75, nx76, nx77, nx78, nx79, nx80, nx81, nx82, hlt, wrap_ok (n := s2.cnt + 1) (by have := d1.inv.cn; have := d1.inv.cn0; have := d1.inv.zero; omega) (by have := d1.inv.cn; have := d1.inv.cn0; have := d1.inv.zero; omega)]
      try refine And.intro (by first | omega | rfl) ?_
      refine hK _ _ fun σ33 hσ H33 hH => ?_
      clear hK K
      clear hσ
      have g0_33 := gt_of hH 0
      have g3_33 := gt_of hH 3
      have g6_33 := gt_of hH 6
      have g10_33 := gt_of hH 10
      have g11_33 := gt_of hH 11
      have g12_33 := gt_of hH 12
      have g13_33 := gt_of hH 13
      have g17_33 := gt_of hH 17
      have g18_33 := gt_of hH 18
      have g19_33 := gt_of hH 19
      have g20_33 := gt_of hH 20
      have gm1_33 := gt_of hH m1
      have grs_33 := gt_of hH rs
      simp [g0_31, g3_31, g6_31, g10_31, g11_31, g12_31, g13_31, g17_31, g18_31, g19_31, g20_31, gm1_31, grs_31, hst_31, nx1, nx2, nx3, nx4, nx5, nx6, nx7, nx8, nx9, nx10, nx11, o0, Ne.symm o0, o3, Ne.symm o3, o6, Ne.symm o6, o10, Ne.symm o10, o11, Ne.symm o11, o12, Ne.symm o12, o13, Ne.symm o13, o17, Ne.symm o17, o18, Ne.symm o18, o19, Ne.symm o19, o20, Ne.symm o20, p4, Ne.symm p4, nx70, nx71, nx72, nx73, nx74, nx75, nx76, nx77, nx78, nx79, nx80, nx81, nx82, hlt] at g0_33 g3_33 g6_33 g10_33 g11_33 g12_33 g13_33 g17_33 g18_33 g19_33 g20_33 gm1_33 grs_33
      have hst_33 := congrArg AHeap.st hH
      simp [hst_31] at hst_33
      have kc : ∀ j, j ≠ 19 → H33.get j = H31.get j := fun j h1 => by rw [hH]; simp [h1]
      clear hH
      refine q_fin0 ?_
      have hcmp : ∀ v, inR g.nodes.length v → gt (cm.set n.toNat s2.cnt) v = if v ∈ n :: seg then s2.cnt else gt s2.cmp v := by
       intro v hvr
       rw [gt_set (by rw [r3]; exact hnr) (by rw [r3]; exact hvr), r4 v hvr, r1]
       by_cases e : v = n
       ·subst e; simp
       ·simp [e]
      have hln : ln = s.stk.length := by rw [r2]; simp
      exact ⟨rfl, { s2 with cmp := cm.set n.toNat s2.cnt, stk := s.stk, cnt := s2.cnt + 1 }, .sl rs gs2 0 s.stk.length, d1.close hv hti hnr hn0 hng hall (by omega) hseg (by simpa using r3) hcmp,
       .inr ⟨rs, gs2, (n :: seg).map (AV.int IntKind.i64) ++ rest2, rfl, by rw [grs_33, hseg]; simp, hnok⟩, ⟨g0_33, g3_33, g6_33, by rw [g10_33]; simp, g11_33, g12_33, g13_33, by rw [g17_33, hln], g18_33, g19_33, g20_33⟩,
       fun j hj => ⟨by rw [kc j hj.2.2.2.2.2.2.1, kb j hj.2.2.2.1, ka j hj.2.2.2.2.1, r5 j hj], fun gg m e => (p2 j hj).2 (by cases e; rfl)⟩, fun id gg m e => ⟨gs2, _, by rw [p3 id gg m e]⟩, hst_33⟩
     ·skip
      have hel : (s2.stk.map (AV.int IntKind.i64) ++ rest2)[ln]? = some ((AV.int IntKind.i64) y) := by
       have e : s2.stk.map (AV.int IntKind.i64) ++ rest2 = (s.stk ++ n :: sg1).map (AV.int IntKind.i64) ++ (AV.int IntKind.i64) y :: (pp.map (AV.int IntKind.i64) ++ rest2) := by rw [hseg, r1]; simp
       have e2 : ln = ((s.stk ++ n :: sg1).map (AV.int IntKind.i64)).length := by rw [r2]; simp
       rw [e, List.getElem?_append_right (by omega), e2]; simp
      obtain ⟨hyr, hyn⟩ := hsg y (by rw [r1]; simp)
      obtain ⟨y1, y2⟩ := hyr
      have hcy : y.toNat < cm.length := by omega
      have y3 : y.toNat < g.nodes.length := by omega
      refine stp_reg TT_ok (by rfl) fun K hK => ?_
      simp [h4_28, g0_28, g3_28, g6_28, g10_28, g11_28, g12_28, g13_28, g17_28, g18_28, g19_28, g20_28, gm1_28, grs_28, nx1, nx2, nx3, nx4, nx5, nx6, nx7, nx8, nx9, nx10, nx11, o0, Ne.symm o0, o3, Ne.symm o3, o6, Ne.symm o6, o10, Ne.symm o10, o11, Ne.symm o11, o12, Ne.symm o12, o13, Ne.symm o13, o17, Ne.symm o17, o18, Ne.symm o18, o19, Ne.symm o19, o20, Ne.symm o20, p4, Ne.symm p4, nx70, nx71, nx72, nx73, nx74, nx75, nx76, nx77, nx78, nx79, nx80, nx81, nx82, hlt, hel, show (ln : Int) < ln + 1 by omega, wrap_ok (n := (ln : Int)) (by omega) (by omega)]
      try refine And.intro (by first | omega | rfl) ?_
      refine hK _ _ fun σ34 hσ H34 hH => ?_
      clear hK K
      obtain ⟨h4_34, h7_34, h8_34, h9_34, h11_34⟩ := fs5 hσ 4 7 8 9 11
      simp [h4_28, h7_28, h8_28, h9_28] at h4_34 h7_34 h8_34 h9_34 h11_34
      clear hσ
      replace hH : H28 = H34 := Eq.symm hH
      subst hH
      refine stp_reg TT_ok (by rfl) fun K hK => ?_
      simp [h4_34, g0_28, g3_28, g6_28, g10_28, g11_28, g12_28, g13_28, g17_28, g18_28, g19_28, g20_28, gm1_28, grs_28, nx1, nx2, nx3, nx4, nx5, nx6, nx7, nx8, nx9, nx10, nx11, o0, Ne.symm o0, o3, Ne.symm o3, o6, Ne.symm o6, o10, Ne.symm o10, o11, Ne.symm o11, o12, Ne.symm o12, o13, Ne.symm o13, o17, Ne.symm o17, o18, Ne.symm o18, o19, Ne.symm o19, o20, Ne.symm o20, p4, Ne.symm p4, nx70, nx71, nx72, nx73, nx74, nx75, nx76, nx77, nx78, nx79, nx80, nx81, nx82, hlt, wrap_ok (n := (ln : Int)) (by omega) (by omega)]
      try refine And.intro (by first | omega | rfl) ?_
      refine hK _ _ fun σ35 hσ H35 hH => ?_
      clear hK K
      obtain ⟨h4_35, h7_35, h8_35, h9_35, h11_35⟩ := fs5 hσ 4 7 8 9 11
      simp [h4_34, h7_34, h8_34, h9_34, h11_34] at h4_35 h7_35 h8_35 h9_35 h11_35
      clear hσ
      have g0_35 := gt_of hH 0
      have g3_35 := gt_of hH 3
      have g6_35 := gt_of hH 6
      have g10_35 := gt_of hH 10
      have g11_35 := gt_of hH 11
      have g12_35 := gt_of hH 12
      have g13_35 := gt_of hH 13
      have g17_35 := gt_of hH 17
      have g18_35 := gt_of hH 18
      have g19_35 := gt_of hH 19
      have g20_35 := gt_of hH 20
      have gm1_35 := gt_of hH m1
      have grs_35 := gt_of hH rs
      simp [g0_28, g3_28, g6_28, g10_28, g11_28, g12_28, g13_28, g17_28, g18_28, g19_28, g20_28, gm1_28, grs_28, hst_28, nx1, nx2, nx3, nx4, nx5, nx6, nx7, nx8, nx9, nx10, nx11, o0, Ne.symm o0, o3, Ne.symm o3, o6, Ne.symm o6, o10, Ne.symm o10, o11, Ne.symm o11, o12, Ne.symm o12, o13, Ne.symm o13, o17, Ne.symm o17, o18, Ne.symm o18, o19, Ne.symm o19, o20, Ne.symm o20, p4, Ne.symm p4, nx70, nx71, nx72, nx73, nx74, nx75, nx76, nx77, nx78, nx79, nx80, nx81, nx82, hlt] at g0_35 g3_35 g6_35 g10_35 g11_35 g12_35 g13_35 g17_35 g18_35 g19_35 g20_35 gm1_35 grs_35
      have hst_35 := congrArg AHeap.st hH
      simp [hst_28] at hst_35
      have ka : ∀ j, j ≠ 17 → H35.get j = H28.get j := fun j h1 => by rw [hH]; simp [h1]
      clear hH
      refine stp_reg TT_ok (by rfl) fun K hK => ?_
      simp [h7_35, h8_35, h11_35, g0_35, g3_35, g6_35, g10_35, g11_35, g12_35, g13_35, g17_35, g18_35, g19_35, g20_35, gm1_35, grs_35, nx1, nx2, nx3, nx4, nx5, nx6, nx7, nx8, nx9, nx10, nx11, o0, Ne.symm o0, o3, Ne.symm o3, o6, Ne.symm o6, o10, Ne.symm o10, o11, Ne.symm o11, o12, Ne.symm o12, o13, Ne.symm o13, o17, Ne.symm o17, o18, Ne.symm o18, o19, Ne.symm o19, o20, Ne.symm o20, p4, Ne.symm p4, nx70, nx71, nx72, nx73, nx74, nx75, nx76, nx77, nx78, nx79, nx80, nx81, nx82, hlt, y1, y2, y3, hcy, r3]
      try refine And.intro (by first | omega | rfl) ?_
      refine hK _ _ fun σ36 hσ H36 hH => ?_
      clear hK K
      obtain ⟨h4_36, h7_36, h8_36, h9_36, h11_36⟩ := fs5 hσ 4 7 8 9 11
      simp [h4_35, h7_35, h8_35, h9_35, h11_35] at h4_36 h7_36 h8_36 h9_36 h11_36
      clear hσ
      have g0_36 := gt_of hH 0
      have g3_36 := gt_of hH 3
      have g6_36 := gt_of hH 6
      have g10_36 := gt_of hH 10
      have g11_36 := gt_of hH 11
      have g12_36 := gt_of hH 12
      have g13_36 := gt_of hH 13
      have g17_36 := gt_of hH 17
      have g18_36 := gt_of hH 18
      have g19_36 := gt_of hH 19
      have g20_36 := gt_of hH 20
      have gm1_36 := gt_of hH m1
      have grs_36 := gt_of hH rs
      simp [g0_35, g3_35, g6_35, g10_35, g11_35, g12_35, g13_35, g17_35, g18_35, g19_35, g20_35, gm1_35, grs_35, hst_35, nx1, nx2, nx3, nx4, nx5, nx6, nx7, nx8, nx9, nx10, nx11, o0, Ne.symm o0, o3, Ne.symm o3, o6, Ne.symm o6, o10, Ne.symm o10, o11, Ne.symm o11, o12, Ne.symm o12, o13, Ne.symm o13, o17, Ne.symm o17, o18, Ne.symm o18, o19, Ne.symm o19, o20, Ne.symm o20, p4, Ne.symm p4, nx70, nx71, nx72, nx73, nx74, nx75, nx76, nx77, nx78, nx79, nx80, nx81, nx82, hlt] at g0_36 g3_36 g6_36 g10_36 g11_36 g12_36 g13_36 g17_36 g18_36 g19_36 g20_36 gm1_36 grs_36
      have hst_36 := congrArg AHeap.st hH
      simp [hst_35] at hst_36
      have kb : ∀ j, j ≠ 10 → H36.get j = H35.get j := fun j h1 => by rw [hH]; simp [h1]
      clear hH
      refine stp_reg TT_ok (by rfl) fun K hK => ?_
      simp [h9_36, h11_36, g0_36, g3_36, g6_36, g10_36, g11_36, g12_36, g13_36, g17_36, g18_36, g19_36, g20_36, gm1_36, grs_36, nx1, nx2, nx3, nx4, nx5, nx6, nx7, nx8, nx9, nx10, nx11, o0, Ne.symm o0, o3, Ne.symm o3, o6, Ne.symm o6, o10, Ne.symm o10, o11, Ne.symm o11, o12, Ne.symm o12, o13, Ne.symm o13, o17, Ne.symm o17, o18, Ne.symm o18, o19, Ne.symm o19, o20, Ne.symm o20, p4, Ne.symm p4, nx70, nx71, nx72, nx73, nx74, nx75, nx76, nx77, nx78, nx79, nx80, nx81, nx82, hlt, hyn]
      try refine And.intro (by first | omega | rfl) ?_
      refine hK _ _ fun σ37 hσ H37 hH => ?_
      clear hK K
      obtain ⟨h4_37, h7_37, h8_37, h9_37, h93_37⟩ := fs5 hσ 4 7 8 9 93
      simp [h4_36, h7_36, h8_36, h9_36] at h4_37 h7_37 h8_37 h9_37 h93_37
      clear hσ
      replace hH : H36 = H37 := Eq.symm hH
      subst hH
      refine stp_false (by simp [aeval_tmp, h93_37, nx1, nx2, nx3, nx4, nx5, nx6, nx7, nx8, nx9, nx10, nx11, o0, Ne.symm o0, o3, Ne.symm o3, o6, Ne.symm o6, o10, Ne.symm o10, o11, Ne.symm o11, o12, Ne.symm o12, o13, Ne.symm o13, o17, Ne.symm o17, o18, Ne.symm o18, o19, Ne.symm o19, o20, Ne.symm o20, p4, Ne.symm p4, nx70, nx71, nx72, nx73, nx74, nx75, nx76, nx77, nx78, nx79, nx80, nx81, nx82, hlt, hyn]) ?_
      refine awp_skip ?_
      refine q_block ?_
      refine ⟨_, ?_, sg1, y :: pp, cm.set y.toNat s2.cnt, s.stk.length + sg1.length, rfl, (h4_37.trans h4_27.symm), (h7_37.trans h7_27.symm), (h8_37.trans h8_27.symm), (h9_37.trans h9_27.symm), (g0_36.trans g0_25.symm), (g3_36.trans g3_25.symm), (g6_36.trans g6_25.symm), (by simp [g10_36, show ln = s.stk.length + sg1.length + 1 by rw [r2]; simp; omega]), (g11_36.trans g11_25.symm), (g12_36.trans g12_25.symm), (g13_36.trans g13_25.symm), (by simp [g17_36, show ln = s.stk.length + sg1.length + 1 by rw [r2]; simp; omega]), (g18_36.trans g18_25.symm), (g19_36.trans g19_25.symm), (g20_36.trans g20_25.symm), (gm1_36.trans gm1_25.symm), (grs_36.trans grs_25.symm), (hst_36.trans hst_25.symm), ?_, ?_, ?_, ?_, ?_⟩
      ·subst hn2; simp
      ·rw [r1]; simp
      ·rfl
      ·simpa using r3
      ·intro v hvr
       rw [gt_set (by rw [r3]; exact ⟨y1, y2⟩) (by rw [r3]; exact hvr), r4 v hvr]
       by_cases e : v = y
       ·subst e; simp
       ·simp [e]
      ·intro j hj
       rw [kb j hj.2.2.2.1, ka j hj.2.2.2.2.1, r5 j hj]
end Go.Proofs.Yteifhcohmipdcaa

namespace Go.Proofs.Yteifhcohmipdcaa
open Go.Abs
set_option linter.unusedSimpArgs false
set_option linter.unusedVariables false
set_option maxHeartbeats 1000000 in
theorem number0 (g : Gr) (hv : g.valid = true) : ACalls Try.prog 67 [encS g.succs] AHeap.nil (fun r H => ∃ cmp cnt, IsNum g cmp cnt ∧ Frz H r (.tup [.ro (cmp.map (AV.int IntKind.i64)), (AV.int IntKind.i64) cnt])) := by
 refine acalls_body TT_ok Try.func67 rfl rfl (by simp [Try.ntmps67]) ?_
 rw [Try.ntmps67]
 obtain ⟨σ, hσ⟩ : ∃ σ, σ = st0 [encS g.succs] := ⟨_, rfl⟩
 rw [← hσ]
 have h0_0 := congrFun hσ 0
 simp [st0] at h0_0
 clear hσ
 obtain ⟨H, hH⟩ : ∃ H, H = AHeap.nil := ⟨_, rfl⟩
 rw [← hH]
 have hn_0 : H.n = 0 := by rw [hH]; rfl
 have hst_0 : H.st = 1 := by rw [hH]; rfl
 clear hH
 refine stp_reg TT_ok (by rfl) fun K hK => ?_
 simp [h0_0, hn_0, hst_0, encS]
 try refine And.intro (by first | omega | rfl) ?_
 refine hK _ _ fun σ1 hσ H1 hH => ?_
 clear hK K
 have h1_1 := congrFun hσ 1
 simp [] at h1_1
 clear hσ
 have g0_1 := gt_of hH 0
 simp [hn_0, hst_0] at g0_1
 have hn_1 := congrArg AHeap.n hH
 simp [hn_0, hst_0] at hn_1
 have hst_1 := congrArg AHeap.st hH
 simp [hn_0, hst_0] at hst_1
 clear hH
 obtain ⟨hb1, hb2⟩ := valid_nodes hv
 have hsl : g.succs.length = g.nodes.length := by simp [Gr.succs]
 have hFF0 := an4 h1_1 g0_1 hn_1 hst_1
 refine stp_lex true TT_ok mixed (by rfl) (by rfl) (by kernel_rfl) (by rfl) fun U hU K hK => ?_
 simp [hFF0, encS, hsl, show (g.nodes.length : Int) ≤ 281474976710656 by omega, show (8 : Int) * (g.nodes.length : Int) ≤ 281474976710656 by omega]
 try refine And.intro (by first | omega | rfl) ?_
 refine lex_rowW (repeat_w (-1) g.nodes.length (by omega)) [7] (fun H' hH' => FrzL.cons (frz_ints (xs := [-1]) (by rw [hH' 7 (by simp)]; simp [hFF0, encS, hsl, show (g.nodes.length : Int) ≤ 281474976710656 by omega, show (8 : Int) * (g.nodes.length : Int) ≤ 281474976710656 by omega]; rfl) rfl) (FrzL.cons (.pure (pu_int _ _)) (FrzL.nil _))) ?_
 simp [hFF0, encS, hsl, show (g.nodes.length : Int) ≤ 281474976710656 by omega, show (8 : Int) * (g.nodes.length : Int) ≤ 281474976710656 by omega]
 try refine And.intro (by first | omega | rfl) ?_
 refine hK _ _ _ (by subst hU; kernel_rfl) fun σ2 hσ H2 hH => ?_
 clear hK K hU U hFF0
 obtain ⟨h1_2, h4_2, h5_2, h6_2⟩ := fs4 hσ 1 4 5 6
 simp [h1_1] at h1_2 h4_2 h5_2 h6_2
 clear hσ
 have g0_2 := gt_of hH 0
 have g3_2 := gt_of hH 3
 have g6_2 := gt_of hH 6
 have g7_2 := gt_of hH 7
 have g10_2 := gt_of hH 10
 have g11_2 := gt_of hH 11
 have g12_2 := gt_of hH 12
 have g13_2 := gt_of hH 13
 simp [g0_1, hn_1, hst_1] at g0_2 g3_2 g6_2 g7_2 g10_2 g11_2 g12_2 g13_2
 have hn_2 := congrArg AHeap.n hH
 simp [hn_1, hst_1] at hn_2
 have hst_2 := congrArg AHeap.st hH
 simp [hn_1, hst_1] at hst_2
 clear hH
 refine stp_reg TT_ok (by rfl) fun K hK => ?_
 simp [g0_2, g3_2, g6_2, g7_2, g10_2, g11_2, g12_2, g13_2, hn_2, hst_2]
 try refine And.intro (by first | omega | rfl) ?_
 refine hK _ _ fun σ3 hσ H3 hH => ?_
 clear hK K
 obtain ⟨h1_3, h4_3, h5_3, h6_3, h7_3⟩ := fs5 hσ 1 4 5 6 7
 simp [h1_2, h4_2, h5_2, h6_2] at h1_3 h4_3 h5_3 h6_3 h7_3
 clear hσ
 have g0_3 := gt_of hH 0
 have g3_3 := gt_of hH 3
 have g6_3 := gt_of hH 6
 have g7_3 := gt_of hH 7
 have g10_3 := gt_of hH 10
 have g11_3 := gt_of hH 11
 have g12_3 := gt_of hH 12
 have g13_3 := gt_of hH 13
 have g17_3 := gt_of hH 17
 simp [g0_2, g3_2, g6_2, g7_2, g10_2, g11_2, g12_2, g13_2, hn_2, hst_2] at g0_3 g3_3 g6_3 g7_3 g10_3 g11_3 g12_3 g13_3 g17_3
 have hn_3 := congrArg AHeap.n hH
 simp [hn_2, hst_2] at hn_3
 have hst_3 := congrArg AHeap.st hH
 simp [hn_2, hst_2] at hst_3
 clear hH
 refine stp_reg TT_ok (by rfl) fun K hK => ?_
 simp [g0_3, g3_3, g6_3, g7_3, g10_3, g11_3, g12_3, g13_3, g17_3, hn_3, hst_3]
 try refine And.intro (by first | omega | rfl) ?_
 refine hK _ _ fun σ4 hσ H4 hH => ?_
 clear hK K
 obtain ⟨h1_4, h4_4, h5_4, h6_4, h7_4, h8_4, h9_4⟩ := fs7 hσ 1 4 5 6 7 8 9
 simp [h1_3, h4_3, h5_3, h6_3, h7_3] at h1_4 h4_4 h5_4 h6_4 h7_4 h8_4 h9_4
 clear hσ
 have g0_4 := gt_of hH 0
 have g3_4 := gt_of hH 3
 have g6_4 := gt_of hH 6
 have g7_4 := gt_of hH 7
 have g10_4 := gt_of hH 10
 have g11_4 := gt_of hH 11
 have g12_4 := gt_of hH 12
 have g13_4 := gt_of hH 13
 have g17_4 := gt_of hH 17
 have g18_4 := gt_of hH 18
 have g19_4 := gt_of hH 19
 simp [g0_3, g3_3, g6_3, g7_3, g10_3, g11_3, g12_3, g13_3, g17_3, hn_3, hst_3] at g0_4 g3_4 g6_4 g7_4 g10_4 g11_4 g12_4 g13_4 g17_4 g18_4 g19_4
 have hn_4 := congrArg AHeap.n hH
 simp [hn_3, hst_3] at hn_4
 have hst_4 := congrArg AHeap.st hH
 simp [hn_3, hst_3] at hst_4
 clear hH
 refine stp_reg TT_ok (by rfl) fun K hK => ?_
 simp [g0_4, g3_4, g6_4, g7_4, g10_4, g11_4, g12_4, g13_4, g17_4, g18_4, g19_4, hn_4, hst_4]
 try refine And.intro (by first | omega | rfl) ?_
 refine hK _ _ fun σ5 hσ H5 hH => ?_
 clear hK K
 obtain ⟨h1_5, h4_5, h5_5, h6_5, h7_5, h8_5, h9_5, h10_5⟩ := fs8 hσ 1 4 5 6 7 8 9 10
 simp [h1_4, h4_4, h5_4, h6_4, h7_4, h8_4, h9_4] at h1_5 h4_5 h5_5 h6_5 h7_5 h8_5 h9_5 h10_5
 clear hσ
 have g0_5 := gt_of hH 0
 have g3_5 := gt_of hH 3
 have g6_5 := gt_of hH 6
 have g7_5 := gt_of hH 7
 have g10_5 := gt_of hH 10
 have g11_5 := gt_of hH 11
 have g12_5 := gt_of hH 12
 have g13_5 := gt_of hH 13
 have g17_5 := gt_of hH 17
 have g18_5 := gt_of hH 18
 have g19_5 := gt_of hH 19
 have g20_5 := gt_of hH 20
 simp [g0_4, g3_4, g6_4, g7_4, g10_4, g11_4, g12_4, g13_4, g17_4, g18_4, g19_4, hn_4, hst_4] at g0_5 g3_5 g6_5 g7_5 g10_5 g11_5 g12_5 g13_5 g17_5 g18_5 g19_5 g20_5
 have hn_5 := congrArg AHeap.n hH
 simp [hn_4, hst_4] at hn_5
 have hst_5 := congrArg AHeap.st hH
 simp [hn_4, hst_4] at hst_5
 clear hH
 refine stp_reg TT_ok (by rfl) fun K hK => ?_
 simp [h1_5, h4_5, h5_5, h6_5, h7_5, h8_5, h9_5, h10_5, g0_5, g3_5, g6_5, g7_5, g10_5, g11_5, g12_5, g13_5, g17_5, g18_5, g19_5, g20_5]
 try refine And.intro (by first | omega | rfl) ?_
 refine hK _ _ fun σ6 hσ H6 hH => ?_
 clear hK K
 obtain ⟨h1_6, h4_6, h6_6, h9_6, h10_6⟩ := fs5 hσ 1 4 6 9 10
 simp [h1_5, h4_5, h6_5, h9_5, h10_5] at h1_6 h4_6 h6_6 h9_6 h10_6
 clear hσ
 have g0_6 := gt_of hH 0
 have g3_6 := gt_of hH 3
 have g6_6 := gt_of hH 6
 have g7_6 := gt_of hH 7
 have g10_6 := gt_of hH 10
 have g11_6 := gt_of hH 11
 have g12_6 := gt_of hH 12
 have g13_6 := gt_of hH 13
 have g17_6 := gt_of hH 17
 have g18_6 := gt_of hH 18
 have g19_6 := gt_of hH 19
 have g20_6 := gt_of hH 20
 simp [g0_5, g3_5, g6_5, g7_5, g10_5, g11_5, g12_5, g13_5, g17_5, g18_5, g19_5, g20_5, hn_5, hst_5] at g0_6 g3_6 g6_6 g7_6 g10_6 g11_6 g12_6 g13_6 g17_6 g18_6 g19_6 g20_6
 have hn_6 : H6.n = _ := (congrArg AHeap.n hH).trans hn_5
 have hst_6 : H6.st = _ := (congrArg AHeap.st hH).trans hst_5
 clear hH
 refine awp_seq ?_
 refine stp_reg TT_ok (by rfl) fun K hK => ?_
 simp [h1_6, g0_6, g3_6, g6_6, g7_6, g10_6, g11_6, g12_6, g13_6, g17_6, g18_6, g19_6, g20_6, encS, hsl]
 try refine And.intro (by first | omega | rfl) ?_
 refine hK _ _ fun σ7 hσ H7 hH => ?_
 clear hK K
 obtain ⟨h4_7, h6_7, h9_7, h10_7, h24_7, h25_7⟩ := fs6 hσ 4 6 9 10 24 25
 simp [h4_6, h6_6, h9_6, h10_6] at h4_7 h6_7 h9_7 h10_7 h24_7 h25_7
 clear hσ
 replace hH : H6 = H7 := Eq.symm hH
 subst hH
 refine awp_block ?_
 refine awp_loopV (fun n σ' H' => ∃ (i : Nat) (s : TS) (sv : AV), n = g.nodes.length - i ∧ σ' 4 = σ7 4 ∧ σ' 6 = σ7 6 ∧ σ' 9 = σ7 9 ∧ σ' 10 = σ7 10 ∧ σ' 24 = σ7 24 ∧ σ' 25 = (AV.int IntKind.i64) i ∧ H'.get 0 = H6.get 0 ∧ H'.get 3 = some (.row 3 1 0 (s.idx.map (AV.int IntKind.i64))) ∧ H'.get 6 = some (.row 3 1 0 (s.low.map (AV.int IntKind.i64))) ∧ H'.get 10 = some (.row 3 1 0 (s.cmp.map (AV.int IntKind.i64))) ∧ H'.get 11 = H6.get 11 ∧ H'.get 12 = H6.get 12 ∧ H'.get 13 = H6.get 13 ∧ H'.get 17 = some (.row 26 1 0 [sv]) ∧ H'.get 18 = some (.row 3 1 0 [(AV.int IntKind.i64) s.nxt]) ∧ H'.get 19 = some (.row 3 1 0 [(AV.int IntKind.i64) s.cnt]) ∧ H'.get 20 = H6.get 20 ∧ H'.st = H6.st ∧ (i ≤ g.nodes.length) ∧ (TI g s []) ∧ (SvOk s.stk sv H') ∧ (∀ v : Int, 0 ≤ v → v < i → gt s.idx v ≠ 0)) ?_ ?_
 ·refine ⟨_, 0, ⟨List.replicate g.nodes.length 0, List.replicate g.nodes.length 0, List.replicate g.nodes.length (-1), [], 1, 0⟩, .nils, rfl, rfl, rfl, rfl, rfl, rfl, (by simp [h25_7]), rfl, (by simp [g3_6]), (by simp [g6_6]), (by simp [g10_6]), rfl, rfl, rfl, (by simp [g17_6]), (by simp [g18_6]), (by simp [g19_6]), rfl, rfl, ?_, ?_, ?_, ?_⟩
  ·first | omega | (simp; done) | assumption
  ·exact TI.start hv
  ·exact .inl ⟨rfl, rfl⟩
  ·intro v h1 h2; omega
 ·rintro n1 σ8 H8 ⟨i, s, sv, hn1, q4_8, q6_8, q9_8, q10_8, q24_8, h25_8, qg0_8, g3_8, g6_8, g10_8, qg11_8, qg12_8, qg13_8, g17_8, g18_8, g19_8, qg20_8, qst_8, p1, p2, p3, p4⟩
  have h4_8 := q4_8.trans h4_7
  have h6_8 := q6_8.trans h6_7
  have h9_8 := q9_8.trans h9_7
  have h10_8 := q10_8.trans h10_7
  have h24_8 := q24_8.trans h24_7
  have g0_8 := qg0_8.trans g0_6
  have g11_8 := qg11_8.trans g11_6
  have g12_8 := qg12_8.trans g12_6
  have g13_8 := qg13_8.trans g13_6
  have g20_8 := qg20_8.trans g20_6
  have hst_8 := qst_8.trans hst_6
  have hil := p2.il
  refine stp_reg TT_ok (by rfl) fun K hK => ?_
  simp [h24_8, h25_8, g0_8, g3_8, g6_8, g10_8, g11_8, g12_8, g13_8, g17_8, g18_8, g19_8, g20_8]
  try refine And.intro (by first | omega | rfl) ?_
  refine hK _ _ fun σ9 hσ H9 hH => ?_
  clear hK K
  obtain ⟨h4_9, h6_9, h9_9, h10_9, h24_9, h25_9, h26_9⟩ := fs7 hσ 4 6 9 10 24 25 26
  simp [h4_8, h6_8, h9_8, h10_8, h24_8, h25_8] at h4_9 h6_9 h9_9 h10_9 h24_9 h25_9 h26_9
  clear hσ
  replace hH : H8 = H9 := Eq.symm hH
  subst hH
  refine awp_seq ?_
  refine awp_cond _ (by simp only [aeval_tmp]; exact h26_9) (fun hc26 => ?_) (fun hc26 => ?_)
  ·try simp at hc26
   have hlt : i < g.nodes.length := by simpa using hc26
   have hir : inR g.nodes.length (i : Int) := ⟨by omega, by omega⟩
   have hlt2 : i < s.idx.length := by omega
   have hgi : s.idx[i] = gt s.idx (i : Int) := by simp [gt, hlt2]
   refine awp_skip ?_
   refine q_seq ?_
   refine awp_seq ?_
   refine awp_block ?_
   refine stp_reg TT_ok (by rfl) fun K hK => ?_
   simp [h25_9, g0_8, g3_8, g6_8, g10_8, g11_8, g12_8, g13_8, g17_8, g18_8, g19_8, g20_8]
   try refine And.intro (by first | omega | rfl) ?_
   refine hK _ _ fun σ10 hσ H10 hH => ?_
   clear hK K
   obtain ⟨h4_10, h6_10, h9_10, h10_10, h11_10, h24_10, h25_10⟩ := fs7 hσ 4 6 9 10 11 24 25
   simp [h4_9, h6_9, h9_9, h10_9, h24_9, h25_9] at h4_10 h6_10 h9_10 h10_10 h11_10 h24_10 h25_10
   clear hσ
   replace hH : H8 = H10 := Eq.symm hH
   subst hH
   by_cases hi0 : gt s.idx (i : Int) = 0
   ·skip
    refine stp_reg TT_ok (by rfl) fun K hK => ?_
    simp [h4_10, h11_10, g0_8, g3_8, g6_8, g10_8, g11_8, g12_8, g13_8, g17_8, g18_8, g19_8, g20_8, hi0, beq_iff_eq.2 hi0, hlt, hlt2, hil, hgi]
    try refine And.intro (by first | omega | rfl) ?_
    refine hK _ _ fun σ11 hσ H11 hH => ?_
    clear hK K
    obtain ⟨h4_11, h6_11, h9_11, h10_11, h11_11, h24_11, h25_11, h32_11⟩ := fs8 hσ 4 6 9 10 11 24 25 32
    simp [h4_10, h6_10, h9_10, h10_10, h11_10, h24_10, h25_10] at h4_11 h6_11 h9_11 h10_11 h11_11 h24_11 h25_11 h32_11
    clear hσ
    replace hH : H8 = H11 := Eq.symm hH
    subst hH
    refine stp_true (by simp [aeval_tmp, h32_11, hi0, beq_iff_eq.2 hi0]) ?_
    have hFF0 := an15 h10_11 h11_11 g0_8 g3_8 g6_8 g10_8 g11_8 g12_8 g13_8 g17_8 g18_8 g19_8 g20_8 hi0 (beq_iff_eq.2 hi0)
    refine stp_regl TT_ok (by rfl) fun K hK => ?_
    simp [hFF0]
    try refine And.intro (by first | omega | rfl) ?_
    refine (num0 g hv _ _ _ _ _ _ s [] i sv H8 rfl p2 hir hi0 (by simp) hst_8 p3 ⟨g0_8, g3_8, g6_8, g10_8, g11_8, g12_8, g13_8, g17_8, g18_8, g19_8, g20_8⟩).mono ?_
    rintro r Hy ⟨rfl, s3, sv3, htp, hsv3, ⟨q0, q3, q6, q10, q11, q12, q13, q17, q18, q19, q20⟩, hfr3, hsame, hst3⟩
    simp [hFF0]
    try refine And.intro (by first | omega | rfl) ?_
    refine hK _ _ fun σ12 hσ H12 hH => ?_
    clear hK K hFF0
    obtain ⟨h4_12, h6_12, h9_12, h10_12, h24_12, h25_12⟩ := fs6 hσ 4 6 9 10 24 25
    simp [h4_11, h6_11, h9_11, h10_11, h24_11, h25_11] at h4_12 h6_12 h9_12 h10_12 h24_12 h25_12
    clear hσ
    subst hH
    have g0_12 := q0
    have g3_12 := q3
    have g6_12 := q6
    have g10_12 := q10
    have g11_12 := q11
    have g12_12 := q12
    have g13_12 := q13
    have g17_12 := q17
    have g18_12 := q18
    have g19_12 := q19
    have g20_12 := q20
    have hst_12 := hst3
    refine q_block ?_
    refine q_seq ?_
    refine stp_regl TT_ok (by rfl) fun K hK => ?_
    simp [h25_12, g0_12, g3_12, g6_12, g10_12, g11_12, g12_12, g13_12, g17_12, g18_12, g19_12, g20_12, hi0, beq_iff_eq.2 hi0, wrap_ok (n := (i : Int) + 1) (by omega) (by omega)]
    try refine And.intro (by first | omega | rfl) ?_
    refine hK _ _ fun σ13 hσ H13 hH => ?_
    clear hK K
    obtain ⟨h4_13, h6_13, h9_13, h10_13, h24_13, h25_13⟩ := fs6 hσ 4 6 9 10 24 25
    simp [h4_12, h6_12, h9_12, h10_12, h24_12] at h4_13 h6_13 h9_13 h10_13 h24_13 h25_13
    clear hσ
    replace hH : H12 = H13 := Eq.symm hH
    subst hH
    refine ⟨_, ?_, i + 1, s3, sv3, rfl, (h4_13.trans h4_7.symm), (h6_13.trans h6_7.symm), (h9_13.trans h9_7.symm), (h10_13.trans h10_7.symm), (h24_13.trans h24_7.symm), (by simp [h25_13]), (g0_12.trans g0_6.symm), (by simp [g3_12]), (by simp [g6_12]), (by simp [g10_12]), (g11_12.trans g11_6.symm), (g12_12.trans g12_6.symm), (g13_12.trans g13_6.symm), (by simp [g17_12]), (by simp [g18_12]), (by simp [g19_12]), (g20_12.trans g20_6.symm), (hst_12.trans hst_6.symm), ?_, ?_, ?_, ?_⟩
    ·subst hn1; omega
    ·first | omega | assumption | (simp; done)
    ·exact htp.inv
    ·exact hsv3
    ·intro v h1 h2
     by_cases e : v = (i : Int)
     ·subst e; exact htp.vis
     ·have h3 := p4 v h1 (by omega)
      rw [htp.ki v ⟨h1, by omega⟩ h3]; exact h3
   ·skip
    refine stp_reg TT_ok (by rfl) fun K hK => ?_
    simp [h4_10, h11_10, g0_8, g3_8, g6_8, g10_8, g11_8, g12_8, g13_8, g17_8, g18_8, g19_8, g20_8, hi0, beq_eq_false_iff_ne.2 hi0, hlt, hlt2, hil, hgi]
    try refine And.intro (by first | omega | rfl) ?_
    refine hK _ _ fun σ14 hσ H14 hH => ?_
    clear hK K
    obtain ⟨h4_14, h6_14, h9_14, h10_14, h11_14, h24_14, h25_14, h32_14⟩ := fs8 hσ 4 6 9 10 11 24 25 32
    simp [h4_10, h6_10, h9_10, h10_10, h11_10, h24_10, h25_10] at h4_14 h6_14 h9_14 h10_14 h11_14 h24_14 h25_14 h32_14
    clear hσ
    replace hH : H8 = H14 := Eq.symm hH
    subst hH
    refine stp_false (by simp [aeval_tmp, h32_14, hi0, beq_eq_false_iff_ne.2 hi0]) ?_
    refine awp_skip ?_
    refine q_block ?_
    refine q_seq ?_
    refine stp_regl TT_ok (by rfl) fun K hK => ?_
    simp [h25_14, g0_8, g3_8, g6_8, g10_8, g11_8, g12_8, g13_8, g17_8, g18_8, g19_8, g20_8, hi0, beq_eq_false_iff_ne.2 hi0, wrap_ok (n := (i : Int) + 1) (by omega) (by omega)]
    try refine And.intro (by first | omega | rfl) ?_
    refine hK _ _ fun σ15 hσ H15 hH => ?_
    clear hK K
    obtain ⟨h4_15, h6_15, h9_15, h10_15, h24_15, h25_15⟩ := fs6 hσ 4 6 9 10 24 25
    simp [h4_14, h6_14, h9_14, h10_14, h24_14] at h4_15 h6_15 h9_15 h10_15 h24_15 h25_15
    clear hσ
    replace hH : H8 = H15 := Eq.symm hH
    subst hH
    refine ⟨_, ?_, i + 1, s, sv, rfl, (h4_15.trans h4_7.symm), (h6_15.trans h6_7.symm), (h9_15.trans h9_7.symm), (h10_15.trans h10_7.symm), (h24_15.trans h24_7.symm), (by simp [h25_15]), (g0_8.trans g0_6.symm), (by simp [g3_8]), (by simp [g6_8]), (by simp [g10_8]), (g11_8.trans g11_6.symm), (g12_8.trans g12_6.symm), (g13_8.trans g13_6.symm), (by simp [g17_8]), (by simp [g18_8]), (by simp [g19_8]), (g20_8.trans g20_6.symm), (hst_8.trans hst_6.symm), ?_, ?_, ?_, ?_⟩
    ·subst hn1; omega
    ·first | omega | assumption | (simp; done)
    ·exact p2
    ·exact p3
    ·intro v h1 h2
     by_cases e : v = (i : Int)
     ·subst e; exact hi0
     ·exact p4 v h1 (by omega)
  ·try simp at hc26
   refine awp_exit ?_
   refine q_seq_exit ?_
   refine q_loop_exit ?_
   refine q_block_hit ?_
   refine q_seq ?_
   refine stp_lex false TT_ok mixed (by rfl) (by rfl) (by kernel_rfl) (by rfl) fun U hU K hK => ?_
   simp [h6_9, h9_9, g0_8, g3_8, g6_8, g10_8, g11_8, g12_8, g13_8, g17_8, g18_8, g19_8, g20_8]
   try refine And.intro (by first | omega | rfl) ?_
   refine hK _ _ _ (by subst hU; kernel_rfl) fun σ16 hσ H16 hH => ?_
   clear hK K hU U
   obtain ⟨h2_16, h3_16⟩ := fs2 hσ 2 3
   simp [] at h2_16 h3_16
   clear hσ
   replace hH : H8 = H16 := Eq.symm hH
   subst hH
   refine awp_ret ?_
   have hie : i = g.nodes.length := by have := hc26; omega
   subst hie
   refine q_fin2 h2_16 h3_16 ?_
   have hcl := p2.cl
   exact ⟨s.cmp, s.cnt, p2.end fun v hv2 => p4 v hv2.1 hv2.2, .tup rfl fun j x y hx hy => by
    match j, hx, hy with
    | 0, hx, hy => simp at hx hy; subst hx; subst hy; exact frz_ints g10_8 hcl.symm
    | 1, hx, hy => simp at hx hy; subst hx; subst hy; exact .pure (pu_int _ _)⟩
theorem number_ok (g : Gr) (hv : g.valid = true) (H : AHeap) : ACalls Try.prog 67 [encS g.succs] H fun r H' => H' = H ∧ ∃ cmp cnt, IsNum g cmp cnt ∧ r = .tup [.ro (cmp.map (AV.int IntKind.i64)), (AV.int IntKind.i64) cnt] :=
 ACalls.pure (number0 g hv) (pu_cons (pu_encS _) pu_nil) (fun r H' ⟨cmp, cnt, h1, h2⟩ => ⟨_, h2, .tup (pu_cons (pu_ints _) (pu_cons (pu_int _ _) pu_nil)), cmp, cnt, h1, rfl⟩) H
end Go.Proofs.Yteifhcohmipdcaa

namespace Go.Proofs.Yteifhcohmipdcaa
open Go.Abs
set_option linter.unusedSimpArgs false
set_option linter.unusedVariables false
def Gr.both (g : Gr) (v k : Nat) : Bool := (g.marks [(v : Int)]).getD k false && (g.rev.marks [(v : Int)]).getD k false
def Gr.grp (g : Gr) (v : Nat) : Nat := ((List.range g.nodes.length).find? fun k => g.both v k).getD v
theorem rev_R {g : Gr} (hv : g.valid = true) {a b : Int} : g.rev.R a b ↔ g.R b a := by
 constructor
 ·intro h
  induction h with
  | base hx => simp at hx; subst hx; exact .refl g _
  | step _ he ih => exact Gr.R.trans (.edge ((rev_edge hv).1 he)) ih
 ·intro h
  induction h with
  | base hx => simp at hx; subst hx; exact .refl _ _
  | step _ he ih => exact Gr.R.trans (.edge ((rev_edge hv).2 he)) ih
theorem marks_R {g : Gr} (hv : g.valid = true) {v k : Nat} (h1 : v < g.nodes.length) (h2 : k < g.nodes.length) : (g.marks [(v : Int)]).getD k false = true ↔ g.R v k := by
 have h := (marks_is hv (l := [(v : Int)]) (by simp [inR]; omega)).iff k h2
 rw [getD_true, h]; rfl
theorem both_iff {g : Gr} (hv : g.valid = true) {v k : Nat} (h1 : v < g.nodes.length) (h2 : k < g.nodes.length) : g.both v k = true ↔ g.R v k ∧ g.R k v := by
 rw [Gr.both, Bool.and_eq_true, marks_R hv h1 h2, marks_R (rev_valid hv) (by rw [rev_nodes hv]; exact h1) (by rw [rev_nodes hv]; exact h2), rev_R hv]
theorem grp_spec {g : Gr} (hv : g.valid = true) {v : Nat} (h1 : v < g.nodes.length) : g.grp v ≤ v ∧ g.grp v < g.nodes.length ∧ g.R v (g.grp v) ∧ g.R (g.grp v) v ∧ ∀ k : Nat, k < g.nodes.length → g.R v k → g.R k v → g.grp v ≤ k := by
 have hself : g.both v v = true := (both_iff hv h1 h1).2 ⟨.refl g _, .refl g _⟩
 cases hf : (List.range g.nodes.length).find? fun k => g.both v k with
 | none => have := List.find?_eq_none.1 hf v (List.mem_range.2 h1); simp [hself] at this
 | some r =>
  have he : g.grp v = r := by rw [Gr.grp, hf]; rfl
  have hb := List.find?_some hf
  have hr : r < g.nodes.length := List.mem_range.1 (List.mem_of_find?_eq_some hf)
  have hmin : ∀ k, k < g.nodes.length → g.both v k = true → r ≤ k := by
   intro k hk hbk
   rw [List.find?_range_eq_some] at hf
   rcases Nat.lt_or_ge k r with h | h
   ·have := hf.2.2 k h; rw [hbk] at this; simp at this
   ·exact h
  obtain ⟨q1, q2⟩ := (both_iff hv h1 hr).1 hb
  rw [he]
  exact ⟨hmin v h1 hself, hr, q1, q2, fun k hk a b => hmin k hk ((both_iff hv h1 hk).2 ⟨a, b⟩)⟩
theorem grp_eq {g : Gr} (hv : g.valid = true) {u v : Nat} (hu : u < g.nodes.length) (h1 : v < g.nodes.length) : g.grp u = g.grp v ↔ g.R u v ∧ g.R v u := by
 obtain ⟨a1, a2, a3, a4, a5⟩ := grp_spec hv hu
 obtain ⟨b1, b2, b3, b4, b5⟩ := grp_spec hv h1
 constructor
 ·intro e; rw [← e] at b3 b4; exact ⟨a3.trans b4, b3.trans a4⟩
 ·rintro ⟨c1, c2⟩
  have := a5 (g.grp v) b2 (c1.trans b3) (b4.trans c2)
  have := b5 (g.grp u) a2 (c2.trans a3) (a4.trans c1)
  omega
theorem grp_grp {g : Gr} (hv : g.valid = true) {v : Nat} (h1 : v < g.nodes.length) : g.grp (g.grp v) = g.grp v := by
 obtain ⟨a1, a2, a3, a4, a5⟩ := grp_spec hv h1
 exact (grp_eq hv a2 h1).2 ⟨a4, a3⟩
def Gr.reps (g : Gr) (i : Nat) : List Nat := (List.range i).filter fun v => decide (g.grp v = v)
def Gr.rank (g : Gr) (r : Nat) : Nat := (g.reps r).length
theorem reps_succ {g : Gr} (i : Nat) : g.reps (i + 1) = g.reps i ++ if g.grp i = i then [i] else [] := by
 simp only [Gr.reps, List.range_succ, List.filter_append]
 congr 1
 by_cases h : g.grp i = i <;> simp [h]
theorem reps_mem {g : Gr} {i v : Nat} : v ∈ g.reps i ↔ v < i ∧ g.grp v = v := by simp [Gr.reps]
theorem reps_rank {g : Gr} {r : Nat} : ∀ {i : Nat}, r < i → g.grp r = r → (g.reps i)[g.rank r]? = some r
 | 0, h, _ => by omega
 | i + 1, h, he => by
  rw [reps_succ]
  by_cases hi : r = i
  ·subst hi; rw [if_pos he, Gr.rank]; simp
  ·have ih := reps_rank (g := g) (r := r) (i := i) (by omega) he
   rw [List.getElem?_append_left (List.getElem?_eq_some_iff.1 ih).1]; exact ih
theorem rank_lt {g : Gr} {r i : Nat} (h : r < i) (he : g.grp r = r) : g.rank r < (g.reps i).length := (List.getElem?_eq_some_iff.1 (reps_rank h he)).1
theorem rank_inj {g : Gr} {r s : Nat} (hr : g.grp r = r) (hs : g.grp s = s) (h : g.rank r = g.rank s) : r = s := by
 have h1 := reps_rank (i := r + s + 1) (by omega) hr
 have h2 := reps_rank (i := r + s + 1) (by omega) hs
 rw [h, h2] at h1; simpa using h1.symm
theorem reps_len (g : Gr) (i : Nat) : (g.reps i).length ≤ i := by
 have := List.length_filter_le (fun v => decide (g.grp v = v)) (List.range i)
 simpa [Gr.reps] using this
def Gr.mem (g : Gr) (i r : Nat) : List Int := ((List.range i).filter fun v => decide (g.grp v = r)).map fun v : Nat => (v : Int)
theorem mem_succ {g : Gr} (i r : Nat) : g.mem (i + 1) r = g.mem i r ++ if g.grp i = r then [(i : Int)] else [] := by
 simp only [Gr.mem, List.range_succ, List.filter_append, List.map_append]
 congr 1
 by_cases h : g.grp i = r <;> simp [h]
def Gr.ndL (g : Gr) (i : Nat) : List (List Int) := (g.reps i).map (g.mem i)
def Gr.comps (g : Gr) : List (List Int) := g.ndL g.nodes.length
theorem ndL_new {g : Gr} {i : Nat} (h : g.grp i = i) (hlt : ∀ v, v < i → g.grp v ≠ i) : g.ndL (i + 1) = (g.ndL i ++ [[]]).set (g.rank i) [(i : Int)] := by
 have hl : (g.ndL i).length = g.rank i := by simp [Gr.ndL, Gr.rank]
 have e : (g.ndL i ++ [[]]).set (g.rank i) [(i : Int)] = g.ndL i ++ [[(i : Int)]] := by
  rw [← hl, List.set_append_right _ _ (Nat.le_refl _)]; simp
 rw [e]
 simp only [Gr.ndL, reps_succ, if_pos h, List.map_append, List.map_cons, List.map_nil]
 congr 1
 ·refine List.map_congr_left fun r hr => ?_
  have := reps_mem.1 hr
  rw [mem_succ, if_neg (by omega)]; simp
 ·rw [mem_succ, if_pos h]
  have : g.mem i i = [] := by
   simp only [Gr.mem, List.map_eq_nil_iff, List.filter_eq_nil_iff, List.mem_range, decide_eq_true_eq]
   exact fun v hv => hlt v hv
  rw [this]; rfl
theorem ndL_old {g : Gr} (hv : g.valid = true) {i : Nat} (hi : i < g.nodes.length) (h : g.grp i < i) : g.ndL (i + 1) = (g.ndL i).set (g.rank (g.grp i)) (g.mem i (g.grp i) ++ [(i : Int)]) := by
 have hgg := grp_grp hv hi
 have hrk := reps_rank h hgg
 simp only [Gr.ndL, reps_succ, if_neg (by omega : ¬ g.grp i = i), List.append_nil]
 refine List.ext_getElem? fun k => ?_
 rw [List.getElem?_set, List.getElem?_map]
 by_cases hk : g.rank (g.grp i) = k
 ·subst hk
  rw [if_pos rfl, hrk, if_pos (by simpa using rank_lt h hgg), Option.map_some, mem_succ, if_pos rfl]
 ·rw [if_neg hk, List.getElem?_map]
  cases hr : (g.reps i)[k]? with
  | none => rfl
  | some r =>
   simp only [Option.map_some, Option.some.injEq]
   rw [mem_succ, if_neg (fun e => hk ?_), List.append_nil]
   have := reps_mem.1 (List.mem_of_getElem? hr)
   have h2 := reps_rank this.1 this.2
   have hnd : (g.reps i).Nodup := (List.nodup_range).filter _
   have hlt := (List.getElem?_eq_some_iff.1 hr).1
   rw [e]
   exact (List.getElem?_inj (rank_lt this.1 this.2) hnd).1 (h2.trans hr.symm)
def Gr.ceP (g : Gr) (u : Nat) (ks : List Int) : List Int := (ks.filter fun k => decide (g.grp k.toNat ≠ g.grp u)).map fun k => (g.rank (g.grp k.toNat) : Int)
def Gr.ceR (g : Gr) (i r : Nat) : List Int := ((List.range i).filter fun u => decide (g.grp u = r)).flatMap fun u => g.ceP u (g.succ u)
def Gr.ceU (g : Gr) (i : Nat) : List (List Int) := (g.reps g.nodes.length).map (g.ceR i)
def Gr.cedges (g : Gr) : List (List Int) := g.ceU g.nodes.length
theorem ceP_snoc {g : Gr} {u : Nat} {ks : List Int} {k : Int} : g.ceP u (ks ++ [k]) = g.ceP u ks ++ if g.grp k.toNat = g.grp u then [] else [(g.rank (g.grp k.toNat) : Int)] := by
 simp only [Gr.ceP, List.filter_append, List.map_append]
 congr 1
 by_cases h : g.grp k.toNat = g.grp u <;> simp [h]
theorem ceR_succ {g : Gr} (i r : Nat) : g.ceR (i + 1) r = g.ceR i r ++ if g.grp i = r then g.ceP i (g.succ i) else [] := by
 simp only [Gr.ceR, List.range_succ, List.filter_append, List.flatMap_append]
 congr 1
 by_cases h : g.grp i = r <;> simp [h]
def Gr.ceM (g : Gr) (i : Nat) (pre : List Int) : List (List Int) := (g.ceU i).set (g.rank (g.grp i)) (g.ceR i (g.grp i) ++ g.ceP i pre)
theorem ceU_get {g : Gr} (hv : g.valid = true) {i v : Nat} (h : v < g.nodes.length) : (g.ceU i)[g.rank (g.grp v)]? = some (g.ceR i (g.grp v)) := by
 rw [Gr.ceU, List.getElem?_map, reps_rank (grp_spec hv h).2.1 (grp_grp hv h)]; rfl
theorem ceM_nil {g : Gr} (hv : g.valid = true) {i : Nat} (h : i < g.nodes.length) : g.ceM i [] = g.ceU i := by
 have := ceU_get (i := i) hv h
 have hlt := (List.getElem?_eq_some_iff.1 this).1
 rw [Gr.ceM, show g.ceP i [] = [] from rfl, List.append_nil]
 refine List.ext_getElem? fun k => ?_
 rw [List.getElem?_set]
 split
 ·rename_i e; subst e; exact this.symm
 ·rfl
theorem ceM_get {g : Gr} (hv : g.valid = true) {i : Nat} (h : i < g.nodes.length) (pre : List Int) : (g.ceM i pre)[g.rank (g.grp i)]? = some (g.ceR i (g.grp i) ++ g.ceP i pre) := by
 have hlt := (List.getElem?_eq_some_iff.1 (ceU_get (i := i) hv h)).1
 rw [Gr.ceM, List.getElem?_set, if_pos rfl, if_pos hlt]
theorem ceM_same {g : Gr} {i : Nat} {pre : List Int} {k : Int} (h : g.grp k.toNat = g.grp i) : g.ceM i (pre ++ [k]) = g.ceM i pre := by
 rw [Gr.ceM, ceP_snoc, if_pos h, List.append_nil]; rfl
theorem ceM_other {g : Gr} {i : Nat} {pre : List Int} {k : Int} (h : ¬ g.grp k.toNat = g.grp i) : g.ceM i (pre ++ [k]) = (g.ceM i pre).set (g.rank (g.grp i)) ((g.ceR i (g.grp i) ++ g.ceP i pre) ++ [(g.rank (g.grp k.toNat) : Int)]) := by
 rw [Gr.ceM, ceP_snoc, if_neg h, Gr.ceM, List.set_set, List.append_assoc]
theorem ceM_all {g : Gr} (hv : g.valid = true) {i : Nat} (h : i < g.nodes.length) : g.ceM i (g.succ i) = g.ceU (i + 1) := by
 have hget := ceU_get (i := i) hv h
 have hlt := (List.getElem?_eq_some_iff.1 hget).1
 have hgs := grp_spec hv h
 have hrk := reps_rank hgs.2.1 (grp_grp hv h)
 refine List.ext_getElem? fun k => ?_
 rw [Gr.ceM, List.getElem?_set]
 by_cases hk : g.rank (g.grp i) = k
 ·subst hk
  rw [if_pos rfl, if_pos hlt, Gr.ceU, List.getElem?_map, hrk, Option.map_some, ceR_succ, if_pos rfl]
 ·rw [if_neg hk, Gr.ceU, Gr.ceU, List.getElem?_map, List.getElem?_map]
  cases hr : (g.reps g.nodes.length)[k]? with
  | none => rfl
  | some r =>
   simp only [Option.map_some, Option.some.injEq]
   rw [ceR_succ, if_neg (fun e => hk ?_), List.append_nil]
   have hnd : (g.reps g.nodes.length).Nodup := (List.nodup_range).filter _
   rw [← e] at hr
   exact (List.getElem?_inj (rank_lt hgs.2.1 (grp_grp hv h)) hnd).1 (hrk.trans hr.symm)
theorem ceU_zero (g : Gr) : g.ceU 0 = List.replicate (g.reps g.nodes.length).length [] := by
 simp only [Gr.ceU, Gr.ceR, List.range_zero, List.filter_nil, List.flatMap_nil]
 exact List.map_const' ..
end Go.Proofs.Yteifhcohmipdcaa

namespace Go.Proofs.Yteifhcohmipdcaa
open Go.Abs
set_option linter.unusedSimpArgs false
set_option linter.unusedVariables false
structure RowsV (lo : Nat) (v : AV) (vs : List AV) (ls : List (List Int)) (H : AHeap) : Prop where
 rows : Rows lo vs ls H
 top : (v = AV.nils ∧ vs = []) ∨ ∃ id g : Nat, v = AV.sl id g 0 vs.length ∧ H.get id = some (.row 26 1 g vs) ∧ lo ≤ id ∧ ∀ i x g' n : Nat, vs[i]? = some (AV.sl x g' 0 n) → x ≠ id
theorem Rows.push {lo : Nat} {vs : List AV} {ls : List (List Int)} {H : AHeap} (h : Rows lo vs ls H) : Rows lo (vs ++ [.nils]) (ls ++ [[]]) H := by
 refine ⟨by simp [h.len], fun i v l hv hl => ?_, fun i j id g n g' n' hi hj => ?_⟩
 ·by_cases hlt : i < vs.length
  ·rw [List.getElem?_append_left hlt] at hv
   rw [List.getElem?_append_left (by rw [← h.len]; exact hlt)] at hl
   exact h.own i v l hv hl
  ·rw [List.getElem?_append_right (by omega)] at hv
   rw [List.getElem?_append_right (by rw [← h.len]; omega)] at hl
   have := (List.getElem?_eq_some_iff.1 hv).1
   have e0 : i - vs.length = 0 := by simp at this; omega
   rw [e0] at hv
   rw [← h.len, e0] at hl
   simp at hv hl
   subst hv; subst hl
   exact .inl ⟨rfl, rfl⟩
 ·have hlt : ∀ {i : Nat} {id g n : Nat}, (vs ++ [AV.nils])[i]? = some (.sl id g 0 n) → vs[i]? = some (.sl id g 0 n) := by
   intro i id g n hh
   by_cases hlt : i < vs.length
   ·rwa [List.getElem?_append_left hlt] at hh
   ·rw [List.getElem?_append_right (by omega)] at hh
    have := (List.getElem?_eq_some_iff.1 hh).1
    have e0 : i - vs.length = 0 := by simp at this; omega
    rw [e0] at hh; simp at hh
  exact h.ne i j id g n g' n' (hlt hi) (hlt hj)
theorem push_get {vs : List AV} {i x g n : Nat} (h : (vs ++ [AV.nils])[i]? = some (.sl x g 0 n)) : vs[i]? = some (.sl x g 0 n) := by
 by_cases hlt : i < vs.length
 ·rwa [List.getElem?_append_left hlt] at h
 ·rw [List.getElem?_append_right (by omega)] at h
  have := (List.getElem?_eq_some_iff.1 h).1
  have e0 : i - vs.length = 0 := by simp at this; omega
  rw [e0] at h; simp at h
theorem set_get {vs : List AV} {k i x g n : Nat} {v : AV} (h : (vs.set k v)[i]? = some (.sl x g 0 n)) : vs[i]? = some (.sl x g 0 n) ∨ v = .sl x g 0 n := by
 rw [List.getElem?_set] at h
 split at h
 ·split at h
  ·right; exact Option.some.inj h
  ·cases h
 ·exact .inl h
theorem RowsV.frz {lo : Nat} {v : AV} {vs : List AV} {ls : List (List Int)} {H : AHeap} (h : RowsV lo v vs ls H) : Frz H v (encS ls) := by
 rcases h.top with ⟨rfl, h1⟩ | ⟨id, g, rfl, hb, _, _⟩
 ·have : ls = [] := List.eq_nil_of_length_eq_zero (by rw [← h.rows.len, h1]; rfl)
  subst this; exact .nils
 ·exact h.rows.frz hb rfl
theorem RowsV.keep {lo : Nat} {v : AV} {vs : List AV} {ls : List (List Int)} {H H' : AHeap} (h : RowsV lo v vs ls H) (hk : ∀ id, H.get id ≠ none → H'.get id = H.get id) : RowsV lo v vs ls H' := by
 refine ⟨h.rows.keep fun id _ hid => hk id hid, ?_⟩
 rcases h.top with h1 | ⟨id, g, h1, hb, h2, h3⟩
 ·exact .inl h1
 ·exact .inr ⟨id, g, h1, by rw [hk id (by rw [hb]; simp)]; exact hb, h2, h3⟩
theorem RowsV.one {lo : Nat} {v : AV} {vs : List AV} {ls : List (List Int)} {H : AHeap} (h : RowsV lo v vs ls H) : v.one = true := by
 rcases h.top with ⟨rfl, _⟩ | ⟨id, g, rfl, _⟩ <;> rfl
theorem Rows.keepR {lo : Nat} {vs : List AV} {ls : List (List Int)} {H H' : AHeap} (h : Rows lo vs ls H) (hk : ∀ i id g n : Nat, vs[i]? = some (AV.sl id g 0 n) → H'.get id = H.get id) : Rows lo vs ls H' :=
 ⟨h.len, fun i v l hv hl => (h.own i v l hv hl).keep fun id g n e => hk i id g n (e ▸ hv), h.ne⟩
theorem RowsV.pushed {lo id g : Nat} {v : AV} {vs : List AV} {ls : List (List Int)} {H H' : AHeap} (h : RowsV lo v vs ls H) (hb : H'.get id = some (.row 26 1 g (vs ++ [.nils]))) (hlo : lo ≤ id)
  (hid : (∃ g0 : Nat, v = AV.sl id g0 0 vs.length) ∨ v = AV.nils) (hk : ∀ j, lo ≤ j → H.get j ≠ none → j ≠ id → H'.get j = H.get j) : RowsV lo (.sl id g 0 (vs.length + 1)) (vs ++ [.nils]) (ls ++ [[]]) H' := by
 have hne : ∀ i x g' n : Nat, vs[i]? = some (AV.sl x g' 0 n) → x ≠ id := by
  rcases h.top with ⟨rfl, h1⟩ | ⟨id', g', rfl, h1, h2, h3⟩
  ·intro i x g' n hx; rw [h1] at hx; simp at hx
  ·rcases hid with ⟨g0, e⟩ | e
   ·cases e; exact h3
   ·cases e
 refine ⟨(h.rows.keepR fun i x g' n hx => hk x (h.rows.used hx).2 (h.rows.used hx).1 (hne i x g' n hx)).push, .inr ⟨id, g, by simp, hb, hlo, fun i x g' n hx => hne i x g' n (push_get hx)⟩⟩
theorem RowsV.setR {lo iv gv k : Nat} {n : Nat} {vs : List AV} {ls : List (List Int)} {H H' : AHeap} {x : AV} {l : List Int} (h : RowsV lo (.sl iv gv 0 n) vs ls H) (hb : H'.get iv = some (.row 26 1 gv (vs.set k x)))
  (hx : OwnR 3 1 lo (l.map (AV.int IntKind.i64)) x H') (hxv : ∀ g' n' : Nat, x ≠ AV.sl iv g' 0 n')
  (ho : ∀ (j id g n : Nat), j ≠ k → vs[j]? = some (AV.sl id g 0 n) → H'.get id = H.get id ∧ ∀ g' n' : Nat, x ≠ AV.sl id g' 0 n') : RowsV lo (.sl iv gv 0 n) (vs.set k x) (ls.set k l) H' := by
 rcases h.top with ⟨h1, _⟩ | ⟨id', g', e, h1, h2, h3⟩
 ·cases h1
 ·cases e
  refine ⟨h.rows.set hx ho, .inr ⟨_, _, by simp, hb, h2, fun i y g' n' hy => ?_⟩⟩
  rcases set_get hy with hy | hy
  ·exact h3 i y g' n' hy
  ·intro e; subst e; exact hxv _ _ hy
theorem cmp_grp {g : Gr} {cmp : List Int} {cnt : Int} (hv : g.valid = true) (hn : IsNum g cmp cnt) {u w : Int} (hu : inR g.nodes.length u) (hw : inR g.nodes.length w) : gt cmp u = gt cmp w ↔ g.grp u.toNat = g.grp w.toNat := by
 rw [hn.same u w hu hw, grp_eq hv (in_toNat hu) (in_toNat hw), toNat_cast hu, toNat_cast hw]
theorem mem_len (g : Gr) (i r : Nat) : (g.mem i r).length ≤ i := by
 simp only [Gr.mem, List.length_map]
 exact Nat.le_trans (List.length_filter_le _ _) (by simp)
theorem ceP_len (g : Gr) (u : Nat) (ks : List Int) : (g.ceP u ks).length ≤ ks.length := by
 simp only [Gr.ceP, List.length_map]
 exact List.length_filter_le _ _
theorem ceR_len (g : Gr) (i r : Nat) : (g.ceR i r).length ≤ i * g.nodes.length := by
 induction i with
 | zero => simp [Gr.ceR]
 | succ i ih =>
  rw [ceR_succ, List.length_append, Nat.succ_mul]
  have h1 := ceP_len g i (g.succ i)
  have h2 := succ_len g i
  split <;> simp <;> omega
def PlOk (g : Gr) (cmp pl : List Int) (i : Nat) : Prop := ∀ u : Nat, u < g.nodes.length → gt pl (gt cmp u) = if g.grp u < i then (g.rank (g.grp u) : Int) else -1
theorem PlOk.new {g : Gr} {cmp pl : List Int} {cn i : Nat} (hv : g.valid = true) (hn : IsNum g cmp cn) (hl : pl.length = cn) (h : PlOk g cmp pl i) (hi : i < g.nodes.length) (hg : g.grp i = i) : PlOk g cmp (pl.set (gt cmp i).toNat (g.rank i)) (i + 1) := by
 intro u hu
 have hr : ∀ w : Nat, w < g.nodes.length → inR pl.length (gt cmp w) := fun w hw => by have := hn.rng w ⟨by omega, by omega⟩; exact ⟨this.1, by omega⟩
 rw [gt_set (hr i hi) (hr u hu), h u hu]
 have hc := cmp_grp hv hn (u := (u : Int)) (w := (i : Int)) ⟨by omega, by omega⟩ ⟨by omega, by omega⟩
 simp only [Int.toNat_natCast] at hc
 by_cases e : gt cmp u = gt cmp i
 ·have e2 := hc.1 e
  rw [if_pos e, if_pos (by omega), e2, hg]
 ·have e2 : ¬ g.grp u = g.grp i := fun h => e (hc.2 h)
  rw [if_neg e]
  by_cases h3 : g.grp u < i
  ·rw [if_pos h3, if_pos (by omega)]
  ·rw [if_neg h3, if_neg (by omega)]
theorem PlOk.old {g : Gr} {cmp pl : List Int} {i : Nat} (hv : g.valid = true) (h : PlOk g cmp pl i) (hi : i < g.nodes.length) (hg : ¬ g.grp i = i) : PlOk g cmp pl (i + 1) := by
 intro u hu
 rw [h u hu]
 have h1 : ¬ g.grp u = i := fun e => hg (by have := grp_grp hv hu; rw [e] at this; exact this)
 by_cases h3 : g.grp u < i
 ·rw [if_pos h3, if_pos (by omega)]
 ·rw [if_neg h3, if_neg (by omega)]
end Go.Proofs.Yteifhcohmipdcaa

namespace Go.Proofs.Yteifhcohmipdcaa
open Go.Abs
set_option linter.unusedSimpArgs false
set_option linter.unusedVariables false
set_option maxHeartbeats 1000000 in
theorem condensed0 (g : Gr) (hv : g.valid = true) : ACalls Try.prog 55 [encG g] AHeap.nil (fun r H => Frz H r (.tup [encS g.comps, encS g.cedges])) := by
 refine acalls_body TT_ok Try.func55 rfl rfl (by simp [Try.ntmps55]) ?_
 rw [Try.ntmps55]
 obtain ⟨σ, hσ⟩ : ∃ σ, σ = st0 [encG g] := ⟨_, rfl⟩
 rw [← hσ]
 have h0_0 := congrFun hσ 0
 simp [st0] at h0_0
 clear hσ
 obtain ⟨H, hH⟩ : ∃ H, H = AHeap.nil := ⟨_, rfl⟩
 rw [← hH]
 have hn_0 : H.n = 0 := by rw [hH]; rfl
 have hst_0 : H.st = 1 := by rw [hH]; rfl
 clear hH
 refine stp_reg TT_ok (by rfl) fun K hK => ?_
 simp [h0_0, hn_0, hst_0, encG]
 try refine And.intro (by first | omega | rfl) ?_
 refine hK _ _ fun σ1 hσ H1 hH => ?_
 clear hK K
 have h1_1 := congrFun hσ 1
 simp [] at h1_1
 clear hσ
 have g0_1 := gt_of hH 0
 simp [hn_0, hst_0] at g0_1
 have hn_1 := congrArg AHeap.n hH
 simp [hn_0, hst_0] at hn_1
 have hst_1 := congrArg AHeap.st hH
 simp [hn_0, hst_0] at hst_1
 clear hH
 obtain ⟨hb1, hb2⟩ := valid_nodes hv
 refine stp_reg TT_ok (by rfl) fun K hK => ?_
 simp [h1_1, g0_1, encG, encG]
 try refine And.intro (by first | omega | rfl) ?_
 refine stp_call (succs_ok g hv) ?_
 simp [h1_1, g0_1, encG, encG]
 try refine And.intro (by first | omega | rfl) ?_
 refine hK _ _ fun σ2 hσ H2 hH => ?_
 clear hK K
 have h4_2 := congrFun hσ 4
 simp [] at h4_2
 clear hσ
 replace hH : H1 = H2 := Eq.symm hH
 subst hH
 have hFF0 := an4 h4_2 g0_1 hn_1 hst_1
 refine stp_reg TT_ok (by rfl) fun K hK => ?_
 simp [hFF0, encG]
 try refine And.intro (by first | omega | rfl) ?_
 refine (number_ok g hv _).mono ?_
 rintro r Hx ⟨rfl, cmp, cnt, hnum, rfl⟩
 obtain ⟨cn, rfl⟩ : ∃ cn : Nat, cnt = cn := ⟨cnt.toNat, by have := hnum.cnt; omega⟩
 have hcl := hnum.len
 have hcn := hnum.cnt
 simp [hFF0, encG]
 try refine And.intro (by first | omega | rfl) ?_
 refine hK _ _ fun σ3 hσ H3 hH => ?_
 clear hK K hFF0
 obtain ⟨h4_3, h5_3, h6_3⟩ := fs3 hσ 4 5 6
 simp [h4_2] at h4_3 h5_3 h6_3
 clear hσ
 have g0_3 := gt_of hH 0
 have g1_3 := gt_of hH 1
 simp [g0_1, hn_1, hst_1] at g0_3 g1_3
 have hn_3 := congrArg AHeap.n hH
 simp [hn_1, hst_1] at hn_3
 have hst_3 := congrArg AHeap.st hH
 simp [hn_1, hst_1] at hst_3
 clear hH
 have hFF0 := an5 h6_3 g0_3 g1_3 hn_3 hst_3
 refine stp_reg TT_ok (by rfl) fun K hK => ?_
 simp [hFF0, encG]
 try refine And.intro (by first | omega | rfl) ?_
 refine FunRowW.at (repeat_w (-1) cn (by omega)) ?hf ?_
 case hf => exact FrzL.cons (frz_ints (xs := [-1]) (by simp [hFF0, encG]; rfl) rfl) (FrzL.cons (.pure (pu_int _ _)) (FrzL.nil _))
 simp [hFF0, encG]
 try refine And.intro (by first | omega | rfl) ?_
 refine hK _ _ fun σ4 hσ H4 hH => ?_
 clear hK K hFF0
 obtain ⟨h4_4, h5_4, h7_4⟩ := fs3 hσ 4 5 7
 simp [h4_3, h5_3] at h4_4 h5_4 h7_4
 clear hσ
 have g0_4 := gt_of hH 0
 have g1_4 := gt_of hH 1
 have g2_4 := gt_of hH 2
 have g3_4 := gt_of hH 3
 have g4_4 := gt_of hH 4
 simp [g0_3, g1_3, hn_3, hst_3] at g0_4 g1_4 g2_4 g3_4 g4_4
 have hn_4 := congrArg AHeap.n hH
 simp [hn_3, hst_3] at hn_4
 have hst_4 := congrArg AHeap.st hH
 simp [hn_3, hst_3] at hst_4
 clear hH
 refine stp_reg TT_ok (by rfl) fun K hK => ?_
 simp [g0_4, g1_4, g2_4, g3_4, g4_4, encG]
 try refine And.intro (by first | omega | rfl) ?_
 refine hK _ _ fun σ5 hσ H5 hH => ?_
 clear hK K
 obtain ⟨h4_5, h5_5, h7_5, h8_5⟩ := fs4 hσ 4 5 7 8
 simp [h4_4, h5_4, h7_4] at h4_5 h5_5 h7_5 h8_5
 clear hσ
 replace hH : H4 = H5 := Eq.symm hH
 subst hH
 refine awp_seq ?_
 refine stp_reg TT_ok (by rfl) fun K hK => ?_
 simp [h5_5, g0_4, g1_4, g2_4, g3_4, g4_4, encG]
 try refine And.intro (by first | omega | rfl) ?_
 refine hK _ _ fun σ6 hσ H6 hH => ?_
 clear hK K
 obtain ⟨h4_6, h5_6, h7_6, h8_6, h26_6, h27_6, h28_6⟩ := fs7 hσ 4 5 7 8 26 27 28
 simp [h4_5, h5_5, h7_5, h8_5] at h4_6 h5_6 h7_6 h8_6 h26_6 h27_6 h28_6
 clear hσ
 replace hH : H4 = H6 := Eq.symm hH
 subst hH
 refine awp_block ?_
 refine awp_loopV (fun n σ' H' => ∃ (i : Nat) (v : AV) (vs : List AV) (pl : List Int), n = g.nodes.length - i ∧ σ' 4 = σ6 4 ∧ σ' 5 = σ6 5 ∧ σ' 7 = σ6 7 ∧ σ' 8 = v ∧ σ' 26 = σ6 26 ∧ σ' 27 = σ6 27 ∧ σ' 28 = (AV.int IntKind.i64) i ∧ H'.get 1 = H4.get 1 ∧ H'.get 3 = some (.row 3 1 0 (pl.map (AV.int IntKind.i64))) ∧ H'.get 4 = H4.get 4 ∧ H'.st = H4.st ∧ (i ≤ g.nodes.length) ∧ (RowsV 5 v vs (g.ndL i) H') ∧ (pl.length = cn) ∧ (PlOk g cmp pl i)) ?_ ?_
 ·refine ⟨_, 0, .nils, [], List.replicate cn (-1), rfl, rfl, rfl, rfl, (by simp [h8_6]), rfl, rfl, (by simp [h28_6]), rfl, (by simp [g3_4]), rfl, rfl, ?_, ?_, ?_, ?_⟩
  ·first | omega | (simp; done) | assumption
  ·exact ⟨⟨by rfl, fun i v l h => by simp at h, fun i j id g n g' n' h => by simp at h⟩, .inl ⟨rfl, rfl⟩⟩
  ·simp
  ·intro u hu
   have h1 := hnum.rng u ⟨by omega, by omega⟩
   have h2 : (gt cmp u).toNat < cn := by omega
   rw [if_neg (by omega)]
   show (List.replicate cn (-1 : Int)).getD (gt cmp u).toNat 0 = -1
   rw [List.getD_eq_getElem?_getD, List.getElem?_replicate, if_pos h2]; rfl
 ·rintro n1 σ7 H7 ⟨i, v, vs, pl, hn1, q4_7, q5_7, q7_7, h8_7, q26_7, q27_7, h28_7, qg1_7, g3_7, qg4_7, qst_7, p1, p2, p3, p4⟩
  have h4_7 := q4_7.trans h4_6
  have h5_7 := q5_7.trans h5_6
  have h7_7 := q7_7.trans h7_6
  have h26_7 := q26_7.trans h26_6
  have h27_7 := q27_7.trans h27_6
  have g1_7 := qg1_7.trans g1_4
  have g4_7 := qg4_7.trans g4_4
  have hst_7 := qst_7.trans hst_4
  have hvl : vs.length = g.rank i := by rw [p2.rows.len]; simp [Gr.ndL, Gr.rank]
  have hrl := reps_len g i
  have hrl2 : g.rank i ≤ i := hrl
  refine stp_reg TT_ok (by rfl) fun K hK => ?_
  simp [h27_7, h28_7, g1_7, g3_7, g4_7, encG]
  try refine And.intro (by first | omega | rfl) ?_
  refine hK _ _ fun σ8 hσ H8 hH => ?_
  clear hK K
  obtain ⟨h4_8, h5_8, h7_8, h8_8, h26_8, h27_8, h28_8, h29_8⟩ := fs8 hσ 4 5 7 8 26 27 28 29
  simp [h4_7, h5_7, h7_7, h8_7, h26_7, h27_7, h28_7] at h4_8 h5_8 h7_8 h8_8 h26_8 h27_8 h28_8 h29_8
  clear hσ
  replace hH : H7 = H8 := Eq.symm hH
  subst hH
  refine awp_seq ?_
  refine awp_cond _ (by simp only [aeval_tmp]; exact h29_8) (fun hc29 => ?_) (fun hc29 => ?_)
  ·try simp at hc29
   have hlt : i < g.nodes.length := by simpa [hcl] using hc29
   have hir : inR g.nodes.length (i : Int) := ⟨by omega, by omega⟩
   have hlt2 : i < cmp.length := by omega
   have hgi : cmp[i] = gt cmp i := by simp [gt, hlt2]
   obtain ⟨c, hc⟩ : ∃ c, gt cmp i = c := ⟨_, rfl⟩
   obtain ⟨c1, c2⟩ := hnum.rng i hir
   rw [hc] at hgi c1 c2
   have c3 : c.toNat < cn := by omega
   have c4 : c.toNat < pl.length := by omega
   have hplc := p4 i hlt
   rw [hc] at hplc
   have hgs := grp_spec hv hlt
   refine awp_skip ?_
   refine q_seq ?_
   refine awp_seq ?_
   refine awp_block ?_
   refine stp_reg TT_ok (by rfl) fun K hK => ?_
   simp [h26_8, h28_8, g1_7, g3_7, g4_7, encG, hlt, hlt2, hgi, hcl]
   try refine And.intro (by first | omega | rfl) ?_
   refine hK _ _ fun σ9 hσ H9 hH => ?_
   clear hK K
   obtain ⟨h4_9, h5_9, h7_9, h8_9, h9_9, h10_9, h26_9, h27_9, h28_9⟩ := fs9 hσ 4 5 7 8 9 10 26 27 28
   simp [h4_8, h5_8, h7_8, h8_8, h26_8, h27_8, h28_8] at h4_9 h5_9 h7_9 h8_9 h9_9 h10_9 h26_9 h27_9 h28_9
   clear hσ
   replace hH : H7 = H9 := Eq.symm hH
   subst hH
   refine stp_cut (fun σ' H' => ∃ (v2 : AV) (vs2 : List AV) (pl2 : List Int), σ' 4 = σ9 4 ∧ σ' 5 = σ9 5 ∧ σ' 7 = σ9 7 ∧ σ' 8 = v2 ∧ σ' 9 = σ9 9 ∧ σ' 10 = σ9 10 ∧ σ' 26 = σ9 26 ∧ σ' 27 = σ9 27 ∧ σ' 28 = σ9 28 ∧ H'.get 1 = H7.get 1 ∧ H'.get 3 = some (.row 3 1 0 (pl2.map (AV.int IntKind.i64))) ∧ H'.get 4 = H7.get 4 ∧ H'.st = H7.st ∧ (RowsV 5 v2 vs2 (if g.grp i = i then g.ndL i ++ [[]] else g.ndL i) H') ∧ (pl2.length = cn) ∧ (PlOk g cmp pl2 (i + 1))) ?_ ?_
   ·skip
    by_cases hgg : g.grp i = i
    ·skip
     refine stp_reg TT_ok (by rfl) fun K hK => ?_
     simp [h7_9, h10_9, g1_7, g3_7, g4_7, hgg, beq_iff_eq.2 hgg, encG, c1, c2, c3, gt_elem c4, p3]
     try refine And.intro (by first | omega | rfl) ?_
     refine hK _ _ fun σ11 hσ H11 hH => ?_
     clear hK K
     obtain ⟨h4_11, h5_11, h7_11, h8_11, h9_11, h10_11, h26_11, h27_11, h28_11, h37_11⟩ := fs10 hσ 4 5 7 8 9 10 26 27 28 37
     simp [h4_9, h5_9, h7_9, h8_9, h9_9, h10_9, h26_9, h27_9, h28_9] at h4_11 h5_11 h7_11 h8_11 h9_11 h10_11 h26_11 h27_11 h28_11 h37_11
     clear hσ
     replace hH : H7 = H11 := Eq.symm hH
     subst hH
     refine stp_true (by simp [aeval_tmp, h37_11, hgg, beq_iff_eq.2 hgg, encG, hplc, hgg]) ?_
     rcases p2.top with ⟨rfl, hvs⟩ | ⟨iv, gv, rfl, hb, hlo, hne⟩
     ·skip
      refine stp_reg TT_ok (by rfl) fun K hK => ?_
      simp [h7_11, h8_11, h10_11, g1_7, g3_7, g4_7, hgg, beq_iff_eq.2 hgg, encG, c1, c2, c3, p3]
      try refine And.intro (by first | omega | rfl) ?_
      refine hK _ _ fun σ12 hσ H12 hH => ?_
      clear hK K
      obtain ⟨h4_12, h5_12, h7_12, h8_12, h9_12, h10_12, h26_12, h27_12, h28_12⟩ := fs9 hσ 4 5 7 8 9 10 26 27 28
      simp [h4_11, h5_11, h7_11, h8_11, h9_11, h10_11, h26_11, h27_11, h28_11] at h4_12 h5_12 h7_12 h8_12 h9_12 h10_12 h26_12 h27_12 h28_12
      clear hσ
      have g1_12 := gt_of hH 1
      have g3_12 := gt_of hH 3
      have g4_12 := gt_of hH 4
      simp [g1_7, g3_7, g4_7, hst_7, hgg, beq_iff_eq.2 hgg] at g1_12 g3_12 g4_12
      have hst_12 := congrArg AHeap.st hH
      simp [hst_7] at hst_12
      have ka : ∀ j, j ≠ 3 → H12.get j = H7.get j := fun j h1 => by rw [hH]; simp [h1]
      clear hH
      refine awp_ok fun hok => ?_
      obtain ⟨m13, hn_m13⟩ : ∃ m, H12.n = m := ⟨_, rfl⟩
      have hf_m13_0 := hok.free 0
      simp [hn_m13, hst_12] at hf_m13_0
      have nx1 := ne_get hf_m13_0 g1_12
      have nx2 := ne_get hf_m13_0 g3_12
      have nx3 := ne_get hf_m13_0 g4_12
      have hf_m13_1 := hok.free 1
      simp [hn_m13, hst_12] at hf_m13_1
      have nx4 := ne_get hf_m13_1 g1_12
      have nx5 : ¬ m13 = 0 ∧ ¬ 0 = m13 := by omega
      have nx6 := ne_get hf_m13_1 g3_12
      have nx7 : ¬ m13 = 2 ∧ ¬ 2 = m13 := by omega
      have nx8 := ne_get hf_m13_1 g4_12
      have nx9 : ¬ m13 = 3 ∧ ¬ 3 = m13 := by omega
      refine stp_regl TT_ok (by rfl) fun K hK => ?_
      simp [h8_12, g1_12, g3_12, g4_12, hn_m13, hst_12, hgg, beq_iff_eq.2 hgg, nx1, nx2, nx3, nx4, nx5, nx6, nx7, nx8, nx9, encG]
      try refine And.intro (by first | omega | rfl) ?_
      refine hK _ _ fun σ14 hσ H14 hH => ?_
      clear hK K
      obtain ⟨h4_14, h5_14, h7_14, h8_14, h9_14, h10_14, h26_14, h27_14, h28_14⟩ := fs9 hσ 4 5 7 8 9 10 26 27 28
      simp [h4_12, h5_12, h7_12, h9_12, h10_12, h26_12, h27_12, h28_12] at h4_14 h5_14 h7_14 h8_14 h9_14 h10_14 h26_14 h27_14 h28_14
      clear hσ
      have g1_14 := gt_of hH 1
      have g3_14 := gt_of hH 3
      have g4_14 := gt_of hH 4
      have gm13_14 := gt_of hH m13
      have g_m13_1__14 := gt_of hH (m13 + 1)
      simp [g1_12, g3_12, g4_12, hn_m13, hst_12, hgg, beq_iff_eq.2 hgg, nx1, nx2, nx3, nx4, nx5, nx6, nx7, nx8, nx9] at g1_14 g3_14 g4_14 gm13_14 g_m13_1__14
      have hst_14 := congrArg AHeap.st hH
      simp [hst_12] at hst_14
      have kb : ∀ j, H12.get j ≠ none → H14.get j = H12.get j := fun j hj => by
       rw [hH]; have hjm : ¬ j = m13 := by { intro e; rw [e, hf_m13_0] at hj; exact hj rfl }
       have hjn : ¬ j = (m13 + 1) := by { intro e; rw [e, hf_m13_1] at hj; exact hj rfl }
       simp [hn_m13, hst_12, hjm, hjn]
      clear hH
      have hr0 : g.rank i = 0 := by rw [← hvl, hvs]; rfl
      refine ⟨rfl, .sl (m13 + 1) 0 0 1, [.nils], pl.set c.toNat (g.rank i), (h4_14.trans h4_9.symm), (h5_14.trans h5_9.symm), (h7_14.trans h7_9.symm), (by simp [h8_14, hr0]), (h9_14.trans h9_9.symm), (h10_14.trans h10_9.symm), (h26_14.trans h26_9.symm), (h27_14.trans h27_9.symm), (h28_14.trans h28_9.symm), (g1_14.trans g1_7.symm), (by simp [g3_14, hr0]), (g4_14.trans g4_7.symm), (hst_14.trans hst_7.symm), ?_, ?_, ?_⟩
      ·subst hvs
       rw [if_pos hgg]
       exact p2.pushed (by rw [g_m13_1__14]; rfl) (by omega) (.inr rfl) fun j h5 hj h1 => by rw [kb j (by rw [ka j (by omega)]; exact hj), ka j (by omega)]
      ·simpa using p3
      ·rw [← hc]; exact p4.new hv hnum p3 hlt hgg
     ·skip
      have nx10 : ¬ iv = 1 ∧ ¬ 1 = iv := by omega
      have nx11 : ¬ iv = 3 ∧ ¬ 3 = iv := by omega
      have nx12 : ¬ iv = 4 ∧ ¬ 4 = iv := by omega
      refine stp_reg TT_ok (by rfl) fun K hK => ?_
      simp [h7_11, h8_11, h10_11, g1_7, g3_7, g4_7, hb, hgg, beq_iff_eq.2 hgg, nx10, nx11, nx12, encG, c1, c2, c3, p3, show vs.length ≤ 1024 by omega]
      try refine And.intro (by first | omega | rfl) ?_
      refine hK _ _ fun σ15 hσ H15 hH => ?_
      clear hK K
      obtain ⟨h4_15, h5_15, h7_15, h8_15, h9_15, h10_15, h26_15, h27_15, h28_15⟩ := fs9 hσ 4 5 7 8 9 10 26 27 28
      simp [h4_11, h5_11, h7_11, h8_11, h9_11, h10_11, h26_11, h27_11, h28_11] at h4_15 h5_15 h7_15 h8_15 h9_15 h10_15 h26_15 h27_15 h28_15
      clear hσ
      have g1_15 := gt_of hH 1
      have g3_15 := gt_of hH 3
      have g4_15 := gt_of hH 4
      have giv_15 := gt_of hH iv
      simp [g1_7, g3_7, g4_7, hb, hst_7, hgg, beq_iff_eq.2 hgg, nx10, nx11, nx12] at g1_15 g3_15 g4_15 giv_15
      have hst_15 := congrArg AHeap.st hH
      simp [hst_7] at hst_15
      have ka : ∀ j, j ≠ 3 → H15.get j = H7.get j := fun j h1 => by rw [hH]; simp [h1]
      clear hH
      refine awp_ok fun hok => ?_
      obtain ⟨m16, hn_m16⟩ : ∃ m, H15.n = m := ⟨_, rfl⟩
      have hf_m16_0 := hok.free 0
      simp [hn_m16, hst_15] at hf_m16_0
      have nx13 := ne_get hf_m16_0 g1_15
      have nx14 := ne_get hf_m16_0 g3_15
      have nx15 := ne_get hf_m16_0 g4_15
      have nx16 := ne_get hf_m16_0 giv_15
      refine stp_regl TT_ok (by rfl) fun K hK => ?_
      simp [h8_15, g1_15, g3_15, g4_15, giv_15, hn_m16, hst_15, hgg, beq_iff_eq.2 hgg, nx10, nx11, nx12, nx13, nx14, nx15, nx16, encG, show vs.length ≤ 9223372036854775806 by omega, show (vs.length + 1) * 24 ≤ 140737488355328 by omega]
      try refine And.intro (by first | omega | rfl) ?_
      refine hK _ _ fun σ17 hσ H17 hH => ?_
      clear hK K
      obtain ⟨h4_17, h5_17, h7_17, h8_17, h9_17, h10_17, h26_17, h27_17, h28_17⟩ := fs9 hσ 4 5 7 8 9 10 26 27 28
      simp [h4_15, h5_15, h7_15, h9_15, h10_15, h26_15, h27_15, h28_15] at h4_17 h5_17 h7_17 h8_17 h9_17 h10_17 h26_17 h27_17 h28_17
      clear hσ
      have g1_17 := gt_of hH 1
      have g3_17 := gt_of hH 3
      have g4_17 := gt_of hH 4
      have giv_17 := gt_of hH iv
      have gm16_17 := gt_of hH m16
      simp [g1_15, g3_15, g4_15, giv_15, hn_m16, hst_15, hgg, beq_iff_eq.2 hgg, nx10, nx11, nx12, nx13, nx14, nx15, nx16] at g1_17 g3_17 g4_17 giv_17 gm16_17
      have hst_17 := congrArg AHeap.st hH
      simp [hst_15] at hst_17
      have kb : ∀ j, H15.get j ≠ none → j ≠ iv → H17.get j = H15.get j := fun j hj h1 => by
       rw [hH]; have hjm : ¬ j = m16 := by { intro e; rw [e, hf_m16_0] at hj; exact hj rfl }
       simp [hn_m16, hjm, h1]
      clear hH
      refine ⟨rfl, .sl iv (gv + 1) 0 (vs.length + 1), vs ++ [.nils], pl.set c.toNat (g.rank i), (h4_17.trans h4_9.symm), (h5_17.trans h5_9.symm), (h7_17.trans h7_9.symm), (by simp [h8_17, hvl]), (h9_17.trans h9_9.symm), (h10_17.trans h10_9.symm), (h26_17.trans h26_9.symm), (h27_17.trans h27_9.symm), (h28_17.trans h28_9.symm), (g1_17.trans g1_7.symm), (by simp [g3_17, hvl]), (g4_17.trans g4_7.symm), (hst_17.trans hst_7.symm), ?_, ?_, ?_⟩
      ·rw [if_pos hgg]
       exact p2.pushed (by rw [giv_17]) hlo (.inl ⟨_, rfl⟩) fun j h5 hj h1 => by rw [kb j (by rw [ka j (by omega)]; exact hj) h1, ka j (by omega)]
      ·simpa using p3
      ·rw [← hc]; exact p4.new hv hnum p3 hlt hgg
    ·skip
     refine stp_reg TT_ok (by rfl) fun K hK => ?_
     simp [h7_9, h10_9, g1_7, g3_7, g4_7, hgg, beq_eq_false_iff_ne.2 hgg, encG, c1, c2, c3, gt_elem c4, p3]
     try refine And.intro (by first | omega | rfl) ?_
     refine hK _ _ fun σ18 hσ H18 hH => ?_
     clear hK K
     obtain ⟨h4_18, h5_18, h7_18, h8_18, h9_18, h10_18, h26_18, h27_18, h28_18, h37_18⟩ := fs10 hσ 4 5 7 8 9 10 26 27 28 37
     simp [h4_9, h5_9, h7_9, h8_9, h9_9, h10_9, h26_9, h27_9, h28_9] at h4_18 h5_18 h7_18 h8_18 h9_18 h10_18 h26_18 h27_18 h28_18 h37_18
     clear hσ
     replace hH : H7 = H18 := Eq.symm hH
     subst hH
     refine stp_false (by simp [aeval_tmp, h37_18, hgg, beq_eq_false_iff_ne.2 hgg, encG, hplc, show g.grp i < i by omega]) ?_
     refine awp_skip ?_
     refine ⟨rfl, v, vs, pl, (h4_18.trans h4_9.symm), (h5_18.trans h5_9.symm), (h7_18.trans h7_9.symm), (by simp [h8_18]), (h9_18.trans h9_9.symm), (h10_18.trans h10_9.symm), (h26_18.trans h26_9.symm), (h27_18.trans h27_9.symm), (h28_18.trans h28_9.symm), (g1_7.trans g1_7.symm), (by simp [g3_7]), (g4_7.trans g4_7.symm), (hst_7.trans hst_7.symm), ?_, ?_, ?_⟩
     ·rw [if_neg hgg]; exact p2
     ·first | omega | assumption | (simp; done)
     ·exact p4.old hv hlt hgg
   ·rintro σ10 H10 ⟨v2, vs2, pl2, q4_10, q5_10, q7_10, h8_10, q9_10, q10_10, q26_10, q27_10, q28_10, qg1_10, g3_10, qg4_10, qst_10, q1, q2, q3⟩
    have h4_10 := q4_10.trans h4_9
    have h5_10 := q5_10.trans h5_9
    have h7_10 := q7_10.trans h7_9
    have h9_10 := q9_10.trans h9_9
    have h10_10 := q10_10.trans h10_9
    have h26_10 := q26_10.trans h26_9
    have h27_10 := q27_10.trans h27_9
    have h28_10 := q28_10.trans h28_9
    have g1_10 := qg1_10.trans g1_7
    have g4_10 := qg4_10.trans g4_7
    have hst_10 := qst_10.trans hst_7
    have q3i := q3 i hlt
    rw [hc, if_pos (by omega)] at q3i
    obtain ⟨ls2, hls2⟩ : ∃ ls2, (if g.grp i = i then g.ndL i ++ [[]] else g.ndL i) = ls2 := ⟨_, rfl⟩
    have hlr : ls2[g.rank (g.grp i)]? = some (g.mem i (g.grp i)) ∧ g.ndL (i + 1) = ls2.set (g.rank (g.grp i)) (g.mem i (g.grp i) ++ [(i : Int)]) := by
     by_cases hgg : g.grp i = i
     ·have hme : g.mem i (g.grp i) = [] := by
       simp only [Gr.mem, List.map_eq_nil_iff, List.filter_eq_nil_iff, List.mem_range, decide_eq_true_eq]
       intro w hw e
       have := grp_spec hv (v := w) (by omega)
       omega
      rw [if_pos hgg] at hls2
      subst hls2
      rw [hme, hgg]
      have hl : (g.ndL i).length = g.rank i := by simp [Gr.ndL, Gr.rank]
      exact ⟨by rw [← hl]; simp, ndL_new hgg fun w hw e => by have := grp_spec hv (v := w) (by omega); omega⟩
     ·rw [if_neg hgg] at hls2
      subst hls2
      refine ⟨?_, ndL_old hv hlt (by omega)⟩
      rw [Gr.ndL, List.getElem?_map, reps_rank (by omega) (grp_grp hv hlt)]; rfl
    rw [hls2] at q1
    obtain ⟨r, hr⟩ : ∃ r, g.rank (g.grp i) = r := ⟨_, rfl⟩
    rw [hr] at hlr q3i
    obtain ⟨hlr1, hlr2⟩ := hlr
    have hvs2 : vs2.length = ls2.length := q1.rows.len
    have hrl3 := (List.getElem?_eq_some_iff.1 hlr1).1
    have hml := mem_len g i (g.grp i)
    have c5 : c.toNat < pl2.length := by omega
    have hrv : r < vs2.length := by omega
    have hvk : vs2[r]? = some vs2[r] := List.getElem?_eq_getElem hrv
    have hok := q1.rows.own _ _ _ hvk hlr1
    obtain ⟨iv, gv, rfl, htop, hlo, hne⟩ : ∃ iv gv : Nat, v2 = AV.sl iv gv 0 vs2.length ∧ H10.get iv = some (.row 26 1 gv vs2) ∧ 5 ≤ iv ∧ ∀ i x g' n : Nat, vs2[i]? = some (AV.sl x g' 0 n) → x ≠ iv := by
     rcases q1.top with ⟨_, e⟩ | h
     ·rw [e] at hrv; exact absurd hrv (Nat.not_lt_zero _)
     ·exact h
    rcases hok with ⟨hvn, hnil⟩ | ⟨id, gn, rest, hvn, hb, hid⟩
    ·skip
     have nx17 : ¬ iv = 1 ∧ ¬ 1 = iv := by omega
     have nx18 : ¬ iv = 3 ∧ ¬ 3 = iv := by omega
     have nx19 : ¬ iv = 4 ∧ ¬ 4 = iv := by omega
     refine awp_ok fun hok => ?_
     obtain ⟨m19, hn_m19⟩ : ∃ m, H10.n = m := ⟨_, rfl⟩
     have hf_m19_13 := hok.free 13
     simp [hn_m19, hst_10] at hf_m19_13
     have nx20 := ne_get hf_m19_13 g1_10
     have nx21 := ne_get hf_m19_13 g3_10
     have nx22 := ne_get hf_m19_13 g4_10
     have nx23 := ne_get hf_m19_13 htop
     have hf_m19_14 := hok.free 14
     simp [hn_m19, hst_10] at hf_m19_14
     have nx24 := ne_get hf_m19_14 g1_10
     have nx25 := ne_get hf_m19_14 g3_10
     have nx26 := ne_get hf_m19_14 g4_10
     have nx27 := ne_get hf_m19_14 htop
     refine stp_lexl true TT_ok mixed (by rfl) (by rfl) (by kernel_rfl) (by rfl) fun U hU K hK => ?_
     simp [h7_10, h8_10, h9_10, h10_10, g1_10, g3_10, g4_10, htop, hn_m19, hst_10, nx17, nx18, nx19, nx20, nx21, nx22, nx23, nx24, nx25, nx26, nx27, encG, c1, c2, c3, gt_elem c5, q2, q3i, hrv, hvn]
     try refine And.intro (by first | omega | rfl) ?_
     refine hK _ _ _ (by rw [hU.trans (by kernel_rfl : _ = [(0, 1), (0, 2), (1, 2), (0, 3), (0, 4), (0, 5), (1, 5), (2, 5), (3, 5), (4, 5), (0, 6), (1, 6), (2, 6), (3, 6), (4, 6), (5, 6), (0, 7), (1, 7), (2, 7), (3, 7), (4, 7), (5, 7), (6, 7), (0, 8), (1, 8), (2, 8), (3, 8), (4, 8), (5, 8), (0, 9), (1, 9), (2, 9), (3, 9), (4, 9), (5, 9), (0, 10), (1, 10), (2, 10), (3, 10), (4, 10), (0, 11), (1, 11), (2, 11), (3, 11), (4, 11), (0, 12), (1, 12), (2, 12), (3, 12), (4, 12), (5, 12), (6, 12), (7, 12), (8, 12), (9, 12), (10, 12), (11, 12), (0, 13), (1, 13), (2, 13), (3, 13), (4, 13), (5, 13), (6, 13), (7, 13), (8, 13), (9, 13), (10, 13), (11, 13), (0, 14), (1, 14), (2, 14), (3, 14), (4, 14)])]; simp [logOk, ftFree, h7_10, h8_10, h9_10, h10_10, g1_10, g3_10, g4_10, htop, hn_m19, hst_10, nx17, nx18, nx19, nx20, nx21, nx22, nx23, nx24, nx25, nx26, nx27, encG, c1, c2, c3, gt_elem c5, q2, q3i, hrv, hvn]) fun σ20 hσ H20 hH => ?_
     clear hK K hU U
     obtain ⟨h4_20, h5_20, h7_20, h8_20, h26_20, h27_20, h28_20⟩ := fs7 hσ 4 5 7 8 26 27 28
     simp [h4_10, h5_10, h7_10, h8_10, h26_10, h27_10, h28_10] at h4_20 h5_20 h7_20 h8_20 h26_20 h27_20 h28_20
     clear hσ
     have g1_20 := gt_of hH 1
     have g3_20 := gt_of hH 3
     have g4_20 := gt_of hH 4
     have giv_20 := gt_of hH iv
     have g_m19_13__20 := gt_of hH (m19 + 13)
     have g_m19_14__20 := gt_of hH (m19 + 14)
     simp [g1_10, g3_10, g4_10, htop, hn_m19, hst_10, nx17, nx18, nx19, nx20, nx21, nx22, nx23, nx24, nx25, nx26, nx27] at g1_20 g3_20 g4_20 giv_20 g_m19_13__20 g_m19_14__20
     have hst_20 := congrArg AHeap.st hH
     simp [hst_10] at hst_20
     have kb : ∀ j, H10.get j ≠ none → j ≠ iv → H20.get j = H10.get j := fun j hj h1 => by
      rw [hH]; have hjm : ¬ j = (m19 + 13) := by { intro e; rw [e, hf_m19_13] at hj; exact hj rfl }
      have hjn : ¬ j = (m19 + 14) := by { intro e; rw [e, hf_m19_14] at hj; exact hj rfl }
      simp [hn_m19, hjm, hjn, h1]
     clear hH
     refine q_block ?_
     refine q_seq ?_
     refine stp_regl TT_ok (by rfl) fun K hK => ?_
     simp [h28_20, g1_20, g3_20, g4_20, giv_20, g_m19_13__20, g_m19_14__20, nx17, nx18, nx19, nx20, nx21, nx22, nx23, nx24, nx25, nx26, nx27, encG, wrap_ok (n := (i : Int) + 1) (by omega) (by omega)]
     try refine And.intro (by first | omega | rfl) ?_
     refine hK _ _ fun σ21 hσ H21 hH => ?_
     clear hK K
     obtain ⟨h4_21, h5_21, h7_21, h8_21, h26_21, h27_21, h28_21⟩ := fs7 hσ 4 5 7 8 26 27 28
     simp [h4_20, h5_20, h7_20, h8_20, h26_20, h27_20] at h4_21 h5_21 h7_21 h8_21 h26_21 h27_21 h28_21
     clear hσ
     replace hH : H20 = H21 := Eq.symm hH
     subst hH
     refine ⟨_, ?_, i + 1, .sl iv gv 0 vs2.length, vs2.set r (.sl (m19 + 14) 0 0 1), pl2, rfl, (h4_21.trans h4_6.symm), (h5_21.trans h5_6.symm), (h7_21.trans h7_6.symm), (by simp [h8_21]), (h26_21.trans h26_6.symm), (h27_21.trans h27_6.symm), (by simp [h28_21]), (g1_20.trans g1_4.symm), (by simp [g3_20]), (g4_20.trans g4_4.symm), (hst_20.trans hst_4.symm), ?_, ?_, ?_, ?_⟩
     ·subst hn1; omega
     ·first | omega | assumption | (simp; done)
     ·rw [hlr2]
      have hnil2 : g.mem i (g.grp i) = [] := List.map_eq_nil_iff.1 hnil
      refine q1.setR (by rw [giv_20]) (OwnR.mk (rest := []) g_m19_14__20 (by simp [hnil2]) (by simp [hnil2]) (by omega)) (fun g' n' e => by cases e; omega) fun j id g' n' hj hvj => ?_
      obtain ⟨u1, u2⟩ := q1.rows.used hvj
      refine ⟨kb id u1 (hne _ _ _ _ hvj), fun g'' n'' e => ?_⟩
      cases e; exact u1 hf_m19_14
     ·exact q2
     ·exact q3
    ·skip
     rw [hvn] at hvk
     have hiv : ¬ id = iv := hne _ _ _ _ hvk
     have nx28 : ¬ iv = 1 ∧ ¬ 1 = iv := by omega
     have nx29 : ¬ iv = 3 ∧ ¬ 3 = iv := by omega
     have nx30 : ¬ iv = 4 ∧ ¬ 4 = iv := by omega
     have nx31 : ¬ id = 1 ∧ ¬ 1 = id := by omega
     have nx32 : ¬ id = 3 ∧ ¬ 3 = id := by omega
     have nx33 : ¬ id = 4 ∧ ¬ 4 = id := by omega
     refine awp_ok fun hok => ?_
     obtain ⟨m22, hn_m22⟩ : ∃ m, H10.n = m := ⟨_, rfl⟩
     have hf_m22_13 := hok.free 13
     simp [hn_m22, hst_10] at hf_m22_13
     have nx34 := ne_get hf_m22_13 g1_10
     have nx35 := ne_get hf_m22_13 g3_10
     have nx36 := ne_get hf_m22_13 g4_10
     have nx37 := ne_get hf_m22_13 htop
     have nx38 := ne_get hf_m22_13 hb
     refine stp_lexl true TT_ok mixed (by rfl) (by rfl) (by kernel_rfl) (by rfl) fun U hU K hK => ?_
     simp [h7_10, h8_10, h9_10, h10_10, g1_10, g3_10, g4_10, htop, hb, hn_m22, hst_10, hiv, Ne.symm hiv, nx28, nx29, nx30, nx31, nx32, nx33, nx34, nx35, nx36, nx37, nx38, encG, c1, c2, c3, gt_elem c5, q2, q3i, hrv, hvn, show (g.mem i (g.grp i)).length ≤ 9223372036854775806 by omega, show ((g.mem i (g.grp i)).length + 1) * 8 ≤ 140737488355328 by omega]
     try refine And.intro (by first | omega | rfl) ?_
     refine hK _ _ _ (by rw [hU.trans (by kernel_rfl : _ = [(0, 1), (0, 2), (1, 2), (0, 3), (0, 4), (0, 5), (1, 5), (2, 5), (3, 5), (4, 5), (0, 6), (1, 6), (2, 6), (3, 6), (4, 6), (5, 6), (0, 7), (1, 7), (2, 7), (3, 7), (4, 7), (5, 7), (6, 7), (0, 8), (1, 8), (2, 8), (3, 8), (4, 8), (5, 8), (0, 9), (1, 9), (2, 9), (3, 9), (4, 9), (5, 9), (0, 10), (1, 10), (2, 10), (3, 10), (4, 10), (0, 11), (1, 11), (2, 11), (3, 11), (4, 11), (0, 12), (1, 12), (2, 12), (3, 12), (4, 12), (5, 12), (6, 12), (7, 12), (8, 12), (9, 12), (10, 12), (11, 12), (0, 13), (1, 13), (2, 13), (3, 13), (4, 13), (5, 13), (6, 13), (7, 13), (8, 13), (9, 13), (10, 13), (11, 13), (0, 14), (1, 14), (2, 14), (3, 14), (4, 14)])]; simp [logOk, ftFree, h7_10, h8_10, h9_10, h10_10, g1_10, g3_10, g4_10, htop, hb, hn_m22, hst_10, hiv, Ne.symm hiv, nx28, nx29, nx30, nx31, nx32, nx33, nx34, nx35, nx36, nx37, nx38, encG, c1, c2, c3, gt_elem c5, q2, q3i, hrv, hvn, show (g.mem i (g.grp i)).length ≤ 9223372036854775806 by omega, show ((g.mem i (g.grp i)).length + 1) * 8 ≤ 140737488355328 by omega]) fun σ23 hσ H23 hH => ?_
     clear hK K hU U
     obtain ⟨h4_23, h5_23, h7_23, h8_23, h26_23, h27_23, h28_23⟩ := fs7 hσ 4 5 7 8 26 27 28
     simp [h4_10, h5_10, h7_10, h8_10, h26_10, h27_10, h28_10] at h4_23 h5_23 h7_23 h8_23 h26_23 h27_23 h28_23
     clear hσ
     have g1_23 := gt_of hH 1
     have g3_23 := gt_of hH 3
     have g4_23 := gt_of hH 4
     have giv_23 := gt_of hH iv
     have gid_23 := gt_of hH id
     have g_m22_13__23 := gt_of hH (m22 + 13)
     simp [g1_10, g3_10, g4_10, htop, hb, hn_m22, hst_10, hiv, Ne.symm hiv, nx28, nx29, nx30, nx31, nx32, nx33, nx34, nx35, nx36, nx37, nx38] at g1_23 g3_23 g4_23 giv_23 gid_23 g_m22_13__23
     have hst_23 := congrArg AHeap.st hH
     simp [hst_10] at hst_23
     have kb : ∀ j, H10.get j ≠ none → j ≠ iv → j ≠ id → H23.get j = H10.get j := fun j hj h1 h2 => by
      rw [hH]; have hjm : ¬ j = (m22 + 13) := by { intro e; rw [e, hf_m22_13] at hj; exact hj rfl }
      simp [hn_m22, hst_23, hjm, h1, h2]
     clear hH
     refine q_block ?_
     refine q_seq ?_
     refine stp_regl TT_ok (by rfl) fun K hK => ?_
     simp [h28_23, g1_23, g3_23, g4_23, giv_23, gid_23, g_m22_13__23, hiv, Ne.symm hiv, nx28, nx29, nx30, nx31, nx32, nx33, nx34, nx35, nx36, nx37, nx38, encG, wrap_ok (n := (i : Int) + 1) (by omega) (by omega)]
     try refine And.intro (by first | omega | rfl) ?_
     refine hK _ _ fun σ24 hσ H24 hH => ?_
     clear hK K
     obtain ⟨h4_24, h5_24, h7_24, h8_24, h26_24, h27_24, h28_24⟩ := fs7 hσ 4 5 7 8 26 27 28
     simp [h4_23, h5_23, h7_23, h8_23, h26_23, h27_23] at h4_24 h5_24 h7_24 h8_24 h26_24 h27_24 h28_24
     clear hσ
     replace hH : H23 = H24 := Eq.symm hH
     subst hH
     refine ⟨_, ?_, i + 1, .sl iv gv 0 vs2.length, vs2.set r (.sl id (gn + 1) 0 ((g.mem i (g.grp i)).length + 1)), pl2, rfl, (h4_24.trans h4_6.symm), (h5_24.trans h5_6.symm), (h7_24.trans h7_6.symm), (by simp [h8_24]), (h26_24.trans h26_6.symm), (h27_24.trans h27_6.symm), (by simp [h28_24]), (g1_23.trans g1_4.symm), (by simp [g3_23]), (g4_23.trans g4_4.symm), (hst_23.trans hst_4.symm), ?_, ?_, ?_, ?_⟩
     ·subst hn1; omega
     ·first | omega | assumption | (simp; done)
     ·rw [hlr2]
      refine q1.setR (by rw [giv_23]) (OwnR.mk (rest := []) gid_23 (by simp) (by simp) (by omega)) (fun g' n' e => by cases e; exact hiv rfl) fun j id' g' n' hj hvj => ?_
      obtain ⟨u1, u2⟩ := q1.rows.used hvj
      have u4 : id' ≠ id := fun e => hj (by subst e; exact q1.rows.ne _ _ _ _ _ _ _ hvj hvk)
      refine ⟨kb id' u1 (hne _ _ _ _ hvj) u4, fun g'' n'' e => ?_⟩
      cases e; exact u4 rfl
     ·exact q2
     ·exact q3
  ·try simp at hc29
   have hie : i = g.nodes.length := by have := hc29; omega
   subst hie
   obtain ⟨Hc, hHc⟩ : ∃ Hc, Hc = H7 := ⟨_, rfl⟩
   have hpl : ∀ u : Int, inR g.nodes.length u → gt pl (gt cmp u) = g.rank (g.grp u.toNat) := fun u hu => by
    have := p4 u.toNat (in_toNat hu)
    rw [toNat_cast hu, if_pos (grp_spec hv (in_toNat hu)).2.1] at this
    exact this
   refine awp_exit ?_
   refine q_seq_exit ?_
   refine q_loop_exit ?_
   refine q_block_hit ?_
   refine q_seq ?_
   refine stp_cut (fun σ' H' => ∃ (ir : Nat) (ic : Nat), σ' 4 = σ8 4 ∧ σ' 5 = σ8 5 ∧ σ' 7 = σ8 7 ∧ σ' 8 = σ8 8 ∧ σ' 11 = .ptr ic 0 0 0 ∧ H'.get 1 = H7.get 1 ∧ H'.get 3 = H7.get 3 ∧ H'.get 4 = H7.get 4 ∧ H'.get ir = some (.row 26 1 0 (List.replicate vs.length AV.nils)) ∧ H'.get ic = some (.row 53 1 0 [.sl ir 0 0 vs.length]) ∧ H'.st = H7.st ∧ (5 ≤ ir) ∧ (5 ≤ ic) ∧ (¬ ir = ic) ∧ (Hc.get ir = none) ∧ (Hc.get ic = none) ∧ (∀ j, Hc.get j ≠ none → H'.get j = Hc.get j)) ?_ ?_
   ·skip
    rcases p2.top with ⟨rfl, hvs⟩ | ⟨iv, gv, rfl, hb, hlo, hne⟩
    ·skip
     refine awp_ok fun hok => ?_
     obtain ⟨m26, hn_m26⟩ : ∃ m, H7.n = m := ⟨_, rfl⟩
     have hf_m26_0 := hok.free 0
     simp [hn_m26, hst_7] at hf_m26_0
     have nx39 := ne_get hf_m26_0 g1_7
     have nx40 := ne_get hf_m26_0 g3_7
     have nx41 := ne_get hf_m26_0 g4_7
     have hf_m26_1 := hok.free 1
     simp [hn_m26, hst_7] at hf_m26_1
     have nx42 := ne_get hf_m26_1 g1_7
     have nx43 : ¬ m26 = 0 ∧ ¬ 0 = m26 := by omega
     have nx44 := ne_get hf_m26_1 g3_7
     have nx45 : ¬ m26 = 2 ∧ ¬ 2 = m26 := by omega
     have nx46 := ne_get hf_m26_1 g4_7
     have nx47 : ¬ m26 = 3 ∧ ¬ 3 = m26 := by omega
     refine stp_regl TT_ok (by rfl) fun K hK => ?_
     simp [h8_8, g1_7, g3_7, g4_7, hn_m26, hst_7, nx39, nx40, nx41, nx42, nx43, nx44, nx45, nx46, nx47, encG, hvs]
     try refine And.intro (by first | omega | rfl) ?_
     refine hK _ _ fun σ27 hσ H27 hH => ?_
     clear hK K
     obtain ⟨h4_27, h5_27, h7_27, h8_27, h11_27⟩ := fs5 hσ 4 5 7 8 11
     simp [h4_8, h5_8, h7_8, h8_8] at h4_27 h5_27 h7_27 h8_27 h11_27
     clear hσ
     have g1_27 := gt_of hH 1
     have g3_27 := gt_of hH 3
     have g4_27 := gt_of hH 4
     have gm26_27 := gt_of hH m26
     have g_m26_1__27 := gt_of hH (m26 + 1)
     simp [g1_7, g3_7, g4_7, hn_m26, hst_7, nx39, nx40, nx41, nx42, nx43, nx44, nx45, nx46, nx47] at g1_27 g3_27 g4_27 gm26_27 g_m26_1__27
     have hst_27 := congrArg AHeap.st hH
     simp [hst_7] at hst_27
     have kb : ∀ j, H7.get j ≠ none → H27.get j = H7.get j := fun j hj => by
      rw [hH]; have hjm : ¬ j = m26 := by { intro e; rw [e, hf_m26_0] at hj; exact hj rfl }
      have hjn : ¬ j = (m26 + 1) := by { intro e; rw [e, hf_m26_1] at hj; exact hj rfl }
      simp [hn_m26, hst_7, hjm, hjn]
     clear hH
     refine ⟨rfl, m26, (m26 + 1), (h4_27.trans h4_8.symm), (h5_27.trans h5_8.symm), (h7_27.trans h7_8.symm), (h8_27.trans h8_8.symm), (by simp [h11_27]), (g1_27.trans g1_7.symm), (g3_27.trans g3_7.symm), (g4_27.trans g4_7.symm), (by rw [gm26_27, hvs]; rfl), (by rw [g_m26_1__27, hvs]; rfl), (hst_27.trans hst_7.symm), ?_, ?_, ?_, ?_, ?_, ?_⟩
     ·first | omega | assumption | (simp; done)
     ·first | omega | assumption | (simp; done)
     ·first | omega | assumption | (simp; done)
     ·rw [hHc]; exact hf_m26_0
     ·rw [hHc]; exact hf_m26_1
     ·rw [hHc]; exact kb
    ·skip
     have nx48 : ¬ iv = 1 ∧ ¬ 1 = iv := by omega
     have nx49 : ¬ iv = 3 ∧ ¬ 3 = iv := by omega
     have nx50 : ¬ iv = 4 ∧ ¬ 4 = iv := by omega
     refine awp_ok fun hok => ?_
     obtain ⟨m28, hn_m28⟩ : ∃ m, H7.n = m := ⟨_, rfl⟩
     have hf_m28_0 := hok.free 0
     simp [hn_m28, hst_7] at hf_m28_0
     have nx51 := ne_get hf_m28_0 g1_7
     have nx52 := ne_get hf_m28_0 g3_7
     have nx53 := ne_get hf_m28_0 g4_7
     have nx54 := ne_get hf_m28_0 hb
     have hf_m28_1 := hok.free 1
     simp [hn_m28, hst_7] at hf_m28_1
     have nx55 := ne_get hf_m28_1 g1_7
     have nx56 : ¬ m28 = 0 ∧ ¬ 0 = m28 := by omega
     have nx57 := ne_get hf_m28_1 g3_7
     have nx58 : ¬ m28 = 2 ∧ ¬ 2 = m28 := by omega
     have nx59 := ne_get hf_m28_1 g4_7
     have nx60 : ¬ m28 = 3 ∧ ¬ 3 = m28 := by omega
     have nx61 := ne_get hf_m28_1 hb
     refine stp_regl TT_ok (by rfl) fun K hK => ?_
     simp [h8_8, g1_7, g3_7, g4_7, hb, hn_m28, hst_7, nx48, nx49, nx50, nx51, nx52, nx53, nx54, nx55, nx56, nx57, nx58, nx59, nx60, nx61, encG, show (vs.length : Int) ≤ 281474976710656 by omega, show (24 : Int) * (vs.length : Int) ≤ 281474976710656 by omega]
     try refine And.intro (by first | omega | rfl) ?_
     refine hK _ _ fun σ29 hσ H29 hH => ?_
     clear hK K
     obtain ⟨h4_29, h5_29, h7_29, h8_29, h11_29⟩ := fs5 hσ 4 5 7 8 11
     simp [h4_8, h5_8, h7_8, h8_8] at h4_29 h5_29 h7_29 h8_29 h11_29
     clear hσ
     have g1_29 := gt_of hH 1
     have g3_29 := gt_of hH 3
     have g4_29 := gt_of hH 4
     have giv_29 := gt_of hH iv
     have gm28_29 := gt_of hH m28
     have g_m28_1__29 := gt_of hH (m28 + 1)
     simp [g1_7, g3_7, g4_7, hb, hn_m28, hst_7, nx48, nx49, nx50, nx51, nx52, nx53, nx54, nx55, nx56, nx57, nx58, nx59, nx60, nx61] at g1_29 g3_29 g4_29 giv_29 gm28_29 g_m28_1__29
     have hst_29 := congrArg AHeap.st hH
     simp [hst_7] at hst_29
     have kb : ∀ j, H7.get j ≠ none → H29.get j = H7.get j := fun j hj => by
      rw [hH]; have hjm : ¬ j = m28 := by { intro e; rw [e, hf_m28_0] at hj; exact hj rfl }
      have hjn : ¬ j = (m28 + 1) := by { intro e; rw [e, hf_m28_1] at hj; exact hj rfl }
      simp [hn_m28, hst_7, hjm, hjn]
     clear hH
     refine ⟨rfl, m28, (m28 + 1), (h4_29.trans h4_8.symm), (h5_29.trans h5_8.symm), (h7_29.trans h7_8.symm), (h8_29.trans h8_8.symm), (by simp [h11_29]), (g1_29.trans g1_7.symm), (g3_29.trans g3_7.symm), (g4_29.trans g4_7.symm), gm28_29, g_m28_1__29, (hst_29.trans hst_7.symm), ?_, ?_, ?_, ?_, ?_, ?_⟩
     ·first | omega | assumption | (simp; done)
     ·first | omega | assumption | (simp; done)
     ·first | omega | assumption | (simp; done)
     ·rw [hHc]; exact hf_m28_0
     ·rw [hHc]; exact hf_m28_1
     ·rw [hHc]; exact kb
   ·rintro σ25 H25 ⟨ir, ic, q4_25, q5_25, q7_25, q8_25, h11_25, qg1_25, qg3_25, qg4_25, gir_25, gic_25, qst_25, b1, b2, b3, b4, b5, b6⟩
    have h4_25 := q4_25.trans h4_8
    have h5_25 := q5_25.trans h5_8
    have h7_25 := q7_25.trans h7_8
    have h8_25 := q8_25.trans h8_8
    have g1_25 := qg1_25.trans g1_7
    have g3_25 := qg3_25.trans g3_7
    have g4_25 := qg4_25.trans g4_7
    have hst_25 := qst_25.trans hst_7
    have z1 : ¬ ir = 1 := by omega
    have y1 : ¬ ic = 1 := by omega
    have z3 : ¬ ir = 3 := by omega
    have y3 : ¬ ic = 3 := by omega
    have z4 : ¬ ir = 4 := by omega
    have y4 : ¬ ic = 4 := by omega
    refine awp_seq ?_
    refine stp_reg TT_ok (by rfl) fun K hK => ?_
    simp [h5_25, g1_25, g3_25, g4_25, gir_25, gic_25, b3, Ne.symm b3, z1, Ne.symm z1, y1, Ne.symm y1, z3, Ne.symm z3, y3, Ne.symm y3, z4, Ne.symm z4, y4, Ne.symm y4, encG]
    try refine And.intro (by first | omega | rfl) ?_
    refine hK _ _ fun σ30 hσ H30 hH => ?_
    clear hK K
    obtain ⟨h4_30, h5_30, h7_30, h8_30, h11_30, h66_30, h67_30, h68_30⟩ := fs8 hσ 4 5 7 8 11 66 67 68
    simp [h4_25, h5_25, h7_25, h8_25, h11_25] at h4_30 h5_30 h7_30 h8_30 h11_30 h66_30 h67_30 h68_30
    clear hσ
    replace hH : H25 = H30 := Eq.symm hH
    subst hH
    refine awp_block ?_
    refine awp_loopV (fun n σ' H' => ∃ (i2 : Nat) (ws : List AV), n = g.nodes.length - i2 ∧ σ' 4 = σ30 4 ∧ σ' 5 = σ30 5 ∧ σ' 7 = σ30 7 ∧ σ' 8 = σ30 8 ∧ σ' 11 = σ30 11 ∧ σ' 66 = σ30 66 ∧ σ' 67 = σ30 67 ∧ σ' 68 = (AV.int IntKind.i64) i2 ∧ H'.get 1 = H25.get 1 ∧ H'.get 3 = H25.get 3 ∧ H'.get 4 = H25.get 4 ∧ H'.get ir = some (.row 26 1 0 ws) ∧ H'.get ic = H25.get ic ∧ H'.st = H25.st ∧ (i2 ≤ g.nodes.length) ∧ (Rows 5 ws (g.ceU i2) H') ∧ (∀ j, Hc.get j ≠ none → H'.get j = Hc.get j) ∧ (∀ i id g n : Nat, ws[i]? = some (AV.sl id g 0 n) → Hc.get id = none ∧ id ≠ ir ∧ id ≠ ic)) ?_ ?_
    ·refine ⟨_, 0, List.replicate vs.length AV.nils, rfl, rfl, rfl, rfl, rfl, rfl, rfl, rfl, (by simp [h68_30]), rfl, rfl, rfl, (by simp [gir_25]), rfl, rfl, ?_, ?_, ?_, ?_⟩
     ·first | omega | (simp; done) | assumption
     ·rw [ceU_zero, show (g.reps g.nodes.length).length = vs.length from hvl.symm]; exact rows_nil _ _ _
     ·exact b6
     ·intro i id g n h
      rw [List.getElem?_replicate] at h
      split at h <;> simp at h
    ·rintro n2 σ31 H31 ⟨i2, ws, hn2, q4_31, q5_31, q7_31, q8_31, q11_31, q66_31, q67_31, h68_31, qg1_31, qg3_31, qg4_31, gir_31, qgic_31, qst_31, s1, s2, s3, s4⟩
     have h4_31 := q4_31.trans h4_30
     have h5_31 := q5_31.trans h5_30
     have h7_31 := q7_31.trans h7_30
     have h8_31 := q8_31.trans h8_30
     have h11_31 := q11_31.trans h11_30
     have h66_31 := q66_31.trans h66_30
     have h67_31 := q67_31.trans h67_30
     have g1_31 := qg1_31.trans g1_25
     have g3_31 := qg3_31.trans g3_25
     have g4_31 := qg4_31.trans g4_25
     have gic_31 := qgic_31.trans gic_25
     have hst_31 := qst_31.trans hst_25
     have hwl : ws.length = vs.length := by rw [s2.len, hvl]; simp [Gr.ceU, Gr.rank]
     refine stp_reg TT_ok (by rfl) fun K hK => ?_
     simp [h67_31, h68_31, g1_31, g3_31, g4_31, gir_31, gic_31, b3, Ne.symm b3, z1, Ne.symm z1, y1, Ne.symm y1, z3, Ne.symm z3, y3, Ne.symm y3, z4, Ne.symm z4, y4, Ne.symm y4, encG]
     try refine And.intro (by first | omega | rfl) ?_
     refine hK _ _ fun σ32 hσ H32 hH => ?_
     clear hK K
     obtain ⟨h4_32, h5_32, h7_32, h8_32, h11_32, h66_32, h67_32, h68_32, h69_32⟩ := fs9 hσ 4 5 7 8 11 66 67 68 69
     simp [h4_31, h5_31, h7_31, h8_31, h11_31, h66_31, h67_31, h68_31] at h4_32 h5_32 h7_32 h8_32 h11_32 h66_32 h67_32 h68_32 h69_32
     clear hσ
     replace hH : H31 = H32 := Eq.symm hH
     subst hH
     refine awp_seq ?_
     refine awp_cond _ (by simp only [aeval_tmp]; exact h69_32) (fun hc69 => ?_) (fun hc69 => ?_)
     ·try simp at hc69
      have hlt : i2 < g.nodes.length := by simpa [hcl] using hc69
      have hir : inR g.nodes.length (i2 : Int) := ⟨by omega, by omega⟩
      have hlt2 : i2 < cmp.length := by omega
      have hgi : cmp[i2] = gt cmp i2 := by simp [gt, hlt2]
      obtain ⟨c, hc⟩ : ∃ c, gt cmp i2 = c := ⟨_, rfl⟩
      obtain ⟨c1, c2⟩ := hnum.rng i2 hir
      have hplc := hpl i2 hir
      rw [hc] at hgi c1 c2 hplc
      simp only [Int.toNat_natCast] at hplc
      have c3 : c.toNat < cn := by omega
      have c4 : c.toNat < pl.length := by omega
      have hgs := grp_spec hv hlt
      obtain ⟨r, hr⟩ : ∃ r, g.rank (g.grp i2) = r := ⟨_, rfl⟩
      rw [hr] at hplc
      have hrv : r < vs.length := by rw [← hr, hvl]; exact rank_lt hgs.2.1 (grp_grp hv hlt)
      refine awp_skip ?_
      refine q_seq ?_
      refine awp_seq ?_
      refine awp_block ?_
      refine awp_ok fun hok => ?_
      obtain ⟨m33, hn_m33⟩ : ∃ m, H31.n = m := ⟨_, rfl⟩
      have hf_m33_0 := hok.free 0
      simp [hn_m33, hst_31] at hf_m33_0
      have nx62 := ne_get hf_m33_0 g1_31
      have nx63 := ne_get hf_m33_0 g3_31
      have nx64 := ne_get hf_m33_0 g4_31
      have nx65 := ne_get hf_m33_0 gir_31
      have nx66 := ne_get hf_m33_0 gic_31
      refine stp_reg TT_ok (by rfl) fun K hK => ?_
      simp [h66_32, h68_32, g1_31, g3_31, g4_31, gir_31, gic_31, hn_m33, hst_31, b3, Ne.symm b3, z1, Ne.symm z1, y1, Ne.symm y1, z3, Ne.symm z3, y3, Ne.symm y3, z4, Ne.symm z4, y4, Ne.symm y4, nx62, nx63, nx64, nx65, nx66, encG, hlt, hlt2, hgi, hcl]
      try refine And.intro (by first | omega | rfl) ?_
      refine hK _ _ fun σ34 hσ H34 hH => ?_
      clear hK K
      obtain ⟨h4_34, h5_34, h7_34, h8_34, h11_34, h12_34, h13_34, h66_34, h67_34, h68_34⟩ := fs10 hσ 4 5 7 8 11 12 13 66 67 68
      simp [h4_32, h5_32, h7_32, h8_32, h11_32, h66_32, h67_32, h68_32] at h4_34 h5_34 h7_34 h8_34 h11_34 h12_34 h13_34 h66_34 h67_34 h68_34
      clear hσ
      have g1_34 := gt_of hH 1
      have g3_34 := gt_of hH 3
      have g4_34 := gt_of hH 4
      have gir_34 := gt_of hH ir
      have gic_34 := gt_of hH ic
      have gm33_34 := gt_of hH m33
      simp [g1_31, g3_31, g4_31, gir_31, gic_31, hn_m33, hst_31, b3, Ne.symm b3, z1, Ne.symm z1, y1, Ne.symm y1, z3, Ne.symm z3, y3, Ne.symm y3, z4, Ne.symm z4, y4, Ne.symm y4, nx62, nx63, nx64, nx65, nx66] at g1_34 g3_34 g4_34 gir_34 gic_34 gm33_34
      have hst_34 := congrArg AHeap.st hH
      simp [hst_31] at hst_34
      have kc : ∀ j, H31.get j ≠ none → H34.get j = H31.get j := fun j hj => by
       rw [hH]; have hjm : ¬ j = m33 := by { intro e; rw [e, hf_m33_0] at hj; exact hj rfl }
       simp [hn_m33, hst_31, hjm]
      have hcm : Hc.get m33 = none := by
       cases hq : Hc.get m33 with
       | none => rfl
       | some b => have := s3 m33 (by rw [hq]; simp); rw [hf_m33_0, hq] at this; cases this
      clear hH
      have hFF0 := an24 h4_34 h12_34 g1_34 g3_34 g4_34 gir_34 gic_34 gm33_34 b3 (Ne.symm b3) z1 (Ne.symm z1) y1 (Ne.symm y1) z3 (Ne.symm z3) y3 (Ne.symm y3) z4 (Ne.symm z4) y4 (Ne.symm y4) nx62 nx63
      have hFF1 := an3 nx64 nx65 nx66
      refine stp_reg TT_ok (by rfl) fun K hK => ?_
      simp [hFF0, hFF1, encG]
      try refine And.intro (by first | omega | rfl) ?_
      refine stp_call (of_ok g.succs i2 0) ?_
      simp [hFF0, hFF1, encG]
      try refine And.intro (by first | omega | rfl) ?_
      refine hK _ _ fun σ35 hσ H35 hH => ?_
      clear hK K hFF0 hFF1
      obtain ⟨h4_35, h5_35, h7_35, h8_35, h11_35, h13_35, h66_35, h67_35, h68_35, h75_35⟩ := fs10 hσ 4 5 7 8 11 13 66 67 68 75
      simp [h4_34, h5_34, h7_34, h8_34, h11_34, h13_34, h66_34, h67_34, h68_34] at h4_35 h5_35 h7_35 h8_35 h11_35 h13_35 h66_35 h67_35 h68_35 h75_35
      clear hσ
      replace hH : H34 = H35 := Eq.symm hH
      subst hH
      refine awp_block ?_
      have hin : ∀ i id g n : Nat, ws[i]? = some (AV.sl id g 0 n) → Hc.get id = none ∧ id ≠ ir ∧ id ≠ ic ∧ id ≠ m33 ∧ H34.get id ≠ none := fun i id g n h => by
       obtain ⟨a, b, c⟩ := s4 i id g n h
       have hu := (s2.used h).1
       exact ⟨a, b, c, fun e => by subst e; exact hu hf_m33_0, by rw [kc id hu]; exact hu⟩
      have s2b := s2.keep (H' := H34) fun j _ hj => kc j hj
      have s3b : ∀ j, Hc.get j ≠ none → H34.get j = Hc.get j := fun j hj => by rw [kc j (by rw [s3 j hj]; exact hj), s3 j hj]
      refine awp_ok fun hok36 => ?_
      obtain ⟨k36, hn_k36⟩ : ∃ m, H34.n = m := ⟨_, rfl⟩
      have hf_k36 := hok36.now
      rw [hn_k36] at hf_k36
      have nx67 := ne_get hf_k36 g1_34
      have nx68 := ne_get hf_k36 g3_34
      have nx69 := ne_get hf_k36 g4_34
      have nx70 := ne_get hf_k36 gir_34
      have nx71 := ne_get hf_k36 gic_34
      have nx72 := ne_get hf_k36 gm33_34
      refine stp_rangeOf k36 hn_k36 (by rw [aeval_tmp]; exact h75_35) (by decide) (by omega : (0 : Int) ≤ (i2 : Int)) (show g.succs[((i2 : Nat) : Int).toNat]? = some (g.succ i2) from succs_get hir) (Nat.le_trans (succ_len _ _) (by omega)) (fun pre H' => ∃ (ws2 : List AV), H'.get 1 = H34.get 1 ∧ H'.get 3 = H34.get 3 ∧ H'.get 4 = H34.get 4 ∧ H'.get ir = some (.row 26 1 0 ws2) ∧ H'.get ic = H34.get ic ∧ H'.get m33 = H34.get m33 ∧ H'.st = H34.st ∧ (Rows 5 ws2 (g.ceM i2 pre) H') ∧ (∀ j, Hc.get j ≠ none → H'.get j = Hc.get j) ∧ (∀ i id g n : Nat, ws2[i]? = some (AV.sl id g 0 n) → Hc.get id = none ∧ id ≠ ir ∧ id ≠ ic ∧ id ≠ m33 ∧ id ≠ k36)) ?_ ?_ ?_
      ·intro b36 H36 hH
       have hkeep : ∀ j, H34.get j ≠ none → H36.get j = H34.get j := fun j hj => by rw [hH, alloc_get, if_neg (fun e => hj (by rw [e]; exact hok36.now))]
       refine ⟨ws, (by rw [hH]; simp [g1_34, g3_34, g4_34, gir_34, gic_34, gm33_34, hn_k36, hst_34, b3, Ne.symm b3, z1, Ne.symm z1, y1, Ne.symm y1, z3, Ne.symm z3, y3, Ne.symm y3, z4, Ne.symm z4, y4, Ne.symm y4, nx62, nx63, nx64, nx65, nx66, nx67, nx68, nx69, nx70, nx71, nx72]), (by rw [hH]; simp [g1_34, g3_34, g4_34, gir_34, gic_34, gm33_34, hn_k36, hst_34, b3, Ne.symm b3, z1, Ne.symm z1, y1, Ne.symm y1, z3, Ne.symm z3, y3, Ne.symm y3, z4, Ne.symm z4, y4, Ne.symm y4, nx62, nx63, nx64, nx65, nx66, nx67, nx68, nx69, nx70, nx71, nx72]), (by rw [hH]; simp [g1_34, g3_34, g4_34, gir_34, gic_34, gm33_34, hn_k36, hst_34, b3, Ne.symm b3, z1, Ne.symm z1, y1, Ne.symm y1, z3, Ne.symm z3, y3, Ne.symm y3, z4, Ne.symm z4, y4, Ne.symm y4, nx62, nx63, nx64, nx65, nx66, nx67, nx68, nx69, nx70, nx71, nx72]), (by rw [hH]; simp [g1_34, g3_34, g4_34, gir_34, gic_34, gm33_34, hn_k36, hst_34, b3, Ne.symm b3, z1, Ne.symm z1, y1, Ne.symm y1, z3, Ne.symm z3, y3, Ne.symm y3, z4, Ne.symm z4, y4, Ne.symm y4, nx62, nx63, nx64, nx65, nx66, nx67, nx68, nx69, nx70, nx71, nx72]), (by rw [hH]; simp [g1_34, g3_34, g4_34, gir_34, gic_34, gm33_34, hn_k36, hst_34, b3, Ne.symm b3, z1, Ne.symm z1, y1, Ne.symm y1, z3, Ne.symm z3, y3, Ne.symm y3, z4, Ne.symm z4, y4, Ne.symm y4, nx62, nx63, nx64, nx65, nx66, nx67, nx68, nx69, nx70, nx71, nx72]), (by rw [hH]; simp [g1_34, g3_34, g4_34, gir_34, gic_34, gm33_34, hn_k36, hst_34, b3, Ne.symm b3, z1, Ne.symm z1, y1, Ne.symm y1, z3, Ne.symm z3, y3, Ne.symm y3, z4, Ne.symm z4, y4, Ne.symm y4, nx62, nx63, nx64, nx65, nx66, nx67, nx68, nx69, nx70, nx71, nx72]), (by rw [hH]; rfl), ?_, ?_, ?_⟩
       ·rw [ceM_nil hv hlt]; exact s2b.keep fun j _ hj => hkeep j hj
       ·exact fun j hj => by rw [hkeep j (by rw [s3b j hj]; exact hj), s3b j hj]
       ·exact fun i id g n h => by
         obtain ⟨a, b, c, d, e⟩ := hin i id g n h
         exact ⟨a, b, c, d, fun e2 => by subst e2; exact e hf_k36⟩
      ·rintro busy rdy pre x H36 ⟨post, hpost⟩ ⟨ws2, qg1_36, qg3_36, qg4_36, gir_36, qgic_36, qgm33_36, qst_36, u1, u2, u3⟩ hrdy_36 σ36 hσ
       have g1_36 := qg1_36.trans g1_34
       have g3_36 := qg3_36.trans g3_34
       have g4_36 := qg4_36.trans g4_34
       have gic_36 := qgic_36.trans gic_34
       have gm33_36 := qgm33_36.trans gm33_34
       have hst_36 := qst_36.trans hst_34
       have h5_36 := congrFun hσ 5
       simp [h5_35] at h5_36
       have h7_36 := congrFun hσ 7
       simp [h7_35] at h7_36
       have h11_36 := congrFun hσ 11
       simp [h11_35] at h11_36
       have h13_36 := congrFun hσ 13
       simp [h13_35] at h13_36
       have h76_36 := congrFun hσ 76
       simp [] at h76_36
       clear hσ
       rw [geL0_succ hv] at hpost
       have hxs : x ∈ g.succ i2 := by rw [hpost]; simp
       have hxe : ((i2 : Int), x) ∈ g.edges := (succ_mem hv).1 hxs
       have hxr : inR g.nodes.length x := (valid_edge hv hxe).2
       obtain ⟨x1, x2⟩ := hxr
       have x3 : x.toNat < cmp.length := by omega
       obtain ⟨cx, hcx⟩ : ∃ cx, gt cmp x = cx := ⟨_, rfl⟩
       obtain ⟨c5, c6⟩ := hnum.rng x ⟨x1, x2⟩
       have hplx := hpl x ⟨x1, x2⟩
       have hcg := cmp_grp hv hnum (u := x) (w := (i2 : Int)) ⟨x1, x2⟩ hir
       simp only [Int.toNat_natCast] at hcg
       rw [hcx] at c5 c6 hplx hcg
       rw [hc] at hcg
       have hgx : cmp[x.toNat] = cx := by rw [gt_elem x3, hcx]
       have c7 : cx.toNat < cn := by omega
       have c8 : cx.toNat < pl.length := by omega
       have hw2l : ws2.length = vs.length := by rw [u1.len, hvl]; simp [Gr.ceM, Gr.ceU, Gr.rank]
       have hpl2 : pre.length ≤ g.nodes.length := by
        have h1 := succ_len g i2
        rw [hpost] at h1; simp at h1; omega
       have hce : (g.ceR i2 (g.grp i2) ++ g.ceP i2 pre).length ≤ 2000000 := by
        have h1 := ceR_len g i2 (g.grp i2)
        have h2 := ceP_len g i2 pre
        have h3 : i2 * g.nodes.length ≤ 1024 * 1024 := Nat.mul_le_mul (by omega) hb1
        rw [List.length_append]; omega
       have hcm2 := ceM_get hv hlt pre
       rw [hr] at hcm2
       obtain ⟨lr, hlr⟩ : ∃ lr, g.ceR i2 (g.grp i2) ++ g.ceP i2 pre = lr := ⟨_, rfl⟩
       rw [hlr] at hcm2 hce
       have hrv2 : r < ws2.length := by omega
       have hcL : Hc.get k36 = none := by
        cases hq : Hc.get k36 with
        | none => rfl
        | some b => have := s3b k36 (by rw [hq]; simp); rw [hf_k36, hq] at this; cases this
       have hwk : ws2[r]? = some ws2[r] := List.getElem?_eq_getElem hrv2
       have hok := u1.own _ _ _ hwk hcm2
       refine stp_regl TT_ok (by rfl) fun K hK => ?_
       simp [h76_36, g1_36, g3_36, g4_36, gir_36, gic_36, gm33_36, hrdy_36, b3, Ne.symm b3, z1, Ne.symm z1, y1, Ne.symm y1, z3, Ne.symm z3, y3, Ne.symm y3, z4, Ne.symm z4, y4, Ne.symm y4, nx62, nx63, nx64, nx65, nx66, nx67, nx68, nx69, nx70, nx71, nx72, encG]
       try refine And.intro (by first | omega | rfl) ?_
       refine hK _ _ fun σ37 hσ H37 hH => ?_
       clear hK K
       obtain ⟨h5_37, h7_37, h11_37, h13_37, h14_37⟩ := fs5 hσ 5 7 11 13 14
       simp [h5_36, h7_36, h11_36, h13_36] at h5_37 h7_37 h11_37 h13_37 h14_37
       clear hσ
       replace hH : H36 = H37 := Eq.symm hH
       subst hH
       refine q_ra hrdy_36 fun H38 hH => ?_
       have hkeep : ∀ j, j ≠ k36 → H38.get j = H36.get j := fun j hj => by rw [hH, put_getH, if_neg hj]
       have g1_39 := gt_of hH 1
       have g3_39 := gt_of hH 3
       have g4_39 := gt_of hH 4
       have gir_39 := gt_of hH ir
       have gic_39 := gt_of hH ic
       have gm33_39 := gt_of hH m33
       have gk36_39 := gt_of hH k36
       simp [g1_36, g3_36, g4_36, gir_36, gic_36, gm33_36, hrdy_36, hst_36, b3, Ne.symm b3, z1, Ne.symm z1, y1, Ne.symm y1, z3, Ne.symm z3, y3, Ne.symm y3, z4, Ne.symm z4, y4, Ne.symm y4, nx62, nx63, nx64, nx65, nx66, nx67, nx68, nx69, nx70, nx71, nx72] at g1_39 g3_39 g4_39 gir_39 gic_39 gm33_39 gk36_39
       have hst_39 : H38.st = _ := (congrArg AHeap.st hH).trans hst_36
       have hka := hkeep
       clear hkeep hH
       refine awp_block ?_
       refine stp_reg TT_ok (by rfl) fun K hK => ?_
       simp [h5_37, h14_37, g1_39, g3_39, g4_39, gir_39, gic_39, gm33_39, gk36_39, b3, Ne.symm b3, z1, Ne.symm z1, y1, Ne.symm y1, z3, Ne.symm z3, y3, Ne.symm y3, z4, Ne.symm z4, y4, Ne.symm y4, nx62, nx63, nx64, nx65, nx66, nx67, nx68, nx69, nx70, nx71, nx72, encG, x1, x2, x3, hgx, hcl]
       try refine And.intro (by first | omega | rfl) ?_
       refine hK _ _ fun σ40 hσ H40 hH => ?_
       clear hK K
       obtain ⟨h7_40, h11_40, h13_40, h15_40⟩ := fs4 hσ 7 11 13 15
       simp [h7_37, h11_37, h13_37] at h7_40 h11_40 h13_40 h15_40
       clear hσ
       replace hH : H38 = H40 := Eq.symm hH
       subst hH
       by_cases hs : cx = c
       ·skip
        refine stp_reg TT_ok (by rfl) fun K hK => ?_
        simp [h13_40, h15_40, g1_39, g3_39, g4_39, gir_39, gic_39, gm33_39, gk36_39, b3, Ne.symm b3, z1, Ne.symm z1, y1, Ne.symm y1, z3, Ne.symm z3, y3, Ne.symm y3, z4, Ne.symm z4, y4, Ne.symm y4, nx62, nx63, nx64, nx65, nx66, nx67, nx68, nx69, nx70, nx71, nx72, hs, beq_iff_eq.2 hs, encG]
        try refine And.intro (by first | omega | rfl) ?_
        refine hK _ _ fun σ41 hσ H41 hH => ?_
        clear hK K
        obtain ⟨h7_41, h11_41, h13_41, h15_41, h83_41⟩ := fs5 hσ 7 11 13 15 83
        simp [h7_40, h11_40, h13_40, h15_40] at h7_41 h11_41 h13_41 h15_41 h83_41
        clear hσ
        replace hH : H38 = H41 := Eq.symm hH
        subst hH
        refine stp_false (by simp [aeval_tmp, h83_41, b3, Ne.symm b3, z1, Ne.symm z1, y1, Ne.symm y1, z3, Ne.symm z3, y3, Ne.symm y3, z4, Ne.symm z4, y4, Ne.symm y4, nx62, nx63, nx64, nx65, nx66, nx67, nx68, nx69, nx70, nx71, nx72, hs, beq_iff_eq.2 hs, encG]) ?_
        refine awp_skip ?_
        refine q_block ?_
        refine q_rb gk36_39 fun H42 hH => ?_
        have hkeep : ∀ j, j ≠ k36 → H42.get j = H38.get j := fun j hj => by rw [hH, put_getH, if_neg hj]
        refine ⟨ws2, (by rw [hH]; simp [g1_39, g3_39, g4_39, gir_39, gic_39, gm33_39, gk36_39, hst_39, b3, Ne.symm b3, z1, Ne.symm z1, y1, Ne.symm y1, z3, Ne.symm z3, y3, Ne.symm y3, z4, Ne.symm z4, y4, Ne.symm y4, nx62, nx63, nx64, nx65, nx66, nx67, nx68, nx69, nx70, nx71, nx72, hs, beq_iff_eq.2 hs, g1_34]), (by rw [hH]; simp [g1_39, g3_39, g4_39, gir_39, gic_39, gm33_39, gk36_39, hst_39, b3, Ne.symm b3, z1, Ne.symm z1, y1, Ne.symm y1, z3, Ne.symm z3, y3, Ne.symm y3, z4, Ne.symm z4, y4, Ne.symm y4, nx62, nx63, nx64, nx65, nx66, nx67, nx68, nx69, nx70, nx71, nx72, hs, beq_iff_eq.2 hs, g3_34]), (by rw [hH]; simp [g1_39, g3_39, g4_39, gir_39, gic_39, gm33_39, gk36_39, hst_39, b3, Ne.symm b3, z1, Ne.symm z1, y1, Ne.symm y1, z3, Ne.symm z3, y3, Ne.symm y3, z4, Ne.symm z4, y4, Ne.symm y4, nx62, nx63, nx64, nx65, nx66, nx67, nx68, nx69, nx70, nx71, nx72, hs, beq_iff_eq.2 hs, g4_34]), (by rw [hH]; simp [g1_39, g3_39, g4_39, gir_39, gic_39, gm33_39, gk36_39, hst_39, b3, Ne.symm b3, z1, Ne.symm z1, y1, Ne.symm y1, z3, Ne.symm z3, y3, Ne.symm y3, z4, Ne.symm z4, y4, Ne.symm y4, nx62, nx63, nx64, nx65, nx66, nx67, nx68, nx69, nx70, nx71, nx72, hs, beq_iff_eq.2 hs]), (by rw [hH]; simp [g1_39, g3_39, g4_39, gir_39, gic_39, gm33_39, gk36_39, hst_39, b3, Ne.symm b3, z1, Ne.symm z1, y1, Ne.symm y1, z3, Ne.symm z3, y3, Ne.symm y3, z4, Ne.symm z4, y4, Ne.symm y4, nx62, nx63, nx64, nx65, nx66, nx67, nx68, nx69, nx70, nx71, nx72, hs, beq_iff_eq.2 hs, gic_34]), (by rw [hH]; simp [g1_39, g3_39, g4_39, gir_39, gic_39, gm33_39, gk36_39, hst_39, b3, Ne.symm b3, z1, Ne.symm z1, y1, Ne.symm y1, z3, Ne.symm z3, y3, Ne.symm y3, z4, Ne.symm z4, y4, Ne.symm y4, nx62, nx63, nx64, nx65, nx66, nx67, nx68, nx69, nx70, nx71, nx72, hs, beq_iff_eq.2 hs, gm33_34]), ((congrArg AHeap.st hH).trans (hst_39.trans hst_34.symm)), ?_, ?_, ?_⟩
        ·rw [ceM_same (hcg.1 hs)]
         exact u1.keepR fun i id g n h => by
          obtain ⟨_, _, _, _, v5⟩ := u3 i id g n h
          rw [hkeep id v5, hka id v5]
        ·exact fun j hj => by
          have hjl : j ≠ k36 := fun e => by subst e; exact hj (hcL)
          rw [hkeep j hjl, hka j hjl, u2 j hj]
        ·exact u3
       ·skip
        refine stp_reg TT_ok (by rfl) fun K hK => ?_
        simp [h13_40, h15_40, g1_39, g3_39, g4_39, gir_39, gic_39, gm33_39, gk36_39, b3, Ne.symm b3, z1, Ne.symm z1, y1, Ne.symm y1, z3, Ne.symm z3, y3, Ne.symm y3, z4, Ne.symm z4, y4, Ne.symm y4, nx62, nx63, nx64, nx65, nx66, nx67, nx68, nx69, nx70, nx71, nx72, hs, beq_eq_false_iff_ne.2 hs, encG]
        try refine And.intro (by first | omega | rfl) ?_
        refine hK _ _ fun σ43 hσ H43 hH => ?_
        clear hK K
        obtain ⟨h7_43, h11_43, h13_43, h15_43, h83_43⟩ := fs5 hσ 7 11 13 15 83
        simp [h7_40, h11_40, h13_40, h15_40] at h7_43 h11_43 h13_43 h15_43 h83_43
        clear hσ
        replace hH : H38 = H43 := Eq.symm hH
        subst hH
        refine stp_true (by simp [aeval_tmp, h83_43, b3, Ne.symm b3, z1, Ne.symm z1, y1, Ne.symm y1, z3, Ne.symm z3, y3, Ne.symm y3, z4, Ne.symm z4, y4, Ne.symm y4, nx62, nx63, nx64, nx65, nx66, nx67, nx68, nx69, nx70, nx71, nx72, hs, beq_eq_false_iff_ne.2 hs, encG]) ?_
        rcases hok with ⟨hvn, hnil⟩ | ⟨id, gn, rest, hvn, hb, hid⟩
        ·skip
         refine awp_ok fun hok => ?_
         obtain ⟨m44, hn_m44⟩ : ∃ m, H38.n = m := ⟨_, rfl⟩
         have hf_m44_16 := hok.free 16
         simp [hn_m44, hst_39] at hf_m44_16
         have nx73 := ne_get hf_m44_16 g1_39
         have nx74 := ne_get hf_m44_16 g3_39
         have nx75 := ne_get hf_m44_16 g4_39
         have nx76 := ne_get hf_m44_16 gir_39
         have nx77 := ne_get hf_m44_16 gic_39
         have nx78 := ne_get hf_m44_16 gm33_39
         have nx79 := ne_get hf_m44_16 gk36_39
         have hf_m44_17 := hok.free 17
         simp [hn_m44, hst_39] at hf_m44_17
         have nx80 := ne_get hf_m44_17 g1_39
         have nx81 := ne_get hf_m44_17 g3_39
         have nx82 := ne_get hf_m44_17 g4_39
         have nx83 := ne_get hf_m44_17 gir_39
         have nx84 := ne_get hf_m44_17 gic_39
         have nx85 := ne_get hf_m44_17 gm33_39
         have nx86 := ne_get hf_m44_17 gk36_39
         refine stp_lexl true TT_ok mixed (by rfl) (by rfl) (by kernel_rfl) (by rfl) fun U hU K hK => ?_
         simp [h7_43, h11_43, h13_43, h15_43, g1_39, g3_39, g4_39, gir_39, gic_39, gm33_39, gk36_39, hn_m44, hst_39, b3, Ne.symm b3, z1, Ne.symm z1, y1, Ne.symm y1, z3, Ne.symm z3, y3, Ne.symm y3, z4, Ne.symm z4, y4, Ne.symm y4, nx62, nx63, nx64, nx65, nx66, nx67, nx68, nx69, nx70, nx71, nx72, hs, beq_eq_false_iff_ne.2 hs, nx73, nx74, nx75, nx76, nx77, nx78, nx79, nx80, nx81, nx82, nx83, nx84, nx85, nx86, encG, c1, c2, c3, c5, c6, c7, gt_elem c4, gt_elem c8, p3, hplc, hplx, hrv, hrv2, hw2l, hvn]
         try refine And.intro (by first | omega | rfl) ?_
         refine hK _ _ _ (by rw [hU.trans (by kernel_rfl : _ = [(0, 1), (0, 2), (1, 2), (0, 3), (0, 4), (0, 5), (1, 5), (2, 5), (3, 5), (4, 5), (0, 6), (1, 6), (2, 6), (3, 6), (4, 6), (5, 6), (0, 7), (1, 7), (2, 7), (3, 7), (4, 7), (5, 7), (6, 7), (0, 8), (1, 8), (2, 8), (3, 8), (4, 8), (5, 8), (0, 9), (1, 9), (2, 9), (3, 9), (4, 9), (5, 9), (0, 10), (1, 10), (2, 10), (3, 10), (4, 10), (0, 11), (1, 11), (2, 11), (3, 11), (4, 11), (0, 12), (1, 12), (2, 12), (3, 12), (4, 12), (5, 12), (6, 12), (7, 12), (8, 12), (9, 12), (10, 12), (11, 12), (0, 13), (1, 13), (2, 13), (3, 13), (4, 13), (5, 13), (6, 13), (7, 13), (8, 13), (9, 13), (10, 13), (11, 13), (12, 13), (0, 14), (1, 14), (2, 14), (3, 14), (4, 14), (5, 14), (6, 14), (7, 14), (8, 14), (9, 14), (10, 14), (11, 14), (0, 15), (1, 15), (2, 15), (3, 15), (4, 15), (5, 15), (6, 15), (7, 15), (8, 15), (9, 15), (10, 15), (11, 15), (0, 16), (1, 16), (2, 16), (3, 16), (4, 16), (5, 16), (6, 16), (7, 16), (8, 16), (9, 16), (10, 16), (11, 16), (0, 17), (1, 17), (2, 17), (3, 17), (4, 17)])]; simp [logOk, ftFree, h7_43, h11_43, h13_43, h15_43, g1_39, g3_39, g4_39, gir_39, gic_39, gm33_39, gk36_39, hn_m44, hst_39, b3, Ne.symm b3, z1, Ne.symm z1, y1, Ne.symm y1, z3, Ne.symm z3, y3, Ne.symm y3, z4, Ne.symm z4, y4, Ne.symm y4, nx62, nx63, nx64, nx65, nx66, nx67, nx68, nx69, nx70, nx71, nx72, hs, beq_eq_false_iff_ne.2 hs, nx73, nx74, nx75, nx76, nx77, nx78, nx79, nx80, nx81, nx82, nx83, nx84, nx85, nx86, encG, c1, c2, c3, c5, c6, c7, gt_elem c4, gt_elem c8, p3, hplc, hplx, hrv, hrv2, hw2l, hvn]) fun σ45 hσ H45 hH => ?_
         clear hK K hU U
         clear hσ
         have g1_45 := gt_of hH 1
         have g3_45 := gt_of hH 3
         have g4_45 := gt_of hH 4
         have gir_45 := gt_of hH ir
         have gic_45 := gt_of hH ic
         have gm33_45 := gt_of hH m33
         have gk36_45 := gt_of hH k36
         have g_m44_16__45 := gt_of hH (m44 + 16)
         have g_m44_17__45 := gt_of hH (m44 + 17)
         simp [g1_39, g3_39, g4_39, gir_39, gic_39, gm33_39, gk36_39, hn_m44, hst_39, b3, Ne.symm b3, z1, Ne.symm z1, y1, Ne.symm y1, z3, Ne.symm z3, y3, Ne.symm y3, z4, Ne.symm z4, y4, Ne.symm y4, nx62, nx63, nx64, nx65, nx66, nx67, nx68, nx69, nx70, nx71, nx72, hs, beq_eq_false_iff_ne.2 hs, nx73, nx74, nx75, nx76, nx77, nx78, nx79, nx80, nx81, nx82, nx83, nx84, nx85, nx86] at g1_45 g3_45 g4_45 gir_45 gic_45 gm33_45 gk36_45 g_m44_16__45 g_m44_17__45
         have hst_45 := congrArg AHeap.st hH
         simp [hst_39] at hst_45
         have kb : ∀ j, H38.get j ≠ none → j ≠ ir → H45.get j = H38.get j := fun j hj h1 => by
          rw [hH]; have hjm : ¬ j = (m44 + 16) := by { intro e; rw [e, hf_m44_16] at hj; exact hj rfl }
          have hjn : ¬ j = (m44 + 17) := by { intro e; rw [e, hf_m44_17] at hj; exact hj rfl }
          simp [hn_m44, hjm, hjn, h1]
         clear hH
         refine q_block ?_
         refine q_rb gk36_45 fun H46 hH => ?_
         have hkeep : ∀ j, j ≠ k36 → H46.get j = H45.get j := fun j hj => by rw [hH, put_getH, if_neg hj]
         have hmL : ¬ m44 + 17 = k36 := by omega
         have hcn17 : Hc.get (m44 + 17) = none := by
          cases hq : Hc.get (m44 + 17) with
          | none => rfl
          | some b =>
           have q1 := u2 (m44 + 17) (by rw [hq]; simp)
           rw [← hka (m44 + 17) hmL, hf_m44_17, hq] at q1; cases q1
         refine ⟨ws2.set r (.sl (m44 + 17) 0 0 1), (by rw [hH]; simp [g1_45, g3_45, g4_45, gir_45, gic_45, gm33_45, gk36_45, g_m44_16__45, g_m44_17__45, hst_45, b3, Ne.symm b3, z1, Ne.symm z1, y1, Ne.symm y1, z3, Ne.symm z3, y3, Ne.symm y3, z4, Ne.symm z4, y4, Ne.symm y4, nx62, nx63, nx64, nx65, nx66, nx67, nx68, nx69, nx70, nx71, nx72, hs, beq_eq_false_iff_ne.2 hs, nx73, nx74, nx75, nx76, nx77, nx78, nx79, nx80, nx81, nx82, nx83, nx84, nx85, nx86, g1_34]), (by rw [hH]; simp [g1_45, g3_45, g4_45, gir_45, gic_45, gm33_45, gk36_45, g_m44_16__45, g_m44_17__45, hst_45, b3, Ne.symm b3, z1, Ne.symm z1, y1, Ne.symm y1, z3, Ne.symm z3, y3, Ne.symm y3, z4, Ne.symm z4, y4, Ne.symm y4, nx62, nx63, nx64, nx65, nx66, nx67, nx68, nx69, nx70, nx71, nx72, hs, beq_eq_false_iff_ne.2 hs, nx73, nx74, nx75, nx76, nx77, nx78, nx79, nx80, nx81, nx82, nx83, nx84, nx85, nx86, g3_34]), (by rw [hH]; simp [g1_45, g3_45, g4_45, gir_45, gic_45, gm33_45, gk36_45, g_m44_16__45, g_m44_17__45, hst_45, b3, Ne.symm b3, z1, Ne.symm z1, y1, Ne.symm y1, z3, Ne.symm z3, y3, Ne.symm y3, z4, Ne.symm z4, y4, Ne.symm y4, nx62, nx63, nx64, nx65, nx66, nx67, nx68, nx69, nx70, nx71, nx72, hs, beq_eq_false_iff_ne.2 hs, nx73, nx74, nx75, nx76, nx77, nx78, nx79, nx80, nx81, nx82, nx83, nx84, nx85, nx86, g4_34]), (by rw [hH]; simp [g1_45, g3_45, g4_45, gir_45, gic_45, gm33_45, gk36_45, g_m44_16__45, g_m44_17__45, hst_45, b3, Ne.symm b3, z1, Ne.symm z1, y1, Ne.symm y1, z3, Ne.symm z3, y3, Ne.symm y3, z4, Ne.symm z4, y4, Ne.symm y4, nx62, nx63, nx64, nx65, nx66, nx67, nx68, nx69, nx70, nx71, nx72, hs, beq_eq_false_iff_ne.2 hs, nx73, nx74, nx75, nx76, nx77, nx78, nx79, nx80, nx81, nx82, nx83, nx84, nx85, nx86]), (by rw [hH]; simp [g1_45, g3_45, g4_45, gir_45, gic_45, gm33_45, gk36_45, g_m44_16__45, g_m44_17__45, hst_45, b3, Ne.symm b3, z1, Ne.symm z1, y1, Ne.symm y1, z3, Ne.symm z3, y3, Ne.symm y3, z4, Ne.symm z4, y4, Ne.symm y4, nx62, nx63, nx64, nx65, nx66, nx67, nx68, nx69, nx70, nx71, nx72, hs, beq_eq_false_iff_ne.2 hs, nx73, nx74, nx75, nx76, nx77, nx78, nx79, nx80, nx81, nx82, nx83, nx84, nx85, nx86, gic_34]), (by rw [hH]; simp [g1_45, g3_45, g4_45, gir_45, gic_45, gm33_45, gk36_45, g_m44_16__45, g_m44_17__45, hst_45, b3, Ne.symm b3, z1, Ne.symm z1, y1, Ne.symm y1, z3, Ne.symm z3, y3, Ne.symm y3, z4, Ne.symm z4, y4, Ne.symm y4, nx62, nx63, nx64, nx65, nx66, nx67, nx68, nx69, nx70, nx71, nx72, hs, beq_eq_false_iff_ne.2 hs, nx73, nx74, nx75, nx76, nx77, nx78, nx79, nx80, nx81, nx82, nx83, nx84, nx85, nx86, gm33_34]), ((congrArg AHeap.st hH).trans (hst_45.trans hst_34.symm)), ?_, ?_, ?_⟩
         ·rw [ceM_other (fun e => hs (hcg.2 e)), hr, hlr]
          have hnil2 : lr = [] := List.map_eq_nil_iff.1 hnil
          refine u1.set (OwnR.mk (rest := []) (by rw [hkeep _ hmL]; exact g_m44_17__45) (by simp [hnil2, hplx]) (by simp [hnil2]) (by omega)) fun j id g' n' hj hvj => ?_
          obtain ⟨_, v2, _, _, v5⟩ := u3 _ _ _ _ hvj
          obtain ⟨w1, w2⟩ := u1.used hvj
          refine ⟨by rw [hkeep id v5, kb id (by rw [hka id v5]; exact w1) v2, hka id v5], fun g'' n'' e => ?_⟩
          cases e; rw [← hka _ v5] at w1; exact w1 hf_m44_17
         ·exact fun j hj => by
           have hjl : j ≠ k36 := fun e => by subst e; exact hj (hcL)
           have hji : j ≠ ir := fun e => by subst e; exact hj b4
           rw [hkeep j hjl, kb j (by rw [hka j hjl, u2 j hj]; exact hj) hji, hka j hjl, u2 j hj]
         ·exact fun i id g n h => by
           rcases set_get h with h | h
           ·exact u3 i id g n h
           ·cases h
            exact ⟨hcn17, by omega, by omega, by omega, by omega⟩
        ·skip
         rw [hvn] at hwk
         obtain ⟨v1, v2, v3, v4, v5⟩ := u3 _ _ _ _ hwk
         have hb2 := (hka id v5).trans hb
         have w1 : ¬ id = 1 := by omega
         have nx87 : ¬ id = 1 ∧ ¬ 1 = id := by omega
         have nx88 : ¬ id = 3 ∧ ¬ 3 = id := by omega
         have nx89 : ¬ id = 4 ∧ ¬ 4 = id := by omega
         refine awp_ok fun hok => ?_
         obtain ⟨m47, hn_m47⟩ : ∃ m, H38.n = m := ⟨_, rfl⟩
         have hf_m47_16 := hok.free 16
         simp [hn_m47, hst_39] at hf_m47_16
         have nx90 := ne_get hf_m47_16 g1_39
         have nx91 := ne_get hf_m47_16 g3_39
         have nx92 := ne_get hf_m47_16 g4_39
         have nx93 := ne_get hf_m47_16 gir_39
         have nx94 := ne_get hf_m47_16 gic_39
         have nx95 := ne_get hf_m47_16 gm33_39
         have nx96 := ne_get hf_m47_16 gk36_39
         have nx97 := ne_get hf_m47_16 hb2
         refine stp_lexl true TT_ok mixed (by rfl) (by rfl) (by kernel_rfl) (by rfl) fun U hU K hK => ?_
         simp [h7_43, h11_43, h13_43, h15_43, g1_39, g3_39, g4_39, gir_39, gic_39, gm33_39, gk36_39, hb2, hn_m47, hst_39, b3, Ne.symm b3, z1, Ne.symm z1, y1, Ne.symm y1, z3, Ne.symm z3, y3, Ne.symm y3, z4, Ne.symm z4, y4, Ne.symm y4, nx62, nx63, nx64, nx65, nx66, nx67, nx68, nx69, nx70, nx71, nx72, hs, beq_eq_false_iff_ne.2 hs, v2, Ne.symm v2, v3, Ne.symm v3, v4, Ne.symm v4, v5, Ne.symm v5, nx87, nx88, nx89, nx90, nx91, nx92, nx93, nx94, nx95, nx96, nx97, encG, c1, c2, c3, c5, c6, c7, gt_elem c4, gt_elem c8, p3, hplc, hplx, hrv, hrv2, hw2l, hvn, show lr.length ≤ 9223372036854775806 by omega, show (lr.length + 1) * 8 ≤ 140737488355328 by omega]
         try refine And.intro (by first | omega | rfl) ?_
         refine hK _ _ _ (by rw [hU.trans (by kernel_rfl : _ = [(0, 1), (0, 2), (1, 2), (0, 3), (0, 4), (0, 5), (1, 5), (2, 5), (3, 5), (4, 5), (0, 6), (1, 6), (2, 6), (3, 6), (4, 6), (5, 6), (0, 7), (1, 7), (2, 7), (3, 7), (4, 7), (5, 7), (6, 7), (0, 8), (1, 8), (2, 8), (3, 8), (4, 8), (5, 8), (0, 9), (1, 9), (2, 9), (3, 9), (4, 9), (5, 9), (0, 10), (1, 10), (2, 10), (3, 10), (4, 10), (0, 11), (1, 11), (2, 11), (3, 11), (4, 11), (0, 12), (1, 12), (2, 12), (3, 12), (4, 12), (5, 12), (6, 12), (7, 12), (8, 12), (9, 12), (10, 12), (11, 12), (0, 13), (1, 13), (2, 13), (3, 13), (4, 13), (5, 13), (6, 13), (7, 13), (8, 13), (9, 13), (10, 13), (11, 13), (12, 13), (0, 14), (1, 14), (2, 14), (3, 14), (4, 14), (5, 14), (6, 14), (7, 14), (8, 14), (9, 14), (10, 14), (11, 14), (0, 15), (1, 15), (2, 15), (3, 15), (4, 15), (5, 15), (6, 15), (7, 15), (8, 15), (9, 15), (10, 15), (11, 15), (0, 16), (1, 16), (2, 16), (3, 16), (4, 16), (5, 16), (6, 16), (7, 16), (8, 16), (9, 16), (10, 16), (11, 16), (0, 17), (1, 17), (2, 17), (3, 17), (4, 17)])]; simp [logOk, ftFree, h7_43, h11_43, h13_43, h15_43, g1_39, g3_39, g4_39, gir_39, gic_39, gm33_39, gk36_39, hb2, hn_m47, hst_39, b3, Ne.symm b3, z1, Ne.symm z1, y1, Ne.symm y1, z3, Ne.symm z3, y3, Ne.symm y3, z4, Ne.symm z4, y4, Ne.symm y4, nx62, nx63, nx64, nx65, nx66, nx67, nx68, nx69, nx70, nx71, nx72, hs, beq_eq_false_iff_ne.2 hs, v2, Ne.symm v2, v3, Ne.symm v3, v4, Ne.symm v4, v5, Ne.symm v5, nx87, nx88, nx89, nx90, nx91, nx92, nx93, nx94, nx95, nx96, nx97, encG, c1, c2, c3, c5, c6, c7, gt_elem c4, gt_elem c8, p3, hplc, hplx, hrv, hrv2, hw2l, hvn, show lr.length ≤ 9223372036854775806 by omega, show (lr.length + 1) * 8 ≤ 140737488355328 by omega]) fun σ48 hσ H48 hH => ?_
         clear hK K hU U
         clear hσ
         have g1_48 := gt_of hH 1
         have g3_48 := gt_of hH 3
         have g4_48 := gt_of hH 4
         have gir_48 := gt_of hH ir
         have gic_48 := gt_of hH ic
         have gm33_48 := gt_of hH m33
         have gk36_48 := gt_of hH k36
         have gid_48 := gt_of hH id
         have g_m47_16__48 := gt_of hH (m47 + 16)
         simp [g1_39, g3_39, g4_39, gir_39, gic_39, gm33_39, gk36_39, hb2, hn_m47, hst_39, b3, Ne.symm b3, z1, Ne.symm z1, y1, Ne.symm y1, z3, Ne.symm z3, y3, Ne.symm y3, z4, Ne.symm z4, y4, Ne.symm y4, nx62, nx63, nx64, nx65, nx66, nx67, nx68, nx69, nx70, nx71, nx72, hs, beq_eq_false_iff_ne.2 hs, v2, Ne.symm v2, v3, Ne.symm v3, v4, Ne.symm v4, v5, Ne.symm v5, nx87, nx88, nx89, nx90, nx91, nx92, nx93, nx94, nx95, nx96, nx97] at g1_48 g3_48 g4_48 gir_48 gic_48 gm33_48 gk36_48 gid_48 g_m47_16__48
         have hst_48 := congrArg AHeap.st hH
         simp [hst_39] at hst_48
         have kb : ∀ j, H38.get j ≠ none → j ≠ ir → j ≠ id → H48.get j = H38.get j := fun j hj h1 h2 => by
          rw [hH]; have hjm : ¬ j = (m47 + 16) := by { intro e; rw [e, hf_m47_16] at hj; exact hj rfl }
          simp [hn_m47, hst_48, hjm, h1, h2]
         clear hH
         refine q_block ?_
         refine q_rb gk36_48 fun H49 hH => ?_
         have hkeep : ∀ j, j ≠ k36 → H49.get j = H48.get j := fun j hj => by rw [hH, put_getH, if_neg hj]
         refine ⟨ws2.set r (.sl id (gn + 1) 0 (lr.length + 1)), (by rw [hH]; simp [g1_48, g3_48, g4_48, gir_48, gic_48, gm33_48, gk36_48, gid_48, g_m47_16__48, hst_48, b3, Ne.symm b3, z1, Ne.symm z1, y1, Ne.symm y1, z3, Ne.symm z3, y3, Ne.symm y3, z4, Ne.symm z4, y4, Ne.symm y4, nx62, nx63, nx64, nx65, nx66, nx67, nx68, nx69, nx70, nx71, nx72, hs, beq_eq_false_iff_ne.2 hs, v2, Ne.symm v2, v3, Ne.symm v3, v4, Ne.symm v4, v5, Ne.symm v5, nx87, nx88, nx89, nx90, nx91, nx92, nx93, nx94, nx95, nx96, nx97, g1_34]), (by rw [hH]; simp [g1_48, g3_48, g4_48, gir_48, gic_48, gm33_48, gk36_48, gid_48, g_m47_16__48, hst_48, b3, Ne.symm b3, z1, Ne.symm z1, y1, Ne.symm y1, z3, Ne.symm z3, y3, Ne.symm y3, z4, Ne.symm z4, y4, Ne.symm y4, nx62, nx63, nx64, nx65, nx66, nx67, nx68, nx69, nx70, nx71, nx72, hs, beq_eq_false_iff_ne.2 hs, v2, Ne.symm v2, v3, Ne.symm v3, v4, Ne.symm v4, v5, Ne.symm v5, nx87, nx88, nx89, nx90, nx91, nx92, nx93, nx94, nx95, nx96, nx97, g3_34]), (by rw [hH]; simp [g1_48, g3_48, g4_48, gir_48, gic_48, gm33_48, gk36_48, gid_48, g_m47_16__48, hst_48, b3, Ne.symm b3, z1, Ne.symm z1, y1, Ne.symm y1, z3, Ne.symm z3, y3, Ne.symm y3, z4, Ne.symm z4, y4, Ne.symm y4, nx62, nx63, nx64, nx65, nx66, nx67, nx68, nx69, nx70, nx71, nx72, hs, beq_eq_false_iff_ne.2 hs, v2, Ne.symm v2, v3, Ne.symm v3, v4, Ne.symm v4, v5, Ne.symm v5, nx87, nx88, nx89, nx90, nx91, nx92, nx93, nx94, nx95, nx96, nx97, g4_34]), (by rw [hH]; simp [g1_48, g3_48, g4_48, gir_48, gic_48, gm33_48, gk36_48, gid_48, g_m47_16__48, hst_48, b3, Ne.symm b3, z1, Ne.symm z1, y1, Ne.symm y1, z3, Ne.symm z3, y3, Ne.symm y3, z4, Ne.symm z4, y4, Ne.symm y4, nx62, nx63, nx64, nx65, nx66, nx67, nx68, nx69, nx70, nx71, nx72, hs, beq_eq_false_iff_ne.2 hs, v2, Ne.symm v2, v3, Ne.symm v3, v4, Ne.symm v4, v5, Ne.symm v5, nx87, nx88, nx89, nx90, nx91, nx92, nx93, nx94, nx95, nx96, nx97]), (by rw [hH]; simp [g1_48, g3_48, g4_48, gir_48, gic_48, gm33_48, gk36_48, gid_48, g_m47_16__48, hst_48, b3, Ne.symm b3, z1, Ne.symm z1, y1, Ne.symm y1, z3, Ne.symm z3, y3, Ne.symm y3, z4, Ne.symm z4, y4, Ne.symm y4, nx62, nx63, nx64, nx65, nx66, nx67, nx68, nx69, nx70, nx71, nx72, hs, beq_eq_false_iff_ne.2 hs, v2, Ne.symm v2, v3, Ne.symm v3, v4, Ne.symm v4, v5, Ne.symm v5, nx87, nx88, nx89, nx90, nx91, nx92, nx93, nx94, nx95, nx96, nx97, gic_34]), (by rw [hH]; simp [g1_48, g3_48, g4_48, gir_48, gic_48, gm33_48, gk36_48, gid_48, g_m47_16__48, hst_48, b3, Ne.symm b3, z1, Ne.symm z1, y1, Ne.symm y1, z3, Ne.symm z3, y3, Ne.symm y3, z4, Ne.symm z4, y4, Ne.symm y4, nx62, nx63, nx64, nx65, nx66, nx67, nx68, nx69, nx70, nx71, nx72, hs, beq_eq_false_iff_ne.2 hs, v2, Ne.symm v2, v3, Ne.symm v3, v4, Ne.symm v4, v5, Ne.symm v5, nx87, nx88, nx89, nx90, nx91, nx92, nx93, nx94, nx95, nx96, nx97, gm33_34]), ((congrArg AHeap.st hH).trans (hst_48.trans hst_34.symm)), ?_, ?_, ?_⟩
         ·rw [ceM_other (fun e => hs (hcg.2 e)), hr, hlr]
          refine u1.set (OwnR.mk (rest := []) (by rw [hkeep _ v5]; exact gid_48) (by simp [hplx]) (by simp) (by omega)) fun j id' g' n' hj hvj => ?_
          obtain ⟨_, a2, _, _, a5⟩ := u3 _ _ _ _ hvj
          obtain ⟨w1, w2⟩ := u1.used hvj
          have u4 : id' ≠ id := fun e => hj (by subst e; exact u1.ne _ _ _ _ _ _ _ hvj hwk)
          refine ⟨by rw [hkeep id' a5, kb id' (by rw [hka id' a5]; exact w1) a2 u4, hka id' a5], fun g'' n'' e => ?_⟩
          cases e; exact u4 rfl
         ·exact fun j hj => by
           have hjl : j ≠ k36 := fun e => by subst e; exact hj (hcL)
           have hji : j ≠ ir := fun e => by subst e; exact hj b4
           have hjd : j ≠ id := fun e => by subst e; exact hj v1
           rw [hkeep j hjl, kb j (by rw [hka j hjl, u2 j hj]; exact hj) hji hjd, hka j hjl, u2 j hj]
         ·exact fun i id2 g n h => by
           rcases set_get h with h | h
           ·exact u3 i id2 g n h
           ·cases h
            exact ⟨v1, v2, v3, v4, v5⟩
      ·rintro rdy b36 H36 ⟨ws2, qg1_36, qg3_36, qg4_36, gir_36, qgic_36, qgm33_36, qst_36, u1, u2, u3⟩ hrdy_36 Hd36 hH
       have g1_36 := qg1_36.trans g1_34
       have g3_36 := qg3_36.trans g3_34
       have g4_36 := qg4_36.trans g4_34
       have gic_36 := qgic_36.trans gic_34
       have gm33_36 := qgm33_36.trans gm33_34
       have hst_36 := qst_36.trans hst_34
       have hkeep : ∀ j, j ≠ k36 → Hd36.get j = H36.get j := fun j hj => by rw [hH, put_getH, if_neg hj]
       have g1_50 := gt_of hH 1
       have g3_50 := gt_of hH 3
       have g4_50 := gt_of hH 4
       have gir_50 := gt_of hH ir
       have gic_50 := gt_of hH ic
       have gm33_50 := gt_of hH m33
       simp [g1_36, g3_36, g4_36, gir_36, gic_36, gm33_36, hst_36, b3, Ne.symm b3, z1, Ne.symm z1, y1, Ne.symm y1, z3, Ne.symm z3, y3, Ne.symm y3, z4, Ne.symm z4, y4, Ne.symm y4, nx62, nx63, nx64, nx65, nx66, nx67, nx68, nx69, nx70, nx71, nx72] at g1_50 g3_50 g4_50 gir_50 gic_50 gm33_50
       have hst_50 : Hd36.st = _ := (congrArg AHeap.st hH).trans hst_36
       have hcL : Hc.get k36 = none := by
        cases hq : Hc.get k36 with
        | none => rfl
        | some b => have := s3b k36 (by rw [hq]; simp); rw [hf_k36, hq] at this; cases this
       have u2b : ∀ j, Hc.get j ≠ none → Hd36.get j = Hc.get j := fun j hj => by
        have hjl : j ≠ k36 := fun e => by subst e; exact hj (hcL)
        rw [hkeep j hjl, u2 j hj]
       have u1b := u1.keepR (H' := Hd36) fun i id g n h => by
        obtain ⟨_, _, _, _, v5⟩ := u3 i id g n h
        rw [hkeep id v5]
       rw [geL0_succ hv, ceM_all hv hlt] at u1b
       clear hH
       refine q_block ?_
       refine q_block ?_
       refine q_seq ?_
       refine stp_regl TT_ok (by rfl) fun K hK => ?_
       simp [h68_35, g1_50, g3_50, g4_50, gir_50, gic_50, gm33_50, b3, Ne.symm b3, z1, Ne.symm z1, y1, Ne.symm y1, z3, Ne.symm z3, y3, Ne.symm y3, z4, Ne.symm z4, y4, Ne.symm y4, nx62, nx63, nx64, nx65, nx66, nx67, nx68, nx69, nx70, nx71, nx72, encG, wrap_ok (n := (i2 : Int) + 1) (by omega) (by omega)]
       try refine And.intro (by first | omega | rfl) ?_
       refine hK _ _ fun σ51 hσ H51 hH => ?_
       clear hK K
       obtain ⟨h4_51, h5_51, h7_51, h8_51, h11_51, h66_51, h67_51, h68_51⟩ := fs8 hσ 4 5 7 8 11 66 67 68
       simp [h4_35, h5_35, h7_35, h8_35, h11_35, h66_35, h67_35] at h4_51 h5_51 h7_51 h8_51 h11_51 h66_51 h67_51 h68_51
       clear hσ
       replace hH : Hd36 = H51 := Eq.symm hH
       subst hH
       refine ⟨_, ?_, i2 + 1, ws2, rfl, (h4_51.trans h4_30.symm), (h5_51.trans h5_30.symm), (h7_51.trans h7_30.symm), (h8_51.trans h8_30.symm), (h11_51.trans h11_30.symm), (h66_51.trans h66_30.symm), (h67_51.trans h67_30.symm), (by simp [h68_51]), (g1_50.trans g1_25.symm), (g3_50.trans g3_25.symm), (g4_50.trans g4_25.symm), (by simp [gir_50]), (gic_50.trans gic_25.symm), (hst_50.trans hst_25.symm), ?_, ?_, ?_, ?_⟩
       ·subst hn2; omega
       ·first | omega | assumption | (simp; done)
       ·exact u1b
       ·exact u2b
       ·exact fun i id g n h => by
         obtain ⟨a, b, c, _⟩ := u3 i id g n h
         exact ⟨a, b, c⟩
     ·try simp at hc69
      have hie : i2 = g.nodes.length := by have := hc69; omega
      subst hie
      have p2b := p2.keep (H' := H31) fun id hid => by rw [s3 id (by rw [hHc]; exact hid), hHc]
      refine awp_exit ?_
      refine q_seq_exit ?_
      refine q_loop_exit ?_
      refine q_block_hit ?_
      refine q_seq ?_
      refine stp_lex false TT_ok mixed (by rfl) (by rfl) (by kernel_rfl) (by rfl) fun U hU K hK => ?_
      simp [h8_32, h11_32, g1_31, g3_31, g4_31, gir_31, gic_31, b3, Ne.symm b3, z1, Ne.symm z1, y1, Ne.symm y1, z3, Ne.symm z3, y3, Ne.symm y3, z4, Ne.symm z4, y4, Ne.symm y4, encG]
      try refine And.intro (by first | omega | rfl) ?_
      refine hK _ _ _ (by subst hU; kernel_rfl) fun σ52 hσ H52 hH => ?_
      clear hK K hU U
      obtain ⟨h2_52, h3_52⟩ := fs2 hσ 2 3
      simp [] at h2_52 h3_52
      clear hσ
      replace hH : H31 = H52 := Eq.symm hH
      subst hH
      refine awp_ret ?_
      refine q_fin2 h2_52 h3_52 ?_
      exact .tup rfl fun j x y hx hy => by
       match j, hx, hy with
       | 0, hx, hy => simp at hx hy; subst hx; subst hy; exact p2b.frz
       | 1, hx, hy => simp at hx hy; subst hx; subst hy; exact s2.frz gir_31 hwl.symm
theorem condensed_ok (g : Gr) (hv : g.valid = true) : Fun1 Try.prog 55 [encG g] (.tup [encS g.comps, encS g.cedges]) :=
 fun1_frz (condensed0 g hv) (pu_cons (pu_graph g) pu_nil) (.tup (pu_cons (pu_encS _) (pu_cons (pu_encS _) pu_nil)))
end Go.Proofs.Yteifhcohmipdcaa

namespace Go.Proofs.Yteifhcohmipdcaa
open Go.Abs
set_option linter.unusedSimpArgs false
set_option linter.unusedVariables false
def readyAt (ss : List (List Int)) (l : List Int) (i : Nat) : Bool := !decide ((i : Int) ∈ l) && (ss.getD i []).all fun x => decide (x ∈ l)
def pickN (ss : List (List Int)) (l : List Int) : Nat := ((List.range ss.length).find? (readyAt ss l)).getD 0
def listedL (ss : List (List Int)) : Nat → List Int
 | 0 => []
 | k + 1 => listedL ss k ++ [(pickN ss (listedL ss k) : Int)]
theorem listed_len (ss : List (List Int)) : ∀ k, (listedL ss k).length = k
 | 0 => rfl
 | k + 1 => by rw [listedL, List.length_append, listed_len ss k]; rfl
theorem pickN_found {ss : List (List Int)} {l : List Int} {i : Nat} (h : i < ss.length) (hr : readyAt ss l i = true) (hb : ∀ j, j < i → readyAt ss l j = false) : pickN ss l = i := by
 have : (List.range ss.length).find? (readyAt ss l) = some i := by
  rw [List.find?_range_eq_some]
  exact ⟨hr, List.mem_range.2 h, fun j hj => by rw [hb j hj]; rfl⟩
 rw [pickN, this]; rfl
theorem pickN_none {ss : List (List Int)} {l : List Int} (hb : ∀ j, j < ss.length → readyAt ss l j = false) : pickN ss l = 0 := by
 have : (List.range ss.length).find? (readyAt ss l) = none := by
  rw [List.find?_eq_none]
  intro j hj; rw [hb j (List.mem_range.1 hj)]; simp
 rw [pickN, this]; rfl
theorem pickN_lt {ss : List (List Int)} {l : List Int} (h : 0 < ss.length) : pickN ss l < ss.length := by
 rw [pickN]
 cases hf : (List.range ss.length).find? (readyAt ss l) with
 | none => exact h
 | some i => exact List.mem_range.1 (List.mem_of_find?_eq_some hf)
def doneL (n : Nat) (l : List Int) : List Bool := (List.range n).map fun i : Nat => decide ((i : Int) ∈ l)
theorem doneL_len (n : Nat) (l : List Int) : (doneL n l).length = n := by simp [doneL]
theorem doneL_get {n : Nat} {l : List Int} {i : Nat} (h : i < n) : (doneL n l)[i]? = some (decide ((i : Int) ∈ l)) := by simp [doneL, h]
theorem doneL_set {n : Nat} {l : List Int} {k : Nat} : (doneL n l).set k true = doneL n (l ++ [(k : Int)]) := by
 refine List.ext_getElem? fun i => ?_
 rw [List.getElem?_set]
 by_cases hi : i < n
 ·by_cases hk : k = i
  ·subst hk; rw [if_pos rfl, if_pos (by rw [doneL_len]; exact hi)]; rw [doneL_get hi]; simp only [List.mem_append, List.mem_singleton, or_true, decide_true]
  ·rw [if_neg hk, doneL_get hi, doneL_get hi]
   have : ¬ (i : Int) = (k : Int) := by omega
   simp only [List.mem_append, List.mem_singleton, this, or_false]
 ·rw [List.getElem?_eq_none (l := doneL n (l ++ [(k : Int)])) (by rw [doneL_len]; omega)]
  split
  ·rw [if_neg (by rw [doneL_len]; omega)]
  ·rw [List.getElem?_eq_none (by rw [doneL_len]; omega)]
theorem doneL_at {n : Nat} {l : List Int} {x : Int} (h : inR n x) : (doneL n l).getD x.toNat false = decide (x ∈ l) := by
 rw [List.getD_eq_getElem?_getD, doneL_get (in_toNat h), toNat_cast h]; rfl
theorem doneL_zero (n : Nat) : doneL n [] = List.replicate n false := by
 refine List.ext_getElem? fun i => ?_
 rw [List.getElem?_replicate]
 by_cases hi : i < n
 ·rw [doneL_get hi, if_pos hi]; simp
 ·rw [List.getElem?_eq_none (by rw [doneL_len]; omega), if_neg hi]
theorem frz_bools {H : AHeap} {id g n : Nat} {e : TypeId} {bs : List Bool} (hb : H.get id = some (.row e 1 g (bs.map .bool))) (hn : n = bs.length) : Frz H (.sl id g 0 n) (.ro (bs.map .bool)) :=
 frz_row hb (by simp [hn]) (fun x hx => by obtain ⟨b, _, rfl⟩ := List.mem_map.1 hx; exact .bool _) (fun x hx v hv => by obtain ⟨b, _, rfl⟩ := List.mem_map.1 hx; simp only [AV.cells, List.mem_singleton] at hv; subst hv; rfl)
end Go.Proofs.Yteifhcohmipdcaa

namespace Go.Proofs.Yteifhcohmipdcaa
open Go.Abs
set_option linter.unusedSimpArgs false
set_option linter.unusedVariables false
def capD (n : Nat) (l : List Int) : AV := .rop [.ro ((doneL n l).map .bool)]
theorem pu_capD (n : Nat) (l : List Int) : Pu (capD n l) := .rop (pu_cons (pu_bools _) pu_nil)
set_option maxHeartbeats 1000000 in
theorem listed1_0 (n : Nat) (l : List Int) (x : Int) (hx : inR n x) : ACalls Try.prog 66 [(AV.int IntKind.i64) x, capD n l] AHeap.nil (fun r _ => r = .bool (!decide (x ∈ l))) := by
 obtain ⟨x1, x2⟩ := hx
 have hdl := doneL_len n l
 have x3 : x.toNat < (doneL n l).length := by omega
 have hel : (doneL n l)[x.toNat] = decide (x ∈ l) := by
  have := doneL_at (l := l) ⟨x1, x2⟩
  rwa [List.getD_eq_getElem?_getD, List.getElem?_eq_getElem x3] at this
 refine acalls_body TT_ok Try.func66 rfl rfl (by simp [Try.ntmps66]) ?_
 rw [Try.ntmps66]
 obtain ⟨σ, hσ⟩ : ∃ σ, σ = st0 [(AV.int IntKind.i64) x, capD n l] := ⟨_, rfl⟩
 rw [← hσ]
 obtain ⟨h0_0, h1_0⟩ := fs2 hσ 0 1
 simp [st0] at h0_0 h1_0
 clear hσ
 obtain ⟨H, hH⟩ : ∃ H, H = AHeap.nil := ⟨_, rfl⟩
 rw [← hH]
 have hn_0 : H.n = 0 := by rw [hH]; rfl
 have hst_0 : H.st = 1 := by rw [hH]; rfl
 clear hH
 refine stp_reg TT_ok (by rfl) fun K hK => ?_
 simp [capD]
 try refine And.intro (by first | omega | rfl) ?_
 refine hK _ _ fun σ1 hσ H1 hH => ?_
 clear hK K
 obtain ⟨h0_1, h1_1⟩ := fs2 hσ 0 1
 simp [h0_0, h1_0] at h0_1 h1_1
 clear hσ
 replace hH : H = H1 := Eq.symm hH
 subst hH
 refine stp_reg TT_ok (by rfl) fun K hK => ?_
 simp [h0_1, h1_1, capD, x1, x2, x3, hdl, hel]
 try refine And.intro (by first | omega | rfl) ?_
 refine hK _ _ fun σ2 hσ H2 hH => ?_
 clear hK K
 have h3_2 := congrFun hσ 3
 simp [] at h3_2
 clear hσ
 replace hH : H = H2 := Eq.symm hH
 subst hH
 refine awp_ret ?_
 refine q_fin1 h3_2 ?_
 first | rfl | (simp; done)
theorem listed1_ok (n : Nat) (l : List Int) (x : Int) (hx : inR n x) : Fun1 Try.prog 66 [(AV.int IntKind.i64) x, capD n l] (.bool (!decide (x ∈ l))) :=
 fun1_pure (listed1_0 n l x hx) (pu_cons (pu_int _ _) (pu_cons (pu_capD n l) pu_nil)) (.bool _)
set_option maxHeartbeats 1000000 in
theorem listed0 (ss : List (List Int)) (hb : ss.length ≤ 100000) (hs : ∀ l ∈ ss, l.length ≤ 100000 ∧ ∀ x ∈ l, inR ss.length x) : ACalls Try.prog 54 [encS ss] AHeap.nil (fun r H => OwnR 3 1 2 ((listedL ss ss.length).map (AV.int IntKind.i64)) r H) := by
 refine acalls_body TT_ok Try.func54 rfl rfl (by simp [Try.ntmps54]) ?_
 rw [Try.ntmps54]
 obtain ⟨σ, hσ⟩ : ∃ σ, σ = st0 [encS ss] := ⟨_, rfl⟩
 rw [← hσ]
 have h0_0 := congrFun hσ 0
 simp [st0] at h0_0
 clear hσ
 obtain ⟨H, hH⟩ : ∃ H, H = AHeap.nil := ⟨_, rfl⟩
 rw [← hH]
 have hn_0 : H.n = 0 := by rw [hH]; rfl
 have hst_0 : H.st = 1 := by rw [hH]; rfl
 clear hH
 refine stp_reg TT_ok (by rfl) fun K hK => ?_
 simp [encS]
 try refine And.intro (by first | omega | rfl) ?_
 refine hK _ _ fun σ1 hσ H1 hH => ?_
 clear hK K
 have h0_1 := congrFun hσ 0
 simp [h0_0] at h0_1
 clear hσ
 replace hH : H = H1 := Eq.symm hH
 subst hH
 refine stp_reg TT_ok (by rfl) fun K hK => ?_
 simp [h0_1, hn_0, hst_0, encS, show (ss.length : Int) ≤ 281474976710656 by omega]
 try refine And.intro (by first | omega | rfl) ?_
 refine hK _ _ fun σ2 hσ H2 hH => ?_
 clear hK K
 obtain ⟨h0_2, h3_2⟩ := fs2 hσ 0 3
 simp [h0_1] at h0_2 h3_2
 clear hσ
 have g0_2 := gt_of hH 0
 have g1_2 := gt_of hH 1
 simp [hn_0, hst_0] at g0_2 g1_2
 have hn_2 := congrArg AHeap.n hH
 simp [hn_0, hst_0] at hn_2
 have hst_2 := congrArg AHeap.st hH
 simp [hn_0, hst_0] at hst_2
 clear hH
 refine stp_reg TT_ok (by rfl) fun K hK => ?_
 simp [g0_2, g1_2, encS]
 try refine And.intro (by first | omega | rfl) ?_
 refine hK _ _ fun σ3 hσ H3 hH => ?_
 clear hK K
 obtain ⟨h0_3, h3_3, h4_3⟩ := fs3 hσ 0 3 4
 simp [h0_2, h3_2] at h0_3 h3_3 h4_3
 clear hσ
 replace hH : H2 = H3 := Eq.symm hH
 subst hH
 refine awp_seq ?_
 refine awp_block ?_
 refine awp_loopV (fun n σ' H' => ∃ (k : Nat) (v : AV) (bs : List Bool), n = ss.length - k ∧ σ' 0 = σ3 0 ∧ σ' 3 = σ3 3 ∧ σ' 4 = v ∧ H'.get 0 = some (.row 4 1 0 (bs.map .bool)) ∧ H'.get 1 = H2.get 1 ∧ H'.st = H2.st ∧ (k ≤ ss.length) ∧ (OwnR 3 1 2 ((listedL ss k).map (AV.int IntKind.i64)) v H') ∧ (doneL ss.length (listedL ss k) = bs)) ?_ ?_
 ·refine ⟨_, 0, .nils, List.replicate ss.length false, rfl, rfl, rfl, (by simp [h4_3]), (by simp [g0_2]), rfl, rfl, ?_, ?_, ?_⟩
  ·first | omega | (simp; done) | assumption
  ·exact .inl ⟨rfl, rfl⟩
  ·exact doneL_zero _
 ·rintro n1 σ4 H4 ⟨k, v, bs, hn1, q0_4, q3_4, h4_4, g0_4, qg1_4, qst_4, p1, p2, hbs⟩
  have h0_4 := q0_4.trans h0_3
  have h3_4 := q3_4.trans h3_3
  have g1_4 := qg1_4.trans g1_2
  have hst_4 := qst_4.trans hst_2
  have hll := listed_len ss k
  have hdl := doneL_len ss.length (listedL ss k)
  obtain ⟨l, hl⟩ : ∃ l, listedL ss k = l := ⟨_, rfl⟩
  rw [hl] at hll hdl p2 hbs
  rw [hbs] at hdl
  refine awp_seq ?_
  refine stp_cut (fun σ' H' => σ' 0 = σ4 0 ∧ σ' 3 = σ4 3 ∧ σ' 4 = σ4 4 ∧ σ' 14 = .bool (decide ((k : Int) < ss.length)) ∧ H' = H4) ?_ ?_
  ·skip
   rcases p2 with ⟨hvn, hnil⟩ | ⟨id, gn, rest, hvn, hb2, hid⟩
   ·skip
    subst hvn
    have hk0 : k = 0 := by rw [List.map_eq_nil_iff] at hnil; rw [← hll, hnil]; rfl
    refine stp_regl TT_ok (by rfl) fun K hK => ?_
    simp [h0_4, h4_4, g0_4, g1_4, encS, hk0]
    try refine And.intro (by first | omega | rfl) ?_
    refine hK _ _ fun σ6 hσ H6 hH => ?_
    clear hK K
    obtain ⟨h0_6, h3_6, h4_6, h14_6⟩ := fs4 hσ 0 3 4 14
    simp [h0_4, h3_4, h4_4] at h0_6 h3_6 h4_6 h14_6
    clear hσ
    replace hH : H4 = H6 := Eq.symm hH
    subst hH
    refine ⟨rfl, (h0_6.trans h0_4.symm), (h3_6.trans h3_4.symm), (h4_6.trans h4_4.symm), (by simp [h14_6, hk0]), rfl⟩
   ·skip
    rw [List.length_map] at hvn
    subst hvn
    have nx1 : ¬ id = 0 ∧ ¬ 0 = id := by omega
    have nx2 : ¬ id = 1 ∧ ¬ 1 = id := by omega
    refine stp_regl TT_ok (by rfl) fun K hK => ?_
    simp [h0_4, h4_4, g0_4, g1_4, hb2, nx1, nx2, encS, hll, List.length_map]
    try refine And.intro (by first | omega | rfl) ?_
    refine hK _ _ fun σ7 hσ H7 hH => ?_
    clear hK K
    obtain ⟨h0_7, h3_7, h4_7, h14_7⟩ := fs4 hσ 0 3 4 14
    simp [h0_4, h3_4, h4_4] at h0_7 h3_7 h4_7 h14_7
    clear hσ
    replace hH : H4 = H7 := Eq.symm hH
    subst hH
    refine ⟨rfl, (h0_7.trans h0_4.symm), (h3_7.trans h3_4.symm), (h4_7.trans h4_4.symm), (by simp [h14_7]), rfl⟩
  ·rintro σ5 H5 ⟨q0_5, q3_5, q4_5, h14_5, hHq⟩
   replace hHq := hHq.symm
   subst hHq
   have h0_5 := q0_5.trans h0_4
   have h3_5 := q3_5.trans h3_4
   have h4_5 := q4_5.trans h4_4
   refine awp_cond _ (by simp only [aeval_tmp]; exact h14_5) (fun hc14 => ?_) (fun hc14 => ?_)
   ·try simp at hc14
    have hlt : k < ss.length := by simpa using hc14
    refine awp_skip ?_
    refine q_seq ?_
    refine awp_block ?_
    refine stp_reg TT_ok (by rfl) fun K hK => ?_
    simp [g0_4, g1_4, encS]
    try refine And.intro (by first | omega | rfl) ?_
    refine hK _ _ fun σ8 hσ H8 hH => ?_
    clear hK K
    obtain ⟨h0_8, h3_8, h4_8, h5_8⟩ := fs4 hσ 0 3 4 5
    simp [h0_5, h3_5, h4_5] at h0_8 h3_8 h4_8 h5_8
    clear hσ
    replace hH : H4 = H8 := Eq.symm hH
    subst hH
    refine awp_seq ?_
    refine stp_reg TT_ok (by rfl) fun K hK => ?_
    simp [h0_8, g0_4, g1_4, encS]
    try refine And.intro (by first | omega | rfl) ?_
    refine hK _ _ fun σ9 hσ H9 hH => ?_
    clear hK K
    obtain ⟨h0_9, h3_9, h4_9, h5_9, h16_9, h17_9⟩ := fs6 hσ 0 3 4 5 16 17
    simp [h0_8, h3_8, h4_8, h5_8] at h0_9 h3_9 h4_9 h5_9 h16_9 h17_9
    clear hσ
    replace hH : H4 = H9 := Eq.symm hH
    subst hH
    refine awp_block ?_
    refine awp_loopV (fun n σ' H' => ∃ (i : Nat), n = ss.length - i ∧ σ' 0 = σ9 0 ∧ σ' 3 = σ9 3 ∧ σ' 4 = σ9 4 ∧ σ' 5 = (AV.int IntKind.i64) 0 ∧ σ' 16 = σ9 16 ∧ σ' 17 = (AV.int IntKind.i64) i ∧ H' = H4 ∧ (i ≤ ss.length) ∧ (∀ j, j < i → readyAt ss l j = false)) ?_ ?_
    ·refine ⟨_, 0, rfl, rfl, rfl, rfl, (by simp [h5_9]), rfl, (by simp [h17_9]), rfl, ?_, ?_⟩
     ·first | omega | (simp; done) | assumption
     ·intro j hj; omega
    ·rintro n2 σ10 H10 ⟨i, hn2, q0_10, q3_10, q4_10, h5_10, q16_10, h17_10, hHq, q1, q2⟩
     have h0_10 := q0_10.trans h0_9
     have h3_10 := q3_10.trans h3_9
     have h4_10 := q4_10.trans h4_9
     have h16_10 := q16_10.trans h16_9
     replace hHq := hHq.symm
     subst hHq
     refine stp_reg TT_ok (by rfl) fun K hK => ?_
     simp [h16_10, h17_10, g0_4, g1_4, encS]
     try refine And.intro (by first | omega | rfl) ?_
     refine hK _ _ fun σ11 hσ H11 hH => ?_
     clear hK K
     obtain ⟨h0_11, h3_11, h4_11, h5_11, h16_11, h17_11, h18_11⟩ := fs7 hσ 0 3 4 5 16 17 18
     simp [h0_10, h3_10, h4_10, h5_10, h16_10, h17_10] at h0_11 h3_11 h4_11 h5_11 h16_11 h17_11 h18_11
     clear hσ
     replace hH : H4 = H11 := Eq.symm hH
     subst hH
     refine awp_seq ?_
     refine awp_cond _ (by simp only [aeval_tmp]; exact h18_11) (fun hc18 => ?_) (fun hc18 => ?_)
     ·try simp at hc18
      have hil : i < ss.length := by simpa using hc18
      obtain ⟨li, hli⟩ : ∃ li, ss[i] = li := ⟨_, rfl⟩
      have hge : (ss.map fun l => AV.ro (l.map (AV.int IntKind.i64)))[i]? = some (.ro (li.map (AV.int IntKind.i64))) := by rw [List.getElem?_map, List.getElem?_eq_getElem hil, hli]; rfl
      obtain ⟨hli1, hli2⟩ := hs li (by rw [← hli]; exact List.getElem_mem hil)
      have hil2 : i < bs.length := by omega
      have hel : bs[i] = decide ((i : Int) ∈ l) := by have := doneL_get (l := l) hil; rw [hbs, List.getElem?_eq_getElem hil2] at this; exact Option.some.inj this
      have hrd : readyAt ss l i = (!decide ((i : Int) ∈ l) && li.all fun x => decide (x ∈ l)) := by rw [readyAt, List.getD_eq_getElem?_getD, List.getElem?_eq_getElem hil, hli]; rfl
      refine awp_skip ?_
      refine q_seq ?_
      refine awp_seq ?_
      refine awp_block ?_
      refine stp_reg TT_ok (by rfl) fun K hK => ?_
      simp [h17_11, g0_4, g1_4, encS]
      try refine And.intro (by first | omega | rfl) ?_
      refine hK _ _ fun σ12 hσ H12 hH => ?_
      clear hK K
      obtain ⟨h0_12, h3_12, h4_12, h5_12, h6_12, h16_12, h17_12⟩ := fs7 hσ 0 3 4 5 6 16 17
      simp [h0_11, h3_11, h4_11, h5_11, h16_11, h17_11] at h0_12 h3_12 h4_12 h5_12 h6_12 h16_12 h17_12
      clear hσ
      replace hH : H4 = H12 := Eq.symm hH
      subst hH
      by_cases hd : (i : Int) ∈ l
      ·skip
       refine stp_reg TT_ok (by rfl) fun K hK => ?_
       simp [h0_12, h3_12, h6_12, g0_4, g1_4, hd, encS, hge, hil, hil2, hel, hdl, hli]
       try refine And.intro (by first | omega | rfl) ?_
       refine hK _ _ fun σ13 hσ H13 hH => ?_
       clear hK K
       obtain ⟨h0_13, h3_13, h4_13, h5_13, h6_13, h16_13, h17_13, h33_13⟩ := fs8 hσ 0 3 4 5 6 16 17 33
       simp [h0_12, h3_12, h4_12, h5_12, h6_12, h16_12, h17_12] at h0_13 h3_13 h4_13 h5_13 h6_13 h16_13 h17_13 h33_13
       clear hσ
       replace hH : H4 = H13 := Eq.symm hH
       subst hH
       refine stp_false (by simp [aeval_tmp, h33_13, hd, encS]) ?_
       refine awp_skip ?_
       refine q_block ?_
       refine q_seq ?_
       refine stp_regl TT_ok (by rfl) fun K hK => ?_
       simp [h17_13, g0_4, g1_4, hd, encS, wrap_ok (n := (i : Int) + 1) (by omega) (by omega)]
       try refine And.intro (by first | omega | rfl) ?_
       refine hK _ _ fun σ14 hσ H14 hH => ?_
       clear hK K
       obtain ⟨h0_14, h3_14, h4_14, h5_14, h16_14, h17_14⟩ := fs6 hσ 0 3 4 5 16 17
       simp [h0_13, h3_13, h4_13, h5_13, h16_13] at h0_14 h3_14 h4_14 h5_14 h16_14 h17_14
       clear hσ
       replace hH : H4 = H14 := Eq.symm hH
       subst hH
       refine ⟨_, ?_, i + 1, rfl, (h0_14.trans h0_9.symm), (h3_14.trans h3_9.symm), (h4_14.trans h4_9.symm), (by simp [h5_14]), (h16_14.trans h16_9.symm), (by simp [h17_14]), rfl, ?_, ?_⟩
       ·subst hn2; omega
       ·first | omega | assumption | (simp; done)
       ·intro j hj
        by_cases e : j = i
        ·subst e; rw [hrd]; simp [hd]
        ·exact q2 j (by omega)
      ·skip
       have hFF0 := an6 h0_12 h3_12 h6_12 g0_4 g1_4 hd
       refine stp_reg TT_ok (by rfl) fun K hK => ?_
       simp [hFF0, encS, hge, hil, hil2, hel, hdl, hli]
       try refine And.intro (by first | omega | rfl) ?_
       refine FunW.at (containsFuncI_w li 66 [capD ss.length l] (fun x => !decide (x ∈ l)) (fun x hx => listed1_ok _ _ _ (hli2 x hx)) (by omega) (pu_cons (pu_capD _ _) pu_nil)) ?hf ?_
       case hf => exact FrzL.cons (.pure (pu_ints _)) (FrzL.cons (frz_fn (FrzL.cons (frz_box g1_4 (FrzL.cons (by rw [hbs]; exact frz_bools g0_4 hdl.symm) (FrzL.nil _)) (by simp [AV.one])) (FrzL.nil _))) (FrzL.nil _))
       simp [hFF0, encS, hge, hil, hil2, hel, hdl, hli]
       try refine And.intro (by first | omega | rfl) ?_
       refine hK _ _ fun σ15 hσ H15 hH => ?_
       clear hK K hFF0
       obtain ⟨h0_15, h3_15, h4_15, h5_15, h6_15, h16_15, h17_15, h33_15⟩ := fs8 hσ 0 3 4 5 6 16 17 33
       simp [h0_12, h3_12, h4_12, h5_12, h6_12, h16_12, h17_12] at h0_15 h3_15 h4_15 h5_15 h6_15 h16_15 h17_15 h33_15
       clear hσ
       replace hH : H4 = H15 := Eq.symm hH
       subst hH
       refine awp_cond _ (by simp only [aeval_tmp]; exact h33_15) (fun hc33 => ?_) (fun hc33 => ?_)
       ·try simp at hc33
        refine stp_reg TT_ok (by rfl) fun K hK => ?_
        simp [h6_15, g0_4, g1_4, hd, encS]
        try refine And.intro (by first | omega | rfl) ?_
        refine hK _ _ fun σ16 hσ H16 hH => ?_
        clear hK K
        obtain ⟨h0_16, h3_16, h4_16, h5_16⟩ := fs4 hσ 0 3 4 5
        simp [h0_15, h3_15, h4_15] at h0_16 h3_16 h4_16 h5_16
        clear hσ
        replace hH : H4 = H16 := Eq.symm hH
        subst hH
        refine awp_exit ?_
        refine q_block_miss rfl ?_
        refine q_seq_exit ?_
        refine q_loop_exit ?_
        refine q_block_hit ?_
        refine q_seq ?_
        refine stp_reg TT_ok (by rfl) fun K hK => ?_
        simp [h3_16, h5_16, g0_4, g1_4, hd, encS, hil, hil2, hdl]
        try refine And.intro (by first | omega | rfl) ?_
        refine hK _ _ fun σ17 hσ H17 hH => ?_
        clear hK K
        obtain ⟨h0_17, h3_17, h4_17, h5_17⟩ := fs4 hσ 0 3 4 5
        simp [h0_16, h3_16, h4_16, h5_16] at h0_17 h3_17 h4_17 h5_17
        clear hσ
        have g0_17 := gt_of hH 0
        have g1_17 := gt_of hH 1
        simp [g0_4, g1_4, hst_4, hd] at g0_17 g1_17
        have hst_17 := congrArg AHeap.st hH
        simp [hst_4] at hst_17
        have ka : ∀ j, j ≠ 0 → H17.get j = H4.get j := fun j h1 => by rw [hH]; simp [h1]
        clear hH
        rcases p2 with ⟨hvn, hnil⟩ | ⟨id, gn, rest, hvn, hb2, hid⟩
        ·skip
         subst hvn
         have hl0 : l = [] := List.map_eq_nil_iff.1 hnil
         refine awp_ok fun hok => ?_
         obtain ⟨m18, hn_m18⟩ : ∃ m, H17.n = m := ⟨_, rfl⟩
         have hf_m18_0 := hok.free 0
         simp [hn_m18, hst_17] at hf_m18_0
         have nx3 := ne_get hf_m18_0 g0_17
         have nx4 := ne_get hf_m18_0 g1_17
         have hf_m18_1 := hok.free 1
         simp [hn_m18, hst_17] at hf_m18_1
         have nx5 := ne_get hf_m18_1 g0_17
         have nx6 := ne_get hf_m18_1 g1_17
         have nx7 : ¬ m18 = 0 ∧ ¬ 0 = m18 := by omega
         refine stp_regl TT_ok (by rfl) fun K hK => ?_
         simp [h4_17, h5_17, g0_17, g1_17, hn_m18, hst_17, hd, nx3, nx4, nx5, nx6, nx7, encS]
         try refine And.intro (by first | omega | rfl) ?_
         refine hK _ _ fun σ19 hσ H19 hH => ?_
         clear hK K
         obtain ⟨h0_19, h3_19, h4_19⟩ := fs3 hσ 0 3 4
         simp [h0_17, h3_17] at h0_19 h3_19 h4_19
         clear hσ
         have g0_19 := gt_of hH 0
         have g1_19 := gt_of hH 1
         have gm18_19 := gt_of hH m18
         have g_m18_1__19 := gt_of hH (m18 + 1)
         simp [g0_17, g1_17, hn_m18, hst_17, hd, nx3, nx4, nx5, nx6, nx7] at g0_19 g1_19 gm18_19 g_m18_1__19
         have hst_19 := congrArg AHeap.st hH
         simp [hst_17] at hst_19
         clear hH
         refine q_block ?_
         have hpk : pickN ss l = i := pickN_found hil (by rw [hrd]; simp [hd]; simpa using hc33) q2
         refine ⟨_, ?_, k + 1, .sl (m18 + 1) 0 0 1, bs.set i true, rfl, (h0_19.trans h0_3.symm), (h3_19.trans h3_3.symm), (by simp [h4_19]), (by simp [g0_19]), (g1_19.trans g1_2.symm), (hst_19.trans hst_2.symm), ?_, ?_, ?_⟩
         ·subst hn1; omega
         ·first | omega | assumption | (simp; done)
         ·rw [listedL, hl, hpk, hl0]
          exact OwnR.mk (rest := []) g_m18_1__19 (by simp) (by simp) (by omega)
         ·rw [listedL, hl, hpk, ← hbs, doneL_set]
        ·skip
         rw [List.length_map] at hvn
         subst hvn
         have hb3 := (ka id (by omega)).trans hb2
         have nx8 : ¬ id = 0 ∧ ¬ 0 = id := by omega
         have nx9 : ¬ id = 1 ∧ ¬ 1 = id := by omega
         refine awp_ok fun hok => ?_
         obtain ⟨m20, hn_m20⟩ : ∃ m, H17.n = m := ⟨_, rfl⟩
         have hf_m20_0 := hok.free 0
         simp [hn_m20, hst_17] at hf_m20_0
         have nx10 := ne_get hf_m20_0 g0_17
         have nx11 := ne_get hf_m20_0 g1_17
         have nx12 := ne_get hf_m20_0 hb3
         refine stp_regl TT_ok (by rfl) fun K hK => ?_
         simp [h4_17, h5_17, g0_17, g1_17, hb3, hn_m20, hst_17, hd, nx8, nx9, nx10, nx11, nx12, encS, show l.length ≤ 9223372036854775806 by omega, show (l.length + 1) * 8 ≤ 140737488355328 by omega, take_map_len]
         try refine And.intro (by first | omega | rfl) ?_
         refine hK _ _ fun σ21 hσ H21 hH => ?_
         clear hK K
         obtain ⟨h0_21, h3_21, h4_21⟩ := fs3 hσ 0 3 4
         simp [h0_17, h3_17] at h0_21 h3_21 h4_21
         clear hσ
         have g0_21 := gt_of hH 0
         have g1_21 := gt_of hH 1
         have gid_21 := gt_of hH id
         have gm20_21 := gt_of hH m20
         simp [g0_17, g1_17, hb3, hn_m20, hst_17, hd, nx8, nx9, nx10, nx11, nx12] at g0_21 g1_21 gid_21 gm20_21
         have hst_21 := congrArg AHeap.st hH
         simp [hst_17] at hst_21
         clear hH
         refine q_block ?_
         have hpk : pickN ss l = i := pickN_found hil (by rw [hrd]; simp [hd]; simpa using hc33) q2
         refine ⟨_, ?_, k + 1, .sl id (gn + 1) 0 (l.length + 1), bs.set i true, rfl, (h0_21.trans h0_3.symm), (h3_21.trans h3_3.symm), (by simp [h4_21]), (by simp [g0_21]), (g1_21.trans g1_2.symm), (hst_21.trans hst_2.symm), ?_, ?_, ?_⟩
         ·subst hn1; omega
         ·first | omega | assumption | (simp; done)
         ·rw [listedL, hl, hpk]
          exact OwnR.mk (rest := []) gid_21 (by simp) (by simp) (by omega)
         ·rw [listedL, hl, hpk, ← hbs, doneL_set]
       ·try simp at hc33
        refine awp_skip ?_
        refine q_block ?_
        refine q_seq ?_
        refine stp_regl TT_ok (by rfl) fun K hK => ?_
        simp [h17_15, g0_4, g1_4, hd, encS, wrap_ok (n := (i : Int) + 1) (by omega) (by omega)]
        try refine And.intro (by first | omega | rfl) ?_
        refine hK _ _ fun σ22 hσ H22 hH => ?_
        clear hK K
        obtain ⟨h0_22, h3_22, h4_22, h5_22, h16_22, h17_22⟩ := fs6 hσ 0 3 4 5 16 17
        simp [h0_15, h3_15, h4_15, h5_15, h16_15] at h0_22 h3_22 h4_22 h5_22 h16_22 h17_22
        clear hσ
        replace hH : H4 = H22 := Eq.symm hH
        subst hH
        refine ⟨_, ?_, i + 1, rfl, (h0_22.trans h0_9.symm), (h3_22.trans h3_9.symm), (h4_22.trans h4_9.symm), (by simp [h5_22]), (h16_22.trans h16_9.symm), (by simp [h17_22]), rfl, ?_, ?_⟩
        ·subst hn2; omega
        ·first | omega | assumption | (simp; done)
        ·intro j hj
         by_cases e : j = i
         ·subst e; rw [hrd, Bool.eq_false_iff]; intro h; simp [hd] at h; obtain ⟨x, hx1, hx2⟩ := hc33; exact hx2 (h x hx1)
         ·exact q2 j (by omega)
     ·try simp at hc18
      have hie : i = ss.length := by have := hc18; omega
      have h0 : 0 < ss.length := by omega
      have h02 : 0 < bs.length := by omega
      refine awp_exit ?_
      refine q_seq_exit ?_
      refine q_loop_exit ?_
      refine q_block_hit ?_
      refine q_seq ?_
      refine stp_reg TT_ok (by rfl) fun K hK => ?_
      simp [h3_11, h5_11, g0_4, g1_4, encS, h0, h02, hdl]
      try refine And.intro (by first | omega | rfl) ?_
      refine hK _ _ fun σ23 hσ H23 hH => ?_
      clear hK K
      obtain ⟨h0_23, h3_23, h4_23, h5_23⟩ := fs4 hσ 0 3 4 5
      simp [h0_11, h3_11, h4_11, h5_11] at h0_23 h3_23 h4_23 h5_23
      clear hσ
      have g0_23 := gt_of hH 0
      have g1_23 := gt_of hH 1
      simp [g0_4, g1_4, hst_4] at g0_23 g1_23
      have hst_23 := congrArg AHeap.st hH
      simp [hst_4] at hst_23
      have ka : ∀ j, j ≠ 0 → H23.get j = H4.get j := fun j h1 => by rw [hH]; simp [h1]
      clear hH
      rcases p2 with ⟨hvn, hnil⟩ | ⟨id, gn, rest, hvn, hb2, hid⟩
      ·skip
       subst hvn
       have hl0 : l = [] := List.map_eq_nil_iff.1 hnil
       refine awp_ok fun hok => ?_
       obtain ⟨m24, hn_m24⟩ : ∃ m, H23.n = m := ⟨_, rfl⟩
       have hf_m24_0 := hok.free 0
       simp [hn_m24, hst_23] at hf_m24_0
       have nx13 := ne_get hf_m24_0 g0_23
       have nx14 := ne_get hf_m24_0 g1_23
       have hf_m24_1 := hok.free 1
       simp [hn_m24, hst_23] at hf_m24_1
       have nx15 := ne_get hf_m24_1 g0_23
       have nx16 := ne_get hf_m24_1 g1_23
       have nx17 : ¬ m24 = 0 ∧ ¬ 0 = m24 := by omega
       refine stp_regl TT_ok (by rfl) fun K hK => ?_
       simp [h4_23, h5_23, g0_23, g1_23, hn_m24, hst_23, nx13, nx14, nx15, nx16, nx17, encS]
       try refine And.intro (by first | omega | rfl) ?_
       refine hK _ _ fun σ25 hσ H25 hH => ?_
       clear hK K
       obtain ⟨h0_25, h3_25, h4_25⟩ := fs3 hσ 0 3 4
       simp [h0_23, h3_23] at h0_25 h3_25 h4_25
       clear hσ
       have g0_25 := gt_of hH 0
       have g1_25 := gt_of hH 1
       have gm24_25 := gt_of hH m24
       have g_m24_1__25 := gt_of hH (m24 + 1)
       simp [g0_23, g1_23, hn_m24, hst_23, nx13, nx14, nx15, nx16, nx17] at g0_25 g1_25 gm24_25 g_m24_1__25
       have hst_25 := congrArg AHeap.st hH
       simp [hst_23] at hst_25
       clear hH
       refine q_block ?_
       have hpk : pickN ss l = 0 := pickN_none (by subst hie; exact q2)
       refine ⟨_, ?_, k + 1, .sl (m24 + 1) 0 0 1, bs.set 0 true, rfl, (h0_25.trans h0_3.symm), (h3_25.trans h3_3.symm), (by simp [h4_25]), (by simp [g0_25]), (g1_25.trans g1_2.symm), (hst_25.trans hst_2.symm), ?_, ?_, ?_⟩
       ·subst hn1; omega
       ·first | omega | assumption | (simp; done)
       ·rw [listedL, hl, hpk, hl0]
        exact OwnR.mk (rest := []) g_m24_1__25 (by simp) (by simp) (by omega)
       ·rw [listedL, hl, hpk, ← hbs, doneL_set]
      ·skip
       rw [List.length_map] at hvn
       subst hvn
       have hb3 := (ka id (by omega)).trans hb2
       have nx18 : ¬ id = 0 ∧ ¬ 0 = id := by omega
       have nx19 : ¬ id = 1 ∧ ¬ 1 = id := by omega
       refine awp_ok fun hok => ?_
       obtain ⟨m26, hn_m26⟩ : ∃ m, H23.n = m := ⟨_, rfl⟩
       have hf_m26_0 := hok.free 0
       simp [hn_m26, hst_23] at hf_m26_0
       have nx20 := ne_get hf_m26_0 g0_23
       have nx21 := ne_get hf_m26_0 g1_23
       have nx22 := ne_get hf_m26_0 hb3
       refine stp_regl TT_ok (by rfl) fun K hK => ?_
       simp [h4_23, h5_23, g0_23, g1_23, hb3, hn_m26, hst_23, nx18, nx19, nx20, nx21, nx22, encS, show l.length ≤ 9223372036854775806 by omega, show (l.length + 1) * 8 ≤ 140737488355328 by omega, take_map_len]
       try refine And.intro (by first | omega | rfl) ?_
       refine hK _ _ fun σ27 hσ H27 hH => ?_
       clear hK K
       obtain ⟨h0_27, h3_27, h4_27⟩ := fs3 hσ 0 3 4
       simp [h0_23, h3_23] at h0_27 h3_27 h4_27
       clear hσ
       have g0_27 := gt_of hH 0
       have g1_27 := gt_of hH 1
       have gid_27 := gt_of hH id
       have gm26_27 := gt_of hH m26
       simp [g0_23, g1_23, hb3, hn_m26, hst_23, nx18, nx19, nx20, nx21, nx22] at g0_27 g1_27 gid_27 gm26_27
       have hst_27 := congrArg AHeap.st hH
       simp [hst_23] at hst_27
       clear hH
       refine q_block ?_
       have hpk : pickN ss l = 0 := pickN_none (by subst hie; exact q2)
       refine ⟨_, ?_, k + 1, .sl id (gn + 1) 0 (l.length + 1), bs.set 0 true, rfl, (h0_27.trans h0_3.symm), (h3_27.trans h3_3.symm), (by simp [h4_27]), (by simp [g0_27]), (g1_27.trans g1_2.symm), (hst_27.trans hst_2.symm), ?_, ?_, ?_⟩
       ·subst hn1; omega
       ·first | omega | assumption | (simp; done)
       ·rw [listedL, hl, hpk]
        exact OwnR.mk (rest := []) gid_27 (by simp) (by simp) (by omega)
       ·rw [listedL, hl, hpk, ← hbs, doneL_set]
   ·try simp at hc14
    refine awp_exit ?_
    refine q_seq_exit ?_
    refine q_loop_exit ?_
    refine q_block_hit ?_
    refine q_seq ?_
    refine stp_reg TT_ok (by rfl) fun K hK => ?_
    simp [h4_5, g0_4, g1_4, encS]
    try refine And.intro (by first | omega | rfl) ?_
    refine hK _ _ fun σ28 hσ H28 hH => ?_
    clear hK K
    have h2_28 := congrFun hσ 2
    simp [] at h2_28
    clear hσ
    replace hH : H4 = H28 := Eq.symm hH
    subst hH
    refine awp_ret ?_
    have hke : k = ss.length := by have := hc14; omega
    rw [← hl, hke] at p2
    refine q_fin1 h2_28 ?_
    exact p2
theorem listed_ok (ss : List (List Int)) (hb : ss.length ≤ 100000) (hs : ∀ l ∈ ss, l.length ≤ 100000 ∧ ∀ x ∈ l, inR ss.length x) : Fun1 Try.prog 54 [encS ss] (.ro ((listedL ss ss.length).map (AV.int IntKind.i64))) :=
 fun1_frz ((listed0 ss hb hs).mono fun r H h => h.frz (fun _ => pu_of_ints) (fun _ => one_ints)) (pu_cons (pu_encS ss) pu_nil) (pu_ints _)
end Go.Proofs.Yteifhcohmipdcaa

namespace Go.Proofs.Yteifhcohmipdcaa
open Go.Abs
set_option linter.unusedSimpArgs false
set_option linter.unusedVariables false
theorem targets_step (es : List (Int × Int)) (i : Nat) : (es.filter fun e => decide (e.1 < (i : Int))).length + (targets es i).length ≤ (es.filter fun e => decide (e.1 < ((i + 1 : Nat) : Int))).length := by
 induction es with
 | nil => simp [targets]
 | cons e es ih =>
  simp only [targets, List.length_map] at ih ⊢
  simp only [List.filter_cons]
  by_cases h1 : e.1 < (i : Int)
  ·have h2 : e.1 < ((i + 1 : Nat) : Int) := by omega
   have h3 : ¬ e.1 = (i : Int) := by omega
   simp only [h1, h2, h3, decide_true, decide_false, if_true, List.length_cons]
   simp only [Bool.false_eq_true, if_false]
   omega
  ·by_cases h3 : e.1 = (i : Int)
   ·have h2 : e.1 < ((i + 1 : Nat) : Int) := by omega
    simp only [h1, h2, decide_true, decide_false, if_true, List.length_cons]
    simp only [h3, decide_true, if_true, List.length_cons, Bool.false_eq_true, if_false]
    omega
   ·have h2 : ¬ e.1 < ((i + 1 : Nat) : Int) := by omega
    simp only [h1, h2, h3, decide_false, Bool.false_eq_true, if_false]
    omega
theorem succ_len_t {g : Gr} (hv : g.valid = true) (u : Nat) : (g.succ u).length ≤ (targets g.edges u).length := by
 rw [← succ_eq hv]; exact Nat.le_trans (compact_len _) (Nat.le_of_eq (sortI_len _))
theorem ceR_len2 {g : Gr} (hv : g.valid = true) (i r : Nat) : (g.ceR i r).length ≤ (g.edges.filter fun e => decide (e.1 < (i : Int))).length := by
 induction i with
 | zero => simp [Gr.ceR]
 | succ i ih =>
  rw [ceR_succ, List.length_append]
  have h1 := ceP_len g i (g.succ i)
  have h2 := succ_len_t hv i
  have h3 := targets_step g.edges i
  split
  ·omega
  ·simp only [List.length_nil]; omega
theorem cedges_len (g : Gr) : g.cedges.length = (g.reps g.nodes.length).length := by simp [Gr.cedges, Gr.ceU]
theorem comps_len (g : Gr) : g.comps.length = (g.reps g.nodes.length).length := by simp [Gr.comps, Gr.ndL]
theorem ceR_mem {g : Gr} {i r : Nat} {x : Int} : x ∈ g.ceR i r ↔ ∃ u : Nat, u < i ∧ g.grp u = r ∧ ∃ k : Int, k ∈ g.succ u ∧ ¬ g.grp k.toNat = g.grp u ∧ x = g.rank (g.grp k.toNat) := by
 simp only [Gr.ceR, Gr.ceP, List.mem_flatMap, List.mem_filter, List.mem_range, List.mem_map, decide_eq_true_eq]
 constructor
 ·rintro ⟨u, ⟨h1, h2⟩, k, ⟨h3, h4⟩, h5⟩; exact ⟨u, h1, h2, k, h3, h4, h5.symm⟩
 ·rintro ⟨u, h1, h2, k, h3, h4, h5⟩; exact ⟨u, ⟨h1, h2⟩, k, ⟨h3, h4⟩, h5.symm⟩
theorem succ_in {g : Gr} (hv : g.valid = true) {u : Nat} {k : Int} (h : k ∈ g.succ u) : inR g.nodes.length k := (valid_edge hv ((succ_mem hv).1 h)).2
theorem cedges_ok {g : Gr} (hv : g.valid = true) : ∀ l ∈ g.cedges, l.length ≤ 100000 ∧ ∀ x ∈ l, inR g.cedges.length x := by
 intro l hl
 obtain ⟨r, hr, rfl⟩ := List.mem_map.1 hl
 refine ⟨?_, fun x hx => ?_⟩
 ·have h1 := ceR_len2 hv g.nodes.length r
  have h2 := List.length_filter_le (fun e : Int × Int => decide (e.1 < (g.nodes.length : Int))) g.edges
  have h3 := (valid_nodes hv).2
  omega
 ·obtain ⟨u, h1, h2, k, h3, h4, rfl⟩ := ceR_mem.1 hx
  have hk := in_toNat (succ_in hv h3)
  have := rank_lt (grp_spec hv hk).2.1 (grp_grp hv hk)
  rw [cedges_len]
  exact ⟨by omega, by omega⟩
theorem listed_in {ss : List (List Int)} : ∀ {k : Nat}, k ≤ ss.length → ∀ x ∈ listedL ss k, inR ss.length x
 | 0, _, x, hx => by simp [listedL] at hx
 | k + 1, h, x, hx => by
  rw [listedL, List.mem_append] at hx
  rcases hx with hx | hx
  ·exact listed_in (by omega) x hx
  ·simp at hx; subst hx
   have := pickN_lt (ss := ss) (l := listedL ss k) (by omega)
   exact ⟨by omega, by omega⟩
def Gr.order (g : Gr) : List Int := listedL g.cedges g.cedges.length
def Gr.gcomps (g : Gr) : List (List Int) := if g.valid = true then g.order.map (fun k => g.comps.getD k.toNat []) else []
theorem order_len (g : Gr) : g.order.length = g.cedges.length := listed_len _ _
theorem order_in (g : Gr) : ∀ x ∈ g.order, inR g.comps.length x := by
 intro x hx
 have := listed_in (Nat.le_refl _) x hx
 rwa [comps_len, ← cedges_len]
theorem comps_few {g : Gr} (hv : g.valid = true) : g.comps.length ≤ 1024 := by
 rw [comps_len]
 exact Nat.le_trans (reps_len _ _) (valid_nodes hv).1
def roS (ls : List (List Int)) : List AV := ls.map fun l => .ro (l.map (AV.int IntKind.i64))
theorem frz_roS {e lo : Nat} {v : AV} {ls : List (List Int)} {H : AHeap} (h : OwnR e 1 lo (roS ls) v H) : Frz H v (encS ls) :=
 h.frz (fun x hx => by obtain ⟨l, _, rfl⟩ := List.mem_map.1 hx; exact pu_ints _) (fun x hx u hu => by obtain ⟨l, _, rfl⟩ := List.mem_map.1 hx; simp only [AV.cells, List.mem_singleton] at hu; subst hu; rfl)
theorem roS_take_succ {ls : List (List Int)} {i : Nat} (h : i < ls.length) : roS (ls.take (i + 1)) = roS (ls.take i) ++ [.ro (ls[i].map (AV.int IntKind.i64))] := by
 rw [List.take_succ_eq_append_getElem h, roS, roS, List.map_append]; rfl
end Go.Proofs.Yteifhcohmipdcaa

namespace Go.Proofs.Yteifhcohmipdcaa
open Go.Abs
set_option linter.unusedSimpArgs false
set_option linter.unusedVariables false
set_option maxHeartbeats 1000000 in
theorem comps0 (g : Gr) : ACalls Try.prog 28 [encG g] AHeap.nil (fun r H => Frz H r (encS g.gcomps)) := by
 refine acalls_body TT_ok Try.func28 rfl rfl (by simp [Try.ntmps28]) ?_
 rw [Try.ntmps28]
 obtain ⟨σ, hσ⟩ : ∃ σ, σ = st0 [encG g] := ⟨_, rfl⟩
 rw [← hσ]
 have h0_0 := congrFun hσ 0
 simp [st0] at h0_0
 clear hσ
 obtain ⟨H, hH⟩ : ∃ H, H = AHeap.nil := ⟨_, rfl⟩
 rw [← hH]
 have hn_0 : H.n = 0 := by rw [hH]; rfl
 have hst_0 : H.st = 1 := by rw [hH]; rfl
 clear hH
 refine stp_reg TT_ok (by rfl) fun K hK => ?_
 simp [h0_0, hn_0, hst_0, encG]
 try refine And.intro (by first | omega | rfl) ?_
 refine hK _ _ fun σ1 hσ H1 hH => ?_
 clear hK K
 have h1_1 := congrFun hσ 1
 simp [] at h1_1
 clear hσ
 have g0_1 := gt_of hH 0
 simp [hn_0, hst_0] at g0_1
 have hn_1 := congrArg AHeap.n hH
 simp [hn_0, hst_0] at hn_1
 have hst_1 := congrArg AHeap.st hH
 simp [hn_0, hst_0] at hst_1
 clear hH
 refine awp_seq ?_
 refine stp_reg TT_ok (by rfl) fun K hK => ?_
 simp [h1_1, g0_1, encG]
 try refine And.intro (by first | omega | rfl) ?_
 refine stp_call (valid_ok g) ?_
 simp [h1_1, g0_1, encG]
 try refine And.intro (by first | omega | rfl) ?_
 refine hK _ _ fun σ2 hσ H2 hH => ?_
 clear hK K
 obtain ⟨h1_2, h10_2⟩ := fs2 hσ 1 10
 simp [h1_1] at h1_2 h10_2
 clear hσ
 replace hH : H1 = H2 := Eq.symm hH
 subst hH
 refine awp_cond _ (by simp only [aeval_tmp]; exact h10_2) (fun hc10 => ?_) (fun hc10 => ?_)
 ·try simp at hc10
  refine stp_reg TT_ok (by rfl) fun K hK => ?_
  simp [g0_1, encG]
  try refine And.intro (by first | omega | rfl) ?_
  refine hK _ _ fun σ3 hσ H3 hH => ?_
  clear hK K
  have h2_3 := congrFun hσ 2
  simp [] at h2_3
  clear hσ
  replace hH : H1 = H3 := Eq.symm hH
  subst hH
  refine awp_ret ?_
  refine q_seq_ret ?_
  refine q_fin1 h2_3 ?_
  rw [show g.gcomps = [] by simp [Gr.gcomps, hc10]]; exact .nils
 ·try simp at hc10
  have hv : g.valid = true := by simpa using hc10
  obtain ⟨hb1, hb2⟩ := valid_nodes hv
  have hcf := comps_few hv
  have hcc : g.cedges.length = g.comps.length := by rw [cedges_len, comps_len]
  have hol := order_len g
  refine awp_skip ?_
  refine q_seq ?_
  refine stp_reg TT_ok (by rfl) fun K hK => ?_
  simp [h1_2, g0_1, encG]
  try refine And.intro (by first | omega | rfl) ?_
  refine stp_call (condensed_ok g hv) ?_
  simp [h1_2, g0_1, encG]
  try refine And.intro (by first | omega | rfl) ?_
  refine hK _ _ fun σ4 hσ H4 hH => ?_
  clear hK K
  obtain ⟨h3_4, h4_4⟩ := fs2 hσ 3 4
  simp [] at h3_4 h4_4
  clear hσ
  replace hH : H1 = H4 := Eq.symm hH
  subst hH
  refine stp_reg TT_ok (by rfl) fun K hK => ?_
  simp [g0_1, encG]
  try refine And.intro (by first | omega | rfl) ?_
  refine hK _ _ fun σ5 hσ H5 hH => ?_
  clear hK K
  obtain ⟨h3_5, h4_5, h5_5⟩ := fs3 hσ 3 4 5
  simp [h3_4, h4_4] at h3_5 h4_5 h5_5
  clear hσ
  replace hH : H1 = H5 := Eq.symm hH
  subst hH
  refine awp_seq ?_
  refine stp_reg TT_ok (by rfl) fun K hK => ?_
  simp [h4_5, g0_1, encG, show listedL g.cedges g.cedges.length = g.order from rfl]
  try refine And.intro (by first | omega | rfl) ?_
  refine stp_call (listed_ok g.cedges (by omega) (cedges_ok hv)) ?_
  simp [h4_5, g0_1, encG, show listedL g.cedges g.cedges.length = g.order from rfl]
  try refine And.intro (by first | omega | rfl) ?_
  refine hK _ _ fun σ6 hσ H6 hH => ?_
  clear hK K
  obtain ⟨h3_6, h5_6, h17_6, h18_6, h19_6⟩ := fs5 hσ 3 5 17 18 19
  simp [h3_5, h5_5] at h3_6 h5_6 h17_6 h18_6 h19_6
  clear hσ
  replace hH : H1 = H6 := Eq.symm hH
  subst hH
  refine awp_block ?_
  refine awp_loopV (fun n σ' H' => ∃ (i : Nat) (v : AV), n = g.order.length - i ∧ σ' 3 = σ6 3 ∧ σ' 5 = v ∧ σ' 17 = σ6 17 ∧ σ' 18 = σ6 18 ∧ σ' 19 = (AV.int IntKind.i64) i ∧ H'.st = H1.st ∧ (i ≤ g.order.length) ∧ (OwnR 26 1 1 (roS (g.gcomps.take i)) v H')) ?_ ?_
  ·refine ⟨_, 0, .nils, rfl, rfl, (by simp [h5_6]), rfl, rfl, (by simp [h19_6]), rfl, ?_, ?_⟩
   ·first | omega | (simp; done) | assumption
   ·exact .inl ⟨rfl, rfl⟩
  ·rintro n1 σ7 H7 ⟨i, v, hn1, q3_7, h5_7, q17_7, q18_7, h19_7, qst_7, p1, p2⟩
   have h3_7 := q3_7.trans h3_6
   have h17_7 := q17_7.trans h17_6
   have h18_7 := q18_7.trans h18_6
   have hst_7 := qst_7.trans hst_1
   have hgl : g.gcomps.length = g.order.length := by simp [Gr.gcomps, hv]
   refine stp_reg TT_ok (by rfl) fun K hK => ?_
   simp [h18_7, h19_7, encG]
   try refine And.intro (by first | omega | rfl) ?_
   refine hK _ _ fun σ8 hσ H8 hH => ?_
   clear hK K
   obtain ⟨h3_8, h5_8, h17_8, h18_8, h19_8, h20_8⟩ := fs6 hσ 3 5 17 18 19 20
   simp [h3_7, h5_7, h17_7, h18_7, h19_7] at h3_8 h5_8 h17_8 h18_8 h19_8 h20_8
   clear hσ
   replace hH : H7 = H8 := Eq.symm hH
   subst hH
   refine awp_seq ?_
   refine awp_cond _ (by simp only [aeval_tmp]; exact h20_8) (fun hc20 => ?_) (fun hc20 => ?_)
   ·try simp at hc20
    have hlt : i < g.order.length := by simpa using hc20
    obtain ⟨k, hk⟩ : ∃ k, g.order[i] = k := ⟨_, rfl⟩
    obtain ⟨k1, k2⟩ := order_in g k (by rw [← hk]; exact List.getElem_mem hlt)
    have k3 : k.toNat < g.comps.length := by omega
    obtain ⟨lk, hlk⟩ : ∃ lk, g.comps[k.toNat] = lk := ⟨_, rfl⟩
    have hgi : g.gcomps[i] = lk := by simp [Gr.gcomps, hv, hk, k3, hlk]
    have hts := roS_take_succ (ls := g.gcomps) (i := i) (by omega)
    rw [hgi] at hts
    have htl : (roS (g.gcomps.take i)).length = i := by simp [roS]; omega
    refine awp_skip ?_
    refine q_seq ?_
    refine awp_seq ?_
    refine awp_block ?_
    refine stp_reg TT_ok (by rfl) fun K hK => ?_
    simp [h17_8, h19_8, encG, hlt, hk]
    try refine And.intro (by first | omega | rfl) ?_
    refine hK _ _ fun σ9 hσ H9 hH => ?_
    clear hK K
    obtain ⟨h3_9, h5_9, h7_9, h17_9, h18_9, h19_9⟩ := fs6 hσ 3 5 7 17 18 19
    simp [h3_8, h5_8, h17_8, h18_8, h19_8] at h3_9 h5_9 h7_9 h17_9 h18_9 h19_9
    clear hσ
    replace hH : H7 = H9 := Eq.symm hH
    subst hH
    rcases p2 with ⟨rfl, hnil⟩ | ⟨id, gn, rest, rfl, hb, hid⟩
    ·skip
     refine awp_ok fun hok => ?_
     obtain ⟨m10, hn_m10⟩ : ∃ m, H7.n = m := ⟨_, rfl⟩
     have hf_m10_0 := hok.free 0
     simp [hn_m10, hst_7] at hf_m10_0
     have hf_m10_1 := hok.free 1
     simp [hn_m10, hst_7] at hf_m10_1
     refine stp_regl TT_ok (by rfl) fun K hK => ?_
     simp [h3_9, h5_9, h7_9, hn_m10, hst_7, encG, encS, k1, k2, k3, hlk]
     try refine And.intro (by first | omega | rfl) ?_
     refine hK _ _ fun σ11 hσ H11 hH => ?_
     clear hK K
     obtain ⟨h3_11, h5_11, h17_11, h18_11, h19_11⟩ := fs5 hσ 3 5 17 18 19
     simp [h3_9, h17_9, h18_9, h19_9] at h3_11 h5_11 h17_11 h18_11 h19_11
     clear hσ
     have gm10_11 := gt_of hH m10
     have g_m10_1__11 := gt_of hH (m10 + 1)
     simp [hn_m10, hst_7] at gm10_11 g_m10_1__11
     have hst_11 := congrArg AHeap.st hH
     simp [hst_7] at hst_11
     clear hH
     refine q_block ?_
     refine q_seq ?_
     refine stp_regl TT_ok (by rfl) fun K hK => ?_
     simp [h19_11, gm10_11, g_m10_1__11, encG, wrap_ok (n := (i : Int) + 1) (by omega) (by omega)]
     try refine And.intro (by first | omega | rfl) ?_
     refine hK _ _ fun σ12 hσ H12 hH => ?_
     clear hK K
     obtain ⟨h3_12, h5_12, h17_12, h18_12, h19_12⟩ := fs5 hσ 3 5 17 18 19
     simp [h3_11, h5_11, h17_11, h18_11] at h3_12 h5_12 h17_12 h18_12 h19_12
     clear hσ
     replace hH : H11 = H12 := Eq.symm hH
     subst hH
     refine ⟨_, ?_, i + 1, .sl (m10 + 1) 0 0 1, rfl, (h3_12.trans h3_6.symm), (by simp [h5_12]), (h17_12.trans h17_6.symm), (h18_12.trans h18_6.symm), (by simp [h19_12]), (hst_11.trans hst_1.symm), ?_, ?_⟩
     ·subst hn1; omega
     ·first | omega | assumption | (simp; done)
     ·rw [hts, hnil]
      exact OwnR.mk (rest := []) g_m10_1__11 (by simp) (by simp) (by omega)
    ·skip
     refine awp_ok fun hok => ?_
     obtain ⟨m13, hn_m13⟩ : ∃ m, H7.n = m := ⟨_, rfl⟩
     have hf_m13_0 := hok.free 0
     simp [hn_m13, hst_7] at hf_m13_0
     have nx1 := ne_get hf_m13_0 hb
     refine stp_regl TT_ok (by rfl) fun K hK => ?_
     simp [h3_9, h5_9, h7_9, hb, hn_m13, hst_7, nx1, encG, encS, k1, k2, k3, hlk, htl, show i ≤ 9223372036854775806 by omega, show (i + 1) * 24 ≤ 140737488355328 by omega]
     try refine And.intro (by first | omega | rfl) ?_
     refine hK _ _ fun σ14 hσ H14 hH => ?_
     clear hK K
     obtain ⟨h3_14, h5_14, h17_14, h18_14, h19_14⟩ := fs5 hσ 3 5 17 18 19
     simp [h3_9, h17_9, h18_9, h19_9] at h3_14 h5_14 h17_14 h18_14 h19_14
     clear hσ
     have gid_14 := gt_of hH id
     have gm13_14 := gt_of hH m13
     simp [hb, hn_m13, hst_7, nx1] at gid_14 gm13_14
     have hst_14 := congrArg AHeap.st hH
     simp [hst_7] at hst_14
     clear hH
     refine q_block ?_
     refine q_seq ?_
     refine stp_regl TT_ok (by rfl) fun K hK => ?_
     simp [h19_14, gid_14, gm13_14, nx1, encG, wrap_ok (n := (i : Int) + 1) (by omega) (by omega)]
     try refine And.intro (by first | omega | rfl) ?_
     refine hK _ _ fun σ15 hσ H15 hH => ?_
     clear hK K
     obtain ⟨h3_15, h5_15, h17_15, h18_15, h19_15⟩ := fs5 hσ 3 5 17 18 19
     simp [h3_14, h5_14, h17_14, h18_14] at h3_15 h5_15 h17_15 h18_15 h19_15
     clear hσ
     replace hH : H14 = H15 := Eq.symm hH
     subst hH
     refine ⟨_, ?_, i + 1, .sl id (gn + 1) 0 (i + 1), rfl, (h3_15.trans h3_6.symm), (by simp [h5_15]), (h17_15.trans h17_6.symm), (h18_15.trans h18_6.symm), (by simp [h19_15]), (hst_14.trans hst_1.symm), ?_, ?_⟩
     ·subst hn1; omega
     ·first | omega | assumption | (simp; done)
     ·rw [hts]
      exact OwnR.mk (rest := []) gid_14 (by simp [htl]) (by simp [htl]) (by omega)
   ·try simp at hc20
    refine awp_exit ?_
    refine q_seq_exit ?_
    refine q_loop_exit ?_
    refine q_block_hit ?_
    refine q_seq ?_
    refine stp_reg TT_ok (by rfl) fun K hK => ?_
    simp [h5_8, encG]
    try refine And.intro (by first | omega | rfl) ?_
    refine hK _ _ fun σ16 hσ H16 hH => ?_
    clear hK K
    have h2_16 := congrFun hσ 2
    simp [] at h2_16
    clear hσ
    replace hH : H7 = H16 := Eq.symm hH
    subst hH
    refine awp_ret ?_
    have hie : i = g.order.length := by have := hc20; omega
    rw [hie, ← hgl, List.take_length] at p2
    refine q_fin1 h2_16 ?_
    exact frz_roS p2
theorem comps_ok (g : Gr) : Fun1 Try.prog 28 [encG g] (encS g.gcomps) := fun1_frz (comps0 g) (pu_cons (pu_graph g) pu_nil) (pu_encS _)
end Go.Proofs.Yteifhcohmipdcaa

namespace Go.Proofs.Yteifhcohmipdcaa
open Go.Abs
set_option linter.unusedSimpArgs false
set_option linter.unusedVariables false
def lvIn (lev : List Int) (k : Int) (xs : List Int) : List Int := xs.foldl (fun lev x => lev.set k.toNat (max (gt lev k) (gt lev x + 1))) lev
def padL (out : List (List Int)) (m : Nat) : List (List Int) := out ++ List.replicate m []
def stepOut (cs : List (List Int)) (out : List (List Int)) (d : Nat) (k : Int) : List (List Int) :=
 (padL out (d + 1 - out.length)).set d ((padL out (d + 1 - out.length)).getD d [] ++ cs.getD k.toNat [])
def lvStep (ce cs : List (List Int)) (s : List Int × List (List Int)) (k : Int) : List Int × List (List Int) :=
 (lvIn s.1 k (ce.getD k.toNat []), stepOut cs s.2 (gt (lvIn s.1 k (ce.getD k.toNat [])) k).toNat k)
def lv2 (ce cs : List (List Int)) (l : List Int) : List Int × List (List Int) := l.foldl (lvStep ce cs) (List.replicate ce.length 0, [])
theorem lv2_succ {ce cs : List (List Int)} {l : List Int} {i : Nat} (h : i < l.length) : lv2 ce cs (l.take (i + 1)) = lvStep ce cs (lv2 ce cs (l.take i)) l[i] := by
 rw [List.take_succ_eq_append_getElem h, lv2, lv2, List.foldl_append]; rfl
theorem lvIn_succ {lev : List Int} {k : Int} {xs : List Int} {j : Nat} (h : j < xs.length) : lvIn lev k (xs.take (j + 1)) = (lvIn lev k (xs.take j)).set k.toNat (max (gt (lvIn lev k (xs.take j)) k) (gt (lvIn lev k (xs.take j)) xs[j] + 1)) := by
 rw [List.take_succ_eq_append_getElem h, lvIn, List.foldl_append]; rfl
def LvB (M b : Nat) (lev : List Int) : Prop := lev.length = M ∧ ∀ x, inR M x → 0 ≤ gt lev x ∧ gt lev x ≤ b
theorem LvB.set {M b : Nat} {lev : List Int} (h : LvB M b lev) {k x : Int} (hk : inR M k) (hx : inR M x) : LvB M (b + 1) (lev.set k.toNat (max (gt lev k) (gt lev x + 1))) := by
 refine ⟨by simpa using h.1, fun y hy => ?_⟩
 rw [gt_set (by rw [h.1]; exact hk) (by rw [h.1]; exact hy)]
 have h1 := h.2 k hk
 have h2 := h.2 x hx
 have h3 := h.2 y hy
 split
 ·have := Int.max_def (gt lev k) (gt lev x + 1)
  split at this <;> omega
 ·omega
def Gr.glevels (g : Gr) : List (List Int) := if g.valid = true then (lv2 g.cedges g.comps g.order).2.map sortI else []
theorem ite_max (a b : Int) : (if a < b then b else a) = max a b := by rw [Int.max_def]; split <;> split <;> omega
theorem stepOut_len {cs out : List (List Int)} {d : Nat} {k : Int} : (stepOut cs out d k).length = max out.length (d + 1) := by
 simp only [stepOut, padL, List.length_set, List.length_append, List.length_replicate]; omega
theorem comps_ne {g : Gr} : ∀ l ∈ g.comps, l ≠ [] := by
 intro l hl
 obtain ⟨r, hr, rfl⟩ := List.mem_map.1 hl
 have := reps_mem.1 hr
 have hm : (r : Int) ∈ g.mem g.nodes.length r := by
  simp only [Gr.mem, List.mem_map, List.mem_filter, List.mem_range, decide_eq_true_eq]
  exact ⟨r, this, rfl⟩
 exact List.ne_nil_of_mem hm
theorem comps_l {g : Gr} : ∀ l ∈ g.comps, l.length ≤ g.nodes.length := by
 intro l hl
 obtain ⟨r, hr, rfl⟩ := List.mem_map.1 hl
 exact mem_len _ _ _
theorem sort_row2 {l : List Int} (hl : l.length ≤ 100000000) {H : AHeap} {id e g n : Nat} {rest : List AV} (hb : H.get id = some (.row e 1 g (l.map (AV.int IntKind.i64) ++ rest))) (hn : n = l.length) {K : AV → AHeap → Prop}
  (hK : K (.tup []) (H.put id (.row e 1 g ((sortI l).map (AV.int IntKind.i64) ++ rest)))) : ACalls Try.prog 57 [.sl id g 0 n] H K :=
 ACalls.of_putRow (enc := Value.int .i64) (encA := (AV.int IntKind.i64)) (callable_of Try.func57 rfl rfl) (fun G w x c => vrel_int) (fun x => ⟨rfl, rfl⟩) (sortI_len l) (fun _ _ _ => .tuple #[]) (.tup []) (fun _ _ _ _ _ _ _ _ _ => .tup rfl (fun j v c hj => by simp at hj))
  (fun blk off cap w hH hblk _ => Try.slices_Sort_int blk off cap l w hH hblk (by omega)) hb hn hK
theorem RowsV.keepL {lo : Nat} {v : AV} {vs : List AV} {ls : List (List Int)} {H H' : AHeap} (h : RowsV lo v vs ls H) (hk : ∀ id, lo ≤ id → H.get id ≠ none → H'.get id = H.get id) : RowsV lo v vs ls H' := by
 refine ⟨h.rows.keep hk, ?_⟩
 rcases h.top with h1 | ⟨id, g, h1, hb, h2, h3⟩
 ·exact .inl h1
 ·exact .inr ⟨id, g, h1, by rw [hk id h2 (by rw [hb]; simp)]; exact hb, h2, h3⟩
theorem RowsV.own {lo : Nat} {v : AV} {vs : List AV} {ls : List (List Int)} {H : AHeap} (h : RowsV lo v vs ls H) (hp : 0 < vs.length) : ∃ iv gv : Nat, v = AV.sl iv gv 0 vs.length ∧ H.get iv = some (.row 26 1 gv vs) ∧ lo ≤ iv ∧ ∀ i x g' n : Nat, vs[i]? = some (AV.sl x g' 0 n) → x ≠ iv := by
 rcases h.top with ⟨_, e⟩ | h
 ·rw [e] at hp; exact absurd hp (Nat.not_lt_zero _)
 ·exact h
theorem padL_len (out : List (List Int)) (m : Nat) : (padL out m).length = out.length + m := by simp [padL]
theorem padL_succ (out : List (List Int)) (m : Nat) : padL out (m + 1) = padL out m ++ [[]] := by
 rw [padL, padL, List.append_assoc, ← List.replicate_succ']
theorem padL_mem {out : List (List Int)} {m : Nat} {l : List Int} (h : l ∈ padL out m) : l ∈ out ∨ l = [] := by
 rcases List.mem_append.1 h with h | h
 ·exact .inl h
 ·exact .inr (List.eq_of_mem_replicate h)
def srt (ls : List (List Int)) (i : Nat) : List (List Int) := (ls.take i).map sortI ++ ls.drop i
theorem srt_get {ls : List (List Int)} {i : Nat} (h : i < ls.length) : (srt ls i)[i]? = some ls[i] := by
 rw [srt, List.getElem?_append_right (by simp; omega)]
 simp [h, Nat.min_eq_left (Nat.le_of_lt h)]
theorem srt_succ {ls : List (List Int)} {i : Nat} (h : i < ls.length) : srt ls (i + 1) = (srt ls i).set i (sortI ls[i]) := by
 rw [srt, srt, List.take_succ_eq_append_getElem h, List.map_append, List.set_append_right _ _ (by simp; omega)]
 simp [Nat.min_eq_left (Nat.le_of_lt h)]
 rw [List.drop_eq_getElem_cons h]; rfl
theorem srt_len (ls : List (List Int)) (i : Nat) : (srt ls i).length = ls.length := by simp [srt]; omega
theorem srt_all (ls : List (List Int)) : srt ls ls.length = ls.map sortI := by simp [srt]
end Go.Proofs.Yteifhcohmipdcaa
