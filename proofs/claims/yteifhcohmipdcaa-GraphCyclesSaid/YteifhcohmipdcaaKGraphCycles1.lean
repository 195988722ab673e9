/-
  The law GraphCycles answers true, whatever the input: part 1. Conditions: none.
-/
import Derived.Test.YteifhcohmipdcaaB5
namespace Go.Proofs.Yteifhcohmipdcaa
open Go.Abs
set_option linter.unusedSimpArgs false
set_option linter.unusedVariables false
theorem awake_ok : Fun1 Try.prog 10 [] (.bool true) := fun1_pure awake0 pu_nil (.bool _)
end Go.Proofs.Yteifhcohmipdcaa

namespace Go.Proofs.Yteifhcohmipdcaa
open Go.Abs
set_option linter.unusedSimpArgs false
set_option linter.unusedVariables false
def Gr.lst (g : Gr) (i kk : Nat) : Nat := ((List.range' kk (g.nodes.length - kk)).find? fun k => g.both i k).getD i
def Gr.grpL (g : Gr) (i : Nat) : List Int := (List.range i).map fun v : Nat => (g.grp v : Int)
end Go.Proofs.Yteifhcohmipdcaa

namespace Go.Proofs.Yteifhcohmipdcaa
open Go.Abs
set_option linter.unusedSimpArgs false
set_option linter.unusedVariables false
def Progress (ss : List (List Int)) : Prop := ∀ l : List Int, (∃ k : Nat, k < ss.length ∧ (k : Int) ∉ l) → ∃ k : Nat, k < ss.length ∧ readyAt ss l k = true
structure ListedOk (ss : List (List Int)) (j : Nat) : Prop where
 nodup : (listedL ss j).Nodup
 inn : ∀ x ∈ listedL ss j, inR ss.length x
 ready : ∀ i, i < j → readyAt ss (listedL ss i) (pickN ss (listedL ss i)) = true
def Gr.reachN (g : Gr) (r : Nat) : Nat := ((List.range g.nodes.length).filter fun v => (g.marks [(r : Int)]).getD v false).length
end Go.Proofs.Yteifhcohmipdcaa

namespace Go.Proofs.Yteifhcohmipdcaa
open Go.Abs
set_option linter.unusedSimpArgs false
set_option linter.unusedVariables false
def lsL (g : Gr) (l : List Int) : List Bool := (List.range g.nodes.length).map fun i : Nat => decide (g.grp i = i ∧ (g.rank i : Int) ∈ l)
def edgeOk (g : Gr) (bs : List Bool) (i : Nat) (e : Int × Int) : Bool := !decide (g.grp e.1.toNat = i) || decide (g.grp e.2.toNat = i) || bs.getD (g.grp e.2.toNat) false
def rdyB (g : Gr) (bs : List Bool) (i : Nat) : Bool := (decide (g.grp i = i) && !bs.getD i false) && g.edges.all (edgeOk g bs i)
def nxR (g : Gr) (bs : List Bool) (kk : Nat) : Int := match (List.range' kk (g.nodes.length - kk)).find? (rdyB g bs) with | some i => (i : Int) | none => -1
def cmpsL (g : Gr) (j : Nat) : List (List Int) := (listedL g.cedges j).map fun k => g.comps.getD k.toNat []
end Go.Proofs.Yteifhcohmipdcaa

namespace Go.Proofs.Yteifhcohmipdcaa
open Go.Abs
set_option linter.unusedSimpArgs false
set_option linter.unusedVariables false
end Go.Proofs.Yteifhcohmipdcaa

namespace Go.Proofs.Yteifhcohmipdcaa
open Go.Abs
set_option linter.unusedSimpArgs false
set_option linter.unusedVariables false
theorem far_ge {g : Gr} {i to : Int} (hi : i ≤ to) {k : Nat} {v : Int} (h : g.Far (fun x => i ≤ x) to k v) : i ≤ v := by
 have hw := h.1
 cases hw with
 | nil => exact hi
 | cons _ ha _ => exact ha
theorem nextFrom_congr {g h : Gr} {d : List Int} {a : Int} : ∀ {m j : Nat}, (∀ x, j ≤ x → x < j + m → g.onward d a x = h.onward d a x) → g.nextFrom d a m j = h.nextFrom d a m j
 | 0, j, _ => rfl
 | m + 1, j, hx => by
  simp only [Gr.nextFrom]
  rw [hx j (Nat.le_refl _) (by omega), nextFrom_congr (m := m) (j := j + 1) fun x h1 h2 => hx x (by omega) (by omega)]
theorem way_sub {g : Gr} (hv : g.valid = true) {i : Int} {to : Int} (hi : i ≤ to) {d : List Int} (hd : IsDist g (fun x => i ≤ x) to d) : ∀ {n : Nat} {a : Int}, inR g.nodes.length a → g.Far (fun x => i ≤ x) to n a → (g.sub i).way d n a = g.way d n a
 | 0, a, _, _ => rfl
 | n + 1, a, ha, hf => by
  have hnx : (g.sub i).next d a = g.next d a := by
   refine nextFrom_congr fun x _ hx => ?_
   have hx2 : x < g.nodes.length := by have : x < 0 + (g.sub i).nodes.length := hx; simpa [Gr.sub] using this
   have h2 := hd.all a.toNat (n + 1) (in_toNat ha) (by rw [toNat_cast ha]; exact hf)
   simp only [Gr.onward]
   cases hdd : decide (d.getD x 0 = d.getD a.toNat 0 - 1) with
   | false => rfl
   | true =>
    simp only [decide_eq_true_eq, List.getD_eq_getElem?_getD, h2, Option.getD_some] at hdd
    have hxl : x < d.length := by rw [hd.len]; exact hx2
    rw [List.getElem?_eq_getElem hxl] at hdd
    simp only [Option.getD_some] at hdd
    simp only [Bool.true_and]
    rw [Bool.eq_iff_iff, hasEdge_iff, hasEdge_iff, sub_edge]
    refine ⟨fun h => h.1, fun h => ⟨h, far_ge hi hf, ?_⟩⟩
    rcases hd.val x _ (List.getElem?_eq_getElem hxl) with q | ⟨j, q, hj⟩
    ·omega
    ·exact far_ge hi hj
  obtain ⟨x, h1, h2, h3, h4, h5⟩ := next_far' hv hd ha hf
  rw [Gr.way, Gr.way, hnx, h1, way_sub hv hi hd ⟨by omega, by omega⟩ h5]
def tgE (g : Gr) (i m : Nat) : List Int := ((List.range' i m).filter fun k => g.hasEdge i (k : Nat)).map fun k : Nat => (k : Int)
theorem tgE_succ (g : Gr) (i m : Nat) : tgE g i (m + 1) = tgE g i m ++ if g.hasEdge i ((i + m : Nat) : Int) = true then [((i + m : Nat) : Int)] else [] := by
 rw [tgE, tgE, List.range'_1_concat, List.filter_append, List.map_append]
 congr 1
 rw [List.filter_cons, List.filter_nil]
 cases h : g.hasEdge i ((i + m : Nat) : Int) <;> rfl
theorem tgE_lt {g : Gr} {i m : Nat} {x : Int} (h : x ∈ tgE g i m) : (i : Int) ≤ x ∧ x < i + m := by
 obtain ⟨k, hk, rfl⟩ := List.mem_map.1 h
 have := List.mem_range'_1.1 (List.mem_filter.1 hk).1
 omega
theorem geL_tgE {g : Gr} {i : Nat} (h : i ≤ g.nodes.length) : geL i (g.succ i) = tgE g i (g.nodes.length - i) := by
 simp only [geL, Gr.succ, tgE, List.filter_map, List.filter_filter]
 congr 1
 have e : List.range g.nodes.length = List.range' 0 i ++ List.range' i (g.nodes.length - i) := by
  rw [List.range_eq_range']
  have := List.range'_append_1 (s := 0) (m := i) (n := g.nodes.length - i)
  rw [Nat.zero_add, show i + (g.nodes.length - i) = g.nodes.length by omega] at this
  exact this.symm
 rw [e, List.filter_append]
 have h1 : (List.range' 0 i).filter (fun a => (((fun x => decide ((i : Int) ≤ x)) ∘ fun k : Nat => (k : Int)) a) && g.hasEdge i (a : Nat)) = [] := by
  rw [List.filter_eq_nil_iff]
  intro a ha
  have := (List.mem_range'_1.1 ha).2
  have h2 : ¬ (i : Int) ≤ (a : Int) := by omega
  simp [h2]
 have h2 : (List.range' i (g.nodes.length - i)).filter (fun a => (((fun x => decide ((i : Int) ≤ x)) ∘ fun k : Nat => (k : Int)) a) && g.hasEdge i (a : Nat)) = (List.range' i (g.nodes.length - i)).filter fun k => g.hasEdge i (k : Nat) := by
  refine List.filter_congr fun a ha => ?_
  have := (List.mem_range'_1.1 ha).1
  have h2 : (i : Int) ≤ (a : Int) := by omega
  simp [h2]
 rw [h1, h2, List.nil_append]
def rcand (g : Gr) (i k : Nat) : List Int := if (g.sub i).hasEdge i k = true then (if (g.sub i).path k i = [] then [] else (i : Int) :: ((g.sub i).path k i).dropLast) else []
def rc1 (g : Gr) (i : Nat) (best : List Int) (k : Nat) : List Int := if rcand g i k = [] then best else if best = [] ∨ lessL (rcand g i k) best = true then rcand g i k else best
def rcI (g : Gr) (i : Nat) (best : List Int) (m : Nat) : List Int := (List.range' i m).foldl (rc1 g i) best
theorem rcI_succ (g : Gr) (i : Nat) (best : List Int) (m : Nat) : rcI g i best (m + 1) = rc1 g i (rcI g i best m) (i + m) := by
 rw [rcI, List.range'_1_concat, List.foldl_append]; rfl
def Gr.rcyc (g : Gr) (i : Nat) : List Int := (List.range i).foldl (fun best i => rcI g i best (g.nodes.length - i)) []
theorem rcyc_succ (g : Gr) (i : Nat) : g.rcyc (i + 1) = rcI g i (g.rcyc i) (g.nodes.length - i) := by rw [Gr.rcyc, List.range_succ, List.foldl_append]; rfl
theorem gt_at {l : List Int} {k : Nat} (h : k < l.length) : gt l (k : Int) = l[k] := by simp [gt, h]
theorem rcand_eq {g : Gr} (hv : g.valid = true) {i k : Nat} (hi : i < g.nodes.length) (hk : k < g.nodes.length) (hik : i ≤ k) :
  rcand g i k = if g.hasEdge i k = true ∧ 0 ≤ gt ((g.sub i).dist i) k then (i : Int) :: (g.way ((g.sub i).dist i) (gt ((g.sub i).dist i) k).toNat k).dropLast else [] := by
 have hD := dist_sub hv (Int.le_refl (i : Int)) (show inR g.nodes.length (i : Int) from ⟨by omega, by omega⟩)
 have hsv := sub_valid hv (i : Int)
 obtain ⟨far, hfar⟩ : ∃ far, (g.sub i).dist i = far := ⟨_, rfl⟩
 rw [hfar] at hD ⊢
 have he : (g.sub i).hasEdge i k = g.hasEdge i k := by
  rw [Bool.eq_iff_iff, hasEdge_iff, hasEdge_iff, sub_edge]
  exact ⟨fun h => h.1, fun h => ⟨h, Int.le_refl _, by omega⟩⟩
 have hex : (g.sub i).exist [(k : Int), (i : Int)] = true := by
  rw [exist_iff]
  refine ⟨fun x hx => ?_, hsv⟩
  simp only [List.mem_cons, List.not_mem_nil, or_false] at hx
  rcases hx with rfl | rfl
  ·exact ⟨by omega, by simp [Gr.sub]; omega⟩
  ·exact ⟨by omega, by simp [Gr.sub]; omega⟩
 have hkl : k < far.length := by rw [hD.len]; exact hk
 have hg : far.getD k 0 = gt far k := rfl
 have hp : (g.sub i).path k i = if gt far k < 0 then [] else (g.sub i).way far (gt far k).toNat k := by
  simp only [Gr.path, hex, if_true, hfar, Int.toNat_natCast, hg]
 rw [rcand, he, hp]
 by_cases h1 : g.hasEdge i k = true
 ·by_cases h2 : 0 ≤ gt far k
  ·have h3 : ¬ gt far k < 0 := by omega
   obtain ⟨n, hn, hf⟩ : ∃ n : Nat, gt far k = n ∧ g.Far (fun x => (i : Int) ≤ x) i n k := by
    rcases hD.val k _ (List.getElem?_eq_getElem hkl) with q | ⟨n, q, hf⟩
    ·rw [gt_at hkl] at h2; omega
    ·exact ⟨n, by rw [gt_at hkl]; exact q, hf⟩
   have hws := way_sub hv (Int.le_refl (i : Int)) hD (n := n) (a := (k : Int)) ⟨by omega, by omega⟩ hf
   have h4 : g.way far n k ≠ [] := by rw [way_head]; simp
   rw [if_neg h3, hn, Int.toNat_natCast, hws, if_neg h4, if_pos h1, if_pos ⟨h1, by omega⟩]
  ·have h3 : gt far k < 0 := by omega
   have h4 : ¬ (g.hasEdge i k = true ∧ 0 ≤ gt far k) := fun h => h2 h.2
   rw [if_pos h3, if_pos rfl, if_pos h1, if_neg h4]
 ·rw [if_neg h1, if_neg (fun h => h1 h.1)]
theorem cand_len (g : Gr) (far : List Int) (i : Int) (n : Nat) (k : Int) : (i :: (g.way far n k).dropLast).length = n + 1 := by
 rw [List.length_cons, List.length_dropLast, way_len]; rfl
theorem cand_second {g : Gr} {far : List Int} {n : Nat} {k : Int} : ∃ l, (g.way far (n + 1) k).dropLast = k :: l := by
 rw [Gr.way, way_head]
 exact ⟨_, rfl⟩
theorem rcI_pick {g : Gr} (hv : g.valid = true) {i : Nat} (hi : i < g.nodes.length) {best : List Int} (hb : best = [] ∨ ∃ a l, best = a :: l ∧ a < (i : Int)) : ∀ m, m ≤ g.nodes.length - i →
  rcI g i best m = if (pickC ((g.sub i).dist i) (tgE g i m)).1 < 0 ∨ (best ≠ [] ∧ (pickC ((g.sub i).dist i) (tgE g i m)).2 + 1 ≥ best.length) then best
   else (i : Int) :: (g.way ((g.sub i).dist i) (pickC ((g.sub i).dist i) (tgE g i m)).2.toNat (pickC ((g.sub i).dist i) (tgE g i m)).1).dropLast
 | 0, _ => by
  rw [if_pos (.inl (by show (-1 : Int) < 0; omega))]; rfl
 | m + 1, hm => by
  have ih := rcI_pick hv hi hb m (by omega)
  have hD := dist_sub hv (Int.le_refl (i : Int)) (show inR g.nodes.length (i : Int) from ⟨by omega, by omega⟩)
  have hc := rcand_eq hv hi (k := i + m) (by omega) (by omega)
  have hpo := pickC_ok ((g.sub i).dist i) (tgE g i m)
  have hlt : ∀ x ∈ tgE g i m, (i : Int) ≤ x ∧ x < i + m := fun x hx => tgE_lt hx
  rw [rcI_succ, tgE_succ, ih]
  obtain ⟨far, hfar⟩ : ∃ far, (g.sub i).dist i = far := ⟨_, rfl⟩
  rw [hfar] at hD hc hpo ⊢
  obtain ⟨ks, hks⟩ : ∃ ks, tgE g i m = ks := ⟨_, rfl⟩
  rw [hks] at hpo hlt ⊢
  obtain ⟨nx, ln, hs⟩ : ∃ nx ln, pickC far ks = (nx, ln) := ⟨_, _, rfl⟩
  rw [hs] at hpo ⊢
  obtain ⟨x, hx⟩ : ∃ x : Int, ((i + m : Nat) : Int) = x := ⟨_, rfl⟩
  have hxl : (i + m) < far.length := by rw [hD.len]; omega
  have hx0 : 0 ≤ x := by omega
  by_cases h1 : g.hasEdge i x = true
  ·rw [hx, if_pos h1, pickC_snoc, hs]
   by_cases h2 : 0 ≤ gt far x
   ·obtain ⟨n, hn⟩ : ∃ n : Nat, gt far x = n := ⟨(gt far x).toNat, by omega⟩
    obtain ⟨C, hC⟩ : ∃ C, (i : Int) :: (g.way far n x).dropLast = C := ⟨_, rfl⟩
    have hcx : rcand g i (i + m) = C := by rw [hc, hx, if_pos ⟨h1, h2⟩, hn, Int.toNat_natCast, hC]
    have hCl : C.length = n + 1 := by rw [← hC]; exact cand_len ..
    have hC0 : C ≠ [] := by rw [← hC]; simp
    have hold : best ≠ [] → lessL C best = decide (n + 1 < best.length) := by
     intro hbn
     obtain ⟨a, l, hal, hai⟩ := hb.resolve_left hbn
     rw [lessL, hCl]
     split
     ·rename_i he
      rw [decide_eq_false (p := n + 1 < best.length) (by omega), ← hC, hal, lexL, if_neg (by omega), decide_eq_false (by omega)]
     ·rfl
    rw [rc1, hcx, if_neg hC0]
    simp only
    have hpT : nx < 0 ∨ (n : Int) < ln → pstep far (nx, ln) x = (x, (n : Int)) := fun hp => by rw [pstep, hn, if_pos ⟨by omega, hp⟩]
    have hpF : ¬ (nx < 0 ∨ (n : Int) < ln) → pstep far (nx, ln) x = (nx, ln) := fun hp => by rw [pstep, hn, if_neg (fun h => hp h.2)]
    by_cases hA : nx < 0 ∨ (best ≠ [] ∧ ln + 1 ≥ best.length)
    ·rw [if_pos hA]
     by_cases hp : nx < 0 ∨ (n : Int) < ln
     ·rw [hpT hp]
      simp only [Int.toNat_natCast]
      by_cases hbn : best = []
      ·rw [if_pos (.inl hbn), if_neg (by rintro (h | h); omega; exact h.1 hbn), hC]
      ·rw [hold hbn]
       by_cases hl : n + 1 < best.length
       ·rw [if_pos (.inr (by simpa using hl)), if_neg (by rintro (h | h); omega; omega), hC]
       ·rw [if_neg (by rintro (h | h); exact hbn h; simp at h; omega), if_pos (.inr ⟨hbn, by omega⟩)]
     ·rw [hpF hp]
      simp only
      rw [if_pos hA]
      obtain ⟨hbn, hln⟩ := hA.resolve_left (fun h => hp (.inl h))
      rw [hold hbn, if_neg (by rintro (h | h); exact hbn h; simp at h; omega)]
    ·rw [if_neg hA]
     have hnx : ¬ nx < 0 := fun h => hA (.inl h)
     have hpo2 : nx ∈ ks ∧ ln = gt far nx ∧ 0 ≤ ln := by
      rcases hpo with h | h
      ·exfalso; have := congrArg Prod.fst h; simp at this; omega
      ·exact h
     obtain ⟨q1, q2, q3⟩ := hpo2
     obtain ⟨z1, z2⟩ := hlt nx q1
     obtain ⟨k, hk⟩ : ∃ k : Nat, ln = k := ⟨ln.toNat, by omega⟩
     subst hk
     simp only [Int.toNat_natCast]
     obtain ⟨D, hDd⟩ : ∃ D, (i : Int) :: (g.way far k nx).dropLast = D := ⟨_, rfl⟩
     have hDl : D.length = k + 1 := by rw [← hDd]; exact cand_len ..
     have hD0 : D ≠ [] := by rw [← hDd]; simp
     rw [hDd]
     have hless : lessL C D = decide (n < k) := by
      rw [lessL, hCl, hDl]
      split
      ·rename_i he
       have hnk : n = k := by omega
       subst hnk
       rw [decide_eq_false (by omega), ← hC, ← hDd, lexL, if_pos rfl]
       cases n with
       | zero => rfl
       | succ n =>
        obtain ⟨l1, e1⟩ := cand_second (g := g) (far := far) (n := n) (k := x)
        obtain ⟨l2, e2⟩ := cand_second (g := g) (far := far) (n := n) (k := nx)
        rw [e1, e2, lexL, if_neg (by omega), decide_eq_false (by omega)]
      ·rw [Bool.eq_iff_iff]; simp
     rw [hless]
     by_cases hp : n < k
     ·rw [if_pos (.inr (by simpa using hp)), hpT (.inr (by omega))]
      simp only [Int.toNat_natCast]
      rw [if_neg (by rintro (h | ⟨h, h'⟩); omega; exact hA (.inr ⟨h, by omega⟩)), hC]
     ·rw [if_neg (by rintro (h | h); exact hD0 h; simp at h; omega), hpF (by rintro (h | h); exact hnx h; omega)]
      simp only [Int.toNat_natCast]
      rw [if_neg hA, hDd]
   ·have hcx : rcand g i (i + m) = [] := by rw [hc, hx, if_neg (fun h => h2 h.2)]
    have hps : pstep far (nx, ln) x = (nx, ln) := by rw [pstep, if_neg (fun h => h2 h.1)]
    rw [rc1, hcx, if_pos rfl, hps]
  ·have hcx : rcand g i (i + m) = [] := by rw [hc, hx, if_neg (fun h => h1 h.1)]
   rw [rc1, hcx, if_pos rfl, hx, if_neg h1, List.append_nil, hs]
theorem cstep_head {g : Gr} {best : List Int} {i : Nat} (hb : best = [] ∨ ∃ a l, best = a :: l ∧ a < (i : Int)) : g.cstep best i = [] ∨ ∃ a l, g.cstep best i = a :: l ∧ a < ((i + 1 : Nat) : Int) := by
 rw [Gr.cstep]
 split
 ·rcases hb with h | ⟨a, l, h1, h2⟩
  ·exact .inl h
  ·exact .inr ⟨a, l, h1, by omega⟩
 ·exact .inr ⟨_, _, rfl, by omega⟩
theorem pcyc_head (g : Gr) : ∀ i, g.pcyc i = [] ∨ ∃ a l, g.pcyc i = a :: l ∧ a < (i : Int)
 | 0 => .inl rfl
 | i + 1 => by rw [pcyc_succ]; exact cstep_head (pcyc_head g i)
theorem rcyc_eq {g : Gr} (hv : g.valid = true) : ∀ i, i ≤ g.nodes.length → g.rcyc i = g.pcyc i
 | 0, _ => rfl
 | i + 1, h => by
  rw [rcyc_succ, pcyc_succ, rcyc_eq hv i (by omega), rcI_pick hv (by omega) (pcyc_head g i) _ (Nat.le_refl _), Gr.cstep, geL_tgE (by omega)]
end Go.Proofs.Yteifhcohmipdcaa

namespace Go.Proofs.Yteifhcohmipdcaa
open Go.Abs
set_option linter.unusedSimpArgs false
set_option linter.unusedVariables false
theorem edge_w (g : Gr) (a b : Int) (hg : g.edges.length ≤ 1000000) : FunW Try.prog 49 [encG g, (AV.int IntKind.i64) a, (AV.int IntKind.i64) b] (.bool (g.hasEdge a b)) :=
 funW_pure (edge0 g a b hg) (pu_cons (pu_graph _) (pu_cons (pu_int _ _) (pu_cons (pu_int _ _) pu_nil))) (.bool _) (.bool _)
theorem path_len25 {g : Gr} {a b : Int} : (g.path a b).length ≤ g.nodes.length := by
 rw [Gr.path]
 by_cases he : g.exist [a, b] = true
 ·obtain ⟨h1, hv⟩ := exist_iff.1 he
  have ha := h1 a (by simp)
  have hD := dist_is hv (h1 b (by simp))
  have hal : a.toNat < (g.dist b).length := by rw [hD.len]; exact in_toNat ha
  rw [if_pos he]
  by_cases hn : (g.dist b).getD a.toNat 0 < 0
  ·rw [if_pos hn]; exact Nat.zero_le _
  ·rw [if_neg hn, way_len]
   have hg : (g.dist b).getD a.toNat 0 = (g.dist b)[a.toNat] := by rw [List.getD_eq_getElem?_getD, List.getElem?_eq_getElem hal]; rfl
   rcases hD.val a.toNat _ (List.getElem?_eq_getElem hal) with q | ⟨n, q, hf⟩
   ·rw [hg, q] at hn; omega
   ·rw [toNat_cast ha] at hf
    have := hf.lt hv ha
    rw [hg, q]; omega
 ·rw [if_neg he]; exact Nat.zero_le _
theorem path_self25 {g : Gr} {a : Int} (he : g.exist [a, a] = true) : g.path a a = [a] := by
 obtain ⟨h1, hv⟩ := exist_iff.1 he
 have ha := h1 a (by simp)
 have hD := dist_is hv ha
 have h0 := hD.all a.toNat 0 (in_toNat ha) (by rw [toNat_cast ha]; exact g.far_to _ _)
 have hg : (g.dist a).getD a.toNat 0 = 0 := by rw [List.getD_eq_getElem?_getD, h0]; rfl
 rw [Gr.path, if_pos he, hg]; rfl
theorem refPath_w (g : Gr) (a b : Int) (hg : g.edges.length ≤ 1000000) : FunW Try.prog 16 [encG g, (AV.int IntKind.i64) a, (AV.int IntKind.i64) b] (.ro ((g.path a b).map (AV.int IntKind.i64))) :=
 funW_rowN (path0 g a b hg) (pu_cons (pu_graph _) (pu_cons (pu_int _ _) (pu_cons (pu_int _ _) pu_nil))) (fun _ => pu_of_ints) (fun _ => scal_ints) (fun _ => one_ints)
theorem less_w (a b : List Int) (ha : a.length ≤ 1000000) (hb : b.length ≤ 1000000) : FunW Try.prog 53 [.ro (a.map (AV.int IntKind.i64)), .ro (b.map (AV.int IntKind.i64))] (.bool (lessL a b)) :=
 funW_pure (less0 a b ha hb) (pu_cons (pu_ints _) (pu_cons (pu_ints _) pu_nil)) (.bool _) (.bool _)
theorem rcand_len25 (g : Gr) (i k : Nat) : (rcand g i k).length ≤ g.nodes.length + 1 := by
 have h := path_len25 (g := g.sub i) (a := k) (b := i)
 have h2 : (g.sub (i : Int)).nodes.length = g.nodes.length := rfl
 rw [rcand]
 split
 ·split
  ·simp
  ·simp only [List.length_cons, List.length_dropLast]; omega
 ·simp
theorem rcI_len25 (g : Gr) (i : Nat) {best : List Int} (hb : best.length ≤ g.nodes.length + 1) : ∀ m, (rcI g i best m).length ≤ g.nodes.length + 1
 | 0 => hb
 | m + 1 => by
  rw [rcI_succ, rc1]
  have h1 := rcI_len25 g i hb m
  have h2 := rcand_len25 g i (i + m)
  split
  ·exact h1
  ·split
   ·exact h2
   ·exact h1
theorem rcyc_len25 (g : Gr) : ∀ i, (g.rcyc i).length ≤ g.nodes.length + 1
 | 0 => by simp [Gr.rcyc]
 | i + 1 => by rw [rcyc_succ]; exact rcI_len25 g i (rcyc_len25 g i) _
def SlV (b : List Int) (bv : AV) (H : AHeap) : Prop := ∃ id gn rest, bv = AV.sl id gn 0 b.length ∧ H.get id = some (.row 3 1 gn (b.map (AV.int IntKind.i64) ++ rest))
theorem SlV.keep {b : List Int} {bv : AV} {H H' : AHeap} (h : SlV b bv H) (hk : ∀ j, H.get j ≠ none → H'.get j = H.get j) : SlV b bv H' := by
 obtain ⟨id, gn, rest, h1, h2⟩ := h
 exact ⟨id, gn, rest, h1, by rw [hk id (by rw [h2]; simp)]; exact h2⟩
theorem SlV.frz {b : List Int} {bv : AV} {H : AHeap} (h : SlV b bv H) : Frz H bv (.ro (b.map (AV.int IntKind.i64))) := by
 obtain ⟨id, gn, rest, h1, h2⟩ := h
 exact OwnR.frz (e := 3) (sz := 1) (lo := 0) (.inr ⟨id, gn, rest, by rw [h1]; simp, h2, Nat.zero_le _⟩) (fun _ => pu_of_ints) (fun _ => one_ints)
def subP (i : Nat) (e : Int × Int) : Bool := decide ((i : Int) ≤ e.1) && decide ((i : Int) ≤ e.2)
theorem sub_take_succ {es : List (Int × Int)} {i k : Nat} (h : k < es.length) : (es.take (k + 1)).filter (subP i) = (es.take k).filter (subP i) ++ if subP i es[k] = true then [es[k]] else [] := by
 rw [List.take_succ_eq_append_getElem h, List.filter_append]
 congr 1
 cases hp : subP i es[k] <;> simp [hp]
set_option maxHeartbeats 1000000 in
theorem refCyc0 (g : Gr) : ACalls Try.prog 22 [encG g] AHeap.nil (fun r H => Frz H r (.ro (g.pcycle.map (AV.int IntKind.i64)))) := by
 refine acalls_body TT_ok Try.func22 rfl rfl (by simp [Try.ntmps22]) ?_
 rw [Try.ntmps22]
 obtain ⟨σ, hσ⟩ : ∃ σ, σ = st0 [encG g] := ⟨_, rfl⟩
 rw [← hσ]
 have h0_0 := congrFun hσ 0
 simp [st0] at h0_0
 clear hσ
 obtain ⟨H, hH⟩ : ∃ H, H = AHeap.nil := ⟨_, rfl⟩
 rw [← hH]
 have hn_0 : H.n = 0 := by rw [hH]; rfl
 have hst_0 : H.st = 1 := by rw [hH]; rfl
 clear hH
 refine stp_reg TT_ok (by rfl) fun K hK => ?_
 simp [h0_0, hn_0, hst_0, encG]
 try refine And.intro (by first | omega | rfl) ?_
 refine hK _ _ fun σ1 hσ H1 hH => ?_
 clear hK K
 have h1_1 := congrFun hσ 1
 simp [] at h1_1
 clear hσ
 have g0_1 := gt_of hH 0
 simp [hn_0, hst_0] at g0_1
 have hn_1 := congrArg AHeap.n hH
 simp [hn_0, hst_0] at hn_1
 have hst_1 := congrArg AHeap.st hH
 simp [hn_0, hst_0] at hst_1
 clear hH
 refine awp_seq ?_
 refine stp_reg TT_ok (by rfl) fun K hK => ?_
 simp [h1_1, g0_1, encG]
 try refine And.intro (by first | omega | rfl) ?_
 refine stp_call (refValid_ok g) ?_
 simp [h1_1, g0_1, encG]
 try refine And.intro (by first | omega | rfl) ?_
 refine hK _ _ fun σ2 hσ H2 hH => ?_
 clear hK K
 obtain ⟨h1_2, h11_2⟩ := fs2 hσ 1 11
 simp [h1_1] at h1_2 h11_2
 clear hσ
 replace hH : H1 = H2 := Eq.symm hH
 subst hH
 refine awp_cond _ (by simp only [aeval_tmp]; exact h11_2) (fun hc11 => ?_) (fun hc11 => ?_)
 ·try simp at hc11
  refine stp_reg TT_ok (by rfl) fun K hK => ?_
  simp [g0_1, encG]
  try refine And.intro (by first | omega | rfl) ?_
  refine hK _ _ fun σ3 hσ H3 hH => ?_
  clear hK K
  have h2_3 := congrFun hσ 2
  simp [] at h2_3
  clear hσ
  replace hH : H1 = H3 := Eq.symm hH
  subst hH
  refine awp_ret ?_
  refine q_seq_ret ?_
  refine q_fin1 h2_3 ?_
  rw [show g.pcycle = [] by simp [Gr.pcycle, hc11]]; exact .nils
 ·try simp at hc11
  have hv : g.valid = true := by simpa using hc11
  obtain ⟨hb1, hb2⟩ := valid_nodes hv
  refine awp_skip ?_
  refine q_seq ?_
  refine stp_reg TT_ok (by rfl) fun K hK => ?_
  simp [g0_1, hn_1, hst_1, encG]
  try refine And.intro (by first | omega | rfl) ?_
  refine hK _ _ fun σ4 hσ H4 hH => ?_
  clear hK K
  obtain ⟨h1_4, h3_4⟩ := fs2 hσ 1 3
  simp [h1_2] at h1_4 h3_4
  clear hσ
  have g0_4 := gt_of hH 0
  have g1_4 := gt_of hH 1
  simp [g0_1, hn_1, hst_1] at g0_4 g1_4
  have hn_4 := congrArg AHeap.n hH
  simp [hn_1, hst_1] at hn_4
  have hst_4 := congrArg AHeap.st hH
  simp [hn_1, hst_1] at hst_4
  clear hH
  refine awp_seq ?_
  refine stp_reg TT_ok (by rfl) fun K hK => ?_
  simp [g0_4, g1_4, encG]
  try refine And.intro (by first | omega | rfl) ?_
  refine hK _ _ fun σ5 hσ H5 hH => ?_
  clear hK K
  obtain ⟨h1_5, h3_5, h4_5⟩ := fs3 hσ 1 3 4
  simp [h1_4, h3_4] at h1_5 h3_5 h4_5
  clear hσ
  replace hH : H4 = H5 := Eq.symm hH
  subst hH
  refine awp_block ?_
  refine awp_loopV (fun n σ' H' => ∃ (i : Nat) (bv : AV), n = g.nodes.length - i ∧ σ' 1 = σ5 1 ∧ σ' 3 = bv ∧ σ' 4 = (AV.int IntKind.i64) i ∧ H'.get 0 = H4.get 0 ∧ H'.get 1 = H4.get 1 ∧ H'.st = H4.st ∧ (i ≤ g.nodes.length) ∧ (SlV (g.rcyc i) bv H')) ?_ ?_
  ·refine ⟨_, 0, .sl 1 0 0 0, rfl, rfl, (by simp [h3_5]), (by simp [h4_5]), rfl, rfl, rfl, ?_, ?_⟩
   ·first | omega | (simp; done) | assumption
   ·exact ⟨1, 0, [], rfl, by rw [g1_4]; rfl⟩
  ·rintro n1 σ6 H6 ⟨i, bv, hn1, q1_6, h3_6, h4_6, qg0_6, qg1_6, qst_6, p1, p2⟩
   have h1_6 := q1_6.trans h1_5
   have g0_6 := qg0_6.trans g0_4
   have g1_6 := qg1_6.trans g1_4
   have hst_6 := qst_6.trans hst_4
   refine awp_seq ?_
   refine stp_reg TT_ok (by rfl) fun K hK => ?_
   simp [h1_6, h4_6, g0_6, g1_6, encG]
   try refine And.intro (by first | omega | rfl) ?_
   refine hK _ _ fun σ7 hσ H7 hH => ?_
   clear hK K
   obtain ⟨h1_7, h3_7, h4_7, h17_7⟩ := fs4 hσ 1 3 4 17
   simp [h1_6, h3_6, h4_6] at h1_7 h3_7 h4_7 h17_7
   clear hσ
   replace hH : H6 = H7 := Eq.symm hH
   subst hH
   refine awp_cond _ (by simp only [aeval_tmp]; exact h17_7) (fun hc17 => ?_) (fun hc17 => ?_)
   ·try simp at hc17
    have hlt : i < g.nodes.length := by simpa using hc17
    obtain ⟨Hc, hHc⟩ : ∃ Hc, Hc = H6 := ⟨_, rfl⟩
    have s0 := p2
    rw [← hHc] at s0
    have k0 : ∀ j, Hc.get j ≠ none → H6.get j = Hc.get j := fun j _ => by rw [hHc]
    refine awp_skip ?_
    refine q_seq ?_
    refine awp_seq ?_
    refine awp_block ?_
    refine awp_ok fun hok => ?_
    obtain ⟨m8, hn_m8⟩ : ∃ m, H6.n = m := ⟨_, rfl⟩
    have hf_m8_0 := hok.free 0
    simp [hn_m8, hst_6] at hf_m8_0
    have nx1 := ne_get hf_m8_0 g0_6
    have nx2 := ne_get hf_m8_0 g1_6
    refine stp_reg TT_ok (by rfl) fun K hK => ?_
    simp [h1_7, g0_6, g1_6, hn_m8, hst_6, nx1, nx2, encG]
    try refine And.intro (by first | omega | rfl) ?_
    refine hK _ _ fun σ9 hσ H9 hH => ?_
    clear hK K
    obtain ⟨h1_9, h3_9, h4_9, h5_9⟩ := fs4 hσ 1 3 4 5
    simp [h1_7, h3_7, h4_7] at h1_9 h3_9 h4_9 h5_9
    clear hσ
    have g0_9 := gt_of hH 0
    have g1_9 := gt_of hH 1
    have gm8_9 := gt_of hH m8
    simp [g0_6, g1_6, hn_m8, hst_6, nx1, nx2] at g0_9 g1_9 gm8_9
    have hst_9 := congrArg AHeap.st hH
    simp [hst_6] at hst_9
    have k1 : ∀ j, Hc.get j ≠ none → H9.get j = Hc.get j := fun j hj => by
     have hq := k0 j hj
     have hj0 : ¬ j = m8 := by { intro e; rw [← hq, e, hf_m8_0] at hj; exact hj rfl }
     rw [hH]; simp [hn_m8, hst_6, hj0]; exact hq
    have hz1 : Hc.get m8 = none := by
     cases hq : Hc.get m8 with
     | none => rfl
     | some b => have h5 := k0 m8 (by rw [hq]; simp); rw [hf_m8_0, hq] at h5; cases h5
    clear hH
    refine awp_seq ?_
    refine stp_reg TT_ok (by rfl) fun K hK => ?_
    simp [g0_9, g1_9, gm8_9, nx1, nx2, encG]
    try refine And.intro (by first | omega | rfl) ?_
    refine hK _ _ fun σ10 hσ H10 hH => ?_
    clear hK K
    obtain ⟨h1_10, h3_10, h4_10, h5_10, h6_10⟩ := fs5 hσ 1 3 4 5 6
    simp [h1_9, h3_9, h4_9, h5_9] at h1_10 h3_10 h4_10 h5_10 h6_10
    clear hσ
    replace hH : H9 = H10 := Eq.symm hH
    subst hH
    refine awp_block ?_
    refine awp_loopV (fun n σ' H' => ∃ (k : Nat) (v : AV), n = g.edges.length - k ∧ σ' 1 = σ10 1 ∧ σ' 3 = σ10 3 ∧ σ' 4 = σ10 4 ∧ σ' 5 = σ10 5 ∧ σ' 6 = (AV.int IntKind.i64) k ∧ H'.get 0 = H9.get 0 ∧ H'.get 1 = H9.get 1 ∧ H'.get m8 = some (.row 25 2 0 [.agg [.ro (g.nodes.map .str), v]]) ∧ H'.st = H9.st ∧ (k ≤ g.edges.length) ∧ (OwnR 39 2 2 (((g.edges.take k).filter (subP i)).map encE) v H') ∧ (∀ j, Hc.get j ≠ none → H'.get j = Hc.get j) ∧ (∀ id g n : Nat, v = AV.sl id g 0 n → Hc.get id = none ∧ id ≠ m8)) ?_ ?_
    ·refine ⟨_, 0, .nils, rfl, rfl, rfl, rfl, rfl, (by simp [h6_10]), rfl, rfl, (by simp [gm8_9]), rfl, ?_, ?_, ?_, ?_⟩
     ·first | omega | (simp; done) | assumption
     ·exact .inl ⟨rfl, by simp⟩
     ·exact k1
     ·intro id g n e; cases e
    ·rintro n2 σ11 H11 ⟨k, v, hn2, q1_11, q3_11, q4_11, q5_11, h6_11, qg0_11, qg1_11, gm8_11, qst_11, q1, q2, q3, q4⟩
     have h1_11 := q1_11.trans h1_10
     have h3_11 := q3_11.trans h3_10
     have h4_11 := q4_11.trans h4_10
     have h5_11 := q5_11.trans h5_10
     have g0_11 := qg0_11.trans g0_9
     have g1_11 := qg1_11.trans g1_9
     have hst_11 := qst_11.trans hst_9
     refine awp_seq ?_
     refine stp_reg TT_ok (by rfl) fun K hK => ?_
     simp [h1_11, h6_11, g0_11, g1_11, gm8_11, nx1, nx2, encG]
     try refine And.intro (by first | omega | rfl) ?_
     refine hK _ _ fun σ12 hσ H12 hH => ?_
     clear hK K
     obtain ⟨h1_12, h3_12, h4_12, h5_12, h6_12, h27_12⟩ := fs6 hσ 1 3 4 5 6 27
     simp [h1_11, h3_11, h4_11, h5_11, h6_11] at h1_12 h3_12 h4_12 h5_12 h6_12 h27_12
     clear hσ
     replace hH : H11 = H12 := Eq.symm hH
     subst hH
     refine awp_cond _ (by simp only [aeval_tmp]; exact h27_12) (fun hc27 => ?_) (fun hc27 => ?_)
     ·try simp at hc27
      have hkt : k < g.edges.length := by simpa using hc27
      have hge : (g.edges.map encE)[k]? = some (encE g.edges[k]) := by simp [hkt]
      have hst := sub_take_succ (i := i) hkt
      have hfl : (((g.edges.take k).filter (subP i)).map encE).length ≤ 4096 := by
       have := List.length_filter_le (subP i) (g.edges.take k)
       rw [List.length_map]; rw [List.length_take] at this; omega
      obtain ⟨es, hes⟩ : ∃ es, ((g.edges.take k).filter (subP i)).map encE = es := ⟨_, rfl⟩
      rw [hes] at hfl q2
      refine awp_skip ?_
      refine q_seq ?_
      refine awp_seq ?_
      refine awp_block ?_
      by_cases f1 : (i : Int) ≤ g.edges[k].1
      ·skip
       by_cases f2 : (i : Int) ≤ g.edges[k].2
       ·skip
        refine stp_reg TT_ok (by rfl) fun K hK => ?_
        simp [h1_12, h4_12, h6_12, g0_11, g1_11, gm8_11, nx1, nx2, f1, f2, encG, hge, hkt, encE]
        try refine And.intro (by first | omega | rfl) ?_
        refine hK _ _ fun σ13 hσ H13 hH => ?_
        clear hK K
        obtain ⟨h1_13, h3_13, h4_13, h5_13, h6_13, h47_13⟩ := fs6 hσ 1 3 4 5 6 47
        simp [h1_12, h3_12, h4_12, h5_12, h6_12] at h1_13 h3_13 h4_13 h5_13 h6_13 h47_13
        clear hσ
        replace hH : H11 = H13 := Eq.symm hH
        subst hH
        refine stp_true (by simp [aeval_tmp, h47_13, nx1, nx2, f1, f2, encG]) ?_
        rcases q2 with ⟨rfl, hnil⟩ | ⟨id, gn, rest, rfl, hb, hid⟩
        ·skip
         refine awp_ok fun hok => ?_
         obtain ⟨m14, hn_m14⟩ : ∃ m, H11.n = m := ⟨_, rfl⟩
         have hf_m14_7 := hok.free 7
         simp [hn_m14, hst_11] at hf_m14_7
         have nx3 := ne_get hf_m14_7 g0_11
         have nx4 := ne_get hf_m14_7 g1_11
         have nx5 := ne_get hf_m14_7 gm8_11
         have hf_m14_8 := hok.free 8
         simp [hn_m14, hst_11] at hf_m14_8
         have nx6 := ne_get hf_m14_8 g0_11
         have nx7 := ne_get hf_m14_8 g1_11
         have nx8 := ne_get hf_m14_8 gm8_11
         refine stp_lexl true TT_ok mixed (by rfl) (by rfl) (by kernel_rfl) (by rfl) fun U hU K hK => ?_
         simp [h1_13, h5_13, h6_13, g0_11, g1_11, gm8_11, hn_m14, hst_11, nx1, nx2, f1, f2, nx3, nx4, nx5, nx6, nx7, nx8, encG, hge, hkt, encE]
         try refine And.intro (by first | omega | rfl) ?_
         refine hK _ _ _ (by rw [hU.trans (by kernel_rfl : _ = [(0, 2), (1, 2), (0, 3), (1, 3), (0, 4), (1, 4), (2, 4), (3, 4), (0, 5), (1, 5), (0, 6), (1, 6), (0, 7), (1, 7)])]; simp [logOk, ftFree, h1_13, h5_13, h6_13, g0_11, g1_11, gm8_11, hn_m14, hst_11, nx1, nx2, f1, f2, nx3, nx4, nx5, nx6, nx7, nx8, encG, hge, hkt, encE]) fun σ15 hσ H15 hH => ?_
         clear hK K hU U
         obtain ⟨h1_15, h3_15, h4_15, h5_15, h6_15⟩ := fs5 hσ 1 3 4 5 6
         simp [h1_13, h3_13, h4_13, h5_13, h6_13] at h1_15 h3_15 h4_15 h5_15 h6_15
         clear hσ
         have g0_15 := gt_of hH 0
         have g1_15 := gt_of hH 1
         have gm8_15 := gt_of hH m8
         have g_m14_7__15 := gt_of hH (m14 + 7)
         have g_m14_8__15 := gt_of hH (m14 + 8)
         simp [g0_11, g1_11, gm8_11, hn_m14, hst_11, nx1, nx2, f1, f2, nx3, nx4, nx5, nx6, nx7, nx8] at g0_15 g1_15 gm8_15 g_m14_7__15 g_m14_8__15
         have hst_15 := congrArg AHeap.st hH
         simp [hst_11] at hst_15
         have kb : ∀ j, Hc.get j ≠ none → H15.get j = Hc.get j := fun j hj => by
          have hq := q3 j hj
          have hj1 : ¬ j = m8 := by { intro e; rw [e, hz1] at hj; exact hj rfl }
          have hj7 : ¬ j = (m14 + 7) := by { intro e; rw [← hq, e, hf_m14_7] at hj; exact hj rfl }
          have hj8 : ¬ j = (m14 + 8) := by { intro e; rw [← hq, e, hf_m14_8] at hj; exact hj rfl }
          rw [hH]; simp [hn_m14, hj1, hj7, hj8]; exact hq
         have hz2 : Hc.get (m14 + 8) = none := by
          cases hq : Hc.get (m14 + 8) with
          | none => rfl
          | some b => have h5 := q3 (m14 + 8) (by rw [hq]; simp); rw [hf_m14_8, hq] at h5; cases h5
         clear hH
         refine q_block ?_
         refine q_seq ?_
         refine stp_regl TT_ok (by rfl) fun K hK => ?_
         simp [h6_15, g0_15, g1_15, gm8_15, g_m14_7__15, g_m14_8__15, nx1, nx2, f1, f2, nx3, nx4, nx5, nx6, nx7, nx8, encG, wrap_ok (n := (k : Int) + 1) (by omega) (by omega)]
         try refine And.intro (by first | omega | rfl) ?_
         refine hK _ _ fun σ16 hσ H16 hH => ?_
         clear hK K
         obtain ⟨h1_16, h3_16, h4_16, h5_16, h6_16⟩ := fs5 hσ 1 3 4 5 6
         simp [h1_15, h3_15, h4_15, h5_15] at h1_16 h3_16 h4_16 h5_16 h6_16
         clear hσ
         replace hH : H15 = H16 := Eq.symm hH
         subst hH
         have hsp : subP i g.edges[k] = true := by simp [subP, f1, f2]
         refine ⟨_, ?_, k + 1, .sl (m14 + 8) 0 0 1, rfl, (h1_16.trans h1_10.symm), (h3_16.trans h3_10.symm), (h4_16.trans h4_10.symm), (h5_16.trans h5_10.symm), (by simp [h6_16]), (g0_15.trans g0_9.symm), (g1_15.trans g1_9.symm), (by simp [gm8_15]), (hst_15.trans hst_9.symm), ?_, ?_, ?_, ?_⟩
         ·subst hn2; omega
         ·first | omega | assumption | (simp; done)
         ·rw [hst, if_pos hsp, List.map_append, hes, hnil]; exact OwnR.mk (rest := []) g_m14_8__15 (by simp [encE]) (by simp) (by omega)
         ·exact kb
         ·intro id g n e; cases e; exact ⟨hz2, by omega⟩
        ·skip
         have hidm := (q4 id gn _ rfl).2
         have nx9 : ¬ id = 0 ∧ ¬ 0 = id := by omega
         have nx10 : ¬ id = 1 ∧ ¬ 1 = id := by omega
         refine awp_ok fun hok => ?_
         obtain ⟨m17, hn_m17⟩ : ∃ m, H11.n = m := ⟨_, rfl⟩
         have hf_m17_7 := hok.free 7
         simp [hn_m17, hst_11] at hf_m17_7
         have nx11 := ne_get hf_m17_7 g0_11
         have nx12 := ne_get hf_m17_7 g1_11
         have nx13 := ne_get hf_m17_7 gm8_11
         have nx14 := ne_get hf_m17_7 hb
         refine stp_lexl true TT_ok mixed (by rfl) (by rfl) (by kernel_rfl) (by rfl) fun U hU K hK => ?_
         simp [h1_13, h5_13, h6_13, g0_11, g1_11, gm8_11, hb, hn_m17, hst_11, nx1, nx2, f1, f2, hidm, Ne.symm hidm, nx9, nx10, nx11, nx12, nx13, nx14, encG, hge, hkt, encE, show es.length ≤ 9223372036854775806 by omega, show (es.length + 1) * 16 ≤ 140737488355328 by omega]
         try refine And.intro (by first | omega | rfl) ?_
         refine hK _ _ _ (by rw [hU.trans (by kernel_rfl : _ = [(0, 2), (1, 2), (0, 3), (1, 3), (0, 4), (1, 4), (2, 4), (3, 4), (0, 5), (1, 5), (0, 6), (1, 6), (0, 7), (1, 7)])]; simp [logOk, ftFree, h1_13, h5_13, h6_13, g0_11, g1_11, gm8_11, hb, hn_m17, hst_11, nx1, nx2, f1, f2, hidm, Ne.symm hidm, nx9, nx10, nx11, nx12, nx13, nx14, encG, hge, hkt, encE, show es.length ≤ 9223372036854775806 by omega, show (es.length + 1) * 16 ≤ 140737488355328 by omega]) fun σ18 hσ H18 hH => ?_
         clear hK K hU U
         obtain ⟨h1_18, h3_18, h4_18, h5_18, h6_18⟩ := fs5 hσ 1 3 4 5 6
         simp [h1_13, h3_13, h4_13, h5_13, h6_13] at h1_18 h3_18 h4_18 h5_18 h6_18
         clear hσ
         have g0_18 := gt_of hH 0
         have g1_18 := gt_of hH 1
         have gm8_18 := gt_of hH m8
         have gid_18 := gt_of hH id
         have g_m17_7__18 := gt_of hH (m17 + 7)
         simp [g0_11, g1_11, gm8_11, hb, hn_m17, hst_11, nx1, nx2, f1, f2, hidm, Ne.symm hidm, nx9, nx10, nx11, nx12, nx13, nx14] at g0_18 g1_18 gm8_18 gid_18 g_m17_7__18
         have hst_18 := congrArg AHeap.st hH
         simp [hst_11] at hst_18
         have kb : ∀ j, Hc.get j ≠ none → H18.get j = Hc.get j := fun j hj => by
          have hq := q3 j hj
          have hj1 : ¬ j = m8 := by { intro e; rw [e, hz1] at hj; exact hj rfl }
          have hj2 : ¬ j = id := by { intro e; rw [e, (q4 id gn _ rfl).1] at hj; exact hj rfl }
          have hj7 : ¬ j = (m17 + 7) := by { intro e; rw [← hq, e, hf_m17_7] at hj; exact hj rfl }
          rw [hH]; simp [hn_m17, hst_18, hj1, hj2, hj7]; exact hq
         clear hH
         refine q_block ?_
         refine q_seq ?_
         refine stp_regl TT_ok (by rfl) fun K hK => ?_
         simp [h6_18, g0_18, g1_18, gm8_18, gid_18, g_m17_7__18, nx1, nx2, f1, f2, hidm, Ne.symm hidm, nx9, nx10, nx11, nx12, nx13, nx14, encG, wrap_ok (n := (k : Int) + 1) (by omega) (by omega)]
         try refine And.intro (by first | omega | rfl) ?_
         refine hK _ _ fun σ19 hσ H19 hH => ?_
         clear hK K
         obtain ⟨h1_19, h3_19, h4_19, h5_19, h6_19⟩ := fs5 hσ 1 3 4 5 6
         simp [h1_18, h3_18, h4_18, h5_18] at h1_19 h3_19 h4_19 h5_19 h6_19
         clear hσ
         replace hH : H18 = H19 := Eq.symm hH
         subst hH
         have hsp : subP i g.edges[k] = true := by simp [subP, f1, f2]
         refine ⟨_, ?_, k + 1, .sl id (gn + 1) 0 (es.length + 1), rfl, (h1_19.trans h1_10.symm), (h3_19.trans h3_10.symm), (h4_19.trans h4_10.symm), (h5_19.trans h5_10.symm), (by simp [h6_19]), (g0_18.trans g0_9.symm), (g1_18.trans g1_9.symm), (by simp [gm8_18]), (hst_18.trans hst_9.symm), ?_, ?_, ?_, ?_⟩
         ·subst hn2; omega
         ·first | omega | assumption | (simp; done)
         ·rw [hst, if_pos hsp, List.map_append, hes]; exact OwnR.mk (rest := []) gid_18 (by simp [encE]) (by simp) (by omega)
         ·exact kb
         ·intro id2 g n e; cases e; exact q4 id gn _ rfl
       ·skip
        refine stp_reg TT_ok (by rfl) fun K hK => ?_
        simp [h1_12, h4_12, h6_12, g0_11, g1_11, gm8_11, nx1, nx2, f1, f2, encG, hge, hkt, encE]
        try refine And.intro (by first | omega | rfl) ?_
        refine hK _ _ fun σ20 hσ H20 hH => ?_
        clear hK K
        obtain ⟨h1_20, h3_20, h4_20, h5_20, h6_20, h47_20⟩ := fs6 hσ 1 3 4 5 6 47
        simp [h1_12, h3_12, h4_12, h5_12, h6_12] at h1_20 h3_20 h4_20 h5_20 h6_20 h47_20
        clear hσ
        replace hH : H11 = H20 := Eq.symm hH
        subst hH
        refine stp_false (by simp [aeval_tmp, h47_20, nx1, nx2, f1, f2, encG]) ?_
        refine awp_skip ?_
        refine q_block ?_
        refine q_seq ?_
        refine stp_regl TT_ok (by rfl) fun K hK => ?_
        simp [h6_20, g0_11, g1_11, gm8_11, nx1, nx2, f1, f2, encG, wrap_ok (n := (k : Int) + 1) (by omega) (by omega)]
        try refine And.intro (by first | omega | rfl) ?_
        refine hK _ _ fun σ21 hσ H21 hH => ?_
        clear hK K
        obtain ⟨h1_21, h3_21, h4_21, h5_21, h6_21⟩ := fs5 hσ 1 3 4 5 6
        simp [h1_20, h3_20, h4_20, h5_20] at h1_21 h3_21 h4_21 h5_21 h6_21
        clear hσ
        replace hH : H11 = H21 := Eq.symm hH
        subst hH
        have hsp : ¬ subP i g.edges[k] = true := by
         intro h; simp [subP] at h; omega
        refine ⟨_, ?_, k + 1, v, rfl, (h1_21.trans h1_10.symm), (h3_21.trans h3_10.symm), (h4_21.trans h4_10.symm), (h5_21.trans h5_10.symm), (by simp [h6_21]), (g0_11.trans g0_9.symm), (g1_11.trans g1_9.symm), (by simp [gm8_11]), (hst_11.trans hst_9.symm), ?_, ?_, ?_, ?_⟩
        ·subst hn2; omega
        ·first | omega | assumption | (simp; done)
        ·rw [hst, if_neg hsp, List.append_nil, hes]; exact q2
        ·exact q3
        ·exact q4
      ·skip
       refine stp_reg TT_ok (by rfl) fun K hK => ?_
       simp [h1_12, h4_12, h6_12, g0_11, g1_11, gm8_11, nx1, nx2, f1, encG, hge, hkt, encE]
       try refine And.intro (by first | omega | rfl) ?_
       refine hK _ _ fun σ22 hσ H22 hH => ?_
       clear hK K
       obtain ⟨h1_22, h3_22, h4_22, h5_22, h6_22, h47_22⟩ := fs6 hσ 1 3 4 5 6 47
       simp [h1_12, h3_12, h4_12, h5_12, h6_12] at h1_22 h3_22 h4_22 h5_22 h6_22 h47_22
       clear hσ
       replace hH : H11 = H22 := Eq.symm hH
       subst hH
       refine stp_false (by simp [aeval_tmp, h47_22, nx1, nx2, f1, encG]) ?_
       refine awp_skip ?_
       refine q_block ?_
       refine q_seq ?_
       refine stp_regl TT_ok (by rfl) fun K hK => ?_
       simp [h6_22, g0_11, g1_11, gm8_11, nx1, nx2, f1, encG, wrap_ok (n := (k : Int) + 1) (by omega) (by omega)]
       try refine And.intro (by first | omega | rfl) ?_
       refine hK _ _ fun σ23 hσ H23 hH => ?_
       clear hK K
       obtain ⟨h1_23, h3_23, h4_23, h5_23, h6_23⟩ := fs5 hσ 1 3 4 5 6
       simp [h1_22, h3_22, h4_22, h5_22] at h1_23 h3_23 h4_23 h5_23 h6_23
       clear hσ
       replace hH : H11 = H23 := Eq.symm hH
       subst hH
       have hsp : ¬ subP i g.edges[k] = true := by
        intro h; simp [subP] at h; omega
       refine ⟨_, ?_, k + 1, v, rfl, (h1_23.trans h1_10.symm), (h3_23.trans h3_10.symm), (h4_23.trans h4_10.symm), (h5_23.trans h5_10.symm), (by simp [h6_23]), (g0_11.trans g0_9.symm), (g1_11.trans g1_9.symm), (by simp [gm8_11]), (hst_11.trans hst_9.symm), ?_, ?_, ?_, ?_⟩
       ·subst hn2; omega
       ·first | omega | assumption | (simp; done)
       ·rw [hst, if_neg hsp, List.append_nil, hes]; exact q2
       ·exact q3
       ·exact q4
     ·try simp at hc27
      have hke : k = g.edges.length := by have := hc27; omega
      rw [hke, List.take_length, show g.edges.filter (subP i) = (g.sub i).edges from rfl] at q2
      obtain ⟨Hd, hHd⟩ : ∃ Hd, Hd = H11 := ⟨_, rfl⟩
      have s1 := s0.keep q3
      rw [← hHd] at s1 q2
      have hse : (g.sub i).edges.length ≤ 1000000 := by
       have := List.length_filter_le (fun e : Int × Int => decide ((i : Int) ≤ e.1) && decide ((i : Int) ≤ e.2)) g.edges
       show (g.edges.filter _).length ≤ _; omega
      have hvo : v.one = true := by
       rcases q2 with ⟨h, _⟩ | ⟨_, _, _, h, _⟩ <;> rw [h] <;> rfl
      simp [AV.one] at hvo
      have q2u : ∀ id g n : Nat, v = AV.sl id g 0 n → Hd.get id ≠ none := fun id g n e => by
       rcases q2 with ⟨h, _⟩ | ⟨id2, g2, rest, h, h2, _⟩
       ·rw [h] at e; cases e
       ·rw [h] at e; cases e; rw [h2]; simp
      refine awp_exit ?_
      refine q_seq_exit ?_
      refine q_loop_exit ?_
      refine q_block_hit ?_
      refine q_seq ?_
      refine stp_reg TT_ok (by rfl) fun K hK => ?_
      simp [h4_12, g0_11, g1_11, gm8_11, nx1, nx2, encG]
      try refine And.intro (by first | omega | rfl) ?_
      refine hK _ _ fun σ24 hσ H24 hH => ?_
      clear hK K
      obtain ⟨h1_24, h3_24, h4_24, h5_24, h7_24⟩ := fs5 hσ 1 3 4 5 7
      simp [h1_12, h3_12, h4_12, h5_12] at h1_24 h3_24 h4_24 h5_24 h7_24
      clear hσ
      replace hH : H11 = H24 := Eq.symm hH
      subst hH
      refine awp_block ?_
      refine awp_loopV (fun n σ' H' => ∃ (k : Nat) (b : List Int) (bv : AV), n = g.nodes.length - k ∧ σ' 1 = σ24 1 ∧ σ' 3 = bv ∧ σ' 4 = σ24 4 ∧ σ' 5 = σ24 5 ∧ σ' 7 = (AV.int IntKind.i64) k ∧ H'.get 0 = H11.get 0 ∧ H'.get 1 = H11.get 1 ∧ H'.get m8 = H11.get m8 ∧ H'.st = H11.st ∧ (i ≤ k ∧ k ≤ g.nodes.length) ∧ (b = rcI g i (g.rcyc i) (k - i)) ∧ (SlV b bv H') ∧ (∀ j, Hd.get j ≠ none → H'.get j = Hd.get j)) ?_ ?_
      ·refine ⟨_, i, g.rcyc i, bv, rfl, rfl, (by simp [h3_24]), rfl, rfl, (by simp [h7_24]), rfl, rfl, rfl, rfl, ?_, ?_, ?_, ?_⟩
       ·first | omega | (simp; done) | assumption
       ·rw [Nat.sub_self]; rfl
       ·rw [← hHd]; exact s1
       ·exact fun j _ => by rw [hHd]
      ·rintro n3 σ25 H25 ⟨k, b, bv, hn3, q1_25, h3_25, q4_25, q5_25, h7_25, qg0_25, qg1_25, qgm8_25, qst_25, t1, t2, t3, t4⟩
       have h1_25 := q1_25.trans h1_24
       have h4_25 := q4_25.trans h4_24
       have h5_25 := q5_25.trans h5_24
       have g0_25 := qg0_25.trans g0_11
       have g1_25 := qg1_25.trans g1_11
       have gm8_25 := qgm8_25.trans gm8_11
       have hst_25 := qst_25.trans hst_11
       refine awp_seq ?_
       refine stp_reg TT_ok (by rfl) fun K hK => ?_
       simp [h1_25, h7_25, g0_25, g1_25, gm8_25, nx1, nx2, encG]
       try refine And.intro (by first | omega | rfl) ?_
       refine hK _ _ fun σ26 hσ H26 hH => ?_
       clear hK K
       obtain ⟨h1_26, h3_26, h4_26, h5_26, h7_26, h63_26⟩ := fs6 hσ 1 3 4 5 7 63
       simp [h1_25, h3_25, h4_25, h5_25, h7_25] at h1_26 h3_26 h4_26 h5_26 h7_26 h63_26
       clear hσ
       replace hH : H25 = H26 := Eq.symm hH
       subst hH
       refine awp_cond _ (by simp only [aeval_tmp]; exact h63_26) (fun hc63 => ?_) (fun hc63 => ?_)
       ·try simp at hc63
        have hkn : k < g.nodes.length := by simpa using hc63
        have hri := rcI_succ g i (g.rcyc i) (k - i)
        rw [← t2, show k - i + 1 = k + 1 - i by omega, show i + (k - i) = k by omega] at hri
        have hov := q2.keep (H' := H25) fun id g n e => t4 id (q2u id g n e)
        have hfg : Frz H25 (.agg [.ro (g.nodes.map .str), v]) (encG (g.sub i)) := frz_graph (.pure (pu_strs _)) (hov.frz (fun _ => pu_of_edges) (fun _ => one_edge))
        refine awp_skip ?_
        refine q_seq ?_
        refine awp_seq ?_
        refine awp_block ?_
        refine awp_seq ?_
        have hFF0 := an8 h4_26 h5_26 h7_26 g0_25 g1_25 gm8_25 nx1 nx2
        refine stp_reg TT_ok (by rfl) fun K hK => ?_
        simp [hFF0, encG, hvo]
        try refine And.intro (by first | omega | rfl) ?_
        refine FunW.at (edge_w (g.sub i) i k hse) ?hf ?_
        case hf => exact FrzL.cons hfg (FrzL.cons (.pure (pu_int _ _)) (FrzL.cons (.pure (pu_int _ _)) (FrzL.nil _)))
        simp [hFF0, encG, hvo]
        try refine And.intro (by first | omega | rfl) ?_
        refine hK _ _ fun σ27 hσ H27 hH => ?_
        clear hK K hFF0
        obtain ⟨h1_27, h3_27, h4_27, h5_27, h7_27, h70_27⟩ := fs6 hσ 1 3 4 5 7 70
        simp [h1_26, h3_26, h4_26, h5_26, h7_26] at h1_27 h3_27 h4_27 h5_27 h7_27 h70_27
        clear hσ
        replace hH : H25 = H27 := Eq.symm hH
        subst hH
        refine awp_cond _ (by simp only [aeval_tmp]; exact h70_27) (fun hc70 => ?_) (fun hc70 => ?_)
        ·try simp at hc70
         have hrc : rcand g i k = [] := by rw [rcand, hc70]; rfl
         refine awp_exit ?_
         refine q_seq_exit ?_
         refine q_block_hit ?_
         refine q_seq ?_
         refine stp_regl TT_ok (by rfl) fun K hK => ?_
         simp [h7_27, g0_25, g1_25, gm8_25, nx1, nx2, encG, wrap_ok (n := (k : Int) + 1) (by omega) (by omega), wrap_ok (n := (i : Int) + 1) (by omega) (by omega)]
         try refine And.intro (by first | omega | rfl) ?_
         refine hK _ _ fun σ28 hσ H28 hH => ?_
         clear hK K
         obtain ⟨h1_28, h3_28, h4_28, h5_28, h7_28⟩ := fs5 hσ 1 3 4 5 7
         simp [h1_27, h3_27, h4_27, h5_27] at h1_28 h3_28 h4_28 h5_28 h7_28
         clear hσ
         replace hH : H25 = H28 := Eq.symm hH
         subst hH
         refine ⟨_, ?_, k + 1, b, bv, rfl, (h1_28.trans h1_24.symm), (by simp [h3_28]), (h4_28.trans h4_24.symm), (h5_28.trans h5_24.symm), (by simp [h7_28]), (g0_25.trans g0_11.symm), (g1_25.trans g1_11.symm), (gm8_25.trans gm8_11.symm), (hst_25.trans hst_11.symm), ?_, ?_, ?_, ?_⟩
         ·subst hn3; omega
         ·first | omega | assumption | (simp; done)
         ·rw [hri, rc1, if_pos hrc]
         ·exact t3
         ·exact t4
        ·try simp at hc70
         have hed : (g.sub i).hasEdge i k = true := by simpa using hc70
         obtain ⟨pp, hpp⟩ : ∃ pp, (g.sub i).path k i = pp := ⟨_, rfl⟩
         have hrce : rcand g i k = if pp = [] then [] else (i : Int) :: pp.dropLast := by rw [rcand, if_pos hed, hpp]
         refine awp_skip ?_
         refine q_seq ?_
         have hFF0 := an8 h4_27 h5_27 h7_27 g0_25 g1_25 gm8_25 nx1 nx2
         refine stp_reg TT_ok (by rfl) fun K hK => ?_
         simp [hFF0, encG, hvo, hpp]
         try refine And.intro (by first | omega | rfl) ?_
         refine FunW.at (refPath_w (g.sub i) k i hse) ?hf ?_
         case hf => exact FrzL.cons hfg (FrzL.cons (.pure (pu_int _ _)) (FrzL.cons (.pure (pu_int _ _)) (FrzL.nil _)))
         simp [hFF0, encG, hvo, hpp]
         try refine And.intro (by first | omega | rfl) ?_
         refine hK _ _ fun σ29 hσ H29 hH => ?_
         clear hK K hFF0
         obtain ⟨h1_29, h3_29, h4_29, h5_29, h7_29, h8_29⟩ := fs6 hσ 1 3 4 5 7 8
         simp [h1_27, h3_27, h4_27, h5_27, h7_27] at h1_29 h3_29 h4_29 h5_29 h7_29 h8_29
         clear hσ
         replace hH : H25 = H29 := Eq.symm hH
         subst hH
         refine awp_seq ?_
         by_cases hp0 : (pp.length : Int) = 0
         ·skip
          refine stp_reg TT_ok (by rfl) fun K hK => ?_
          simp [h8_29, g0_25, g1_25, gm8_25, nx1, nx2, hp0, beq_iff_eq.2 hp0, encG]
          try refine And.intro (by first | omega | rfl) ?_
          refine hK _ _ fun σ30 hσ H30 hH => ?_
          clear hK K
          obtain ⟨h1_30, h3_30, h4_30, h5_30, h7_30, h8_30, h77_30⟩ := fs7 hσ 1 3 4 5 7 8 77
          simp [h1_29, h3_29, h4_29, h5_29, h7_29, h8_29] at h1_30 h3_30 h4_30 h5_30 h7_30 h8_30 h77_30
          clear hσ
          replace hH : H25 = H30 := Eq.symm hH
          subst hH
          refine stp_true (by simp [aeval_tmp, h77_30, nx1, nx2, hp0, beq_iff_eq.2 hp0, encG]) ?_
          refine awp_exit ?_
          refine q_seq_exit ?_
          refine q_block_hit ?_
          refine q_seq ?_
          refine stp_regl TT_ok (by rfl) fun K hK => ?_
          simp [h7_30, g0_25, g1_25, gm8_25, nx1, nx2, hp0, beq_iff_eq.2 hp0, encG, wrap_ok (n := (k : Int) + 1) (by omega) (by omega), wrap_ok (n := (i : Int) + 1) (by omega) (by omega)]
          try refine And.intro (by first | omega | rfl) ?_
          refine hK _ _ fun σ31 hσ H31 hH => ?_
          clear hK K
          obtain ⟨h1_31, h3_31, h4_31, h5_31, h7_31⟩ := fs5 hσ 1 3 4 5 7
          simp [h1_30, h3_30, h4_30, h5_30] at h1_31 h3_31 h4_31 h5_31 h7_31
          clear hσ
          replace hH : H25 = H31 := Eq.symm hH
          subst hH
          have hrc : rcand g i k = [] := by rw [hrce, if_pos (List.eq_nil_of_length_eq_zero (by omega))]
          refine ⟨_, ?_, k + 1, b, bv, rfl, (h1_31.trans h1_24.symm), (by simp [h3_31]), (h4_31.trans h4_24.symm), (h5_31.trans h5_24.symm), (by simp [h7_31]), (g0_25.trans g0_11.symm), (g1_25.trans g1_11.symm), (gm8_25.trans gm8_11.symm), (hst_25.trans hst_11.symm), ?_, ?_, ?_, ?_⟩
          ·subst hn3; omega
          ·first | omega | assumption | (simp; done)
          ·rw [hri, rc1, if_pos hrc]
          ·exact t3
          ·exact t4
         ·skip
          refine stp_reg TT_ok (by rfl) fun K hK => ?_
          simp [h8_29, g0_25, g1_25, gm8_25, nx1, nx2, hp0, beq_eq_false_iff_ne.2 hp0, encG]
          try refine And.intro (by first | omega | rfl) ?_
          refine hK _ _ fun σ32 hσ H32 hH => ?_
          clear hK K
          obtain ⟨h1_32, h3_32, h4_32, h5_32, h7_32, h8_32, h77_32⟩ := fs7 hσ 1 3 4 5 7 8 77
          simp [h1_29, h3_29, h4_29, h5_29, h7_29, h8_29] at h1_32 h3_32 h4_32 h5_32 h7_32 h8_32 h77_32
          clear hσ
          replace hH : H25 = H32 := Eq.symm hH
          subst hH
          refine stp_false (by simp [aeval_tmp, h77_32, nx1, nx2, hp0, beq_eq_false_iff_ne.2 hp0, encG]) ?_
          refine awp_skip ?_
          refine q_seq ?_
          obtain ⟨q, hq⟩ : ∃ q, pp.length = q + 1 := ⟨pp.length - 1, by omega⟩
          have hpl : q ≤ 100000 := by
           have h9 := path_len25 (g := g.sub i) (a := k) (b := i)
           rw [hpp, hq] at h9
           have : (g.sub i).nodes.length = g.nodes.length := rfl
           omega
          refine awp_ok fun hok => ?_
          obtain ⟨m33, hn_m33⟩ : ∃ m, H25.n = m := ⟨_, rfl⟩
          have hf_m33_0 := hok.free 0
          simp [hn_m33, hst_25] at hf_m33_0
          have nx15 := ne_get hf_m33_0 g0_25
          have nx16 := ne_get hf_m33_0 g1_25
          have nx17 := ne_get hf_m33_0 gm8_25
          have hFF0 := an14 h4_32 h8_32 g0_25 g1_25 gm8_25 hn_m33 hst_25 nx1 nx2 hp0 (beq_eq_false_iff_ne.2 hp0) nx15 nx16 nx17
          refine stp_reg TT_ok (by rfl) fun K hK => ?_
          simp [hFF0, encG, hq, show (q : Int) + 1 - 1 = q by omega, wrap_ok (n := (q : Int)) (by omega) (by omega)]
          try refine And.intro (by first | omega | rfl) ?_
          refine ⟨fun x hx => ?_, ⟨by omega, by omega⟩, ?_⟩
          ·obtain ⟨y, _, rfl⟩ := List.mem_map.1 (List.mem_of_mem_take hx); rfl
          try refine And.intro (by first | omega | rfl) ?_
          refine hK _ _ fun σ34 hσ H34 hH => ?_
          clear hK K hFF0
          obtain ⟨h1_34, h3_34, h4_34, h5_34, h7_34, h8_34⟩ := fs6 hσ 1 3 4 5 7 8
          simp [h1_32, h3_32, h4_32, h5_32, h7_32] at h1_34 h3_34 h4_34 h5_34 h7_34 h8_34
          clear hσ
          have g0_34 := gt_of hH 0
          have g1_34 := gt_of hH 1
          have gm8_34 := gt_of hH m8
          have gm33_34 := gt_of hH m33
          simp [g0_25, g1_25, gm8_25, hn_m33, hst_25, nx1, nx2, hp0, beq_eq_false_iff_ne.2 hp0, nx15, nx16, nx17] at g0_34 g1_34 gm8_34 gm33_34
          have hst_34 := congrArg AHeap.st hH
          simp [hst_25] at hst_34
          have kk : ∀ j, H25.get j ≠ none → H34.get j = H25.get j := fun j hj => by
           rw [hH]; have hjm : ¬ j = m33 := by { intro e; rw [e, hf_m33_0] at hj; exact hj rfl }
           simp [hn_m33, hst_25, hjm]
          clear hH
          have t3b := t3.keep kk
          have t4b : ∀ j, Hd.get j ≠ none → H34.get j = Hd.get j := fun j hj => by rw [kk j (by rw [t4 j hj]; exact hj), t4 j hj]
          have hrc2 : rcand g i k = (i : Int) :: pp.dropLast := by rw [hrce, if_neg (by intro h; rw [h] at hq; cases hq)]
          have hdr : pp.dropLast = pp.take q := by rw [List.dropLast_eq_take, hq]; rfl
          rw [hdr] at hrc2
          have hcs : SlV (rcand g i k) (.sl m33 1 0 (1 + q)) H34 := ⟨m33, 1, [], by rw [hrc2]; simp [hq]; omega, by rw [hrc2, gm33_34]; simp [List.map_take]⟩
          have hcf := hcs.frz
          have hcl : (rcand g i k).length ≤ 1000000 := by rw [hrc2]; simp; omega
          have hcn : rcand g i k ≠ [] := by rw [hrc2]; simp
          refine awp_seq ?_
          by_cases c6 : (k : Int) = i
          ·skip
           refine stp_reg TT_ok (by rfl) fun K hK => ?_
           simp [h4_34, h7_34, g0_34, g1_34, gm8_34, gm33_34, nx1, nx2, hp0, beq_eq_false_iff_ne.2 hp0, nx15, nx16, nx17, c6, beq_iff_eq.2 c6, encG]
           try refine And.intro (by first | omega | rfl) ?_
           refine hK _ _ fun σ35 hσ H35 hH => ?_
           clear hK K
           obtain ⟨h1_35, h3_35, h4_35, h5_35, h7_35, h8_35, h88_35⟩ := fs7 hσ 1 3 4 5 7 8 88
           simp [h1_34, h3_34, h4_34, h5_34, h7_34, h8_34] at h1_35 h3_35 h4_35 h5_35 h7_35 h8_35 h88_35
           clear hσ
           replace hH : H34 = H35 := Eq.symm hH
           subst hH
           refine stp_true (by simp [aeval_tmp, h88_35, nx1, nx2, hp0, beq_eq_false_iff_ne.2 hp0, nx15, nx16, nx17, c6, beq_iff_eq.2 c6, encG]) ?_
           refine awp_ok fun hok => ?_
           obtain ⟨m36, hn_m36⟩ : ∃ m, H34.n = m := ⟨_, rfl⟩
           have hf_m36_0 := hok.free 0
           simp [hn_m36, hst_34] at hf_m36_0
           have nx18 := ne_get hf_m36_0 g0_34
           have nx19 := ne_get hf_m36_0 g1_34
           have nx20 := ne_get hf_m36_0 gm8_34
           have nx21 := ne_get hf_m36_0 gm33_34
           refine stp_regl TT_ok (by rfl) fun K hK => ?_
           simp [h4_35, g0_34, g1_34, gm8_34, gm33_34, hn_m36, hst_34, nx1, nx2, hp0, beq_eq_false_iff_ne.2 hp0, nx15, nx16, nx17, c6, beq_iff_eq.2 c6, nx18, nx19, nx20, nx21, encG]
           try refine And.intro (by first | omega | rfl) ?_
           refine hK _ _ fun σ37 hσ H37 hH => ?_
           clear hK K
           obtain ⟨h1_37, h3_37, h4_37, h5_37, h7_37, h8_37⟩ := fs6 hσ 1 3 4 5 7 8
           simp [h1_35, h3_35, h4_35, h5_35, h7_35] at h1_37 h3_37 h4_37 h5_37 h7_37 h8_37
           clear hσ
           have g0_37 := gt_of hH 0
           have g1_37 := gt_of hH 1
           have gm8_37 := gt_of hH m8
           have gm33_37 := gt_of hH m33
           have gm36_37 := gt_of hH m36
           simp [g0_34, g1_34, gm8_34, gm33_34, hn_m36, hst_34, nx1, nx2, hp0, beq_eq_false_iff_ne.2 hp0, nx15, nx16, nx17, c6, beq_iff_eq.2 c6, nx18, nx19, nx20, nx21] at g0_37 g1_37 gm8_37 gm33_37 gm36_37
           have hst_37 := congrArg AHeap.st hH
           simp [hst_34] at hst_37
           have kk2 : ∀ j, H34.get j ≠ none → H37.get j = H34.get j := fun j hj => by
            rw [hH]; have hjm : ¬ j = m36 := by { intro e; rw [e, hf_m36_0] at hj; exact hj rfl }
            simp [hn_m36, hst_34, hjm]
           clear hH
           have t3b := t3b.keep kk2
           have t4b : ∀ j, Hd.get j ≠ none → H37.get j = Hd.get j := fun j hj => by rw [kk2 j (by rw [t4b j hj]; exact hj), t4b j hj]
           have hci : rcand g i k = [(i : Int)] := by
            have hki : k = i := by omega
            subst hki
            have hs2 : (g.sub k).path k k = [(k : Int)] := path_self25 (exist_iff.2 ⟨fun x hx => by simp at hx; subst hx; exact ⟨by omega, by simp [Gr.sub]; omega⟩, sub_valid hv k⟩)
            rw [rcand, if_pos hed, hs2]; rfl
           have hcf : Frz H37 (.sl m36 0 0 1) (.ro ((rcand g i k).map (AV.int IntKind.i64))) := by rw [hci]; exact frz_ints (xs := [(i : Int)]) (by rw [gm36_37]; rfl) rfl
           have hcs : SlV (rcand g i k) (.sl m36 0 0 1) H37 := ⟨m36, 0, [], by rw [hci]; rfl, by rw [hci, gm36_37]; rfl⟩
           have hcl : (rcand g i k).length ≤ 1000000 := by rw [hci]; simp
           have hcn : rcand g i k ≠ [] := by rw [hci]; simp
           refine q_seq ?_
           by_cases z1 : (b.length : Int) = 0
           ·skip
            obtain ⟨id, gn, rest, rfl, hb⟩ := t3b
            ·skip
             refine stp_reg TT_ok (by rfl) fun K hK => ?_
             simp [h3_37, h8_37, g0_37, g1_37, gm8_37, gm33_37, gm36_37, nx1, nx2, hp0, beq_eq_false_iff_ne.2 hp0, nx15, nx16, nx17, c6, beq_iff_eq.2 c6, nx18, nx19, nx20, nx21, z1, beq_iff_eq.2 z1, encG]
             try refine And.intro (by first | omega | rfl) ?_
             refine hK _ _ fun σ38 hσ H38 hH => ?_
             clear hK K
             obtain ⟨h1_38, h3_38, h4_38, h5_38, h7_38, h8_38, h98_38⟩ := fs7 hσ 1 3 4 5 7 8 98
             simp [h1_37, h3_37, h4_37, h5_37, h7_37, h8_37] at h1_38 h3_38 h4_38 h5_38 h7_38 h8_38 h98_38
             clear hσ
             replace hH : H37 = H38 := Eq.symm hH
             subst hH
             refine stp_true (by simp [aeval_tmp, h98_38, nx1, nx2, hp0, beq_eq_false_iff_ne.2 hp0, nx15, nx16, nx17, c6, beq_iff_eq.2 c6, nx18, nx19, nx20, nx21, z1, beq_iff_eq.2 z1, encG]) ?_
             refine stp_regl TT_ok (by rfl) fun K hK => ?_
             simp [h8_38, g0_37, g1_37, gm8_37, gm33_37, gm36_37, nx1, nx2, hp0, beq_eq_false_iff_ne.2 hp0, nx15, nx16, nx17, c6, beq_iff_eq.2 c6, nx18, nx19, nx20, nx21, z1, beq_iff_eq.2 z1, encG]
             try refine And.intro (by first | omega | rfl) ?_
             refine hK _ _ fun σ39 hσ H39 hH => ?_
             clear hK K
             obtain ⟨h1_39, h3_39, h4_39, h5_39, h7_39⟩ := fs5 hσ 1 3 4 5 7
             simp [h1_38, h4_38, h5_38, h7_38] at h1_39 h3_39 h4_39 h5_39 h7_39
             clear hσ
             replace hH : H37 = H39 := Eq.symm hH
             subst hH
             refine q_block ?_
             refine q_seq ?_
             refine stp_regl TT_ok (by rfl) fun K hK => ?_
             simp [h7_39, g0_37, g1_37, gm8_37, gm33_37, gm36_37, nx1, nx2, hp0, beq_eq_false_iff_ne.2 hp0, nx15, nx16, nx17, c6, beq_iff_eq.2 c6, nx18, nx19, nx20, nx21, z1, beq_iff_eq.2 z1, encG, wrap_ok (n := (k : Int) + 1) (by omega) (by omega), wrap_ok (n := (i : Int) + 1) (by omega) (by omega)]
             try refine And.intro (by first | omega | rfl) ?_
             refine hK _ _ fun σ40 hσ H40 hH => ?_
             clear hK K
             obtain ⟨h1_40, h3_40, h4_40, h5_40, h7_40⟩ := fs5 hσ 1 3 4 5 7
             simp [h1_39, h3_39, h4_39, h5_39] at h1_40 h3_40 h4_40 h5_40 h7_40
             clear hσ
             replace hH : H37 = H40 := Eq.symm hH
             subst hH
             refine ⟨_, ?_, k + 1, rcand g i k, .sl m36 0 0 1, rfl, (h1_40.trans h1_24.symm), (by simp [h3_40, c6]), (h4_40.trans h4_24.symm), (h5_40.trans h5_24.symm), (by simp [h7_40, c6]), (g0_37.trans g0_11.symm), (g1_37.trans g1_11.symm), (gm8_37.trans gm8_11.symm), (hst_37.trans hst_11.symm), ?_, ?_, ?_, ?_⟩
             ·subst hn3; omega
             ·first | omega | assumption | (simp; done)
             ·rw [hri, rc1, if_neg hcn, if_pos (by first | exact .inl (List.eq_nil_of_length_eq_zero (by omega)) | exact .inr hc98)]
             ·exact hcs
             ·exact t4b
           ·skip
            obtain ⟨id, gn, rest, rfl, hb⟩ := t3b
            ·skip
             have hbl : b.length ≤ 1000000 := by
              rw [t2]
              have := rcI_len25 g i (rcyc_len25 g i) (k - i)
              omega
             have hFF0 := an22 h3_37 h8_37 g0_37 g1_37 gm8_37 gm33_37 gm36_37 nx1 nx2 hp0 (beq_eq_false_iff_ne.2 hp0) nx15 nx16 nx17 c6 (beq_iff_eq.2 c6) nx18 nx19 nx20 nx21 z1 (beq_eq_false_iff_ne.2 z1)
             refine stp_reg TT_ok (by rfl) fun K hK => ?_
             simp [hFF0, encG]
             try refine And.intro (by first | omega | rfl) ?_
             refine FunW.at (less_w (rcand g i k) b hcl hbl) ?hf ?_
             case hf => exact FrzL.cons hcf (FrzL.cons (SlV.frz ⟨id, gn, rest, rfl, hb⟩) (FrzL.nil _))
             simp [hFF0, encG]
             try refine And.intro (by first | omega | rfl) ?_
             refine hK _ _ fun σ41 hσ H41 hH => ?_
             clear hK K hFF0
             obtain ⟨h1_41, h3_41, h4_41, h5_41, h7_41, h8_41, h98_41⟩ := fs7 hσ 1 3 4 5 7 8 98
             simp [h1_37, h3_37, h4_37, h5_37, h7_37, h8_37] at h1_41 h3_41 h4_41 h5_41 h7_41 h8_41 h98_41
             clear hσ
             replace hH : H37 = H41 := Eq.symm hH
             subst hH
             refine awp_cond _ (by simp only [aeval_tmp]; exact h98_41) (fun hc98 => ?_) (fun hc98 => ?_)
             ·try simp at hc98
              refine stp_regl TT_ok (by rfl) fun K hK => ?_
              simp [h8_41, g0_37, g1_37, gm8_37, gm33_37, gm36_37, nx1, nx2, hp0, beq_eq_false_iff_ne.2 hp0, nx15, nx16, nx17, c6, beq_iff_eq.2 c6, nx18, nx19, nx20, nx21, z1, beq_eq_false_iff_ne.2 z1, encG]
              try refine And.intro (by first | omega | rfl) ?_
              refine hK _ _ fun σ42 hσ H42 hH => ?_
              clear hK K
              obtain ⟨h1_42, h3_42, h4_42, h5_42, h7_42⟩ := fs5 hσ 1 3 4 5 7
              simp [h1_41, h4_41, h5_41, h7_41] at h1_42 h3_42 h4_42 h5_42 h7_42
              clear hσ
              replace hH : H37 = H42 := Eq.symm hH
              subst hH
              refine q_block ?_
              refine q_seq ?_
              refine stp_regl TT_ok (by rfl) fun K hK => ?_
              simp [h7_42, g0_37, g1_37, gm8_37, gm33_37, gm36_37, nx1, nx2, hp0, beq_eq_false_iff_ne.2 hp0, nx15, nx16, nx17, c6, beq_iff_eq.2 c6, nx18, nx19, nx20, nx21, z1, beq_eq_false_iff_ne.2 z1, encG, wrap_ok (n := (k : Int) + 1) (by omega) (by omega), wrap_ok (n := (i : Int) + 1) (by omega) (by omega)]
              try refine And.intro (by first | omega | rfl) ?_
              refine hK _ _ fun σ43 hσ H43 hH => ?_
              clear hK K
              obtain ⟨h1_43, h3_43, h4_43, h5_43, h7_43⟩ := fs5 hσ 1 3 4 5 7
              simp [h1_42, h3_42, h4_42, h5_42] at h1_43 h3_43 h4_43 h5_43 h7_43
              clear hσ
              replace hH : H37 = H43 := Eq.symm hH
              subst hH
              refine ⟨_, ?_, k + 1, rcand g i k, .sl m36 0 0 1, rfl, (h1_43.trans h1_24.symm), (by simp [h3_43, c6]), (h4_43.trans h4_24.symm), (h5_43.trans h5_24.symm), (by simp [h7_43, c6]), (g0_37.trans g0_11.symm), (g1_37.trans g1_11.symm), (gm8_37.trans gm8_11.symm), (hst_37.trans hst_11.symm), ?_, ?_, ?_, ?_⟩
              ·subst hn3; omega
              ·first | omega | assumption | (simp; done)
              ·rw [hri, rc1, if_neg hcn, if_pos (by first | exact .inl (List.eq_nil_of_length_eq_zero (by omega)) | exact .inr hc98)]
              ·exact hcs
              ·exact t4b
             ·try simp at hc98
              refine awp_skip ?_
              refine q_block ?_
              refine q_seq ?_
              refine stp_regl TT_ok (by rfl) fun K hK => ?_
              simp [h7_41, g0_37, g1_37, gm8_37, gm33_37, gm36_37, nx1, nx2, hp0, beq_eq_false_iff_ne.2 hp0, nx15, nx16, nx17, c6, beq_iff_eq.2 c6, nx18, nx19, nx20, nx21, z1, beq_eq_false_iff_ne.2 z1, encG, wrap_ok (n := (k : Int) + 1) (by omega) (by omega), wrap_ok (n := (i : Int) + 1) (by omega) (by omega)]
              try refine And.intro (by first | omega | rfl) ?_
              refine hK _ _ fun σ44 hσ H44 hH => ?_
              clear hK K
              obtain ⟨h1_44, h3_44, h4_44, h5_44, h7_44⟩ := fs5 hσ 1 3 4 5 7
              simp [h1_41, h3_41, h4_41, h5_41] at h1_44 h3_44 h4_44 h5_44 h7_44
              clear hσ
              replace hH : H37 = H44 := Eq.symm hH
              subst hH
              refine ⟨_, ?_, k + 1, b, .sl id gn 0 b.length, rfl, (h1_44.trans h1_24.symm), (by simp [h3_44, c6]), (h4_44.trans h4_24.symm), (h5_44.trans h5_24.symm), (by simp [h7_44, c6]), (g0_37.trans g0_11.symm), (g1_37.trans g1_11.symm), (gm8_37.trans gm8_11.symm), (hst_37.trans hst_11.symm), ?_, ?_, ?_, ?_⟩
              ·subst hn3; omega
              ·first | omega | assumption | (simp; done)
              ·rw [hri, rc1, if_neg hcn, if_neg (by rintro (h | h); exact z1 (by rw [h]; rfl); rw [h] at hc98; cases hc98)]
              ·exact ⟨id, gn, rest, rfl, hb⟩
              ·exact t4b
          ·skip
           refine stp_reg TT_ok (by rfl) fun K hK => ?_
           simp [h4_34, h7_34, g0_34, g1_34, gm8_34, gm33_34, nx1, nx2, hp0, beq_eq_false_iff_ne.2 hp0, nx15, nx16, nx17, c6, beq_eq_false_iff_ne.2 c6, encG]
           try refine And.intro (by first | omega | rfl) ?_
           refine hK _ _ fun σ45 hσ H45 hH => ?_
           clear hK K
           obtain ⟨h1_45, h3_45, h4_45, h5_45, h7_45, h8_45, h88_45⟩ := fs7 hσ 1 3 4 5 7 8 88
           simp [h1_34, h3_34, h4_34, h5_34, h7_34, h8_34] at h1_45 h3_45 h4_45 h5_45 h7_45 h8_45 h88_45
           clear hσ
           replace hH : H34 = H45 := Eq.symm hH
           subst hH
           refine stp_false (by simp [aeval_tmp, h88_45, nx1, nx2, hp0, beq_eq_false_iff_ne.2 hp0, nx15, nx16, nx17, c6, beq_eq_false_iff_ne.2 c6, encG]) ?_
           refine awp_skip ?_
           refine q_seq ?_
           by_cases z1 : (b.length : Int) = 0
           ·skip
            obtain ⟨id, gn, rest, rfl, hb⟩ := t3b
            ·skip
             refine stp_reg TT_ok (by rfl) fun K hK => ?_
             simp [h3_45, h8_45, g0_34, g1_34, gm8_34, gm33_34, nx1, nx2, hp0, beq_eq_false_iff_ne.2 hp0, nx15, nx16, nx17, c6, beq_eq_false_iff_ne.2 c6, z1, beq_iff_eq.2 z1, encG]
             try refine And.intro (by first | omega | rfl) ?_
             refine hK _ _ fun σ46 hσ H46 hH => ?_
             clear hK K
             obtain ⟨h1_46, h3_46, h4_46, h5_46, h7_46, h8_46, h98_46⟩ := fs7 hσ 1 3 4 5 7 8 98
             simp [h1_45, h3_45, h4_45, h5_45, h7_45, h8_45] at h1_46 h3_46 h4_46 h5_46 h7_46 h8_46 h98_46
             clear hσ
             replace hH : H34 = H46 := Eq.symm hH
             subst hH
             refine stp_true (by simp [aeval_tmp, h98_46, nx1, nx2, hp0, beq_eq_false_iff_ne.2 hp0, nx15, nx16, nx17, c6, beq_eq_false_iff_ne.2 c6, z1, beq_iff_eq.2 z1, encG]) ?_
             refine stp_regl TT_ok (by rfl) fun K hK => ?_
             simp [h8_46, g0_34, g1_34, gm8_34, gm33_34, nx1, nx2, hp0, beq_eq_false_iff_ne.2 hp0, nx15, nx16, nx17, c6, beq_eq_false_iff_ne.2 c6, z1, beq_iff_eq.2 z1, encG]
             try refine And.intro (by first | omega | rfl) ?_
             refine hK _ _ fun σ47 hσ H47 hH => ?_
             clear hK K
             obtain ⟨h1_47, h3_47, h4_47, h5_47, h7_47⟩ := fs5 hσ 1 3 4 5 7
             simp [h1_46, h4_46, h5_46, h7_46] at h1_47 h3_47 h4_47 h5_47 h7_47
             clear hσ
             replace hH : H34 = H47 := Eq.symm hH
             subst hH
             refine q_block ?_
             refine q_seq ?_
             refine stp_regl TT_ok (by rfl) fun K hK => ?_
             simp [h7_47, g0_34, g1_34, gm8_34, gm33_34, nx1, nx2, hp0, beq_eq_false_iff_ne.2 hp0, nx15, nx16, nx17, c6, beq_eq_false_iff_ne.2 c6, z1, beq_iff_eq.2 z1, encG, wrap_ok (n := (k : Int) + 1) (by omega) (by omega), wrap_ok (n := (i : Int) + 1) (by omega) (by omega)]
             try refine And.intro (by first | omega | rfl) ?_
             refine hK _ _ fun σ48 hσ H48 hH => ?_
             clear hK K
             obtain ⟨h1_48, h3_48, h4_48, h5_48, h7_48⟩ := fs5 hσ 1 3 4 5 7
             simp [h1_47, h3_47, h4_47, h5_47] at h1_48 h3_48 h4_48 h5_48 h7_48
             clear hσ
             replace hH : H34 = H48 := Eq.symm hH
             subst hH
             refine ⟨_, ?_, k + 1, rcand g i k, .sl m33 1 0 (1 + q), rfl, (h1_48.trans h1_24.symm), (by simp [h3_48, c6]), (h4_48.trans h4_24.symm), (h5_48.trans h5_24.symm), (by simp [h7_48, c6]), (g0_34.trans g0_11.symm), (g1_34.trans g1_11.symm), (gm8_34.trans gm8_11.symm), (hst_34.trans hst_11.symm), ?_, ?_, ?_, ?_⟩
             ·subst hn3; omega
             ·first | omega | assumption | (simp; done)
             ·rw [hri, rc1, if_neg hcn, if_pos (by first | exact .inl (List.eq_nil_of_length_eq_zero (by omega)) | exact .inr hc98)]
             ·exact hcs
             ·exact t4b
           ·skip
            obtain ⟨id, gn, rest, rfl, hb⟩ := t3b
            ·skip
             have hbl : b.length ≤ 1000000 := by
              rw [t2]
              have := rcI_len25 g i (rcyc_len25 g i) (k - i)
              omega
             have hFF0 := an17 h3_45 h8_45 g0_34 g1_34 gm8_34 gm33_34 nx1 nx2 hp0 (beq_eq_false_iff_ne.2 hp0) nx15 nx16 nx17 c6 (beq_eq_false_iff_ne.2 c6) z1 (beq_eq_false_iff_ne.2 z1)
             refine stp_reg TT_ok (by rfl) fun K hK => ?_
             simp [hFF0, encG]
             try refine And.intro (by first | omega | rfl) ?_
             refine FunW.at (less_w (rcand g i k) b hcl hbl) ?hf ?_
             case hf => exact FrzL.cons hcf (FrzL.cons (SlV.frz ⟨id, gn, rest, rfl, hb⟩) (FrzL.nil _))
             simp [hFF0, encG]
             try refine And.intro (by first | omega | rfl) ?_
             refine hK _ _ fun σ49 hσ H49 hH => ?_
             clear hK K hFF0
             obtain ⟨h1_49, h3_49, h4_49, h5_49, h7_49, h8_49, h98_49⟩ := fs7 hσ 1 3 4 5 7 8 98
             simp [h1_45, h3_45, h4_45, h5_45, h7_45, h8_45] at h1_49 h3_49 h4_49 h5_49 h7_49 h8_49 h98_49
             clear hσ
             replace hH : H34 = H49 := Eq.symm hH
             subst hH
             refine awp_cond _ (by simp only [aeval_tmp]; exact h98_49) (fun hc98 => ?_) (fun hc98 => ?_)
             ·try simp at hc98
              refine stp_regl TT_ok (by rfl) fun K hK => ?_
              simp [h8_49, g0_34, g1_34, gm8_34, gm33_34, nx1, nx2, hp0, beq_eq_false_iff_ne.2 hp0, nx15, nx16, nx17, c6, beq_eq_false_iff_ne.2 c6, z1, beq_eq_false_iff_ne.2 z1, encG]
              try refine And.intro (by first | omega | rfl) ?_
              refine hK _ _ fun σ50 hσ H50 hH => ?_
              clear hK K
              obtain ⟨h1_50, h3_50, h4_50, h5_50, h7_50⟩ := fs5 hσ 1 3 4 5 7
              simp [h1_49, h4_49, h5_49, h7_49] at h1_50 h3_50 h4_50 h5_50 h7_50
              clear hσ
              replace hH : H34 = H50 := Eq.symm hH
              subst hH
              refine q_block ?_
              refine q_seq ?_
              refine stp_regl TT_ok (by rfl) fun K hK => ?_
              simp [h7_50, g0_34, g1_34, gm8_34, gm33_34, nx1, nx2, hp0, beq_eq_false_iff_ne.2 hp0, nx15, nx16, nx17, c6, beq_eq_false_iff_ne.2 c6, z1, beq_eq_false_iff_ne.2 z1, encG, wrap_ok (n := (k : Int) + 1) (by omega) (by omega), wrap_ok (n := (i : Int) + 1) (by omega) (by omega)]
              try refine And.intro (by first | omega | rfl) ?_
              refine hK _ _ fun σ51 hσ H51 hH => ?_
              clear hK K
              obtain ⟨h1_51, h3_51, h4_51, h5_51, h7_51⟩ := fs5 hσ 1 3 4 5 7
              simp [h1_50, h3_50, h4_50, h5_50] at h1_51 h3_51 h4_51 h5_51 h7_51
              clear hσ
              replace hH : H34 = H51 := Eq.symm hH
              subst hH
              refine ⟨_, ?_, k + 1, rcand g i k, .sl m33 1 0 (1 + q), rfl, (h1_51.trans h1_24.symm), (by simp [h3_51, c6]), (h4_51.trans h4_24.symm), (h5_51.trans h5_24.symm), (by simp [h7_51, c6]), (g0_34.trans g0_11.symm), (g1_34.trans g1_11.symm), (gm8_34.trans gm8_11.symm), (hst_34.trans hst_11.symm), ?_, ?_, ?_, ?_⟩
              ·subst hn3; omega
              ·first | omega | assumption | (simp; done)
              ·rw [hri, rc1, if_neg hcn, if_pos (by first | exact .inl (List.eq_nil_of_length_eq_zero (by omega)) | exact .inr hc98)]
              ·exact hcs
              ·exact t4b
             ·try simp at hc98
              refine awp_skip ?_
              refine q_block ?_
              refine q_seq ?_
              refine stp_regl TT_ok (by rfl) fun K hK => ?_
              simp [h7_49, g0_34, g1_34, gm8_34, gm33_34, nx1, nx2, hp0, beq_eq_false_iff_ne.2 hp0, nx15, nx16, nx17, c6, beq_eq_false_iff_ne.2 c6, z1, beq_eq_false_iff_ne.2 z1, encG, wrap_ok (n := (k : Int) + 1) (by omega) (by omega), wrap_ok (n := (i : Int) + 1) (by omega) (by omega)]
              try refine And.intro (by first | omega | rfl) ?_
              refine hK _ _ fun σ52 hσ H52 hH => ?_
              clear hK K
              obtain ⟨h1_52, h3_52, h4_52, h5_52, h7_52⟩ := fs5 hσ 1 3 4 5 7
              simp [h1_49, h3_49, h4_49, h5_49] at h1_52 h3_52 h4_52 h5_52 h7_52
              clear hσ
              replace hH : H34 = H52 := Eq.symm hH
              subst hH
              refine ⟨_, ?_, k + 1, b, .sl id gn 0 b.length, rfl, (h1_52.trans h1_24.symm), (by simp [h3_52, c6]), (h4_52.trans h4_24.symm), (h5_52.trans h5_24.symm), (by simp [h7_52, c6]), (g0_34.trans g0_11.symm), (g1_34.trans g1_11.symm), (gm8_34.trans gm8_11.symm), (hst_34.trans hst_11.symm), ?_, ?_, ?_, ?_⟩
              ·subst hn3; omega
              ·first | omega | assumption | (simp; done)
              ·rw [hri, rc1, if_neg hcn, if_neg (by rintro (h | h); exact z1 (by rw [h]; rfl); rw [h] at hc98; cases hc98)]
              ·exact ⟨id, gn, rest, rfl, hb⟩
              ·exact t4b
       ·try simp at hc63
        have hke2 : k = g.nodes.length := by have := hc63; omega
        rw [hke2, ← rcyc_succ] at t2
        rw [t2] at t3
        refine awp_exit ?_
        refine q_seq_exit ?_
        refine q_loop_exit ?_
        refine q_block_hit ?_
        refine q_block ?_
        refine q_seq ?_
        refine stp_regl TT_ok (by rfl) fun K hK => ?_
        simp [h4_26, g0_25, g1_25, gm8_25, nx1, nx2, encG, wrap_ok (n := (i : Int) + 1) (by omega) (by omega)]
        try refine And.intro (by first | omega | rfl) ?_
        refine hK _ _ fun σ53 hσ H53 hH => ?_
        clear hK K
        obtain ⟨h1_53, h3_53, h4_53⟩ := fs3 hσ 1 3 4
        simp [h1_26, h3_26] at h1_53 h3_53 h4_53
        clear hσ
        replace hH : H25 = H53 := Eq.symm hH
        subst hH
        refine ⟨_, ?_, i + 1, bv, rfl, (h1_53.trans h1_5.symm), (by simp [h3_53]), (by simp [h4_53]), (g0_25.trans g0_4.symm), (g1_25.trans g1_4.symm), (hst_25.trans hst_4.symm), ?_, ?_⟩
        ·subst hn1; omega
        ·first | omega | assumption | (simp; done)
        ·exact t3
   ·try simp at hc17
    refine awp_exit ?_
    refine q_seq_exit ?_
    refine q_loop_exit ?_
    refine q_block_hit ?_
    refine q_seq ?_
    refine stp_reg TT_ok (by rfl) fun K hK => ?_
    simp [h3_7, g0_6, g1_6, encG]
    try refine And.intro (by first | omega | rfl) ?_
    refine hK _ _ fun σ54 hσ H54 hH => ?_
    clear hK K
    have h2_54 := congrFun hσ 2
    simp [] at h2_54
    clear hσ
    replace hH : H6 = H54 := Eq.symm hH
    subst hH
    refine awp_ret ?_
    have hie : i = g.nodes.length := by have := hc17; omega
    rw [hie, rcyc_eq hv _ (Nat.le_refl _)] at p2
    refine q_fin1 h2_54 ?_
    have e : g.pcycle = g.pcyc g.nodes.length := by simp [Gr.pcycle, hv]
    rw [e]; exact p2.frz
theorem refCycle_ok (g : Gr) : Fun1 Try.prog 22 [encG g] (.ro (g.pcycle.map (AV.int IntKind.i64))) := fun1_frz (refCyc0 g) (pu_cons (pu_graph g) pu_nil) (pu_ints _)
theorem pcyc_len (g : Gr) (hv : g.valid = true) : g.pcycle.length ≤ g.nodes.length + 1 := by
 rw [Gr.pcycle, if_pos hv, ← rcyc_eq hv _ (Nat.le_refl _)]
 exact rcyc_len25 g _
end Go.Proofs.Yteifhcohmipdcaa

namespace Go.Proofs.Yteifhcohmipdcaa
open Go.Abs
set_option linter.unusedSimpArgs false
set_option linter.unusedVariables false
theorem bytes_ext {a b : ByteArray} (h : a.toList = b.toList) : a = b := by
 rw [ByteArray.toList_eq, ByteArray.toList_eq] at h
 exact ByteArray.ext (Array.ext' h)
set_option maxHeartbeats 1000000 in
theorem equalS0 (xs ys : List ByteArray) (hx : xs.length ≤ 1000000) : ACalls Try.prog 23 [.ro (xs.map AV.str), .ro (ys.map AV.str)] AHeap.nil (fun r _ => r = .bool (decide (xs = ys))) := by
 refine acalls_body TT_ok Try.func23 rfl rfl (by simp [Try.ntmps23]) ?_
 rw [Try.ntmps23]
 obtain ⟨σ, hσ⟩ : ∃ σ, σ = st0 [.ro (xs.map AV.str), .ro (ys.map AV.str)] := ⟨_, rfl⟩
 rw [← hσ]
 obtain ⟨h0_0, h1_0⟩ := fs2 hσ 0 1
 simp [st0] at h0_0 h1_0
 clear hσ
 obtain ⟨H, hH⟩ : ∃ H, H = AHeap.nil := ⟨_, rfl⟩
 rw [← hH]
 have hn_0 : H.n = 0 := by rw [hH]; rfl
 have hst_0 : H.st = 1 := by rw [hH]; rfl
 clear hH
 refine stp_reg TT_ok (by rfl) fun K hK => ?_
 simp []
 try refine And.intro (by first | omega | rfl) ?_
 refine hK _ _ fun σ1 hσ H1 hH => ?_
 clear hK K
 obtain ⟨h0_1, h1_1⟩ := fs2 hσ 0 1
 simp [h0_0, h1_0] at h0_1 h1_1
 clear hσ
 replace hH : H = H1 := Eq.symm hH
 subst hH
 refine awp_seq ?_
 refine stp_reg TT_ok (by rfl) fun K hK => ?_
 simp [h0_1, h1_1]
 try refine And.intro (by first | omega | rfl) ?_
 refine hK _ _ fun σ2 hσ H2 hH => ?_
 clear hK K
 obtain ⟨h0_2, h1_2, h10_2⟩ := fs3 hσ 0 1 10
 simp [h0_1, h1_1] at h0_2 h1_2 h10_2
 clear hσ
 replace hH : H = H2 := Eq.symm hH
 subst hH
 refine awp_cond _ (by simp only [aeval_tmp]; exact h10_2) (fun hc10 => ?_) (fun hc10 => ?_)
 ·try simp at hc10
  refine stp_reg TT_ok (by rfl) fun K hK => ?_
  simp []
  try refine And.intro (by first | omega | rfl) ?_
  refine hK _ _ fun σ3 hσ H3 hH => ?_
  clear hK K
  have h4_3 := congrFun hσ 4
  simp [] at h4_3
  clear hσ
  replace hH : H = H3 := Eq.symm hH
  subst hH
  refine awp_ret ?_
  refine q_seq_ret ?_
  refine q_fin1 h4_3 ?_
  simp; intro h; exact hc10 (by rw [h])
 ·try simp at hc10
  have hxy : xs.length = ys.length := by exact_mod_cast hc10
  refine awp_skip ?_
  refine q_seq ?_
  refine awp_seq ?_
  refine stp_reg TT_ok (by rfl) fun K hK => ?_
  simp [h0_2]
  try refine And.intro (by first | omega | rfl) ?_
  refine hK _ _ fun σ4 hσ H4 hH => ?_
  clear hK K
  obtain ⟨h0_4, h1_4, h12_4, h13_4⟩ := fs4 hσ 0 1 12 13
  simp [h0_2, h1_2] at h0_4 h1_4 h12_4 h13_4
  clear hσ
  replace hH : H = H4 := Eq.symm hH
  subst hH
  refine awp_block ?_
  refine awp_loopV (fun n σ' H' => ∃ (i : Nat), n = xs.length - i ∧ σ' 0 = σ4 0 ∧ σ' 1 = σ4 1 ∧ σ' 12 = σ4 12 ∧ σ' 13 = .int .i64 i ∧ H' = H ∧ (i ≤ xs.length) ∧ (xs.take i = ys.take i)) ?_ ?_
  ·refine ⟨_, 0, rfl, rfl, rfl, rfl, (by simp [h13_4]), rfl, ?_, ?_⟩
   ·first | omega | (simp; done) | assumption
   ·first | omega | (simp; done) | assumption
  ·rintro n1 σ5 H5 ⟨i, hn1, q0_5, q1_5, q12_5, h13_5, hHq, p1, p2⟩
   have h0_5 := q0_5.trans h0_4
   have h1_5 := q1_5.trans h1_4
   have h12_5 := q12_5.trans h12_4
   replace hHq := hHq.symm
   subst hHq
   refine stp_reg TT_ok (by rfl) fun K hK => ?_
   simp [h12_5, h13_5]
   try refine And.intro (by first | omega | rfl) ?_
   refine hK _ _ fun σ6 hσ H6 hH => ?_
   clear hK K
   obtain ⟨h0_6, h1_6, h12_6, h13_6, h14_6⟩ := fs5 hσ 0 1 12 13 14
   simp [h0_5, h1_5, h12_5, h13_5] at h0_6 h1_6 h12_6 h13_6 h14_6
   clear hσ
   replace hH : H = H6 := Eq.symm hH
   subst hH
   refine awp_seq ?_
   refine awp_cond _ (by simp only [aeval_tmp]; exact h14_6) (fun hc14 => ?_) (fun hc14 => ?_)
   ·try simp at hc14
    have hlt : i < xs.length := by simpa using hc14
    have hlt2 : i < ys.length := by omega
    have hg1 : (xs.map AV.str)[i]? = some (AV.str xs[i]) := by simp [hlt]
    have hg2 : (ys.map AV.str)[i]? = some (AV.str ys[i]) := by simp [hlt2]
    refine awp_skip ?_
    refine q_seq ?_
    refine awp_seq ?_
    refine awp_block ?_
    refine stp_reg TT_ok (by rfl) fun K hK => ?_
    simp [h13_6]
    try refine And.intro (by first | omega | rfl) ?_
    refine hK _ _ fun σ7 hσ H7 hH => ?_
    clear hK K
    obtain ⟨h0_7, h1_7, h5_7, h12_7, h13_7⟩ := fs5 hσ 0 1 5 12 13
    simp [h0_6, h1_6, h12_6, h13_6] at h0_7 h1_7 h5_7 h12_7 h13_7
    clear hσ
    replace hH : H = H7 := Eq.symm hH
    subst hH
    refine stp_lex false TT_ok mixed (by rfl) (by rfl) (by kernel_rfl) (by rfl) fun U hU K hK => ?_
    simp [h0_7, h1_7, h5_7, hlt, hlt2, hg1, hg2]
    try refine And.intro (by first | omega | rfl) ?_
    refine hK _ _ _ (by subst hU; kernel_rfl) fun σ8 hσ H8 hH => ?_
    clear hK K hU U
    obtain ⟨h0_8, h1_8, h12_8, h13_8, h24_8⟩ := fs5 hσ 0 1 12 13 24
    simp [h0_7, h1_7, h12_7, h13_7] at h0_8 h1_8 h12_8 h13_8 h24_8
    clear hσ
    replace hH : H = H8 := Eq.symm hH
    subst hH
    refine awp_cond _ (by simp only [aeval_tmp]; exact h24_8) (fun hc24 => ?_) (fun hc24 => ?_)
    ·try simp at hc24
     have heq : ¬ xs[i] = ys[i] := fun e => hc24 (by rw [e])
     refine stp_reg TT_ok (by rfl) fun K hK => ?_
     simp []
     try refine And.intro (by first | omega | rfl) ?_
     refine hK _ _ fun σ9 hσ H9 hH => ?_
     clear hK K
     have h4_9 := congrFun hσ 4
     simp [] at h4_9
     clear hσ
     replace hH : H = H9 := Eq.symm hH
     subst hH
     refine awp_ret ?_
     refine q_block_ret ?_
     refine q_seq_ret ?_
     refine q_loop_ret ?_
     refine q_block_ret ?_
     refine q_seq_ret ?_
     refine q_fin1 h4_9 ?_
     simp; intro h; subst h; simp at heq
    ·try simp at hc24
     have heq : xs[i] = ys[i] := bytes_ext hc24
     refine awp_skip ?_
     refine q_block ?_
     refine q_seq ?_
     refine stp_regl TT_ok (by rfl) fun K hK => ?_
     simp [h13_8, wrap_ok (n := (i : Int) + 1) (by omega) (by omega)]
     try refine And.intro (by first | omega | rfl) ?_
     refine hK _ _ fun σ10 hσ H10 hH => ?_
     clear hK K
     obtain ⟨h0_10, h1_10, h12_10, h13_10⟩ := fs4 hσ 0 1 12 13
     simp [h0_8, h1_8, h12_8] at h0_10 h1_10 h12_10 h13_10
     clear hσ
     replace hH : H = H10 := Eq.symm hH
     subst hH
     refine ⟨_, ?_, i + 1, rfl, (h0_10.trans h0_4.symm), (h1_10.trans h1_4.symm), (h12_10.trans h12_4.symm), (by simp [h13_10]), rfl, ?_, ?_⟩
     ·subst hn1; omega
     ·first | omega | assumption | (simp; done)
     ·rw [List.take_succ_eq_append_getElem hlt, List.take_succ_eq_append_getElem hlt2, p2, heq]
   ·try simp at hc14
    refine awp_exit ?_
    refine q_seq_exit ?_
    refine q_loop_exit ?_
    refine q_block_hit ?_
    refine q_seq ?_
    refine stp_reg TT_ok (by rfl) fun K hK => ?_
    simp []
    try refine And.intro (by first | omega | rfl) ?_
    refine hK _ _ fun σ11 hσ H11 hH => ?_
    clear hK K
    have h4_11 := congrFun hσ 4
    simp [] at h4_11
    clear hσ
    replace hH : H = H11 := Eq.symm hH
    subst hH
    refine awp_ret ?_
    refine q_fin1 h4_11 ?_
    have : i = xs.length := by have := hc14; omega
    subst this; simp; rw [List.take_length, hxy, List.take_length] at p2; exact p2
theorem equalS_w (xs ys : List ByteArray) (hx : xs.length ≤ 1000000) : FunW Try.prog 23 [.ro (xs.map AV.str), .ro (ys.map AV.str)] (.bool (decide (xs = ys))) :=
 funW_pure (equalS0 xs ys hx) (pu_cons (.ro fun v hv => by obtain ⟨x, _, rfl⟩ := List.mem_map.1 hv; exact (fun s => Pu.str s) _) (pu_cons (.ro fun v hv => by obtain ⟨x, _, rfl⟩ := List.mem_map.1 hv; exact (fun s => Pu.str s) _) pu_nil)) (.bool _) (.bool _)
theorem equalS_ok (xs ys : List ByteArray) (hx : xs.length ≤ 1000000) : Fun1 Try.prog 23 [.ro (xs.map AV.str), .ro (ys.map AV.str)] (.bool (decide (xs = ys))) :=
 (equalS_w xs ys hx).fun1 (pu_cons (.ro fun v hv => by obtain ⟨x, _, rfl⟩ := List.mem_map.1 hv; exact (fun s => Pu.str s) _) (pu_cons (.ro fun v hv => by obtain ⟨x, _, rfl⟩ := List.mem_map.1 hv; exact (fun s => Pu.str s) _) pu_nil))
set_option maxHeartbeats 1000000 in
theorem equalE0 (xs ys : List (Int × Int)) (hx : xs.length ≤ 1000000) : ACalls Try.prog 24 [.ro (xs.map encE), .ro (ys.map encE)] AHeap.nil (fun r _ => r = .bool (decide (xs = ys))) := by
 refine acalls_body TT_ok Try.func24 rfl rfl (by simp [Try.ntmps24]) ?_
 rw [Try.ntmps24]
 obtain ⟨σ, hσ⟩ : ∃ σ, σ = st0 [.ro (xs.map encE), .ro (ys.map encE)] := ⟨_, rfl⟩
 rw [← hσ]
 obtain ⟨h0_0, h1_0⟩ := fs2 hσ 0 1
 simp [st0] at h0_0 h1_0
 clear hσ
 obtain ⟨H, hH⟩ : ∃ H, H = AHeap.nil := ⟨_, rfl⟩
 rw [← hH]
 have hn_0 : H.n = 0 := by rw [hH]; rfl
 have hst_0 : H.st = 1 := by rw [hH]; rfl
 clear hH
 refine stp_reg TT_ok (by rfl) fun K hK => ?_
 simp []
 try refine And.intro (by first | omega | rfl) ?_
 refine hK _ _ fun σ1 hσ H1 hH => ?_
 clear hK K
 obtain ⟨h0_1, h1_1⟩ := fs2 hσ 0 1
 simp [h0_0, h1_0] at h0_1 h1_1
 clear hσ
 replace hH : H = H1 := Eq.symm hH
 subst hH
 refine awp_seq ?_
 refine stp_reg TT_ok (by rfl) fun K hK => ?_
 simp [h0_1, h1_1]
 try refine And.intro (by first | omega | rfl) ?_
 refine hK _ _ fun σ2 hσ H2 hH => ?_
 clear hK K
 obtain ⟨h0_2, h1_2, h10_2⟩ := fs3 hσ 0 1 10
 simp [h0_1, h1_1] at h0_2 h1_2 h10_2
 clear hσ
 replace hH : H = H2 := Eq.symm hH
 subst hH
 refine awp_cond _ (by simp only [aeval_tmp]; exact h10_2) (fun hc10 => ?_) (fun hc10 => ?_)
 ·try simp at hc10
  refine stp_reg TT_ok (by rfl) fun K hK => ?_
  simp []
  try refine And.intro (by first | omega | rfl) ?_
  refine hK _ _ fun σ3 hσ H3 hH => ?_
  clear hK K
  have h4_3 := congrFun hσ 4
  simp [] at h4_3
  clear hσ
  replace hH : H = H3 := Eq.symm hH
  subst hH
  refine awp_ret ?_
  refine q_seq_ret ?_
  refine q_fin1 h4_3 ?_
  simp; intro h; exact hc10 (by rw [h])
 ·try simp at hc10
  have hxy : xs.length = ys.length := by exact_mod_cast hc10
  refine awp_skip ?_
  refine q_seq ?_
  refine awp_seq ?_
  refine stp_reg TT_ok (by rfl) fun K hK => ?_
  simp [h0_2]
  try refine And.intro (by first | omega | rfl) ?_
  refine hK _ _ fun σ4 hσ H4 hH => ?_
  clear hK K
  obtain ⟨h0_4, h1_4, h12_4, h13_4⟩ := fs4 hσ 0 1 12 13
  simp [h0_2, h1_2] at h0_4 h1_4 h12_4 h13_4
  clear hσ
  replace hH : H = H4 := Eq.symm hH
  subst hH
  refine awp_block ?_
  refine awp_loopV (fun n σ' H' => ∃ (i : Nat), n = xs.length - i ∧ σ' 0 = σ4 0 ∧ σ' 1 = σ4 1 ∧ σ' 12 = σ4 12 ∧ σ' 13 = .int .i64 i ∧ H' = H ∧ (i ≤ xs.length) ∧ (xs.take i = ys.take i)) ?_ ?_
  ·refine ⟨_, 0, rfl, rfl, rfl, rfl, (by simp [h13_4]), rfl, ?_, ?_⟩
   ·first | omega | (simp; done) | assumption
   ·first | omega | (simp; done) | assumption
  ·rintro n1 σ5 H5 ⟨i, hn1, q0_5, q1_5, q12_5, h13_5, hHq, p1, p2⟩
   have h0_5 := q0_5.trans h0_4
   have h1_5 := q1_5.trans h1_4
   have h12_5 := q12_5.trans h12_4
   replace hHq := hHq.symm
   subst hHq
   refine stp_reg TT_ok (by rfl) fun K hK => ?_
   simp [h12_5, h13_5]
   try refine And.intro (by first | omega | rfl) ?_
   refine hK _ _ fun σ6 hσ H6 hH => ?_
   clear hK K
   obtain ⟨h0_6, h1_6, h12_6, h13_6, h14_6⟩ := fs5 hσ 0 1 12 13 14
   simp [h0_5, h1_5, h12_5, h13_5] at h0_6 h1_6 h12_6 h13_6 h14_6
   clear hσ
   replace hH : H = H6 := Eq.symm hH
   subst hH
   refine awp_seq ?_
   refine awp_cond _ (by simp only [aeval_tmp]; exact h14_6) (fun hc14 => ?_) (fun hc14 => ?_)
   ·try simp at hc14
    have hlt : i < xs.length := by simpa using hc14
    have hlt2 : i < ys.length := by omega
    have hg1 : (xs.map encE)[i]? = some (encE xs[i]) := by simp [hlt]
    have hg2 : (ys.map encE)[i]? = some (encE ys[i]) := by simp [hlt2]
    refine awp_skip ?_
    refine q_seq ?_
    refine awp_seq ?_
    refine awp_block ?_
    refine stp_reg TT_ok (by rfl) fun K hK => ?_
    simp [h13_6]
    try refine And.intro (by first | omega | rfl) ?_
    refine hK _ _ fun σ7 hσ H7 hH => ?_
    clear hK K
    obtain ⟨h0_7, h1_7, h5_7, h12_7, h13_7⟩ := fs5 hσ 0 1 5 12 13
    simp [h0_6, h1_6, h12_6, h13_6] at h0_7 h1_7 h5_7 h12_7 h13_7
    clear hσ
    replace hH : H = H7 := Eq.symm hH
    subst hH
    refine stp_lex false TT_ok mixed (by rfl) (by rfl) (by kernel_rfl) (by rfl) fun U hU K hK => ?_
    simp [h0_7, h1_7, h5_7, hlt, hlt2, hg1, hg2, encE]
    try refine And.intro (by first | omega | rfl) ?_
    refine hK _ _ _ (by subst hU; kernel_rfl) fun σ8 hσ H8 hH => ?_
    clear hK K hU U
    obtain ⟨h0_8, h1_8, h12_8, h13_8, h24_8⟩ := fs5 hσ 0 1 12 13 24
    simp [h0_7, h1_7, h12_7, h13_7] at h0_8 h1_8 h12_8 h13_8 h24_8
    clear hσ
    replace hH : H = H8 := Eq.symm hH
    subst hH
    refine awp_cond _ (by simp only [aeval_tmp]; exact h24_8) (fun hc24 => ?_) (fun hc24 => ?_)
    ·try simp at hc24
     have heq : ¬ xs[i] = ys[i] := by intro e; rw [e] at hc24; simp at hc24
     refine stp_reg TT_ok (by rfl) fun K hK => ?_
     simp []
     try refine And.intro (by first | omega | rfl) ?_
     refine hK _ _ fun σ9 hσ H9 hH => ?_
     clear hK K
     have h4_9 := congrFun hσ 4
     simp [] at h4_9
     clear hσ
     replace hH : H = H9 := Eq.symm hH
     subst hH
     refine awp_ret ?_
     refine q_block_ret ?_
     refine q_seq_ret ?_
     refine q_loop_ret ?_
     refine q_block_ret ?_
     refine q_seq_ret ?_
     refine q_fin1 h4_9 ?_
     simp; intro h; subst h; simp at heq
    ·try simp at hc24
     have heq : xs[i] = ys[i] := Prod.ext hc24.1 hc24.2
     refine awp_skip ?_
     refine q_block ?_
     refine q_seq ?_
     refine stp_regl TT_ok (by rfl) fun K hK => ?_
     simp [h13_8, wrap_ok (n := (i : Int) + 1) (by omega) (by omega)]
     try refine And.intro (by first | omega | rfl) ?_
     refine hK _ _ fun σ10 hσ H10 hH => ?_
     clear hK K
     obtain ⟨h0_10, h1_10, h12_10, h13_10⟩ := fs4 hσ 0 1 12 13
     simp [h0_8, h1_8, h12_8] at h0_10 h1_10 h12_10 h13_10
     clear hσ
     replace hH : H = H10 := Eq.symm hH
     subst hH
     refine ⟨_, ?_, i + 1, rfl, (h0_10.trans h0_4.symm), (h1_10.trans h1_4.symm), (h12_10.trans h12_4.symm), (by simp [h13_10]), rfl, ?_, ?_⟩
     ·subst hn1; omega
     ·first | omega | assumption | (simp; done)
     ·rw [List.take_succ_eq_append_getElem hlt, List.take_succ_eq_append_getElem hlt2, p2, heq]
   ·try simp at hc14
    refine awp_exit ?_
    refine q_seq_exit ?_
    refine q_loop_exit ?_
    refine q_block_hit ?_
    refine q_seq ?_
    refine stp_reg TT_ok (by rfl) fun K hK => ?_
    simp []
    try refine And.intro (by first | omega | rfl) ?_
    refine hK _ _ fun σ11 hσ H11 hH => ?_
    clear hK K
    have h4_11 := congrFun hσ 4
    simp [] at h4_11
    clear hσ
    replace hH : H = H11 := Eq.symm hH
    subst hH
    refine awp_ret ?_
    refine q_fin1 h4_11 ?_
    have : i = xs.length := by have := hc14; omega
    subst this; simp; rw [List.take_length, hxy, List.take_length] at p2; exact p2
theorem equalE_w (xs ys : List (Int × Int)) (hx : xs.length ≤ 1000000) : FunW Try.prog 24 [.ro (xs.map encE), .ro (ys.map encE)] (.bool (decide (xs = ys))) :=
 funW_pure (equalE0 xs ys hx) (pu_cons (.ro fun v hv => by obtain ⟨x, _, rfl⟩ := List.mem_map.1 hv; exact pu_edge _) (pu_cons (.ro fun v hv => by obtain ⟨x, _, rfl⟩ := List.mem_map.1 hv; exact pu_edge _) pu_nil)) (.bool _) (.bool _)
theorem equalE_ok (xs ys : List (Int × Int)) (hx : xs.length ≤ 1000000) : Fun1 Try.prog 24 [.ro (xs.map encE), .ro (ys.map encE)] (.bool (decide (xs = ys))) :=
 (equalE_w xs ys hx).fun1 (pu_cons (.ro fun v hv => by obtain ⟨x, _, rfl⟩ := List.mem_map.1 hv; exact pu_edge _) (pu_cons (.ro fun v hv => by obtain ⟨x, _, rfl⟩ := List.mem_map.1 hv; exact pu_edge _) pu_nil))
set_option maxHeartbeats 1000000 in
theorem cycles0 (g : Gr) : ACalls Try.prog 4 [encG g] AHeap.nil (fun r _ => r = .bool true) := by
 refine acalls_body TT_ok Try.func4 rfl rfl (by simp [Try.ntmps4]) ?_
 rw [Try.ntmps4]
 obtain ⟨σ, hσ⟩ : ∃ σ, σ = st0 [encG g] := ⟨_, rfl⟩
 rw [← hσ]
 have h0_0 := congrFun hσ 0
 simp [st0] at h0_0
 clear hσ
 obtain ⟨H, hH⟩ : ∃ H, H = AHeap.nil := ⟨_, rfl⟩
 rw [← hH]
 have hn_0 : H.n = 0 := by rw [hH]; rfl
 have hst_0 : H.st = 1 := by rw [hH]; rfl
 clear hH
 refine stp_reg TT_ok (by rfl) fun K hK => ?_
 simp [h0_0, hn_0, hst_0, encG]
 try refine And.intro (by first | omega | rfl) ?_
 refine hK _ _ fun σ1 hσ H1 hH => ?_
 clear hK K
 have h1_1 := congrFun hσ 1
 simp [] at h1_1
 clear hσ
 have g0_1 := gt_of hH 0
 simp [hn_0, hst_0] at g0_1
 have hn_1 := congrArg AHeap.n hH
 simp [hn_0, hst_0] at hn_1
 have hst_1 := congrArg AHeap.st hH
 simp [hn_0, hst_0] at hst_1
 clear hH
 refine awp_seq ?_
 refine stp_reg TT_ok (by rfl) fun K hK => ?_
 simp [g0_1, encG]
 try refine And.intro (by first | omega | rfl) ?_
 refine stp_call (awake_ok) ?_
 simp [g0_1, encG]
 try refine And.intro (by first | omega | rfl) ?_
 refine hK _ _ fun σ2 hσ H2 hH => ?_
 clear hK K
 obtain ⟨h1_2, h6_2⟩ := fs2 hσ 1 6
 simp [h1_1] at h1_2 h6_2
 clear hσ
 replace hH : H1 = H2 := Eq.symm hH
 subst hH
 refine stp_false (by simp [aeval_tmp, h6_2, encG]) ?_
 refine awp_skip ?_
 refine q_seq ?_
 refine awp_seq ?_
 by_cases hf : g.nodes.length ≤ 14 ∧ g.edges.length ≤ 60
 ·skip
  have hFF0 := an3 h1_2 g0_1 hf
  refine stp_reg TT_ok (by rfl) fun K hK => ?_
  simp [hFF0, encG]
  try refine And.intro (by first | omega | rfl) ?_
  refine stp_call (few_ok g) ?_
  simp [hFF0, encG]
  try refine And.intro (by first | omega | rfl) ?_
  refine hK _ _ fun σ3 hσ H3 hH => ?_
  clear hK K hFF0
  obtain ⟨h1_3, h9_3⟩ := fs2 hσ 1 9
  simp [h1_2] at h1_3 h9_3
  clear hσ
  replace hH : H1 = H3 := Eq.symm hH
  subst hH
  refine stp_false (by simp [aeval_tmp, h9_3, hf, encG]) ?_
  refine awp_skip ?_
  refine q_seq ?_
  have hFF0 := an5 h1_3 g0_1 hn_1 hst_1 hf
  refine stp_lex true TT_ok mixed (by rfl) (by rfl) (by kernel_rfl) (by rfl) fun U hU K hK => ?_
  simp [hFF0, encG]
  try refine And.intro (by first | omega | rfl) ?_
  refine lex_call (reverse_ok g) ?_
  simp [hFF0, encG]
  try refine And.intro (by first | omega | rfl) ?_
  refine lex_call (refRev_ok g) ?_
  simp [hFF0, encG]
  try refine And.intro (by first | omega | rfl) ?_
  refine hK _ _ _ (by subst hU; kernel_rfl) fun σ4 hσ H4 hH => ?_
  clear hK K hU U hFF0
  obtain ⟨h1_4, h3_4, h4_4⟩ := fs3 hσ 1 3 4
  simp [h1_3] at h1_4 h3_4 h4_4
  clear hσ
  have g0_4 := gt_of hH 0
  have g5_4 := gt_of hH 5
  have g6_4 := gt_of hH 6
  simp [g0_1, hn_1, hst_1, hf] at g0_4 g5_4 g6_4
  have hn_4 := congrArg AHeap.n hH
  simp [hn_1, hst_1] at hn_4
  have hst_4 := congrArg AHeap.st hH
  simp [hn_1, hst_1] at hst_4
  clear hH
  have hrn : g.rev.nodes.length ≤ 1000000 := by
   rw [Gr.rev]; split
   ·simp; omega
   ·simp
  have hre : g.rev.edges.length ≤ 1000000 := by
   rw [Gr.rev]; split
   ·simp; omega
   ·simp
  have hcl : g.pcycle.length ≤ 1000000 := by
   cases hv : g.valid with
   | false => rw [Gr.pcycle, if_neg (by simp [hv])]; simp
   | true => have := pcyc_len g hv; omega
  have hFF0 := an7 h1_4 h3_4 h4_4 g0_4 g5_4 g6_4 hf
  refine stp_lex false TT_ok mixed (by rfl) (by rfl) (by kernel_rfl) (by rfl) fun U hU K hK => ?_
  simp [hFF0, encG]
  try refine And.intro (by first | omega | rfl) ?_
  refine lex_call (valid_ok g) ?_
  simp [hFF0, encG]
  try refine And.intro (by first | omega | rfl) ?_
  refine lex_call (refValid_ok g) ?_
  simp [hFF0, encG]
  try refine And.intro (by first | omega | rfl) ?_
  refine lex_call (cycle_ok g) ?_
  simp [hFF0, encG]
  try refine And.intro (by first | omega | rfl) ?_
  refine lex_call (refCycle_ok g) ?_
  simp [hFF0, encG]
  try refine And.intro (by first | omega | rfl) ?_
  refine lex_call (equalI g.pcycle g.pcycle hcl) ?_
  simp [hFF0, encG]
  try refine And.intro (by first | omega | rfl) ?_
  refine lex_call (equalS_ok g.rev.nodes g.rev.nodes hrn) ?_
  simp [hFF0, encG]
  try refine And.intro (by first | omega | rfl) ?_
  refine lex_call (equalE_ok g.rev.edges g.rev.edges hre) ?_
  simp [hFF0, encG]
  try refine And.intro (by first | omega | rfl) ?_
  refine hK _ _ _ (by subst hU; kernel_rfl) fun σ5 hσ H5 hH => ?_
  clear hK K hU U hFF0
  have h2_5 := congrFun hσ 2
  simp [] at h2_5
  clear hσ
  replace hH : H4 = H5 := Eq.symm hH
  subst hH
  refine awp_ret ?_
  refine q_fin1 h2_5 ?_
  first | rfl | (simp; done)
 ·skip
  have hFF0 := an3 h1_2 g0_1 hf
  refine stp_reg TT_ok (by rfl) fun K hK => ?_
  simp [hFF0, encG]
  try refine And.intro (by first | omega | rfl) ?_
  refine stp_call (few_ok g) ?_
  simp [hFF0, encG]
  try refine And.intro (by first | omega | rfl) ?_
  refine hK _ _ fun σ6 hσ H6 hH => ?_
  clear hK K hFF0
  obtain ⟨h1_6, h9_6⟩ := fs2 hσ 1 9
  simp [h1_2] at h1_6 h9_6
  clear hσ
  replace hH : H1 = H6 := Eq.symm hH
  subst hH
  refine stp_true (by simp [aeval_tmp, h9_6, hf, encG]) ?_
  refine stp_reg TT_ok (by rfl) fun K hK => ?_
  simp [g0_1, hf, encG]
  try refine And.intro (by first | omega | rfl) ?_
  refine hK _ _ fun σ7 hσ H7 hH => ?_
  clear hK K
  have h2_7 := congrFun hσ 2
  simp [] at h2_7
  clear hσ
  replace hH : H1 = H7 := Eq.symm hH
  subst hH
  refine awp_ret ?_
  refine q_seq_ret ?_
  refine q_fin1 h2_7 ?_
  first | rfl | (simp; done)
set_option maxRecDepth 100000 in
theorem graphCycles_lifted (os : Os) (started : os.Started) (H : Type) (enc : TypeId × Value → H) :
  ReturnsInHanded {} Try.checked os 4 .any (Rows.graphCyclesSpec.pre6 enc Try.prog Try.f4 Rows.graphCyclesRow.domain false) (Rows.graphCyclesSpec.post enc Try.prog Try.f4 false true false false) := by
 refine returnsInHanded_of_change (C := Try.checked) own started (by kernel_rfl) Try.func4
  (ChangeSpec.witness6 (enc := enc) (C := Try.checked) false ⟨#[], #[.agg #[.slice none 0 0, .slice none 0 0]], []⟩ 9 (by kernel_rfl) (by kernel_rfl) (by kernel_rfl) (by kernel_rfl)) ?_
 intro W base args ds gs before hval hW hcnd _
 refine law_calls2 TT_ok laid (fn := Try.f4) (s := Rows.graphCyclesSpec) (tb := 4) 9 rfl rfl Try.underlying4 (by kernel_rfl) (fun ds h => ?_) (fun avs ha => ?_) hval hW
 ·match ds, h with
  | [d0], _ => rfl
 ·have ha0 := ha
  obtain ⟨v0, r0, rfl, hv0, ha⟩ := Args.cons ha
  obtain rfl := Args.nil ha
  obtain ⟨g, rfl⟩ := ty_graph hv0
  exact cycles0 g
theorem graphCycles_over : Rows.graphCyclesRow.holds Try.pinned (OpenSpec.ofChange Rows.graphCyclesSpec) :=
 OpenClaim.holds_of_wide 4 Try.f4 rfl rfl rfl rfl rfl rfl rfl ⟨rfl, rfl, rfl, rfl, rfl⟩ rfl rfl rfl rfl rfl (by kernel_rfl) Try.func4 (by kernel_rfl)
  (of_decide_eq_true (by kernel_rfl)) (by unfold Func.isWrapper; first | (rw [if_pos (by decide +kernel)]; kernel_rfl) | (rw [if_neg (by decide +kernel)]; exact ⟨rfl, rfl⟩))
  (fun os started H enc _ => graphCycles_lifted os started H enc)
theorem graphCycles_holds : Rows.GraphCyclesSaid := graphCycles_over
end Go.Proofs.Yteifhcohmipdcaa
