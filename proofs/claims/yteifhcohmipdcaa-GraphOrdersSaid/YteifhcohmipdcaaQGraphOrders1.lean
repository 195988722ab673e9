/-
  What the functions that the law calls answer, whatever they are handed: part 1. Conditions: none.
-/
import Derived.OrdersIn
import Derived.RangeFuncKeeps
import Derived.RangeFuncLeaves
import Derived.Laws.OwnMore
import Derived.Laws.MakeOwn
import Derived.Laws.AppendOwnNone
import Derived.WalkKit
namespace Go.Abs
inductive AV
 | undef
 | skip
 | bool (b : Bool)
 | int (k : IntKind) (n : Int)
 | str (s : ByteArray)
 | nilp
 | ptr (id g i f : Nat)
 | rop (cs : List AV)
 | nils
 | emp
 | roe
 | ro (es : List AV)
 | sl (id g off len : Nat)
 | nilm
 | map (id : Nat)
 | fn (f : FuncId) (caps : List AV)
 | nilf
 | yl (id : Nat)
 | agg (cs : List AV)
 | tup (vs : List AV)
 deriving Inhabited
def AV.one : AV → Bool
 | .undef | .skip | .agg _ | .tup _ => false
 | _ => true
def AV.cells : AV → List AV
 | .agg cs => cs
 | v => [v]
structure Gh where
 dom : Nat → Prop
 gm : Nat → Nat
 blk : Nat → Nat → Nat
 base : Nat → Nat → Nat
 cap : Nat → Nat → Nat
 sz : Nat → Nat
 I : Nat → Prop
inductive VRel (G : Gh) (w : World) : AV → Value → Prop
 | undef (v : Value) : VRel G w .undef v
 | skip : VRel G w .skip Go.undef
 | bool (b : Bool) : VRel G w (.bool b) (.bool b)
 | int (k : IntKind) (n : Int) : VRel G w (.int k n) (.int k n)
 | str (s : ByteArray) : VRel G w (.str s) (.string s)
 | nilp : VRel G w .nilp (.pointer none)
 | ptr {id g i f : Nat} (h : G.dom id) (hg : g ≤ G.gm id) : VRel G w (.ptr id g i f) (.pointer (some ⟨G.blk id g, G.base id g + i * G.sz id + f, none⟩))
 | rop {cs : List AV} {b o : Nat} {f : Nat → Value} (hc : ∀ j, j < cs.length → G.I b ∧ w.cell? ⟨b, o + j, none⟩ = some (f j))
   (h1 : ∀ v ∈ cs, v.one = true) (hv : ∀ (j : Nat) (v : AV), cs[j]? = some v → VRel G w v (f j)) : VRel G w (.rop cs) (.pointer (some ⟨b, o, none⟩))
 | nils : VRel G w .nils (.slice none 0 0)
 | emp (a : Option Addr) : VRel G w .emp (.slice a 0 0)
 | roe (a : Addr) (c : Nat) (h : a.spot = none ∨ c = 0) : VRel G w .roe (.slice (some a) 0 c)
 | ronil (a : Option Addr) : VRel G w (.ro []) (.slice a 0 0)
 | ro {es : List AV} {b o c sz : Nat} {f : Nat → Value} (hs : ∀ e ∈ es, e.cells.length = sz) (h1 : ∀ e ∈ es, ∀ v ∈ e.cells, v.one = true)
   (hc : ∀ j, j < es.length * sz → G.I b ∧ w.cell? ⟨b, o + j, none⟩ = some (f j))
   (hv : ∀ (i : Nat) (e : AV) (j : Nat) (v : AV), es[i]? = some e → e.cells[j]? = some v → VRel G w v (f (i * sz + j))) (hl : es.length ≤ c) :
   VRel G w (.ro es) (.slice (some ⟨b, o, none⟩) es.length c)
 | sl {id g off len o c : Nat} (h : G.dom id) (hg : g ≤ G.gm id) (hc : off + c ≤ G.cap id g) (hl : len ≤ c) (ho : o = G.base id g + off * G.sz id ∨ c = 0) :
   VRel G w (.sl id g off len) (.slice (some ⟨G.blk id g, o, none⟩) len c)
 | nilm : VRel G w .nilm (.map none)
 | map {id : Nat} (h : G.dom id) : VRel G w (.map id) (.map (some (G.blk id 0)))
 | fn {f : FuncId} {caps : List AV} {cv : Array Value} (hs : cv.size = caps.length) (hv : ∀ (j : Nat) (v : AV) (c : Value), caps[j]? = some v → cv[j]? = some c → VRel G w v c) :
   VRel G w (.fn f caps) (.func (.func f) #[] cv)
 | nilf : VRel G w .nilf .nilFunc
 | yl {id : Nat} (h : G.dom id) : VRel G w (.yl id) (.func (.yield (G.blk id 0)) #[] #[])
 | agg {cs : List AV} {cv : Array Value} (hs : cv.size = cs.length) (h1 : ∀ v ∈ cs, v.one = true)
   (hv : ∀ (j : Nat) (v : AV) (c : Value), cs[j]? = some v → cv[j]? = some c → VRel G w v c) : VRel G w (.agg cs) (.agg cv)
 | tup {vs : List AV} {tv : Array Value} (hs : tv.size = vs.length)
   (hv : ∀ (j : Nat) (v : AV) (c : Value), vs[j]? = some v → tv[j]? = some c → VRel G w v c) : VRel G w (.tup vs) (.tuple tv)
theorem VRel.oneCell {G : Gh} {w : World} {v : AV} {c : Value} (h : VRel G w v c) (h1 : v.one = true) : c.oneCell' = true := by
 cases h <;> first | rfl | (simp [AV.one] at h1)
structure Ext (G G' : Gh) : Prop where
 dom : ∀ id, G.dom id → G'.dom id
 gm : ∀ id, G.dom id → G.gm id ≤ G'.gm id
 sz : ∀ id, G.dom id → G'.sz id = G.sz id
 blk : ∀ id g, G.dom id → g ≤ G.gm id → G'.blk id g = G.blk id g
 base : ∀ id g, G.dom id → g ≤ G.gm id → G'.base id g = G.base id g
 cap : ∀ id g, G.dom id → g ≤ G.gm id → G'.cap id g = G.cap id g
 I : ∀ b, G.I b → G'.I b
theorem Ext.refl (G : Gh) : Ext G G := ⟨fun _ h => h, fun _ _ => Nat.le_refl _, fun _ _ => rfl, fun _ _ _ _ => rfl, fun _ _ _ _ => rfl, fun _ _ _ _ => rfl, fun _ h => h⟩
theorem Ext.trans {G G' G'' : Gh} (h : Ext G G') (k : Ext G' G'') : Ext G G'' :=
 ⟨fun id hi => k.dom id (h.dom id hi), fun id hi => Nat.le_trans (h.gm id hi) (k.gm id (h.dom id hi)),
  fun id hi => (k.sz id (h.dom id hi)).trans (h.sz id hi),
  fun id g hi hg => (k.blk id g (h.dom id hi) (Nat.le_trans hg (h.gm id hi))).trans (h.blk id g hi hg),
  fun id g hi hg => (k.base id g (h.dom id hi) (Nat.le_trans hg (h.gm id hi))).trans (h.base id g hi hg),
  fun id g hi hg => (k.cap id g (h.dom id hi) (Nat.le_trans hg (h.gm id hi))).trans (h.cap id g hi hg),
  fun b hb => k.I b (h.I b hb)⟩
theorem VRel.mono {G G' : Gh} {w w' : World} (he : Ext G G') (hw : ∀ b, G.I b → w'.heap[b]? = w.heap[b]?) {v : AV} {c : Value} (h : VRel G w v c) : VRel G' w' v c := by
 have hcell : ∀ b o, G.I b → w'.cell? ⟨b, o, none⟩ = w.cell? ⟨b, o, none⟩ := fun b o hb => World.cell?_of_block (hw b hb)
 induction h with
 | undef v => exact .undef v
 | skip => exact .skip
 | bool b => exact .bool b
 | int k n => exact .int k n
 | str s => exact .str s
 | nilp => exact .nilp
 | @ptr id g i f h hg =>
  have := VRel.ptr (G := G') (w := w') (i := i) (f := f) (he.dom _ h) (Nat.le_trans hg (he.gm id h))
  rwa [he.blk id g h hg, he.sz id h, he.base id g h hg] at this
 | rop hc h1 hv ih => exact .rop (fun j hj => ⟨he.I _ (hc j hj).1, by rw [hcell _ _ (hc j hj).1]; exact (hc j hj).2⟩) h1 ih
 | nils => exact .nils
 | emp a => exact .emp a
 | roe a c h => exact .roe a c h
 | ronil a => exact .ronil a
 | ro hs h1 hc hv hl ih => exact .ro hs h1 (fun j hj => ⟨he.I _ (hc j hj).1, by rw [hcell _ _ (hc j hj).1]; exact (hc j hj).2⟩) ih hl
 | @sl id g off len o c h hg hc hl ho =>
  have := VRel.sl (G := G') (w := w') (off := off) (o := o) (he.dom _ h) (Nat.le_trans hg (he.gm id h)) (by rw [he.cap id g h hg]; exact hc) hl (by rw [he.sz id h, he.base id g h hg]; exact ho)
  rwa [he.blk id g h hg] at this
 | nilm => exact .nilm
 | @map id h =>
  have := VRel.map (G := G') (w := w') (he.dom _ h)
  rwa [he.blk id 0 h (Nat.zero_le _)] at this
 | fn hs hv ih => exact .fn hs ih
 | nilf => exact .nilf
 | @yl id h =>
  have := VRel.yl (G := G') (w := w') (he.dom _ h)
  rwa [he.blk id 0 h (Nat.zero_le _)] at this
 | agg hs h1 hv ih => exact .agg hs h1 ih
 | tup hs hv ih => exact .tup hs ih
inductive Blk
 | row (e : TypeId) (sz g : Nat) (es : List AV)
 | map (kt et : TypeId) (m : List (AV × AV))
 | lp (σ : Nat → AV) (nt : Nat) (ps : List Tmp) (assign body : Code) (st : LoopState) (pend : Option Code)
 deriving Inhabited
def Blk.gen : Blk → Nat
 | .row _ _ g _ => g
 | .map _ _ _ => 0
 | .lp .. => 0
structure AHeap where
 n : Nat
 st : Nat
 get : Nat → Option Blk
def AHeap.nil : AHeap := ⟨0, 1, fun _ => none⟩
def AHeap.alloc (H : AHeap) (b : Blk) : AHeap := ⟨H.n + H.st, H.st, fun i => if i = H.n then some b else H.get i⟩
def AHeap.put (H : AHeap) (id : Nat) (b : Blk) : AHeap := ⟨H.n, H.st, fun i => if i = id then some b else H.get i⟩
structure AHeap.Ok (H : AHeap) : Prop where
 st : 0 < H.st
 free : ∀ m, H.get (H.n + m * H.st) = none
theorem AHeap.Ok.now {H : AHeap} (h : H.Ok) : H.get H.n = none := by simpa using h.free 0
theorem AHeap.Ok.alloc {H : AHeap} (h : H.Ok) (b : Blk) : (H.alloc b).Ok := by
 refine ⟨h.st, fun m => ?_⟩
 have h1 := h.free (m + 1)
 have h2 := h.st
 simp only [AHeap.alloc]
 rw [Nat.add_mul, Nat.one_mul] at h1
 rw [if_neg (by omega), show H.n + H.st + m * H.st = H.n + (m * H.st + H.st) by omega]
 exact h1
theorem AHeap.Ok.put {H : AHeap} (h : H.Ok) {id : Nat} {a : Blk} (ha : H.get id = some a) (b : Blk) : (H.put id b).Ok := by
 refine ⟨h.st, fun m => ?_⟩
 have h1 := h.free m
 simp only [AHeap.put]
 rw [if_neg (fun e => by rw [e, ha] at h1; cases h1)]
 exact h1
def BRel (G : Gh) (w : World) (id : Nat) : Blk → Prop
 | .row e sz g es => g = G.gm id ∧ sz = G.sz id ∧ 0 < sz ∧ es.length ≤ G.cap id g ∧ G.cap id g ≤ maxLen ∧
   (∀ x ∈ es, x.cells.length = sz ∧ ∀ v ∈ x.cells, v.one = true) ∧
   ∃ cur, w.heap[G.blk id g]? = some (.cells cur e (0, 0)) ∧ cur.size = G.base id g + G.cap id g * sz ∧
    ∀ (i : Nat) (x : AV) (j : Nat) (v : AV), es[i]? = some x → x.cells[j]? = some v → ∃ c, cur[G.base id g + i * sz + j]? = some c ∧ VRel G w v c
 | .map _ _ m => G.gm id = 0 ∧ ∃ (en : Array MapEntry) (clock : Nat), w.heap[G.blk id 0]? = some (.map en clock) ∧ en.size = m.length ∧
   (∀ (i : Nat) (e : MapEntry), en[i]? = some e → e.born < clock) ∧ (∀ (i j : Nat) (e f : MapEntry), en[i]? = some e → en[j]? = some f → e.born = f.born → i = j) ∧
   ∀ (i : Nat) (k v : AV) (e : MapEntry), m[i]? = some (k, v) → en[i]? = some e → VRel G w k e.key ∧ VRel G w v e.val
 | .lp σ nt ps assign body st pend => G.gm id = 0 ∧ ∃ (fn : FuncId) (tmps : Array Value) (defers : Nat),
   w.heap[G.blk id 0]? = some (.loop { state := st, pending := pend, fn, tmps, params := ps.toArray, assign, body, defers }) ∧ tmps.size = nt ∧ ∀ t, VRel G w (σ t) (tmps.getD t Go.undef)
structure Rel (G : Gh) (H : AHeap) (w : World) : Prop where
 ok : H.Ok
 dom : ∀ id, G.dom id → H.get id ≠ none
 blk : ∀ id b, H.get id = some b → G.dom id ∧ BRel G w id b
 inj : ∀ i j a b, H.get i = some a → H.get j = some b → i ≠ j → G.blk i a.gen ≠ G.blk j b.gen
 imm : ∀ i a, H.get i = some a → ¬ G.I (G.blk i a.gen)
 ilt : ∀ b, G.I b → b < w.heap.size
structure Fr (G : Gh) (H : AHeap) (w w' : World) : Prop where
 os : w'.os = w.os
 tape : w'.tape = w.tape
 output : w'.output = w.output
 size : w.heap.size ≤ w'.heap.size
 block : ∀ b, b < w.heap.size → (∀ i a, H.get i = some a → G.blk i a.gen ≠ b) → w'.heap[b]? = w.heap[b]?
theorem Fr.refl (G : Gh) (H : AHeap) (w : World) : Fr G H w w := ⟨rfl, rfl, rfl, Nat.le_refl _, fun _ _ _ => rfl⟩
theorem Fr.imm {G : Gh} {H : AHeap} {w w' : World} (h : Fr G H w w') (hr : Rel G H w) : ∀ b, G.I b → w'.heap[b]? = w.heap[b]? :=
 fun b hb => h.block b (hr.ilt b hb) (fun i a ha he => hr.imm i a ha (he ▸ hb))
structure Run (G : Gh) (H : AHeap) (w : World) (G' : Gh) (H' : AHeap) (w' : World) : Prop where
 rel : Rel G' H' w'
 ext : Ext G G'
 fr : Fr G H w w'
 own : ∀ i a, H'.get i = some a → w.heap.size ≤ G'.blk i a.gen ∨ ∃ j b, H.get j = some b ∧ G.blk j b.gen = G'.blk i a.gen
 imm : ∀ b, G'.I b → G.I b ∨ w.heap.size ≤ b ∨ ∃ j a, H.get j = some a ∧ G.blk j a.gen = b
theorem Run.refl {G : Gh} {H : AHeap} {w : World} (h : Rel G H w) : Run G H w G H w := ⟨h, .refl G, .refl G H w, fun i a ha => .inr ⟨i, a, ha, rfl⟩, fun _ h => .inl h⟩
theorem Run.trans {G G1 G2 : Gh} {H H1 H2 : AHeap} {w w1 w2 : World} (h : Run G H w G1 H1 w1) (k : Run G1 H1 w1 G2 H2 w2) : Run G H w G2 H2 w2 := by
 refine ⟨k.rel, h.ext.trans k.ext, ⟨k.fr.os.trans h.fr.os, k.fr.tape.trans h.fr.tape, k.fr.output.trans h.fr.output, Nat.le_trans h.fr.size k.fr.size, fun b hb hn => ?_⟩, fun i a ha => ?_, fun b hb => ?_⟩
 ·refine (k.fr.block b (Nat.lt_of_lt_of_le hb h.fr.size) fun i a ha he => ?_).trans (h.fr.block b hb hn)
  rcases h.own i a ha with h1 | ⟨j, c, hc, he'⟩
  ·omega
  ·exact hn j c hc (he'.trans he)
 ·rcases k.own i a ha with h1 | ⟨j, c, hc, he⟩
  ·exact .inl (Nat.le_trans h.fr.size h1)
  ·rcases h.own j c hc with h1 | ⟨l, d, hd, he'⟩
   ·exact .inl (he ▸ h1)
   ·exact .inr ⟨l, d, hd, he'.trans he⟩
 ·rcases k.imm b hb with h1 | h1 | ⟨j, a, ha, he⟩
  ·exact h.imm b h1
  ·exact .inr (.inl (Nat.le_trans h.fr.size h1))
  ·rcases h.own j a ha with h1 | ⟨l, d, hd, he'⟩
   ·exact .inr (.inl (he ▸ h1))
   ·exact .inr (.inr ⟨l, d, hd, he'.trans he⟩)
theorem Run.vrel {G G' : Gh} {H H' : AHeap} {w w' : World} (h : Run G H w G' H' w') (hr : Rel G H w) {v : AV} {c : Value} (hv : VRel G w v c) : VRel G' w' v c :=
 hv.mono h.ext (h.fr.imm hr)
theorem BRel.gen_le {G : Gh} {w : World} {id : Nat} {b : Blk} (h : BRel G w id b) : b.gen ≤ G.gm id := by
 cases b with
 | row e sz g es => exact Nat.le_of_eq h.1
 | map kt et m => exact Nat.zero_le _
 | lp => exact Nat.zero_le _
theorem BRel.keep {G G' : Gh} {w w' : World} {id : Nat} {b : Blk} (he : Ext G G') (hI : ∀ b, G.I b → w'.heap[b]? = w.heap[b]?) (hid : G.dom id)
  (hgm : G'.gm id = G.gm id) (hblk : w'.heap[G.blk id b.gen]? = w.heap[G.blk id b.gen]?) (h : BRel G w id b) : BRel G' w' id b := by
 have hle := h.gen_le
 cases b with
 | row e sz g es =>
  obtain ⟨h1, h2, h3, h4, h5, h6, cur, h7, h8, h9⟩ := h
  simp only [Blk.gen] at hblk hle
  refine ⟨by rw [hgm]; exact h1, by rw [he.sz id hid]; exact h2, h3, by rw [he.cap id g hid hle]; exact h4, by rw [he.cap id g hid hle]; exact h5, h6, cur, ?_, ?_, ?_⟩
  ·rw [he.blk id g hid hle, hblk]; exact h7
  ·rw [he.base id g hid hle, he.cap id g hid hle]; exact h8
  ·intro i x j v hx hv
   obtain ⟨c, hc, hvr⟩ := h9 i x j v hx hv
   exact ⟨c, by rw [he.base id g hid hle]; exact hc, hvr.mono he hI⟩
 | map kt et m =>
  obtain ⟨h1, en, clock, h2, h3, h4, h5, h6⟩ := h
  simp only [Blk.gen] at hblk hle
  exact ⟨by rw [hgm]; exact h1, en, clock, by rw [he.blk id 0 hid hle, hblk]; exact h2, h3, h4, h5, fun i k v e hk hen => ⟨(h6 i k v e hk hen).1.mono he hI, (h6 i k v e hk hen).2.mono he hI⟩⟩
 | lp σ nt ps assign body st pend =>
  obtain ⟨h1, fn, tmps, defers, h2, h3, h4⟩ := h
  simp only [Blk.gen] at hblk hle
  exact ⟨by rw [hgm]; exact h1, fn, tmps, defers, by rw [he.blk id 0 hid hle, hblk]; exact h2, h3, fun t => (h4 t).mono he hI⟩
def Gh.add (G : Gh) (id b base cap sz : Nat) : Gh :=
 {dom := fun i => i = id ∨ G.dom i, gm := fun i => if i = id then 0 else G.gm i, blk := fun i g => if i = id then b else G.blk i g, base := fun i g => if i = id then base else G.base i g,
  cap := fun i g => if i = id then cap else G.cap i g, sz := fun i => if i = id then sz else G.sz i, I := G.I }
theorem Gh.ext_add (G : Gh) {id : Nat} (hn : ¬ G.dom id) (b base cap sz : Nat) : Ext G (G.add id b base cap sz) := by
 have hne : ∀ i, G.dom i → i ≠ id := fun i hi e => hn (e ▸ hi)
 exact ⟨fun i h => .inr h, fun i h => by simp [Gh.add, hne i h], fun i h => by simp [Gh.add, hne i h], fun i g h _ => by simp [Gh.add, hne i h],
  fun i g h _ => by simp [Gh.add, hne i h], fun i g h _ => by simp [Gh.add, hne i h], fun _ h => h⟩
theorem Rel.new {G : Gh} {H : AHeap} {w : World} (hr : Rel G H w) : ¬ G.dom H.n := fun h => hr.dom _ h hr.ok.now
theorem Rel.ne {G : Gh} {H : AHeap} {w : World} (hr : Rel G H w) {i : Nat} (h : G.dom i) : i ≠ H.n := fun e => hr.new (e ▸ h)
theorem Rel.lt {G : Gh} {H : AHeap} {w : World} (hr : Rel G H w) {i : Nat} {a : Blk} (ha : H.get i = some a) : G.blk i a.gen < w.heap.size := by
 have h := (hr.blk i a ha).2
 cases a with
 | row e sz g es =>
  obtain ⟨_, _, _, _, _, _, cur, h7, _, _⟩ := h
  exact (Array.getElem?_eq_some_iff.1 h7).1
 | map kt et m =>
  obtain ⟨_, en, clock, h2, _⟩ := h
  exact (Array.getElem?_eq_some_iff.1 h2).1
 | lp σ nt ps assign body st pend =>
  obtain ⟨_, fn, tmps, defers, h2, _⟩ := h
  exact (Array.getElem?_eq_some_iff.1 h2).1
theorem Run.alloc {G : Gh} {H : AHeap} {w : World} (hr : Rel G H w) (o : Obj) (base cap sz : Nat) (b : Blk)
  (hb : BRel (G.add H.n w.heap.size base cap sz) (w.alloc o) H.n b) : Run G H w (G.add H.n w.heap.size base cap sz) (H.alloc b) (w.alloc o) := by
 have hold : ∀ k, k < w.heap.size → (w.alloc o).heap[k]? = w.heap[k]? := fun k hk => heap_alloc_old w o k hk
 have hI : ∀ b, G.I b → (w.alloc o).heap[b]? = w.heap[b]? := fun b hb => hold b (hr.ilt b hb)
 have he := G.ext_add hr.new w.heap.size base cap sz
 have hne : ∀ i a, H.get i = some a → i ≠ H.n := fun i a ha => hr.ne (hr.blk i a ha).1
 refine ⟨⟨hr.ok.alloc b, ?_, ?_, ?_, ?_, ?_⟩, he, ⟨rfl, rfl, rfl, by simp, fun k hk _ => hold k hk⟩, ?_, fun _ h => .inl h⟩
 ·intro id hd
  simp only [AHeap.alloc]
  split
  ·simp
  ·rcases hd with h | h
   ·contradiction
   ·exact hr.dom id h
 ·intro id c hc
  simp only [AHeap.alloc] at hc
  split at hc
  ·rename_i h; cases hc; rw [h]; exact ⟨.inl rfl, hb⟩
  ·rename_i h
   obtain ⟨h1, h2⟩ := hr.blk id c hc
   exact ⟨.inr h1, h2.keep he hI h1 (by simp [Gh.add, hr.ne h1]) (hold _ (hr.lt hc))⟩
 ·intro i j a c ha hc hij
  simp only [AHeap.alloc] at ha hc
  have key : ∀ k d, H.get k = some d → (G.add H.n w.heap.size base cap sz).blk k d.gen = G.blk k d.gen ∧ G.blk k d.gen < w.heap.size := fun k d hd =>
   ⟨by simp [Gh.add, hne k d hd], hr.lt hd⟩
  have knew : (G.add H.n w.heap.size base cap sz).blk H.n b.gen = w.heap.size := by simp [Gh.add]
  split at ha
  ·rename_i h; cases ha; subst h
   split at hc
   ·rename_i h; exact absurd h.symm hij
   ·rw [knew, (key j c hc).1]; have := (key j c hc).2; omega
  ·split at hc
   ·rename_i h; cases hc; subst h; rw [knew, (key i a ha).1]; have := (key i a ha).2; omega
   ·rw [(key i a ha).1, (key j c hc).1]; exact hr.inj i j a c ha hc hij
 ·intro i a ha
  simp only [AHeap.alloc] at ha
  split at ha
  ·rename_i h; cases ha; subst h; intro hi
   have hlt := hr.ilt _ hi
   simp [Gh.add] at hlt
  ·have h1 := (hr.blk i a ha).1
   have : (G.add H.n w.heap.size base cap sz).blk i a.gen = G.blk i a.gen := by simp [Gh.add, hr.ne h1]
   rw [this]; exact hr.imm i a ha
 ·intro k hk; exact Nat.lt_of_lt_of_le (hr.ilt k hk) (by simp)
 ·intro i a ha
  simp only [AHeap.alloc] at ha
  split at ha
  ·rename_i h; cases ha; subst h; left; simp [Gh.add]
  ·have h1 := (hr.blk i a ha).1
   exact .inr ⟨i, a, ha, by simp [Gh.add, hr.ne h1]⟩
theorem Run.put {G G' : Gh} {H : AHeap} {w w' : World} (hr : Rel G H w) {id : Nat} {a b : Blk} (ha : H.get id = some a) (he : Ext G G') (hn : ∀ j, G'.dom j → G.dom j) (hI : ∀ k, G'.I k ↔ G.I k)
  (hgm : ∀ j, G.dom j → j ≠ id → G'.gm j = G.gm j) (hb : BRel G' w' id b)
  (hos : w'.os = w.os) (htape : w'.tape = w.tape) (hout : w'.output = w.output) (hsize : w.heap.size ≤ w'.heap.size)
  (hold : ∀ k, k < w.heap.size → k ≠ G.blk id a.gen → w'.heap[k]? = w.heap[k]?)
  (hblk : G'.blk id b.gen = G.blk id a.gen ∨ w.heap.size ≤ G'.blk id b.gen) : Run G H w G' (H.put id b) w' := by
 have hid := (hr.blk id a ha).1
 have hIo : ∀ k, G.I k → w'.heap[k]? = w.heap[k]? := fun k hk => hold k (hr.ilt k hk) (fun e => hr.imm id a ha (e ▸ hk))
 have key : ∀ k d, H.get k = some d → k ≠ id → G'.blk k d.gen = G.blk k d.gen := fun k d hd _ =>
  he.blk k d.gen (hr.blk k d hd).1 (hr.blk k d hd).2.gen_le
 refine ⟨⟨hr.ok.put ha b, ?_, ?_, ?_, ?_, ?_⟩, he, ⟨hos, htape, hout, hsize, fun k hk hnk => hold k hk (fun e => hnk id a ha e.symm)⟩, ?_, fun k hk => .inl ((hI k).1 hk)⟩
 ·intro i hd
  simp only [AHeap.put]
  split
  ·simp
  ·exact hr.dom i (hn i hd)
 ·intro i c hc
  simp only [AHeap.put] at hc
  split at hc
  ·rename_i h; cases hc; subst h; exact ⟨he.dom _ hid, hb⟩
  ·rename_i h
   obtain ⟨h1, h2⟩ := hr.blk i c hc
   exact ⟨he.dom _ h1, h2.keep he hIo h1 (hgm i h1 h) (hold _ (hr.lt hc) (hr.inj i id c a hc ha h))⟩
 ·intro i j c d hc hd hij
  simp only [AHeap.put] at hc hd
  split at hc
  ·rename_i h; cases hc; subst h
   split at hd
   ·rename_i h; exact absurd h.symm hij
   ·rename_i h
    rw [key j d hd h]
    rcases hblk with h1 | h1
    ·rw [h1]; exact hr.inj i j a d ha hd hij
    ·have := hr.lt hd; omega
  ·rename_i hi
   rw [key i c hc hi]
   split at hd
   ·rename_i h; cases hd; subst h
    rcases hblk with h1 | h1
    ·rw [h1]; exact hr.inj i j c a hc ha hij
    ·have := hr.lt hc; omega
   ·rename_i h
    rw [key j d hd h]; exact hr.inj i j c d hc hd hij
 ·intro i c hc
  simp only [AHeap.put] at hc
  rw [hI]
  split at hc
  ·rename_i h; cases hc; subst h
   rcases hblk with h1 | h1
   ·rw [h1]; exact hr.imm i a ha
   ·intro h2; have := hr.ilt _ h2; omega
  ·rename_i h; rw [key i c hc h]; exact hr.imm i c hc
 ·intro k hk; rw [hI] at hk; exact Nat.lt_of_lt_of_le (hr.ilt k hk) hsize
 ·intro i c hc
  simp only [AHeap.put] at hc
  split at hc
  ·rename_i h; cases hc; subst h
   rcases hblk with h1 | h1
   ·exact .inr ⟨i, a, ha, h1.symm⟩
   ·exact .inl h1
  ·rename_i h; exact .inr ⟨i, c, hc, (key i c hc h).symm⟩
theorem Run.drew {G : Gh} {H : AHeap} {w : World} (hr : Rel G H w) : Run G H w G H w.drew :=
 ⟨⟨hr.ok, hr.dom, fun id b hb => ⟨(hr.blk id b hb).1, BRel.keep (w := w) (w' := w.drew) (.refl G) (fun _ _ => rfl) (hr.blk id b hb).1 rfl rfl (hr.blk id b hb).2⟩, hr.inj, hr.imm, hr.ilt⟩, .refl G,
  ⟨rfl, rfl, rfl, Nat.le_refl _, fun _ _ _ => rfl⟩, fun i a ha => .inr ⟨i, a, ha, rfl⟩, fun _ h => .inl h⟩
inductive TK
 | int (k : IntKind)
 | bool
 | string
 | slice (e : TypeId)
 | map (k e : TypeId)
 | struct (fs : List (Nat × TypeId))
 | pointer
 | func
 | other
 deriving Inhabited
inductive EK
 | int
 | bool
 | str
 deriving Inhabited
structure TE where
 size : Nat
 bytes : Nat
 kind : TK
 zero : AV
 eq : Option (List EK)
 deriving Inhabited
def TK.agg : TK → Bool
 | .struct _ => true
 | _ => false
def AV.ofV1 : Value → AV
 | .bool b => .bool b
 | .int k n => .int k n
 | .string s => .str s
 | .pointer none => .nilp
 | .slice none 0 0 => .nils
 | .map none => .nilm
 | .nilFunc => .nilf
 | _ => .undef
def AV.ofV : Value → AV
 | .agg cs => if (cs.toList.map AV.ofV1).all AV.one then .agg (cs.toList.map AV.ofV1) else .undef
 | v => AV.ofV1 v
def aeval (σ : Nat → AV) : Operand → AV
 | .tmp t => σ t
 | .const v => AV.ofV v
 | .global _ => .undef
 | .func f => .fn f []
def elems (H : AHeap) : AV → Option (List AV)
 | .nils | .emp | .roe => some []
 | .ro es => some es
 | .sl id g off len =>
  match H.get id with
  | some (.row _ _ g' es) => if g' = g ∧ off + len ≤ es.length then some ((es.drop off).take len) else none
  | _ => none
 | _ => none
def lenA (H : AHeap) : AV → Option Nat
 | .nils | .emp | .roe => some 0
 | .ro es => some es.length
 | .sl _ _ _ len => some len
 | .str s => some s.size
 | .nilm => some 0
 | .map id => match H.get id with | some (.map _ _ m) => some m.length | _ => none
 | _ => none
def loadC (te : TE) (cs : List AV) : Option AV :=
 if te.kind.agg then (if te.size ≤ cs.length then some (.agg (cs.take te.size)) else none)
 else match cs with | c :: _ => some c | [] => none
def reE (e : AV) (cs : List AV) : AV :=
 match e, cs with
 | .agg _, cs => .agg cs
 | _, c :: _ => c
 | e, [] => e
abbrev Ans := Option (AV × AHeap)
def aLoad (te : TE) (H : AHeap) : AV → Ans
 | .ptr id g i f =>
  match H.get id with
  | some (.row _ _ g' es) =>
   if g' = g then match es[i]? with
    | some x => match loadC te (x.cells.drop f) with | some v => some (v, H) | none => none
    | none => none
   else none
  | _ => none
 | .rop cs => match loadC te cs with | some v => some (v, H) | none => none
 | _ => none
def aStore (te : TE) (H : AHeap) (v : AV) : AV → Ans
 | .ptr id g i f =>
  match H.get id with
  | some (.row e sz g' es) =>
   if g' = g ∧ v.cells.length = te.size ∧ v.cells.all AV.one = true then match es[i]? with
    | some x => if f + te.size ≤ x.cells.length then
      some (.skip, H.put id (.row e sz g (es.set i (reE x (x.cells.take f ++ v.cells ++ x.cells.drop (f + te.size)))))) else none
    | none => none
   else none
  | _ => none
 | _ => none
def aAlloc (T : TypeId → Option TE) (H : AHeap) (e : TypeId) : Ans :=
 match T e with
 | some te => if 0 < te.size ∧ te.zero.cells.length = te.size ∧ te.zero.cells.all AV.one = true then
   some (.ptr H.n 0 0 0, H.alloc (.row e te.size 0 [te.zero])) else none
 | none => none
def aBox (T : TypeId → Option TE) (H : AHeap) (e : TypeId) (v : AV) : Ans :=
 match T e with
 | some te => if 0 < te.size ∧ v.cells.length = te.size ∧ v.cells.all AV.one = true then
   some (.ptr H.n 0 0 0, H.alloc (.row e te.size 0 [v])) else none
 | none => none
def elemT (T : TypeId → Option TE) (t : TypeId) : Option (TypeId × TE) :=
 match T t with
 | some te => match te.kind with
  | .slice e => match T e with | some ee => some (e, ee) | none => none
  | _ => none
 | none => none
def aBuildSlice (T : TypeId → Option TE) (H : AHeap) (t : TypeId) (len : Nat) (parts : List (Nat × AV)) : Ans :=
 match elemT T t with
 | some (e, ee) =>
  if 0 < ee.size ∧ len * ee.size ≤ 16777216 ∧ ee.zero.cells.length = ee.size ∧ parts.map (·.1) = List.range len ∧ (parts.map (·.2)).all (fun v => v.cells.length == ee.size && v.cells.all AV.one) = true then
   some (.sl H.n 0 0 len, H.alloc (.row e ee.size 0 (parts.map (·.2)))) else none
 | none => none
def fillA (fs : List (Nat × TypeId)) (T : TypeId → Option TE) : List AV → List (Nat × AV) → Option (List AV)
 | cs, [] => some cs
 | cs, (i, v) :: rest =>
  match fs[i]? with
  | some (off, ft) => match T ft with
   | some te => if v.cells.length = te.size ∧ off + te.size ≤ cs.length ∧ v.cells.all AV.one = true then
     fillA fs T (cs.take off ++ v.cells ++ cs.drop (off + te.size)) rest else none
   | none => none
  | none => none
def aBuild (T : TypeId → Option TE) (t : TypeId) (parts : List (Nat × AV)) : Option AV :=
 match T t with
 | some te => match te.kind with
  | .struct fs => if te.zero.cells.all AV.one = true then (match fillA fs T te.zero.cells parts with | some cs => some (.agg cs) | none => none) else none
  | _ => none
 | none => none
def aField (T : TypeId → Option TE) (t : TypeId) (x : AV) (f : Nat) : Option AV :=
 match T t with
 | some te => match te.kind, x with
  | .struct fs, .agg cs => match fs[f]? with
   | some (off, ft) => match T ft with | some fe => loadC fe (cs.drop off) | none => none
   | none => none
  | _, _ => none
 | none => none
def aFieldAddr (T : TypeId → Option TE) (t : TypeId) (x : AV) (f : Nat) : Option AV :=
 match T t with
 | some te => match te.kind with
  | .struct fs => match fs[f]? with
   | some (off, ft) => match T ft with
    | some fe => if 0 < fe.size then (match x with
     | .ptr id g i f0 => some (.ptr id g i (f0 + off))
     | .rop cs => some (.rop (cs.drop off))
     | _ => none) else none
    | none => none
   | none => none
  | _ => none
 | none => none
def aIndexAddr (T : TypeId → Option TE) (H : AHeap) (t : TypeId) (x ix : AV) : Option AV :=
 match elemT T t, ix with
 | some (_, ee), .int _ i =>
  match x with
  | .ro es => if 0 ≤ i ∧ i < es.length then (match es[i.toNat]? with
    | some e => if e.cells.length = ee.size then some (.rop e.cells) else none
    | none => none) else none
  | .sl id g off len => if 0 ≤ i ∧ i < len then (match H.get id with
    | some (.row _ sz _ _) => if sz = ee.size then some (.ptr id g (off + i.toNat) 0) else none
    | _ => none) else none
  | _ => none
 | _, _ => none
def isStr (T : TypeId → Option TE) (t : TypeId) : Bool := match T t with | some te => (match te.kind with | .string => true | _ => false) | none => false
def aIndex (T : TypeId → Option TE) (t : TypeId) (x ix : AV) : Option AV :=
 match x, ix with
 | .str s, .int _ i => if 0 ≤ i ∧ isStr T t = true then (match s[i.toNat]? with | some b => some (.int .u8 b.toNat) | none => none) else none
 | _, _ => none
def boundA (v : Option AV) (d : Nat) : Option Nat :=
 match v with
 | none => some d
 | some (.int _ i) => if 0 ≤ i then some i.toNat else none
 | _ => none
def aSlice (x : AV) (lo hi mx : Option AV) : Option AV :=
 match x, mx with
 | .str s, none => match boundA lo 0, boundA hi s.size with
  | some l, some h => if l ≤ h ∧ h ≤ s.size then some (.str (s.extract l h)) else none
  | _, _ => none
 | .nils, none => match boundA lo 0, boundA hi 0 with
  | some l, some h => if l = 0 ∧ h = 0 then some .nils else none
  | _, _ => none
 | .emp, none => match boundA lo 0, boundA hi 0 with
  | some l, some h => if l = 0 ∧ h = 0 then some .emp else none
  | _, _ => none
 | .ro es, none => match boundA lo 0, boundA hi es.length with
  | some l, some h => if l ≤ h ∧ h ≤ es.length then some (.ro ((es.take h).drop l)) else none
  | _, _ => none
 | .sl id g off len, none => match boundA lo 0, boundA hi len with
  | some l, some h => if l ≤ h ∧ h ≤ len then some (.sl id g (off + l) (h - l)) else none
  | _, _ => none
 | .ro es, some m => match boundA lo 0, boundA hi es.length, boundA (some m) 0 with
  | some l, some h, some m => if l ≤ h ∧ h ≤ m ∧ m ≤ es.length then (if m = l then some .emp else some (.ro ((es.take h).drop l))) else none
  | _, _, _ => none
 | .nils, some m => match boundA lo 0, boundA hi 0, boundA (some m) 0 with
  | some l, some h, some m => if l = 0 ∧ h = 0 ∧ m = 0 then some .nils else none
  | _, _, _ => none
 | .emp, some m => match boundA lo 0, boundA hi 0, boundA (some m) 0 with
  | some l, some h, some m => if l = 0 ∧ h = 0 ∧ m = 0 then some .emp else none
  | _, _, _ => none
 | .sl id g off len, some m => match boundA lo 0, boundA hi len, boundA (some m) 0 with
  | some l, some h, some m => if l ≤ h ∧ h ≤ m ∧ m ≤ len then some (.sl id g (off + l) (h - l)) else none
  | _, _, _ => none
 | _, _ => none
def okSz (T : TypeId → Option TE) (H : AHeap) (t : TypeId) : AV → Bool
 | .str _ => isStr T t
 | .ro es => match elemT T t with | some (_, ee) => es.all (fun y => y.cells.length == ee.size) | none => false
 | .sl id _ _ _ => match elemT T t, H.get id with | some (_, ee), some (.row _ sz _ _) => sz == ee.size | _, _ => false
 | _ => match elemT T t with | some _ => true | none => false
def aSliceT (T : TypeId → Option TE) (H : AHeap) (t : TypeId) (x : AV) (lo hi mx : Option AV) : Option AV :=
 if okSz T H t x = true ∧ (mx.isNone || hi.isSome) = true then aSlice x lo hi mx else none
def aMakeSlice (T : TypeId → Option TE) (H : AHeap) (t : TypeId) (l c : AV) : Ans :=
 match elemT T t, l, c with
 | some (e, ee), .int _ l, .int _ c =>
  if 0 < ee.size ∧ ee.zero.cells.length = ee.size ∧ ee.zero.cells.all AV.one = true ∧ 0 ≤ l ∧ l ≤ c ∧ c ≤ 9223372036854775807 ∧ (ee.bytes : Int) * c ≤ 281474976710656 then
   some (.sl H.n 0 0 l.toNat, H.alloc (.row e ee.size 0 (List.replicate l.toNat ee.zero))) else none
 | _, _, _ => none
def aAppend (T : TypeId → Option TE) (H : AHeap) (t : TypeId) (s x : AV) : Ans :=
 match elemT T t, elems H x with
 | some (e, ee), some xs =>
  if 0 < ee.size ∧ ee.zero.cells.length = ee.size ∧ ee.zero.cells.all AV.one = true ∧ xs.all (fun v => v.cells.length == ee.size) = true then
   match s with
   | .nils | .emp => if xs = [] then some (s, H) else
     if xs.length * ee.bytes ≤ 140737488355328 ∧ xs.length ≤ 9223372036854775807 then some (.sl H.n 0 0 xs.length, H.alloc (.row e ee.size 0 xs)) else none
   | .sl id g off len =>
    match H.get id with
    | some (.row e' sz g' es) =>
     if g' = g ∧ e' = e ∧ sz = ee.size ∧ off + len ≤ es.length ∧ (len + xs.length) * ee.bytes ≤ 140737488355328 ∧ len + xs.length ≤ 9223372036854775807 then
      some (.sl id (g + 1) 0 (len + xs.length), H.put id (.row e sz (g + 1) ((es.drop off).take len ++ xs)))
     else none
    | _ => none
   | _ => none
  else none
 | _, _ => none
def spliceL (es ys : List AV) (off : Nat) : List AV := es.take off ++ ys ++ es.drop (off + ys.length)
def aCopy (T : TypeId → Option TE) (H : AHeap) (t : TypeId) (s x : AV) : Ans :=
 match elemT T t, elems H x with
 | some (_, ee), some xs =>
  if 0 < ee.size ∧ xs.all (fun v => v.cells.length == ee.size) = true then
   match s with
   | .sl id g off len => match H.get id with
    | some (.row e sz g' es) => if g' = g ∧ sz = ee.size ∧ off + len ≤ es.length then
      some (.int .i64 (min xs.length len : Nat), H.put id (.row e sz g (spliceL es (xs.take len) off))) else none
    | _ => none
   | _ => none
  else none
 | _, _ => none
def aClear (T : TypeId → Option TE) (H : AHeap) (t : TypeId) (s : AV) : Ans :=
 match elemT T t with
 | some (_, ee) =>
  if 0 < ee.size ∧ ee.zero.cells.length = ee.size ∧ ee.zero.cells.all AV.one = true then
   match s with
   | .sl id g off len => match H.get id with
    | some (.row e sz g' es) => if g' = g ∧ sz = ee.size ∧ off + len ≤ es.length then
      some (.tup [], H.put id (.row e sz g (spliceL es (List.replicate len ee.zero) off))) else none
    | _ => none
   | _ => none
  else none
 | none => none
def cellEq : List EK → List AV → List AV → Option Bool
 | [], [], [] => some true
 | .bool :: ks, .bool a :: r, .bool b :: s => match cellEq ks r s with | some t => some (a == b && t) | none => none
 | .int :: ks, .int j a :: r, .int k b :: s => if j = k then (match cellEq ks r s with | some t => some (a == b && t) | none => none) else none
 | .str :: ks, .str a :: r, .str b :: s => match cellEq ks r s with | some t => some (a == b && t) | none => none
 | _, _, _ => none
def aEq (T : TypeId → Option TE) (t : TypeId) (x y : AV) : Option Bool :=
 match x, y with
 | .int j a, .int k b => if j = k then some (a == b) else none
 | .str a, .str b => some (a.toList == b.toList)
 | .bool a, .bool b => match T t with | some te => (match te.kind with | .bool => some (a == b) | _ => none) | none => none
 | .nils, .nils => match T t with | some te => (match te.kind with | .slice _ => some true | _ => none) | none => none
 | .sl _ _ _ _, .nils | .nils, .sl _ _ _ _ => match T t with | some te => (match te.kind with | .slice _ => some false | _ => none) | none => none
 | .ro (_ :: _), .nils | .nils, .ro (_ :: _) | .roe, .nils | .nils, .roe => match T t with | some te => (match te.kind with | .slice _ => some false | _ => none) | none => none
 | .nilp, .nilp => match T t with | some te => (match te.kind with | .pointer => some true | _ => none) | none => none
 | .ptr _ _ _ _, .nilp | .rop (_ :: _), .nilp => match T t with | some te => (match te.kind with | .pointer => some false | _ => none) | none => none
 | .agg a, .agg b => match T t with | some te => (match te.eq with | some ks => cellEq ks a b | none => none) | none => none
 | _, _ => none
def aBin (T : TypeId → Option TE) (op : BinOp) (t : TypeId) (x y : AV) : Option AV :=
 match op with
 | .eql => match aEq T t x y with | some b => some (.bool b) | none => none
 | .neq => match aEq T t x y with | some b => some (.bool (!b)) | none => none
 | .add => match x, y with
  | .int j a, .int k b => if j = k then some (.int j (j.wrap (a + b))) else none
  | .str a, .str b => if ((a.size + b.size : Nat) : Int) ≤ 9223372036854775807 then some (.str (a ++ b)) else none
  | _, _ => none
 | .sub => match x, y with | .int j a, .int k b => if j = k then some (.int j (j.wrap (a - b))) else none | _, _ => none
 | .mul => match x, y with | .int j a, .int k b => if j = k then some (.int j (j.wrap (a * b))) else none | _, _ => none
 | .quo => match x, y with | .int j a, .int k b => if j = k ∧ b ≠ 0 then some (.int j (j.wrap (a.tdiv b))) else none | _, _ => none
 | .rem => match x, y with | .int j a, .int k b => if j = k ∧ b ≠ 0 then some (.int j (a.tmod b)) else none | _, _ => none
 | .lss => match x, y with
  | .int j a, .int k b => if j = k then some (.bool (decide (a < b))) else none
  | .str a, .str b => some (.bool (Op.bytesLess a.toList b.toList))
  | _, _ => none
 | .leq => match x, y with
  | .int j a, .int k b => if j = k then some (.bool (decide (a ≤ b))) else none
  | .str a, .str b => some (.bool (Op.bytesLess a.toList b.toList || a.toList == b.toList))
  | _, _ => none
 | .gtr => match x, y with
  | .int j a, .int k b => if j = k then some (.bool (decide (b < a))) else none
  | .str a, .str b => some (.bool (!(Op.bytesLess a.toList b.toList || a.toList == b.toList)))
  | _, _ => none
 | .geq => match x, y with
  | .int j a, .int k b => if j = k then some (.bool (decide (b ≤ a))) else none
  | .str a, .str b => some (.bool (!(Op.bytesLess a.toList b.toList)))
  | _, _ => none
 | _ => none
def aUn (op : UnOp) (x : AV) : Option AV :=
 match op, x with
 | .not, .bool b => some (.bool !b)
 | .neg, .int k n => some (.int k (k.wrap (0 - n)))
 | _, _ => none
def aConv (T : TypeId → Option TE) (_src dst : TypeId) (x : AV) : Option AV :=
 match T dst, x with
 | some te, .int _ n => match te.kind with | .int k => some (.int k (k.wrap n)) | _ => none
 | _, _ => none
def minA (isMax : Bool) : AV → AV → Option AV
 | .int k a, .int j b => if k = j then some (.int k (if isMax then (if b > a then b else a) else (if b < a then b else a))) else none
 | _, _ => none
def lenTy (T : TypeId → Option TE) : List TypeId → AV → Bool
 | [t], .str _ => isStr T t
 | [t], .nilm | [t], .map _ => match T t with | some te => (match te.kind with | .map _ _ => true | _ => false) | none => false
 | [t], _ => match T t with | some te => (match te.kind with | .slice _ => true | _ => false) | none => false
 | _, _ => false
def aBuiltin (T : TypeId → Option TE) (H : AHeap) (b : Builtin) (ts : List TypeId) (args : List AV) : Ans :=
 match b, ts, args with
 | .len, ts, [x] => if lenTy T ts x = true then (match lenA H x with | some n => some (.int .i64 n, H) | none => none) else none
 | .append, [t, u], [s, x] => if t = u then aAppend T H t s x else none
 | .copy, [t, _], [s, x] => aCopy T H t s x
 | .clear, [t], [s] => aClear T H t s
 | .min, _, [a, b] => match minA false a b with | some v => some (v, H) | none => none
 | .max, _, [a, b] => match minA true a b with | some v => some (v, H) | none => none
 | _, _, _ => none
def pureA (H : AHeap) : Option AV → Ans
 | some v => some (v, H)
 | none => none
def ares (T : TypeId → Option TE) (ρ : Operand → AV) (H : AHeap) : Op → Ans
 | .move x | .assign x => some (ρ x, H)
 | .pick c a b => match ρ c with | .bool t => some (bif t then ρ a else ρ b, H) | _ => none
 | .alloc e => aAlloc T H e
 | .box e x => aBox T H e (ρ x)
 | .build t parts => pureA H (aBuild T t (parts.toList.map fun p => (p.1, ρ p.2)))
 | .buildSlice t len parts => aBuildSlice T H t len (parts.toList.map fun p => (p.1, ρ p.2))
 | .load t a => match T t with | some te => aLoad te H (ρ a) | none => none
 | .store t a x => match T t with | some te => aStore te H (ρ x) (ρ a) | none => none
 | .nilCheck x => match ρ x with | .ptr id g i f => some (.ptr id g i f, H) | .rop cs => some (.rop cs, H) | .fn f cs => some (.fn f cs, H) | _ => none
 | .binOp op t x y _ => pureA H (aBin T op t (ρ x) (ρ y))
 | .unOp op _ x => pureA H (aUn op (ρ x))
 | .convert s d x => if (T s).isSome = true then pureA H (aConv T s d (ρ x)) else none
 | .makeFunc (.func f) first caps => if first.size = 0 then some (.fn f (caps.toList.map ρ), H) else none
 | .makeSlice t l c => aMakeSlice T H t (ρ l) (ρ c)
 | .slice t x lo hi mx => pureA H (aSliceT T H t (ρ x) (lo.map ρ) (hi.map ρ) (mx.map ρ))
 | .fieldAddr s x f => pureA H (aFieldAddr T s (ρ x) f)
 | .field s x f => pureA H (aField T s (ρ x) f)
 | .indexAddr t x ix => pureA H (aIndexAddr T H t (ρ x) (ρ ix))
 | .index t x ix => pureA H (aIndex T t (ρ x) (ρ ix))
 | .extract t ix => match ρ t with | .tup vs => (match vs[ix]? with | some v => some (v, H) | none => none) | _ => none
 | .call c => match c.callee with | .builtin b => aBuiltin T H b c.argTypes.toList (c.args.toList.map ρ) | _ => none
 | _ => none
end Go.Abs
namespace Go.Abs
set_option linter.unusedSimpArgs false
def ZOK (a : AV) (z : Value) : Prop := ∀ G w, VRel G w a z
def KOK (P : Program) (t : TypeId) : TK → Prop
 | .int k => P.underlying t = some (.int k)
 | .bool => P.underlying t = some .bool
 | .string => P.underlying t = some .string
 | .slice e => P.underlying t = some (.slice e)
 | .map k e => P.underlying t = some (.map k e)
 | .struct fs => ∃ fields : Array Field, P.underlying t = some (.struct fields) ∧ fs = (fields.toList.map fun f => (f.offset, f.type)) ∧ ∀ f ∈ fields.toList, ∃ i, P.info? f.type = some i
 | .pointer => ∃ e, P.underlying t = some (.pointer e)
 | .func => ∃ a b c, P.underlying t = some (.func a b c)
 | .other => ∃ d, P.underlying t = some d ∧ (match d with | .struct _ | .array _ _ => true | _ => false) = false
def EqOK (P : Program) (t : TypeId) (ks : List EK) : Prop :=
 ∀ (w : World) (G : Gh) (a b : List AV) (x y : Array Value) (r : Bool), VRel G w (.agg a) (.agg x) → VRel G w (.agg b) (.agg y) → cellEq ks a b = some r →
  (Op.equal t (.agg x) (.agg y)).run P w = .ok r w ∧ P.eqGuardType P.depth t = false
def TOK (P : Program) (T : TypeId → Option TE) : Prop := ∀ t te, T t = some te →
 ∃ i z, P.info? t = some i ∧ i.size = te.size ∧ i.bytes = te.bytes ∧ i.zero = some z ∧ ZOK te.zero z ∧ KOK P t te.kind ∧ (∀ ks, te.eq = some ks → EqOK P t ks)
section
variable {P : Program} {T : TypeId → Option TE} {G : Gh} {H : AHeap} {w : World}
theorem one_cells {v : AV} (h : v.one = true) : v.cells = [v] := by cases v <;> first | rfl | simp [AV.one] at h
theorem VRel.cells {a : AV} {c : Value} (h : VRel G w a c) (h1 : ∀ v ∈ a.cells, v.one = true) :
  c.cells.size = a.cells.length ∧ ∀ (j : Nat) (v : AV) (x : Value), a.cells[j]? = some v → c.cells[j]? = some x → VRel G w v x := by
 by_cases hc : a.one = true
 ·rw [one_cells hc]
  have ho := h.oneCell hc
  have hcc : c.cells = #[c] := by cases c <;> first | rfl | simp [Value.oneCell'] at ho
  rw [hcc]
  refine ⟨rfl, fun j v x hv hx => ?_⟩
  cases j with
  | zero => simp at hv hx; subst hv; subst hx; exact h
  | succ j => simp at hv
 ·cases h with
  | agg hs h1' hv => exact ⟨hs, hv⟩
  | undef => simp [AV.cells, AV.one] at h1
  | skip => simp [AV.cells, AV.one] at h1
  | tup => simp [AV.cells, AV.one] at h1
  | _ => simp [AV.one] at hc
def At (G : Gh) (w : World) (b o : Nat) (cs : List AV) : Prop := ∀ (j : Nat) (v : AV), cs[j]? = some v → ∃ c, w.cell? ⟨b, o + j, none⟩ = some c ∧ VRel G w v c
theorem At.list {b o : Nat} {cs : List AV} (h : At G w b o cs) : ∃ vs : List Value, vs.length = cs.length ∧ (∀ j u, vs[j]? = some u → w.cell? ((⟨b, o, none⟩ : Addr).add j) = some u) ∧
  ∀ (j : Nat) (v : AV) (x : Value), cs[j]? = some v → vs[j]? = some x → VRel G w v x := by
 refine ⟨(List.range cs.length).map fun j => (w.cell? ⟨b, o + j, none⟩).getD Go.undef, by simp, fun j u hu => ?_, fun j v x hv hx => ?_⟩
 ·rw [Addr.add_lit]
  by_cases hj : j < cs.length
  ·simp [hj] at hu
   obtain ⟨c, hc, _⟩ := h j cs[j] (by simp [hj])
   rw [hc] at hu ⊢
   simpa using hu
  ·simp [hj] at hu
 ·have hj : j < cs.length := (List.getElem?_eq_some_iff.1 hv).1
  simp [hj] at hx
  obtain ⟨c, hc, hvr⟩ := h j v hv
  rw [hc] at hx
  simp at hx
  exact hx ▸ hvr
theorem TOK.info (hT : TOK P T) {t : TypeId} {te : TE} (h : T t = some te) : ∃ i z, P.info? t = some i ∧ i.size = te.size ∧ i.bytes = te.bytes ∧ i.zero = some z ∧ ZOK te.zero z :=
 let ⟨i, z, h1, h2, h3, h4, h5, _⟩ := hT t te h
 ⟨i, z, h1, h2, h3, h4, h5⟩
theorem TOK.kind (hT : TOK P T) {t : TypeId} {te : TE} (h : T t = some te) : KOK P t te.kind := let ⟨_, _, _, _, _, _, _, h6, _⟩ := hT t te h; h6
theorem TOK.eq (hT : TOK P T) {t : TypeId} {te : TE} (h : T t = some te) : ∀ ks, te.eq = some ks → EqOK P t ks := let ⟨_, _, _, _, _, _, _, _, h7⟩ := hT t te h; h7
theorem run_sizeOf' (hT : TOK P T) {t : TypeId} {te : TE} (h : T t = some te) (w : World) : (sizeOf t).run P w = .ok te.size w := by
 obtain ⟨i, z, h1, h2, _⟩ := hT.info h
 simp [sizeOf, typeInfo, h1, h2]
theorem run_typeInfo {t : TypeId} {i : TypeInfo} (h : P.info? t = some i) (w : World) : (typeInfo t).run P w = .ok i w := by simp [typeInfo, h]
theorem run_isAgg' (hT : TOK P T) {t : TypeId} {te : TE} (h : T t = some te) (w : World) : (isAgg t).run P w = .ok te.kind.agg w := by
 have hk := hT.kind h
 unfold isAgg
 cases hh : te.kind with
 | struct fs => rw [hh] at hk; obtain ⟨fields, hf, _, _⟩ := hk; simp [run_underlying hf, TK.agg]
 | pointer => rw [hh] at hk; obtain ⟨e, hf⟩ := hk; simp [run_underlying hf, TK.agg]
 | func => rw [hh] at hk; obtain ⟨a, b, c, hf⟩ := hk; simp [run_underlying hf, TK.agg]
 | other =>
  rw [hh] at hk; obtain ⟨d, hf, hd⟩ := hk
  cases d <;> first | (simp at hd; done) | simp [run_underlying hf, TK.agg]
 | _ => rw [hh] at hk; simp only [KOK] at hk; simp [run_underlying hk, TK.agg]
theorem run_loadVar (hT : TOK P T) {t : TypeId} {te : TE} (h : T t = some te) {b o : Nat} {cs : List AV} (hat : At G w b o cs) (h1 : ∀ v ∈ cs, v.one = true) {v : AV} (hl : loadC te cs = some v) :
  ∃ c, (loadVar t ⟨b, o, none⟩).run P w = .ok c w ∧ VRel G w v c := by
 unfold loadVar
 simp only [Sem.run_bind, run_isAgg' hT h, Result.andThen_ok]
 unfold loadC at hl
 by_cases ha : te.kind.agg = true
 ·simp only [ha, if_true] at hl ⊢
  by_cases hs : te.size ≤ cs.length
  ·simp only [hs, if_true, Option.some.injEq] at hl
   have hat' : At G w b o (cs.take te.size) := fun j v hv => hat j v (by rw [List.getElem?_take] at hv; split at hv; exact hv; cases hv)
   obtain ⟨vs, hvl, hcell, hrel⟩ := hat'.list
   have hlen : vs.length = te.size := by rw [hvl, List.length_take]; omega
   have hrun := run_loadCells_list (P := P) w ⟨b, o, none⟩ vs hcell
   rw [hlen] at hrun
   refine ⟨.agg vs.toArray, by simp [run_sizeOf' hT h, hrun], ?_⟩
   rw [← hl]
   exact .agg (by simp [hvl]) (fun v hv => h1 v (List.mem_of_mem_take hv)) (fun j v c hv hc => hrel j v c hv (by simpa using hc))
  ·simp [hs] at hl
 ·simp only [ha] at hl ⊢
  cases cs with
  | nil => simp at hl
  | cons c r =>
   simp at hl
   subst hl
   obtain ⟨x, hx, hxr⟩ := hat 0 c rfl
   refine ⟨x, ?_, hxr⟩
   simp [show w.cell? ⟨b, o, none⟩ = some x from hx]
theorem At.drop {b o : Nat} {cs : List AV} (h : At G w b o cs) (k : Nat) : At G w b (o + k) (cs.drop k) := by
 intro j v hv
 rw [List.getElem?_drop] at hv
 obtain ⟨c, hc, hvr⟩ := h (k + j) v hv
 exact ⟨c, by rw [show o + k + j = o + (k + j) by omega]; exact hc, hvr⟩
theorem Rel.at (hr : Rel G H w) {id e sz g : Nat} {es : List AV} (hg : H.get id = some (.row e sz g es)) {i : Nat} {x : AV} (hx : es[i]? = some x) :
  At G w (G.blk id g) (G.base id g + i * sz) x.cells := by
 obtain ⟨_, _, _, _, _, _, _, cur, h7, _, h9⟩ := hr.blk id _ hg
 intro j v hv
 obtain ⟨c, hc, hvr⟩ := h9 i x j v hx hv
 exact ⟨c, by simp [World.cell?, h7, hc], hvr⟩
theorem Rel.ones (hr : Rel G H w) {id e sz g : Nat} {es : List AV} (hg : H.get id = some (.row e sz g es)) : ∀ x ∈ es, x.cells.length = sz ∧ ∀ v ∈ x.cells, v.one = true := by
 obtain ⟨_, _, _, _, _, _, h6, _⟩ := hr.blk id _ hg
 exact h6
theorem Rel.row (hr : Rel G H w) {id e sz g : Nat} {es : List AV} (hg : H.get id = some (.row e sz g es)) : G.dom id ∧ g = G.gm id ∧ sz = G.sz id ∧ 0 < sz := by
 obtain ⟨h, h1, h2, h3, _⟩ := hr.blk id _ hg
 exact ⟨h, h1, h2, h3⟩
theorem aLoad_sound (hT : TOK P T) (hr : Rel G H w) {t : TypeId} {te : TE} (ht : T t = some te) {a : AV} {ca : Value} (ha : VRel G w a ca) {v : AV} {H' : AHeap} (h : aLoad te H a = some (v, H')) :
  H' = H ∧ ∃ c, (Instr.loadAt t ca).run P w = .ok c w ∧ VRel G w v c := by
 cases ha with
 | @ptr id g i f hid hgm =>
  simp only [aLoad] at h
  cases hb : H.get id with
  | none => simp [hb] at h
  | some blk =>
   cases blk with
   | map kt et m => simp [hb] at h
   | lp => simp [hb] at h
   | row e sz g' es =>
    simp only [hb] at h
    by_cases hg : g' = g
    ·subst hg
     simp only [if_true] at h
     cases hx : es[i]? with
     | none => simp [hx] at h
     | some x =>
      simp only [hx] at h
      cases hl : loadC te (x.cells.drop f) with
      | none => simp [hl] at h
      | some u =>
       simp only [hl, Option.some.injEq, Prod.mk.injEq] at h
       obtain ⟨rfl, rfl⟩ := h
       obtain ⟨_, _, hsz, _⟩ := hr.row hb
       have hat := (hr.at hb hx).drop f
       obtain ⟨c, hc, hv⟩ := run_loadVar hT ht hat (fun v hv => (hr.ones hb x (List.mem_of_getElem? hx)).2 v (List.mem_of_mem_drop hv)) hl
       refine ⟨rfl, c, ?_, hv⟩
       simp only [Instr.loadAt, Instr.sureAddr, Sem.run_bind, Sem.run_pure, Result.andThen_ok]
       rw [← hsz]; exact hc
    ·simp [hg] at h
 | @rop cs b o f hc h1 hv =>
  simp only [aLoad] at h
  cases hl : loadC te cs with
  | none => simp [hl] at h
  | some u =>
   simp only [hl, Option.some.injEq, Prod.mk.injEq] at h
   obtain ⟨rfl, rfl⟩ := h
   have hat : At G w b o cs := fun j v hjv => ⟨f j, (hc j (List.getElem?_eq_some_iff.1 hjv).1).2, hv j v hjv⟩
   obtain ⟨c, hc', hv'⟩ := run_loadVar hT ht hat h1 hl
   exact ⟨rfl, c, by simp [Instr.loadAt, Instr.sureAddr, hc'], hv'⟩
 | _ => simp [aLoad] at h
theorem reE_cells (x : AV) (y : List AV) (hl : y.length = x.cells.length) (h1 : ∀ v ∈ y, v.one = true) : (reE x y).cells = y := by
 cases x with
 | agg cs => rfl
 | _ =>
  simp only [AV.cells, List.length_singleton] at hl
  match y, hl with
  | [c], _ => exact one_cells (h1 c (by simp))
theorem Run.store (hr : Rel G H w) {id e sz g : Nat} {es : List AV} (hg : H.get id = some (.row e sz g es)) {i : Nat} {x : AV} (hx : es[i]? = some x) (f : Nat) (ncs : List AV) (vs : List Value)
  (hl : vs.length = ncs.length) (hv : ∀ (j : Nat) (v : AV) (c : Value), ncs[j]? = some v → vs[j]? = some c → VRel G w v c) (h1 : ∀ v ∈ ncs, v.one = true) (hf : f + ncs.length ≤ x.cells.length) :
  ∃ cs,
  (storeCells ⟨G.blk id g, G.base id g + i * sz + f, none⟩ vs).run P w = .ok () (w.setRow (G.blk id g) cs) ∧
  Run G H w G (H.put id (.row e sz g (es.set i (reE x (x.cells.take f ++ ncs ++ x.cells.drop (f + ncs.length)))))) (w.setRow (G.blk id g) cs) := by
 obtain ⟨hid, hgm, hsz, hpos, hlen, hcap, hones, cur, hcur, hsize, hrel⟩ := hr.blk id _ hg
 have hxl := (hones x (List.mem_of_getElem? hx)).1
 have hi : i < es.length := (List.getElem?_eq_some_iff.1 hx).1
 have hb1 : i * sz + sz ≤ G.cap id g * sz := by
  have : (i + 1) * sz ≤ G.cap id g * sz := Nat.mul_le_mul_right _ (by omega)
  rw [Nat.add_mul] at this; omega
 have hfit : G.base id g + i * sz + f + vs.length ≤ cur.size := by omega
 have h1c : ∀ u ∈ vs, u.oneCell' = true := fun u hu => by
  obtain ⟨j, hj⟩ := List.mem_iff_getElem?.1 hu
  have hjl : j < ncs.length := by rw [← hl]; exact (List.getElem?_eq_some_iff.1 hj).1
  exact (hv j ncs[j] u (by simp [hjl]) hj).oneCell (h1 _ (List.getElem_mem hjl))
 have hst := run_storeCells_at P (G.blk id g) (G.base id g + i * sz + f) e vs 0 cur w hcur (by simpa using hfit) h1c
 simp only [Nat.add_zero] at hst
 refine ⟨_, hst, ?_⟩
 have hnew := setRow_heap w (G.blk id g) cur (cur.toList.take (G.base id g + i * sz + f) ++ vs ++ cur.toList.drop (G.base id g + i * sz + f + vs.length)).toArray e (0, 0) hcur
 have hother : ∀ k, k ≠ G.blk id g → (w.setRow (G.blk id g) (cur.toList.take (G.base id g + i * sz + f) ++ vs ++ cur.toList.drop (G.base id g + i * sz + f + vs.length)).toArray).heap[k]? = w.heap[k]? :=
  fun k hk => setRow_other w _ k _ hk
 have hImm : ∀ b, G.I b → (w.setRow (G.blk id g) (cur.toList.take (G.base id g + i * sz + f) ++ vs ++ cur.toList.drop (G.base id g + i * sz + f + vs.length)).toArray).heap[b]? = w.heap[b]? :=
  fun b hb => hother b (fun e' => hr.imm id _ hg (e' ▸ hb))
 have hre : (reE x (x.cells.take f ++ ncs ++ x.cells.drop (f + ncs.length))).cells = x.cells.take f ++ ncs ++ x.cells.drop (f + ncs.length) := by
  refine reE_cells x _ (by simp; omega) fun v hm => ?_
  rw [List.append_assoc, List.mem_append, List.mem_append] at hm
  rcases hm with hm | hm | hm
  ·exact (hones _ (List.mem_of_getElem? hx)).2 _ (List.mem_of_mem_take hm)
  ·exact h1 _ hm
  ·exact (hones _ (List.mem_of_getElem? hx)).2 _ (List.mem_of_mem_drop hm)
 refine Run.put hr hg (.refl G) (fun _ h => h) (fun _ => Iff.rfl) (fun _ _ _ => rfl) ?_ rfl rfl rfl (by simp) (fun k _ hk => hother k hk) (.inl rfl)
 refine ⟨hgm, hsz, hpos, by simpa using hlen, hcap, ?_, _, hnew, ?_, ?_⟩
 ·intro y hy
  rcases List.mem_or_eq_of_mem_set hy with hy | rfl
  ·exact hones y hy
  ·rw [hre]
   refine ⟨by simp; omega, fun v hv' => ?_⟩
   rw [List.append_assoc, List.mem_append, List.mem_append] at hv'
   rcases hv' with hm | hm | hm
   ·exact (hones _ (List.mem_of_getElem? hx)).2 _ (List.mem_of_mem_take hm)
   ·exact h1 _ hm
   ·exact (hones _ (List.mem_of_getElem? hx)).2 _ (List.mem_of_mem_drop hm)
 ·simp; omega
 ·intro k y j v hy hvj
  have hget : ∀ q, (cur.toList.take (G.base id g + i * sz + f) ++ vs ++ cur.toList.drop (G.base id g + i * sz + f + vs.length)).toArray[q]? =
    if q < G.base id g + i * sz + f then cur[q]? else if q < G.base id g + i * sz + f + vs.length then vs[q - (G.base id g + i * sz + f)]? else cur[q]? := by
   intro q
   simp only [List.getElem?_toArray]
   by_cases hq1 : q < G.base id g + i * sz + f
   ·rw [if_pos hq1, List.append_assoc, List.getElem?_append_left (by simp; omega), List.getElem?_take, if_pos hq1]; simp
   ·rw [if_neg hq1]
    have hml : (cur.toList.take (G.base id g + i * sz + f)).length = G.base id g + i * sz + f := by simp; omega
    by_cases hq2 : q < G.base id g + i * sz + f + vs.length
    ·rw [if_pos hq2, List.append_assoc, List.getElem?_append_right (by omega), hml, List.getElem?_append_left (by omega)]
    ·rw [if_neg hq2, List.getElem?_append_right (by simp; omega), List.getElem?_drop]
     simp only [List.length_append, hml]
     rw [show G.base id g + i * sz + f + vs.length + (q - (G.base id g + i * sz + f + vs.length)) = q by omega]; simp
  by_cases hki : k = i
  ·subst hki
   rw [List.getElem?_set_self (by omega)] at hy
   simp only [Option.some.injEq] at hy
   subst hy
   rw [hre] at hvj
   rw [hget]
   by_cases hj1 : j < f
   ·rw [if_pos (by omega)]
    rw [List.append_assoc, List.getElem?_append_left (by simp; omega), List.getElem?_take, if_pos hj1] at hvj
    obtain ⟨c, hc, hvr⟩ := hrel k x j v hx hvj
    exact ⟨c, hc, hvr.mono (.refl G) hImm⟩
   ·rw [if_neg (by omega)]
    have hml : (x.cells.take f).length = f := by simp; omega
    by_cases hj2 : j < f + ncs.length
    ·rw [if_pos (by omega)]
     rw [List.append_assoc, List.getElem?_append_right (by omega), hml, List.getElem?_append_left (by omega)] at hvj
     have hjl : j - f < vs.length := by omega
     refine ⟨vs[j - f], ?_, ?_⟩
     ·rw [show G.base id g + k * sz + j - (G.base id g + k * sz + f) = j - f by omega]; simp [hjl]
     ·exact (hv (j - f) v vs[j - f] hvj (by simp [hjl])).mono (.refl G) hImm
    ·rw [if_neg (by omega)]
     rw [List.getElem?_append_right (by simp; omega), List.getElem?_drop] at hvj
     simp only [List.length_append, hml] at hvj
     rw [show f + ncs.length + (j - (f + ncs.length)) = j by omega] at hvj
     obtain ⟨c, hc, hvr⟩ := hrel k x j v hx hvj
     exact ⟨c, hc, hvr.mono (.refl G) hImm⟩
  ·rw [List.getElem?_set_ne (fun e' => hki e'.symm)] at hy
   obtain ⟨c, hc, hvr⟩ := hrel k y j v hy hvj
   have hjsz : j < sz := by rw [← (hones y (List.mem_of_getElem? hy)).1]; exact (List.getElem?_eq_some_iff.1 hvj).1
   refine ⟨c, ?_, hvr.mono (.refl G) hImm⟩
   rw [hget]
   rcases Nat.lt_or_gt_of_ne hki with hlt | hgt
   ·have : (k + 1) * sz ≤ i * sz := Nat.mul_le_mul_right _ hlt
    rw [Nat.add_mul] at this
    rw [if_pos (by omega)]; exact hc
   ·have : (i + 1) * sz ≤ k * sz := Nat.mul_le_mul_right _ hgt
    rw [Nat.add_mul] at this
    rw [if_neg (by omega), if_neg (by omega)]; exact hc
end
end Go.Abs
namespace Go.Abs
set_option linter.unusedSimpArgs false
set_option linter.unusedVariables false
section
variable {P : Program} {T : TypeId → Option TE} {G : Gh} {H : AHeap} {w : World}
theorem ones_of_all {l : List AV} (h : l.all AV.one = true) : ∀ v ∈ l, v.one = true := List.all_eq_true.1 h
theorem aStore_sound (hT : TOK P T) (hr : Rel G H w) {t : TypeId} {te : TE} (ht : T t = some te) {a x : AV} {ca cx : Value} (ha : VRel G w a ca) (hx : VRel G w x cx) {v : AV} {H' : AHeap}
  (h : aStore te H x a = some (v, H')) : v = .skip ∧ ∃ w', (Instr.storeAt t ca cx).run P w = .ok () w' ∧ Run G H w G H' w' := by
 cases ha with
 | @ptr id g i f hid hgm =>
  simp only [aStore] at h
  cases hb : H.get id with
  | none => simp [hb] at h
  | some blk =>
   cases blk with
   | map kt et m => simp [hb] at h
   | lp => simp [hb] at h
   | row e sz g' es =>
    simp only [hb] at h
    by_cases hg : g' = g ∧ x.cells.length = te.size ∧ x.cells.all AV.one = true
    ·obtain ⟨rfl, hxl, hxa⟩ := hg
     simp only [hxl, hxa, and_self, if_true] at h
     cases hy : es[i]? with
     | none => simp [hy] at h
     | some y =>
      simp only [hy] at h
      by_cases hf : f + te.size ≤ y.cells.length
      ·simp only [hf, if_true, Option.some.injEq, Prod.mk.injEq] at h
       obtain ⟨rfl, rfl⟩ := h
       refine ⟨rfl, ?_⟩
       have h1 := ones_of_all hxa
       obtain ⟨hcs, hcr⟩ := hx.cells h1
       obtain ⟨_, _, hsz, _⟩ := hr.row hb
       obtain ⟨cs, hst, hrun⟩ := Run.store (P := P) hr hb hy f x.cells cx.cells.toList (by simpa using hcs) (fun j v c hv hc => hcr j v c hv (by simpa using hc)) h1 (by rw [hxl]; exact hf)
       rw [hxl] at hrun
       refine ⟨_, ?_, hrun⟩
       simp only [Instr.storeAt, Instr.sureAddr, Sem.run_bind, Sem.run_pure, Result.andThen_ok, storeVar, run_sizeOf' hT ht]
       rw [if_neg (by rw [hcs, hxl]; simp)]
       rw [← hsz]; exact hst
      ·simp [hf] at h
    ·rw [if_neg hg] at h; cases h
 | _ => simp [aStore] at h
theorem Run.row (hr : Rel G H w) (e sz : Nat) (es : List AV) (cap : Nat) (cs : Array Value) (hpos : 0 < sz) (hl : es.length ≤ cap) (hcap : cap ≤ maxLen) (hsize : cs.size = cap * sz)
  (h1 : ∀ x ∈ es, x.cells.length = sz ∧ ∀ v ∈ x.cells, v.one = true)
  (hv : ∀ (i : Nat) (x : AV) (j : Nat) (v : AV), es[i]? = some x → x.cells[j]? = some v → ∃ c, cs[i * sz + j]? = some c ∧ VRel G w v c) :
  Run G H w (G.add H.n w.heap.size 0 cap sz) (H.alloc (.row e sz 0 es)) (w.alloc (.cells cs e)) := by
 refine Run.alloc hr _ 0 cap sz _ ?_
 have hold : ∀ k, G.I k → (w.alloc (.cells cs e)).heap[k]? = w.heap[k]? := fun k hk => heap_alloc_old w _ k (hr.ilt k hk)
 refine ⟨by simp [Gh.add], by simp [Gh.add], hpos, by simpa [Gh.add] using hl, by simpa [Gh.add] using hcap, h1, cs, ?_, by simpa [Gh.add] using hsize, ?_⟩
 ·simp only [Gh.add, if_true]; exact heap_alloc_new w _
 ·intro i x j v hx hvj
  obtain ⟨c, hc, hvr⟩ := hv i x j v hx hvj
  exact ⟨c, by simpa [Gh.add] using hc, hvr.mono (G.ext_add hr.new _ _ _ _) hold⟩
theorem VRel.newSl (hr : Rel G H w) (w' : World) (cap sz len : Nat) (h : len ≤ cap) : VRel (G.add H.n w.heap.size 0 cap sz) w' (.sl H.n 0 0 len) (.slice (some ⟨w.heap.size, 0, none⟩) len cap) := by
 have := VRel.sl (G := G.add H.n w.heap.size 0 cap sz) (w := w') (id := H.n) (g := 0) (off := 0) (len := len) (o := 0) (c := cap) (by simp [Gh.add]) (Nat.zero_le _) (by simp [Gh.add]) h (.inl (by simp [Gh.add]))
 simpa [Gh.add] using this
theorem VRel.newPtr (hr : Rel G H w) (w' : World) (cap sz : Nat) : VRel (G.add H.n w.heap.size 0 cap sz) w' (.ptr H.n 0 0 0) (.pointer (some ⟨w.heap.size, 0, none⟩)) := by
 have := VRel.ptr (G := G.add H.n w.heap.size 0 cap sz) (w := w') (id := H.n) (g := 0) (i := 0) (f := 0) (by simp [Gh.add]) (Nat.zero_le _)
 simpa [Gh.add] using this
theorem box_sound (hr : Rel G H w) {e : TypeId} {te : TE} {x : AV} {cx : Value} (hx : VRel G w x cx) (hpos : 0 < te.size) (hl : x.cells.length = te.size) (ha : x.cells.all AV.one = true) :
  (newVar e cx).run P w = .ok ⟨w.heap.size, 0, none⟩ (w.alloc (.cells cx.cells e)) ∧
  VRel (G.add H.n w.heap.size 0 1 te.size) (w.alloc (.cells cx.cells e)) (.ptr H.n 0 0 0) (.pointer (some ⟨w.heap.size, 0, none⟩)) ∧
  Run G H w (G.add H.n w.heap.size 0 1 te.size) (H.alloc (.row e te.size 0 [x])) (w.alloc (.cells cx.cells e)) := by
 have h1 := ones_of_all ha
 obtain ⟨hs, hc⟩ := hx.cells h1
 refine ⟨by simp [newVar, newRow], VRel.newPtr hr _ _ _, Run.row hr e te.size [x] 1 cx.cells hpos (by simp) (by unfold maxLen; omega) (by rw [hs, hl]; simp) ?_ ?_⟩
 ·intro y hy; simp at hy; subst hy; exact ⟨hl, h1⟩
 ·intro i y j v hy hv
  cases i with
  | zero =>
   simp at hy; subst hy
   have hj : j < cx.cells.size := by rw [hs]; exact (List.getElem?_eq_some_iff.1 hv).1
   exact ⟨cx.cells[j], by simp [hj], hc j v _ hv (by simp [hj])⟩
  | succ i => simp at hy
theorem aAlloc_sound (hT : TOK P T) (hr : Rel G H w) {e : TypeId} {v : AV} {H' : AHeap} (h : aAlloc T H e = some (v, H')) :
  ∃ c G' w', (Instr.alloc e true (.tuple #[])).run P w = .ok c w' ∧ VRel G' w' v c ∧ Run G H w G' H' w' := by
 unfold aAlloc at h
 cases ht : T e with
 | none => simp [ht] at h
 | some te =>
  simp only [ht] at h
  split at h
  ·rename_i hc
   obtain ⟨hpos, hl, ha⟩ := hc
   simp only [Option.some.injEq, Prod.mk.injEq] at h
   obtain ⟨rfl, rfl⟩ := h
   obtain ⟨i, z, hi, hsz, hby, hz, hzok⟩ := hT.info ht
   obtain ⟨hrun, hv, hg⟩ := box_sound (P := P) hr (e := e) (te := te) (hzok G w) hpos hl ha
   refine ⟨_, _, _, ?_, hv, hg⟩
   simp only [Instr.alloc, zeroValue, Sem.run_bind, run_typeInfo hi, Result.andThen_ok, hz, Sem.run_pure, hrun]
  ·cases h
theorem aBox_sound (_hT : TOK P T) (hr : Rel G H w) {e : TypeId} {x : AV} {cx : Value} (hx : VRel G w x cx) {v : AV} {H' : AHeap} (h : aBox T H e x = some (v, H')) :
  ∃ c G' w', (Instr.box e cx).run P w = .ok c w' ∧ VRel G' w' v c ∧ Run G H w G' H' w' := by
 unfold aBox at h
 cases ht : T e with
 | none => simp [ht] at h
 | some te =>
  simp only [ht] at h
  split at h
  ·rename_i hc
   obtain ⟨hpos, hl, ha⟩ := hc
   simp only [Option.some.injEq, Prod.mk.injEq] at h
   obtain ⟨rfl, rfl⟩ := h
   obtain ⟨hrun, hv, hg⟩ := box_sound (P := P) hr (e := e) (te := te) hx hpos hl ha
   refine ⟨_, _, _, ?_, hv, hg⟩
   simp only [Instr.box, Sem.run_bind, Result.andThen_ok, Sem.run_pure, hrun]
  ·cases h
theorem elemT_spec (hT : TOK P T) {t e : TypeId} {ee : TE} (h : elemT T t = some (e, ee)) : P.underlying t = some (.slice e) ∧ T e = some ee := by
 unfold elemT at h
 cases ht : T t with
 | none => simp [ht] at h
 | some te =>
  simp only [ht] at h
  have hk := hT.kind ht
  cases hh : te.kind with
  | slice e' =>
   simp only [hh] at h
   rw [hh] at hk
   cases he : T e' with
   | none => simp [he] at h
   | some x =>
    simp only [he, Option.some.injEq, Prod.mk.injEq] at h
    obtain ⟨rfl, rfl⟩ := h
    exact ⟨hk, he⟩
  | _ => simp [hh] at h
theorem At.mono {G' : Gh} {w' : World} {b o : Nat} {cs : List AV} (h : At G w b o cs) (he : Ext G G') (hI : ∀ k, G.I k → w'.heap[k]? = w.heap[k]?) (hb : w'.heap[b]? = w.heap[b]?) : At G' w' b o cs := by
 intro j v hv
 obtain ⟨c, hc, hvr⟩ := h j v hv
 exact ⟨c, by rw [World.cell?_of_block (w := w) (a := ⟨b, o + j, none⟩) hb]; exact hc, hvr.mono he hI⟩
theorem flat_get {es : List AV} {sz : Nat} (hs : ∀ x ∈ es, x.cells.length = sz) : (es.flatMap AV.cells).length = es.length * sz ∧
  ∀ (i : Nat) (x : AV) (j : Nat), es[i]? = some x → j < sz → (es.flatMap AV.cells)[i * sz + j]? = x.cells[j]? := by
 induction es with
 | nil => exact ⟨by simp, fun i x j h => by simp at h⟩
 | cons y r ih =>
  obtain ⟨h1, h2⟩ := ih (fun x hx => hs x (List.mem_cons_of_mem _ hx))
  have hy := hs y (by simp)
  refine ⟨by simp [h1, hy, Nat.add_mul, Nat.add_comm], fun i x j hx hj => ?_⟩
  simp only [List.flatMap_cons]
  cases i with
  | zero =>
   simp at hx; subst hx
   rw [List.getElem?_append_left (by omega)]; simp
  | succ i =>
   simp at hx
   rw [List.getElem?_append_right (by rw [hy, Nat.add_mul]; omega), hy, show (i + 1) * sz + j - sz = i * sz + j by rw [Nat.add_mul]; omega]
   exact h2 i x j hx hj
theorem flat_at {es : List AV} {sz : Nat} (hs : ∀ x ∈ es, x.cells.length = sz) (_hpos : 0 < sz) {k : Nat} {v : AV} (h : (es.flatMap AV.cells)[k]? = some v) :
  ∃ i x j, es[i]? = some x ∧ x.cells[j]? = some v ∧ k = i * sz + j ∧ j < sz := by
 have hk : k < es.length * sz := by rw [← (flat_get hs).1]; exact (List.getElem?_eq_some_iff.1 h).1
 have hi : k / sz < es.length := Nat.div_lt_of_lt_mul (by rw [Nat.mul_comm]; exact hk)
 have hm : k % sz < sz := Nat.mod_lt _ _hpos
 have he : k / sz * sz + k % sz = k := by rw [Nat.mul_comm]; exact Nat.div_add_mod k sz
 refine ⟨k / sz, es[k / sz], k % sz, by simp [hi], ?_, he.symm, hm⟩
 rw [← (flat_get hs).2 (k / sz) es[k / sz] (k % sz) (by simp [hi]) hm, he]; exact h
theorem elems_sound (hr : Rel G H w) {x : AV} {cx : Value} (hx : VRel G w x cx) {xs : List AV} (h : elems H x = some xs) {sz : Nat} (hsz : ∀ y ∈ xs, y.cells.length = sz) (hpos : 0 < sz) :
  (∀ y ∈ xs, ∀ v ∈ y.cells, v.one = true) ∧
  ((xs = [] ∧ ∃ a c, cx = .slice a 0 c) ∨ ∃ b o c, cx = .slice (some ⟨b, o, none⟩) xs.length c ∧ At G w b o (xs.flatMap AV.cells) ∧ b < w.heap.size) := by
 cases hx with
 | nils => simp [elems] at h; subst h; exact ⟨by simp, .inl ⟨rfl, _, _, rfl⟩⟩
 | emp a => simp [elems] at h; subst h; exact ⟨by simp, .inl ⟨rfl, _, _, rfl⟩⟩
 | roe a c ha => simp [elems] at h; subst h; exact ⟨by simp, .inl ⟨rfl, _, _, rfl⟩⟩
 | ronil a => simp [elems] at h; subst h; exact ⟨by simp, .inl ⟨rfl, _, _, rfl⟩⟩
 | @ro es b o c sz' f hs h1 hc hv hl =>
  simp [elems] at h; subst h
  refine ⟨h1, ?_⟩
  by_cases he : es = []
  ·subst he; exact .inl ⟨rfl, _, _, rfl⟩
  ·have hss : sz' = sz := by
    cases es with
    | nil => exact absurd rfl he
    | cons y r => rw [← hs y (by simp), hsz y (by simp)]
   subst hss
   refine .inr ⟨b, o, c, rfl, ?_, ?_⟩
   ·intro k v hk
    obtain ⟨i, x, j, hx, hj, rfl, hjs⟩ := flat_at hs hpos hk
    refine ⟨f (i * sz' + j), (hc _ ?_).2, hv i x j v hx hj⟩
    rw [← (flat_get hs).1]; exact (List.getElem?_eq_some_iff.1 hk).1
   ·have : 0 < es.length * sz' := Nat.mul_pos (List.length_pos_iff.2 he) hpos
    exact hr.ilt b (hc 0 this).1
 | @sl id g off len o c hid hg hc hl ho =>
  simp only [elems] at h
  cases hb : H.get id with
  | none => simp [hb] at h
  | some blk =>
   cases blk with
   | map kt et m => simp [hb] at h
   | lp => simp [hb] at h
   | row e sz' g' es =>
    simp only [hb] at h
    split at h
    ·rename_i hcond
     obtain ⟨rfl, hle⟩ := hcond
     simp only [Option.some.injEq] at h
     subst h
     obtain ⟨_, _, hsz', hpos'⟩ := hr.row hb
     have hones := hr.ones hb
     have hmem : ∀ y ∈ (es.drop off).take len, y ∈ es := fun y hy => List.mem_of_mem_drop (List.mem_of_mem_take hy)
     have hll : ((es.drop off).take len).length = len := by simp; omega
     refine ⟨fun y hy => (hones y (hmem y hy)).2, ?_⟩
     by_cases hl0 : len = 0
     ·subst hl0; exact .inl ⟨by simp, _, _, rfl⟩
     ·have hss : sz' = sz := by
       have : (es.drop off).take len ≠ [] := fun e => hl0 (by rw [← hll, e]; rfl)
       obtain ⟨y, hy⟩ := List.exists_mem_of_ne_nil _ this
       rw [← (hones y (hmem y hy)).1, hsz y hy]
      subst hss
      have hoo : o = G.base id g' + off * sz' := by
       rcases ho with ho | ho
       ·rw [ho, hsz']
       ·omega
      refine .inr ⟨G.blk id g', o, c, by rw [hll], ?_, hr.lt hb⟩
      intro k v hk
      obtain ⟨i, x, j, hx, hj, rfl, hjs⟩ := flat_at hsz hpos hk
      have hx' : es[off + i]? = some x := by
       rw [List.getElem?_take] at hx
       split at hx
       ·rwa [List.getElem?_drop] at hx
       ·cases hx
      obtain ⟨c', hc', hvr⟩ := hr.at hb hx' j v hj
      refine ⟨c', ?_, hvr⟩
      rw [hoo, show G.base id g' + off * sz' + (i * sz' + j) = G.base id g' + (off + i) * sz' + j by rw [Nat.add_mul]; omega]
      exact hc'
    ·cases h
 | _ => simp [elems] at h
theorem elems_len (hr : Rel G H w) {x : AV} {cx : Value} (hx : VRel G w x cx) {xs : List AV} (h : elems H x = some xs) : ∃ a c, cx = .slice a xs.length c := by
 cases hx with
 | nils => simp [elems] at h; subst h; exact ⟨_, _, rfl⟩
 | emp a => simp [elems] at h; subst h; exact ⟨_, _, rfl⟩
 | roe a c ha => simp [elems] at h; subst h; exact ⟨_, _, rfl⟩
 | ronil a => simp [elems] at h; subst h; exact ⟨_, _, rfl⟩
 | ro hs h1 hc hv hl => simp [elems] at h; subst h; exact ⟨_, _, rfl⟩
 | @sl id g off len o c hid hg hc hl ho =>
  simp only [elems] at h
  cases hb : H.get id with
  | none => simp [hb] at h
  | some blk =>
   cases blk with
   | map kt et m => simp [hb] at h
   | lp => simp [hb] at h
   | row e sz' g' es =>
    simp only [hb] at h
    split at h
    ·rename_i hcond
     simp only [Option.some.injEq] at h
     subst h
     exact ⟨_, _, by rw [show ((es.drop off).take len).length = len by simp; omega]⟩
    ·cases h
 | _ => simp [elems] at h
theorem run_append_in {t ty e : TypeId} {i : TypeInfo} (ht : P.underlying t = some (.slice e)) (hi : P.info? e = some i) (a : Addr) (n cap : Nat) (x : Value) (m : Nat)
  (hx : ∃ a c, x = .slice a m c) (news : List Value) (hl : (Builtin.firstCells i.size m x).run P w = .ok news.toArray w) (hroom : n + m ≤ cap) {w' : World}
  (hst : (storeCells (a.add (n * i.size)) news).run P w = .ok () w') :
  (Builtin.append_ #[t, t] ty #[.slice (some a) n cap, x]).run P w = .ok (.slice (some a) (n + m) cap) w' := by
 obtain ⟨a', c, rfl⟩ := hx
 simp [Builtin.append_, run_underlying ht, sizeOf, typeInfo, hi, Builtin.lenOf, hroom, hl, hst]
theorem run_append_zero {t ty e : TypeId} {i : TypeInfo} (ht : P.underlying t = some (.slice e)) (hi : P.info? e = some i) (b : Option Addr) (n cap : Nat) (a : Option Addr) (c : Nat) (hn : n ≤ cap) :
  (Builtin.append_ #[t, t] ty #[.slice b n cap, .slice a 0 c]).run P w = .ok (.slice b n cap) w := by
 cases b <;> cases a <;> simp [Builtin.append_, run_underlying ht, sizeOf, typeInfo, hi, Builtin.lenOf, hn, Builtin.firstCells, loadCells, loadCellsFrom, storeCells]
def Gh.bump (G : Gh) (id b base cap : Nat) : Gh :=
 {dom := G.dom, gm := fun i => if i = id then G.gm id + 1 else G.gm i, blk := fun i g => if i = id ∧ g = G.gm id + 1 then b else G.blk i g,
  base := fun i g => if i = id ∧ g = G.gm id + 1 then base else G.base i g, cap := fun i g => if i = id ∧ g = G.gm id + 1 then cap else G.cap i g, sz := G.sz, I := G.I }
theorem Gh.ext_bump (G : Gh) (id b base cap : Nat) : Ext G (G.bump id b base cap) :=
 ⟨fun _ h => h, fun i _ => by simp only [Gh.bump]; split <;> (subst_vars; omega), fun _ _ => rfl,
  fun i g _ hg => by simp only [Gh.bump]; rw [if_neg]; rintro ⟨rfl, rfl⟩; omega,
  fun i g _ hg => by simp only [Gh.bump]; rw [if_neg]; rintro ⟨rfl, rfl⟩; omega,
  fun i g _ hg => by simp only [Gh.bump]; rw [if_neg]; rintro ⟨rfl, rfl⟩; omega, fun _ h => h⟩
theorem aAppend_sound (hT : TOK P T) (hr : Rel G H w) {t ty : TypeId} {s x : AV} {cs cx : Value} (hs : VRel G w s cs) (hx : VRel G w x cx) {v : AV} {H' : AHeap}
  (h : aAppend T H t s x = some (v, H')) : ∃ c G' w', (Builtin.append_ #[t, t] ty #[cs, cx]).run P w = .ok c w' ∧ VRel G' w' v c ∧ Run G H w G' H' w' := by
 unfold aAppend at h
 cases he : elemT T t with
 | none => simp [he] at h
 | some ee' =>
  obtain ⟨e, ee⟩ := ee'
  cases hxs : elems H x with
  | none => simp [he, hxs] at h
  | some xs =>
   simp only [he, hxs] at h
   split at h
   case isFalse => cases h
   case isTrue hcond =>
   obtain ⟨hpos, hzl, hz1, hall⟩ := hcond
   obtain ⟨hu, hTe⟩ := elemT_spec hT he
   obtain ⟨i, z, hi, hsz, hby, hz, hzok⟩ := hT.info hTe
   have hxl : ∀ y ∈ xs, y.cells.length = ee.size := fun y hy => by simpa using List.all_eq_true.1 hall y hy
   obtain ⟨hones, hsrc⟩ := elems_sound hr hx hxs hxl hpos
   have hflat := flat_get hxl
   have hzc : z.cells.size = ee.size := by rw [((hzok G w).cells (ones_of_all hz1)).1, hzl]
   obtain ⟨ax, cx', hcx⟩ := elems_len hr hx hxs
   by_cases hx0 : xs = []
   ·-- nothing is appended
    subst hx0
    simp only [List.length_nil] at hcx
    have hres : ∀ (b : Option Addr) (n cap : Nat), n ≤ cap → cs = .slice b n cap → some (s, H) = some (v, H') →
      ∃ c G' w', (Builtin.append_ #[t, t] ty #[cs, cx]).run P w = .ok c w' ∧ VRel G' w' v c ∧ Run G H w G' H' w' := by
     intro b n cap hn hcs heq
     simp only [Option.some.injEq, Prod.mk.injEq] at heq
     obtain ⟨rfl, rfl⟩ := heq
     exact ⟨cs, G, w, by rw [hcs, hcx]; exact run_append_zero hu hi b n cap ax cx' hn, hs, .refl hr⟩
    cases hs with
    | nils => exact hres _ _ _ (Nat.le_refl _) rfl (by simpa using h)
    | emp a => exact hres _ _ _ (Nat.le_refl _) rfl (by simpa using h)
    | @sl id g off len o c hid hg hc hl ho =>
     cases hb : H.get id with
     | none => simp [hb] at h
     | some blk =>
      cases blk with
      | map kt et m => simp [hb] at h
      | lp => simp [hb] at h
      | row e' sz g' es =>
       simp only [hb] at h
       split at h
       case isFalse => cases h
       case isTrue hcond =>
       obtain ⟨rfl, rfl, rfl, hle, hbytes, h63⟩ := hcond
       simp only [Option.some.injEq, Prod.mk.injEq] at h
       obtain ⟨rfl, rfl⟩ := h
       obtain ⟨_, hgm, hszz, _, hlen, hcapm, hro, cur, hcur, hsize, hrel⟩ := hr.blk id _ hb
       simp only [Blk.gen] at *
       subst hgm
       have hmem : ∀ y ∈ (es.drop off).take len, y ∈ es := fun y hy => List.mem_of_mem_drop (List.mem_of_mem_take hy)
       have hoes : ∀ (k : Nat) (y : AV), ((es.drop off).take len)[k]? = some y → k < len ∧ es[off + k]? = some y := by
        intro k y hy
        rw [List.getElem?_take] at hy
        split at hy
        ·rename_i hk; exact ⟨hk, by rwa [List.getElem?_drop] at hy⟩
        ·cases hy
       have hoffc : off ≤ G.cap id (G.gm id) := by omega
       have hsplit : G.base id (G.gm id) + G.cap id (G.gm id) * ee.size = (G.base id (G.gm id) + off * ee.size) + (G.cap id (G.gm id) - off) * ee.size := by
        rw [Nat.sub_mul]
        have : off * ee.size ≤ G.cap id (G.gm id) * ee.size := Nat.mul_le_mul_right _ hoffc
        omega
       refine ⟨.slice (some ⟨G.blk id (G.gm id), o, none⟩) len c, G.bump id (G.blk id (G.gm id)) (G.base id (G.gm id) + off * ee.size) (G.cap id (G.gm id) - off), w, by rw [hcx]; exact run_append_zero hu hi _ _ _ ax cx' hl, ?_, ?_⟩
       ·have := VRel.sl (G := G.bump id (G.blk id (G.gm id)) (G.base id (G.gm id) + off * ee.size) (G.cap id (G.gm id) - off)) (w := w)
         (id := id) (g := G.gm id + 1) (off := 0) (len := len) (o := o) (c := c) hid (by simp [Gh.bump]) (by simp [Gh.bump]; omega) hl (by
          rcases ho with ho | ho
          ·exact .inl (by simp [Gh.bump, ho, hszz])
          ·exact .inr ho)
        simpa [Gh.bump] using this
       ·refine Run.put hr hb (Gh.ext_bump ..) (fun _ h => h) (fun _ => Iff.rfl) (fun j _ hj => by simp [Gh.bump, hj]) ?_ rfl rfl rfl (Nat.le_refl _) (fun k _ _ => rfl) (.inl (by simp [Gh.bump, Blk.gen]))
        refine ⟨by simp [Gh.bump], by simp [Gh.bump, hszz], hpos, ?_, ?_, ?_, cur, by simpa [Gh.bump] using hcur, ?_, ?_⟩
        ·simp [Gh.bump]; omega
        ·simp [Gh.bump]; omega
        ·intro y hy
         rw [List.append_nil] at hy
         exact hro y (hmem y hy)
        ·rw [hsize]; simp [Gh.bump]; omega
        ·intro k y j u hy hu'
         rw [List.append_nil] at hy
         obtain ⟨_, hy'⟩ := hoes k y hy
         obtain ⟨cc, hcc, hvr⟩ := hrel (off + k) y j u hy' hu'
         exact ⟨cc, by simp only [Gh.bump, and_self, if_true]; rw [show G.base id (G.gm id) + off * ee.size + k * ee.size + j = G.base id (G.gm id) + (off + k) * ee.size + j by rw [Nat.add_mul]; omega]; exact hcc, hvr.mono (Gh.ext_bump ..) (fun _ _ => rfl)⟩
    | _ => simp at h
   ·obtain ⟨b, o, c, hcx', hat, hblt⟩ := hsrc.resolve_left (fun h => hx0 h.1)
    obtain ⟨news, hnl, hncell, hnrel⟩ := hat.list
    have hm : news.length = xs.length * i.size := by rw [hnl, hflat.1, hsz]
    have hmpos : 0 < xs.length := List.length_pos_iff.2 hx0
    have hnat : ∀ (k : Nat) (y : AV) (j : Nat) (u : AV), xs[k]? = some y → y.cells[j]? = some u → ∃ cc, news[k * ee.size + j]? = some cc ∧ VRel G w u cc := by
     intro k y j u hy hu'
     have hj : j < ee.size := by rw [← hxl y (List.mem_of_getElem? hy)]; exact (List.getElem?_eq_some_iff.1 hu').1
     have hk : k < xs.length := (List.getElem?_eq_some_iff.1 hy).1
     have hlt : k * ee.size + j < news.length := by
      rw [hm, hsz]
      have : (k + 1) * ee.size ≤ xs.length * ee.size := Nat.mul_le_mul_right _ hk
      rw [Nat.add_mul] at this; omega
     exact ⟨news[k * ee.size + j], by simp [hlt], hnrel _ u _ (by rw [hflat.2 k y j hy hj]; exact hu') (by simp [hlt])⟩
    have hxo : ∀ y ∈ xs, y.cells.length = ee.size ∧ ∀ u ∈ y.cells, u.one = true := fun y hy => ⟨hxl y hy, hones y hy⟩
    have fresh : ∀ (olds : List Value) (oes : List AV) (old : Nat), olds.length = oes.length * ee.size → (∀ y ∈ oes, y.cells.length = ee.size ∧ ∀ u ∈ y.cells, u.one = true) →
      (∀ (k : Nat) (y : AV) (j : Nat) (u : AV), oes[k]? = some y → y.cells[j]? = some u → ∃ cc, olds[k * ee.size + j]? = some cc ∧ VRel G w u cc) →
      oes.length + xs.length ≤ 9223372036854775807 →
      let cap := grownCap w (oes.length + xs.length) old e
      let cells := olds.toArray ++ news.toArray ++ Builtin.zeroCells z.cells (cap - (oes.length + xs.length))
      (oes ++ xs).length ≤ cap ∧ cap ≤ maxLen ∧ cells.size = cap * ee.size ∧ (∀ y ∈ oes ++ xs, y.cells.length = ee.size ∧ ∀ u ∈ y.cells, u.one = true) ∧
      ∀ (k : Nat) (y : AV) (j : Nat) (u : AV), (oes ++ xs)[k]? = some y → y.cells[j]? = some u → ∃ cc, cells[k * ee.size + j]? = some cc ∧ VRel G w u cc := by
     intro olds oes old hol hoo horel h63 cap cells
     have hge : oes.length + xs.length ≤ cap := grownCap_ge w _ old e
     refine ⟨by simpa using hge, grownCap_le_maxLen w _ old e (by unfold maxLen; omega), ?_, ?_, ?_⟩
     ·simp only [cells, Array.size_append, List.size_toArray, size_zeroCells, hol, hm, hzc, hsz, ← Nat.add_mul]
      congr 1; omega
     ·intro y hy
      rcases List.mem_append.1 hy with hy | hy
      ·exact hoo y hy
      ·exact hxo y hy
     ·intro k y j u hy hu'
      have hgetl : ∀ q, q < olds.length + news.length → cells[q]? = (olds ++ news)[q]? := by
       intro q hq
       simp only [cells]
       rw [Array.getElem?_append_left (by simpa using hq)]
       simp
      have hj : j < ee.size := by
       have : y ∈ oes ++ xs := List.mem_of_getElem? hy
       rcases List.mem_append.1 this with hm' | hm'
       ·rw [← (hoo y hm').1]; exact (List.getElem?_eq_some_iff.1 hu').1
       ·rw [← (hxo y hm').1]; exact (List.getElem?_eq_some_iff.1 hu').1
      have hk : k < oes.length + xs.length := by simpa using (List.getElem?_eq_some_iff.1 hy).1
      have hq : k * ee.size + j < olds.length + news.length := by
       rw [hol, hm, hsz, ← Nat.add_mul]
       have : (k + 1) * ee.size ≤ (oes.length + xs.length) * ee.size := Nat.mul_le_mul_right _ hk
       rw [Nat.add_mul] at this; omega
      rw [hgetl _ hq]
      by_cases hko : k < oes.length
      ·rw [List.getElem?_append_left hko] at hy
       rw [List.getElem?_append_left (by
        rw [hol]
        have : (k + 1) * ee.size ≤ oes.length * ee.size := Nat.mul_le_mul_right _ hko
        rw [Nat.add_mul] at this; omega)]
       exact horel k y j u hy hu'
      ·rw [List.getElem?_append_right (by omega)] at hy
       have hle : oes.length * ee.size ≤ k * ee.size := Nat.mul_le_mul_right _ (by omega)
       rw [List.getElem?_append_right (by omega), hol, show k * ee.size + j - oes.length * ee.size = (k - oes.length) * ee.size + j by rw [Nat.sub_mul]; omega]
       exact hnat _ y j u hy hu'
    have hdr := Run.drew hr
    have news_emp : ∀ (bs : Option Addr), cs = .slice bs 0 0 → xs.length * ee.bytes ≤ 140737488355328 → xs.length ≤ 9223372036854775807 →
      ∃ c G' w', (Builtin.append_ #[t, t] ty #[cs, cx]).run P w = .ok c w' ∧ VRel G' w' (.sl H.n 0 0 xs.length) c ∧ Run G H w G' (H.alloc (.row e ee.size 0 xs)) w' := by
     intro bs hcs hbytes h63
     have hf := fresh [] [] 0 (by simp) (by simp) (by simp) (by simpa using h63)
     simp only [List.length_nil, Nat.zero_add, List.nil_append] at hf
     obtain ⟨f1, f2, f3, f4, f5⟩ := hf
     have hrow := Run.row hdr.rel e ee.size xs _ _ hpos f1 f2 f3 f4 (fun k y j u hy hu' => let ⟨cc, h1, h2⟩ := f5 k y j u hy hu'; ⟨cc, h1, hdr.vrel hr h2⟩)
     refine ⟨.slice (some ⟨w.heap.size, 0, none⟩) xs.length (grownCap w xs.length 0 e), _, _, ?_, VRel.newSl hdr.rel _ _ _ _ f1, hdr.trans hrow⟩
     rw [hcs, hcx']
     cases bs with
     | none =>
      rw [run_append_nil (P := P) w t ty e i z hu hi hz ⟨b, o, none⟩ xs.length c news hm hncell hmpos (by omega) (by rw [hby]; omega)]
      simp
     | some bb =>
      rw [run_append_grow (P := P) w t ty e i z hu hi hz bb 0 0 [] (by simp) (by simp) ⟨b, o, none⟩ xs.length c news hm hncell (by omega) (by omega) (by
       rw [Nat.zero_add, nextslicecap_zero hmpos, hby]; omega)]
      simp
    cases hs with
    | nils =>
     simp only [hx0, if_false] at h
     split at h
     ·rename_i hb; simp only [Option.some.injEq, Prod.mk.injEq] at h; obtain ⟨rfl, rfl⟩ := h; exact news_emp none rfl hb.1 hb.2
     ·cases h
    | emp a =>
     simp only [hx0, if_false] at h
     split at h
     ·rename_i hb; simp only [Option.some.injEq, Prod.mk.injEq] at h; obtain ⟨rfl, rfl⟩ := h; exact news_emp _ rfl hb.1 hb.2
     ·cases h
    | @sl id g off len oo cap hid hg hc hl ho =>
     cases hb : H.get id with
     | none => simp [hb] at h
     | some blk =>
      cases blk with
      | map kt et m => simp [hb] at h
      | lp => simp [hb] at h
      | row e' sz g' es =>
       simp only [hb] at h
       split at h
       case isFalse => cases h
       case isTrue hcond =>
       obtain ⟨rfl, rfl, rfl, hle, hbytes, h63⟩ := hcond
       simp only [Option.some.injEq, Prod.mk.injEq] at h
       obtain ⟨rfl, rfl⟩ := h
       obtain ⟨_, hgm, hszz, _, hlen, hcapm, hro, cur, hcur, hsize, hrel⟩ := hr.blk id _ hb
       simp only [Blk.gen] at *
       subst hgm
       have hol : ((es.drop off).take len).length = len := by simp; omega
       have hmem : ∀ y ∈ (es.drop off).take len, y ∈ es := fun y hy => List.mem_of_mem_drop (List.mem_of_mem_take hy)
       have hoes : ∀ (k : Nat) (y : AV), ((es.drop off).take len)[k]? = some y → k < len ∧ es[off + k]? = some y := by
        intro k y hy
        rw [List.getElem?_take] at hy
        split at hy
        ·rename_i hk; exact ⟨hk, by rwa [List.getElem?_drop] at hy⟩
        ·cases hy
       have hInot : G.blk id (G.gm id) < w.heap.size := (Array.getElem?_eq_some_iff.1 hcur).1
       by_cases hroom : len + xs.length ≤ cap
       ·-- within the capacity
        have hoo : oo = G.base id (G.gm id) + off * ee.size := by
         rcases ho with ho | ho
         ·rw [ho, hszz]
         ·omega
        have hoffc : off ≤ G.cap id (G.gm id) := by omega
        have hsplit : G.base id (G.gm id) + G.cap id (G.gm id) * ee.size = (G.base id (G.gm id) + off * ee.size) + (G.cap id (G.gm id) - off) * ee.size := by
         rw [Nat.sub_mul]
         have : off * ee.size ≤ G.cap id (G.gm id) * ee.size := Nat.mul_le_mul_right _ hoffc
         omega
        have hfit2 : (len + xs.length) * ee.size ≤ (G.cap id (G.gm id) - off) * ee.size := Nat.mul_le_mul_right _ (by omega)
        have hmul : (len + xs.length) * ee.size = len * ee.size + xs.length * ee.size := Nat.add_mul ..
        have hfit : oo + len * ee.size + news.length ≤ cur.size := by rw [hm, hsz, hsize, hsplit, hoo]; omega
        have h1c : ∀ u ∈ news, u.oneCell' = true := by
         intro u hu'
         obtain ⟨q, hq⟩ := List.mem_iff_getElem?.1 hu'
         have hql : q < (xs.flatMap AV.cells).length := by rw [← hnl]; exact (List.getElem?_eq_some_iff.1 hq).1
         refine (hnrel q _ u (by simp [hql] : (xs.flatMap AV.cells)[q]? = some (xs.flatMap AV.cells)[q]) hq).oneCell ?_
         have := List.getElem_mem hql
         obtain ⟨y, hy, hyv⟩ := List.mem_flatMap.1 this
         exact hones y hy _ hyv
        have hst := run_storeCells_at P (G.blk id (G.gm id)) (oo + len * ee.size) e' news 0 cur w hcur (by simpa using hfit) h1c
        simp only [Nat.add_zero] at hst
        obtain ⟨cur2, hcur2⟩ : ∃ c2, c2 = (cur.toList.take (oo + len * ee.size) ++ news ++ cur.toList.drop (oo + len * ee.size + news.length)).toArray := ⟨_, rfl⟩
        rw [← hcur2] at hst
        have hnew := setRow_heap w (G.blk id (G.gm id)) cur cur2 e' (0, 0) hcur
        refine ⟨.slice (some ⟨G.blk id (G.gm id), oo, none⟩) (len + xs.length) cap, G.bump id (G.blk id (G.gm id)) oo (G.cap id (G.gm id) - off), w.setRow (G.blk id (G.gm id)) cur2, ?_, ?_, ?_⟩
        ·rw [hcx']
         refine run_append_in hu hi ⟨G.blk id (G.gm id), oo, none⟩ len cap _ xs.length ⟨_, _, rfl⟩ news (run_firstCells_some (P := P) w i.size xs.length ⟨b, o, none⟩ xs.length c news hm hncell) hroom ?_
         rw [Addr.add_lit, hsz]; exact hst
        ·have := VRel.sl (G := G.bump id (G.blk id (G.gm id)) oo (G.cap id (G.gm id) - off)) (w := w.setRow (G.blk id (G.gm id)) cur2)
          (id := id) (g := G.gm id + 1) (off := 0) (len := len + xs.length) (o := oo) (c := cap) hid (by simp [Gh.bump]) (by simp [Gh.bump]; omega) hroom (.inl (by simp [Gh.bump]))
         simpa [Gh.bump] using this
        ·have hImm : ∀ q, G.I q → (w.setRow (G.blk id (G.gm id)) cur2).heap[q]? = w.heap[q]? :=
          fun q hq => setRow_other w _ q _ (fun e'' => hr.imm id _ hb (e'' ▸ hq))
         refine Run.put hr hb (Gh.ext_bump ..) (fun _ h => h) (fun _ => Iff.rfl) (fun j _ hj => by simp [Gh.bump, hj]) ?_ rfl rfl rfl (by simp) (fun k _ hk => setRow_other w _ k _ hk) (.inl (by simp [Gh.bump, Blk.gen]))
         refine ⟨by simp [Gh.bump], by simp [Gh.bump, hszz], hpos, ?_, ?_, ?_, cur2, by simpa [Gh.bump] using hnew, ?_, ?_⟩
         ·simp [Gh.bump]; omega
         ·simp [Gh.bump]; omega
         ·intro y hy
          rcases List.mem_append.1 hy with hy | hy
          ·exact hro y (hmem y hy)
          ·exact hxo y hy
         ·have hcs2 : cur2.size = cur.size := by rw [hcur2]; simp; omega
          rw [hcs2, hsize]; simp [Gh.bump]; omega
         ·intro k y j u hy hu'
          have hgetq : ∀ q, cur2[q]? =
            if q < oo + len * ee.size then cur[q]? else if q < oo + len * ee.size + news.length then news[q - (oo + len * ee.size)]? else cur[q]? := by
           intro q
           rw [hcur2]
           simp only [List.getElem?_toArray]
           have hml : (cur.toList.take (oo + len * ee.size)).length = oo + len * ee.size := by simp; omega
           by_cases hq1 : q < oo + len * ee.size
           ·rw [if_pos hq1, List.append_assoc, List.getElem?_append_left (by omega), List.getElem?_take, if_pos hq1]; simp
           ·rw [if_neg hq1]
            by_cases hq2 : q < oo + len * ee.size + news.length
            ·rw [if_pos hq2, List.append_assoc, List.getElem?_append_right (by omega), hml, List.getElem?_append_left (by omega)]
            ·rw [if_neg hq2, List.getElem?_append_right (by simp; omega), List.getElem?_drop]
             simp only [List.length_append, hml]
             rw [show oo + len * ee.size + news.length + (q - (oo + len * ee.size + news.length)) = q by omega]; simp
          have hbase : (G.bump id (G.blk id (G.gm id)) oo (G.cap id (G.gm id) - off)).base id (G.gm id + 1) = oo := by simp [Gh.bump]
          rw [hbase, hgetq]
          by_cases hkl : k < len
          ·rw [List.getElem?_append_left (by omega)] at hy
           obtain ⟨_, hy'⟩ := hoes k y hy
           obtain ⟨cc, hcc, hvr⟩ := hrel (off + k) y j u hy' hu'
           have hj : j < ee.size := by rw [← (hro y (List.mem_of_getElem? hy')).1]; exact (List.getElem?_eq_some_iff.1 hu').1
           have : (k + 1) * ee.size ≤ len * ee.size := Nat.mul_le_mul_right _ hkl
           rw [Nat.add_mul] at this
           rw [if_pos (by omega)]
           exact ⟨cc, by rw [hoo, show G.base id (G.gm id) + off * ee.size + k * ee.size + j = G.base id (G.gm id) + (off + k) * ee.size + j by rw [Nat.add_mul]; omega]; exact hcc, hvr.mono (Gh.ext_bump ..) hImm⟩
          ·rw [List.getElem?_append_right (by omega), hol] at hy
           obtain ⟨cc, hcc, hvr⟩ := hnat (k - len) y j u hy hu'
           have hle' : len * ee.size ≤ k * ee.size := Nat.mul_le_mul_right _ (by omega)
           have hql := (List.getElem?_eq_some_iff.1 hcc).1
           rw [Nat.sub_mul] at hql hcc
           rw [if_neg (by omega), if_pos (by omega)]
           exact ⟨cc, by rw [show oo + k * ee.size + j - (oo + len * ee.size) = k * ee.size - len * ee.size + j by omega]; exact hcc, hvr.mono (Gh.ext_bump ..) hImm⟩
       ·-- a new array
        have hatl : At G w (G.blk id (G.gm id)) (G.base id (G.gm id) + off * ee.size) (((es.drop off).take len).flatMap AV.cells) := by
         intro q u hq
         obtain ⟨k, y, j, hy, hj, rfl, hjs⟩ := flat_at (fun y hy => (hro y (hmem y hy)).1) hpos hq
         obtain ⟨hkl, hy'⟩ := hoes k y hy
         obtain ⟨cc, hcc, hvr⟩ := hr.at hb hy' j u hj
         exact ⟨cc, by rw [show G.base id (G.gm id) + off * ee.size + (k * ee.size + j) = G.base id (G.gm id) + (off + k) * ee.size + j by rw [Nat.add_mul]; omega]; exact hcc, hvr⟩
        obtain ⟨olds, hol2, hocell, horel⟩ := hatl.list
        have hoflat := flat_get (es := (es.drop off).take len) (sz := ee.size) (fun y hy => (hro y (hmem y hy)).1)
        have hol3 : olds.length = len * i.size := by rw [hol2, hoflat.1, hol, hsz]
        have hf := fresh olds ((es.drop off).take len) cap (by rw [hol2, hoflat.1]) (fun y hy => hro y (hmem y hy)) (fun k y j u hy hu' => by
         obtain ⟨hkl, hy'⟩ := hoes k y hy
         have hj : j < ee.size := by rw [← (hro y (List.mem_of_getElem? hy')).1]; exact (List.getElem?_eq_some_iff.1 hu').1
         have hlt : k * ee.size + j < olds.length := by
          rw [hol3, hsz]
          have : (k + 1) * ee.size ≤ len * ee.size := Nat.mul_le_mul_right _ hkl
          rw [Nat.add_mul] at this; omega
         exact ⟨olds[k * ee.size + j], by simp [hlt], horel _ u _ (by rw [hoflat.2 k y j hy hj]; exact hu') (by simp [hlt])⟩) (by rw [hol]; exact h63)
        rw [hol] at hf
        obtain ⟨f1, f2, f3, f4, f5⟩ := hf
        have hgrow := fun ad ho' => run_append_grow (P := P) w t ty e' i z hu hi hz ad len cap olds hol3 ho' ⟨b, o, none⟩ xs.length c news hm hncell (by omega) (by omega) (growslice_fits (by omega) (by rw [hby]; exact hbytes))
        have hrun : (Builtin.append_ #[t, t] ty #[.slice (some ⟨G.blk id (G.gm id), oo, none⟩) len cap, cx]).run P w =
          .ok (.slice (some ⟨w.heap.size, 0, none⟩) (len + xs.length) (grownCap w (len + xs.length) cap e')) (w.drew.alloc (.cells (olds.toArray ++ news.toArray ++ Builtin.zeroCells z.cells (grownCap w (len + xs.length) cap e' - (len + xs.length))) e')) := by
         rw [hcx']
         refine hgrow _ ?_
         by_cases hl0 : len = 0
         ·intro j u hu'
          have : olds = [] := List.eq_nil_of_length_eq_zero (by rw [hol3, hl0]; simp)
          rw [this] at hu'; simp at hu'
         ·have hoo : oo = G.base id (G.gm id) + off * ee.size := by
           rcases ho with ho | ho
           ·rw [ho, hszz]
           ·omega
          rw [hoo]; exact hocell
        have hI0 : ∀ q, G.I q → (w.drew.alloc (.cells (olds.toArray ++ news.toArray ++ Builtin.zeroCells z.cells (grownCap w (len + xs.length) cap e' - (len + xs.length))) e')).heap[q]? = w.heap[q]? :=
         fun q hq => heap_alloc_old w.drew _ q (hr.ilt q hq)
        refine ⟨_, G.bump id w.heap.size 0 (grownCap w (len + xs.length) cap e'), _, hrun, ?_, ?_⟩
        ·have := VRel.sl (G := G.bump id w.heap.size 0 (grownCap w (len + xs.length) cap e')) (w := w.drew.alloc (.cells (olds.toArray ++ news.toArray ++ Builtin.zeroCells z.cells (grownCap w (len + xs.length) cap e' - (len + xs.length))) e'))
          (id := id) (g := G.gm id + 1) (off := 0) (len := len + xs.length) (o := 0) (c := grownCap w (len + xs.length) cap e') hid (by simp [Gh.bump]) (by simp [Gh.bump]) (by simpa [hol] using f1) (.inl (by simp [Gh.bump]))
         simpa [Gh.bump] using this
        ·refine Run.put hr hb (Gh.ext_bump ..) (fun _ h => h) (fun _ => Iff.rfl) (fun j _ hj => by simp [Gh.bump, hj]) ?_ rfl rfl rfl (by simp) (fun k hk _ => heap_alloc_old w.drew _ k hk) (.inr (by simp [Gh.bump, Blk.gen]))
         refine ⟨by simp [Gh.bump], by simp [Gh.bump, hszz], hpos, by simpa [Gh.bump] using f1, by simpa [Gh.bump] using f2, f4, _, by simp only [Gh.bump, and_self, if_true]; exact heap_alloc_new w.drew _, ?_, ?_⟩
         ·simpa [Gh.bump] using f3
         ·intro k y j u hy hu'
          obtain ⟨cc, hcc, hvr⟩ := f5 k y j u hy hu'
          exact ⟨cc, by simpa [Gh.bump] using hcc, hvr.mono (Gh.ext_bump ..) hI0⟩
    | _ => simp at h
end
section
variable {P : Program} {T : TypeId → Option TE} {G : Gh} {H : AHeap} {w : World}
theorem VRel.ofV1 (G : Gh) (w : World) (v : Value) : VRel G w (AV.ofV1 v) v := by
 unfold AV.ofV1
 split <;> first | exact .bool _ | exact .int _ _ | exact .str _ | exact .nilp | exact .nils | exact .nilm | exact .nilf | exact .undef _
theorem VRel.ofV (G : Gh) (w : World) (v : Value) : VRel G w (AV.ofV v) v := by
 unfold AV.ofV
 split
 ·rename_i cs
  split
  ·rename_i h
   refine .agg (by simp) (ones_of_all h) (fun j v c hv hc => ?_)
   simp only [List.getElem?_map, Array.getElem?_toList] at hv
   rw [hc] at hv
   simp at hv
   exact hv ▸ VRel.ofV1 G w c
  ·exact .undef _
 ·exact VRel.ofV1 G w _
theorem VRel.aeval {σ : Nat → AV} {a : Act} (h : ∀ t, VRel G w (σ t) (a.tmps.getD t Go.undef)) (x : Operand) : VRel G w (aeval σ x) (a.eval x) := by
 cases x with
 | tmp t => exact h t
 | const v => exact VRel.ofV G w v
 | global g => exact .undef _
 | func f => exact .fn rfl (fun j v c hv hc => by simp at hv)
theorem aBuildSlice_sound (hT : TOK P T) (hr : Rel G H w) {t : TypeId} {len : Nat} {parts : List (Nat × AV)} {cparts : Array (Nat × Value)} (hp : cparts.size = parts.length)
  (hv : ∀ (k : Nat) (p : Nat × AV) (c : Nat × Value), parts[k]? = some p → cparts[k]? = some c → p.1 = c.1 ∧ VRel G w p.2 c.2) {v : AV} {H' : AHeap}
  (h : aBuildSlice T H t len parts = some (v, H')) : ∃ c G' w', (Instr.buildSlice t len cparts).run P w = .ok c w' ∧ VRel G' w' v c ∧ Run G H w G' H' w' := by
 unfold aBuildSlice at h
 cases he : elemT T t with
 | none => simp [he] at h
 | some ee' =>
  obtain ⟨e, ee⟩ := ee'
  simp only [he] at h
  split at h
  case isFalse => cases h
  case isTrue hcond =>
  obtain ⟨hpos, hsmall, hzl, hidx, hall⟩ := hcond
  simp only [Option.some.injEq, Prod.mk.injEq] at h
  obtain ⟨rfl, rfl⟩ := h
  obtain ⟨hu, hTe⟩ := elemT_spec hT he
  obtain ⟨i, z, hi, hsz, hby, hz, hzok⟩ := hT.info hTe
  have hlen : parts.length = len := by have := congrArg List.length hidx; simpa using this
  have hones : ∀ y ∈ parts.map (·.2), y.cells.length = ee.size ∧ ∀ u ∈ y.cells, u.one = true := fun y hy => by
   have := List.all_eq_true.1 hall y hy
   simp only [Bool.and_eq_true, beq_iff_eq] at this
   exact ⟨this.1, ones_of_all this.2⟩
  have key : ∀ (k : Nat) (cells : Array Value), k ≤ len → cells.size = len * ee.size →
    ∃ out, Instr.fill (fun i => some (i * ee.size, ee.size)) cells (cparts.toList.drop k) = some out ∧ out.size = len * ee.size ∧
     (∀ q, q < k * ee.size → out[q]? = cells[q]?) ∧
     ∀ (j : Nat) (p : Nat × AV) (q : Nat) (u : AV), k ≤ j → parts[j]? = some p → p.2.cells[q]? = some u → ∃ cc, out[j * ee.size + q]? = some cc ∧ VRel G w u cc := by
   intro k
   induction hn : len - k generalizing k with
   | zero =>
    intro cells hk hcs
    have hkl : k = len := by omega
    subst hkl
    refine ⟨cells, ?_, hcs, fun _ _ => rfl, fun j p q u hj hjp => ?_⟩
    ·rw [List.drop_of_length_le (by simp [hp, hlen])]; rfl
    ·have := (List.getElem?_eq_some_iff.1 hjp).1; omega
   | succ n ih =>
    intro cells hk hcs
    have hkl : k < parts.length := by omega
    have hkc : k < cparts.toList.length := by simp [hp]; omega
    obtain ⟨hf, hvr⟩ := hv k parts[k] cparts[k] (by simp [hkl]) (by simp [hp, hkl])
    have hik : (parts[k]).1 = k := by
     have := congrArg (fun l => l[k]?) hidx
     simpa [hkl, hlen ▸ hkl] using this
    have hk2 := hones (parts[k]).2 (List.mem_map.2 ⟨parts[k], List.getElem_mem _, rfl⟩)
    obtain ⟨hcsz, hcr⟩ := hvr.cells hk2.2
    rw [List.drop_eq_getElem_cons hkc]
    have hcp : cparts.toList[k] = (k, cparts[k].2) := by
     rw [Array.getElem_toList]; exact Prod.ext (by rw [← hf, hik]) rfl
    rw [hcp]
    have hfit : (k + 1) * ee.size ≤ len * ee.size := Nat.mul_le_mul_right _ (by omega)
    rw [Nat.add_mul] at hfit
    simp only [Instr.fill]
    rw [if_neg (by rw [hcsz, hk2.1, hcs]; simp; omega)]
    have hw : ∀ (l : List (Value × Nat)) (cs : Array Value), (l.foldl (fun cs x => cs.setIfInBounds (k * ee.size + x.2) x.1) cs).size = cs.size := by
     intro l; induction l with
     | nil => intro cs; rfl
     | cons x r ih => intro cs; simp [ih]
    have hget : ∀ (vs : List Value) (s : Nat) (cs : Array Value) (q : Nat), k * ee.size + s + vs.length ≤ cs.size →
      ((vs.zipIdx s).foldl (fun cs x => cs.setIfInBounds (k * ee.size + x.2) x.1) cs)[q]? =
       if k * ee.size + s ≤ q ∧ q < k * ee.size + s + vs.length then vs[q - (k * ee.size + s)]? else cs[q]? := by
     intro vs
     induction vs with
     | nil => intro s cs q _; simp; intro h1 h2; omega
     | cons x r ihr =>
      intro s cs q hq
      simp only [List.zipIdx_cons, List.foldl_cons, List.length_cons] at hq ⊢
      rw [ihr (s + 1) _ q (by simp; omega)]
      by_cases h1 : k * ee.size + (s + 1) ≤ q ∧ q < k * ee.size + (s + 1) + r.length
      ·rw [if_pos h1, if_pos (by omega), show q - (k * ee.size + s) = (q - (k * ee.size + (s + 1))) + 1 by omega]; simp
      ·rw [if_neg h1, Array.getElem?_setIfInBounds]
       by_cases h2 : k * ee.size + s = q
       ·rw [if_pos h2, if_pos (by omega), if_pos (by omega)]; subst h2; simp
       ·rw [if_neg h2, if_neg (by omega)]
    have hzi : (cparts[k].2.cells.zipIdx.foldl (fun cs (x : Value × Nat) => cs.setIfInBounds (k * ee.size + x.2) x.1) cells) =
      (cparts[k].2.cells.toList.zipIdx.foldl (fun cs (x : Value × Nat) => cs.setIfInBounds (k * ee.size + x.2) x.1) cells) := by
     rw [← Array.foldl_toList, Array.toList_zipIdx]
    have hcells : (cparts[k].2.cells.zipIdx.foldl (fun cs (x : Value × Nat) => match x with | (c, j) => cs.setIfInBounds (k * ee.size + j) c) cells) =
      (cparts[k].2.cells.toList.zipIdx.foldl (fun cs (x : Value × Nat) => cs.setIfInBounds (k * ee.size + x.2) x.1) cells) := hzi
    obtain ⟨out, ho, hos, hkeep, hrest⟩ := ih (k + 1) (by omega) (cparts[k].2.cells.toList.zipIdx.foldl (fun cs (x : Value × Nat) => cs.setIfInBounds (k * ee.size + x.2) x.1) cells) (by omega) (by rw [hw]; exact hcs)
    refine ⟨out, by rw [← ho]; congr 1, hos, fun q hq => ?_, fun j p q u hj hjp hju => ?_⟩
    ·rw [hkeep q (by rw [Nat.add_mul]; omega)]
     have := hget cparts[k].2.cells.toList 0 cells q (by simp; rw [hcsz, hk2.1, hcs]; omega)
     rw [this, if_neg (by omega)]
    ·by_cases hjk : j = k
     ·subst hjk
      have hpj : p = parts[j] := by rw [List.getElem?_eq_getElem hkl] at hjp; exact (Option.some.inj hjp).symm
      subst hpj
      have hq : q < ee.size := by rw [← hk2.1]; exact (List.getElem?_eq_some_iff.1 hju).1
      rw [hkeep _ (by rw [Nat.add_mul]; omega)]
      have hg := hget cparts[j].2.cells.toList 0 cells (j * ee.size + q) (by simp; rw [hcsz, hk2.1, hcs]; omega)
      rw [hg, if_pos (by simp; rw [hcsz, hk2.1]; omega)]
      have hql : q < cparts[j].2.cells.size := by rw [hcsz, hk2.1]; exact hq
      refine ⟨cparts[j].2.cells[q], ?_, hcr q u _ hju (by simp [hql])⟩
      rw [show j * ee.size + q - (j * ee.size + 0) = q by omega]; simp [hql]
     ·exact hrest j p q u (by omega) hjp hju
  have hz0 : ((Array.range (len * ee.size)).map fun i => (if len * ee.size = 0 then (#[] : Array Value) else z.cells)[i % (if len * ee.size = 0 then (#[] : Array Value) else z.cells).size]!).size = len * ee.size := by simp
  obtain ⟨out, ho, hos, _, hrel⟩ := key 0 _ (Nat.zero_le _) hz0
  have hrow := Run.row hr e ee.size (parts.map (·.2)) len out hpos (by simp [hlen]) (by unfold maxLen; have : len ≤ len * ee.size := Nat.le_mul_of_pos_right _ hpos; omega) hos hones (by
   intro k y q u hy hu'
   simp only [List.getElem?_map, Option.map_eq_some_iff] at hy
   obtain ⟨p, hp1, rfl⟩ := hy
   exact hrel k p q u (Nat.zero_le _) hp1 hu')
  refine ⟨.slice (some ⟨w.heap.size, 0, none⟩) len len, _, _, ?_, VRel.newSl hr _ _ _ _ (Nat.le_refl _), hrow⟩
  have hsmall' : ¬ (16777216 < len * ee.size) := by omega
  have hbig : (2 : Nat) ^ 24 = 16777216 := rfl
  unfold Instr.buildSlice
  simp only [Sem.run_bind, run_underlying hu, run_sizeOf' hT hTe, Result.andThen_ok, hbig, gt_iff_lt, hsmall', if_false]
  by_cases h0 : len * ee.size = 0
  ·simp only [h0, if_true] at ho
   simp only [h0, if_true, Sem.run_pure, Result.andThen_ok]
   have e0 : ∀ f : Nat → Value, (Array.range 0).map f = #[] := fun f => by simp
   simp only [List.drop_zero, e0] at ho
   simp only [Sem.run_bind, Sem.run_pure, Result.andThen_ok]
   rw [e0, ho]
   simp [newRow]
  ·simp only [h0, if_false] at ho
   simp only [h0, if_false, zeroValue, Sem.run_bind, run_typeInfo hi, Result.andThen_ok, hz, Sem.run_pure]
   simp only [List.drop_zero] at ho
   simp [ho, newRow]
theorem fieldAt_of {fs : List (Nat × TypeId)} {fields : Array Field} (hfs : fs = fields.toList.map fun f => (f.offset, f.type)) {f off : Nat} {ft : TypeId} (h : fs[f]? = some (off, ft)) :
  ∃ fd : Field, fields[f]? = some fd ∧ fd.offset = off ∧ fd.type = ft := by
 subst hfs
 simp only [List.getElem?_map, Array.getElem?_toList, Option.map_eq_some_iff] at h
 obtain ⟨fd, h1, h2⟩ := h
 exact ⟨fd, h1, by simpa using (congrArg Prod.fst h2), by simpa using (congrArg Prod.snd h2)⟩
theorem aField_sound (hT : TOK P T) {t : TypeId} {x : AV} {cx : Value} (hx : VRel G w x cx) {f : Nat} {v : AV} (h : aField T t x f = some v) :
  ∃ c, (Instr.field t cx f).run P w = .ok c w ∧ VRel G w v c := by
 unfold aField at h
 cases ht : T t with
 | none => simp [ht] at h
 | some te =>
  simp only [ht] at h
  have hk := hT.kind ht
  cases hh : te.kind with
  | struct fs =>
   rw [hh] at hk h
   obtain ⟨fields, hu, hfs, _⟩ := hk
   cases hx with
   | @agg cs cv hs h1 hv =>
    simp only at h
    cases hf : fs[f]? with
    | none => simp [hf] at h
    | some p =>
     obtain ⟨off, ft⟩ := p
     simp only [hf] at h
     cases hft : T ft with
     | none => simp [hft] at h
     | some fe =>
      simp only [hft] at h
      obtain ⟨fd, hfd, rfl, rfl⟩ := fieldAt_of hfs hf
      simp only [Instr.field, Sem.run_bind, run_underlying hu, Result.andThen_ok, hfd, asAgg, Sem.run_pure, part, run_isAgg' hT hft]
      unfold loadC at h
      by_cases ha : fe.kind.agg = true
      ·simp only [ha, if_true] at h ⊢
       split at h
       ·rename_i hle
        simp only [Option.some.injEq] at h
        subst h
        rw [List.length_drop] at hle
        refine ⟨.agg (cv.extract fd.offset (fd.offset + fe.size)), by simp [run_sizeOf' hT hft], .agg ?_ ?_ ?_⟩
        ·simp only [Array.size_extract, List.length_take, List.length_drop, hs]; omega
        ·intro v hv'; exact h1 v (List.mem_of_mem_drop (List.mem_of_mem_take hv'))
        ·intro j v c hjv hjc
         rw [List.getElem?_take] at hjv
         split at hjv
         ·rename_i hj
          rw [List.getElem?_drop] at hjv
          rw [Array.getElem?_extract] at hjc
          split at hjc
          ·exact hv (fd.offset + j) v c hjv hjc
          ·cases hjc
         ·cases hjv
       ·cases h
      ·simp only [ha] at h ⊢
       cases hd : cs.drop fd.offset with
       | nil => rw [hd] at h; simp at h
       | cons y r =>
        rw [hd] at h
        simp at h
        subst h
        have hy : cs[fd.offset]? = some y := by
         have := congrArg (fun l => l[0]?) hd
         simpa [List.getElem?_drop] using this
        have hlt : fd.offset < cv.size := by rw [hs]; exact (List.getElem?_eq_some_iff.1 hy).1
        refine ⟨cv[fd.offset], ?_, hv _ y _ hy (by simp [hlt])⟩
        simp [hlt]
   | _ => simp at h
  | _ => simp [hh] at h
theorem aFieldAddr_sound (hT : TOK P T) {t : TypeId} {x : AV} {cx : Value} (hx : VRel G w x cx) {f : Nat} {v : AV} (h : aFieldAddr T t x f = some v) :
  ∃ c, (Instr.fieldAt t cx f).run P w = .ok c w ∧ VRel G w v c := by
 unfold aFieldAddr at h
 cases ht : T t with
 | none => simp [ht] at h
 | some te =>
  simp only [ht] at h
  have hk := hT.kind ht
  cases hh : te.kind with
  | struct fs =>
   rw [hh] at hk h
   obtain ⟨fields, hu, hfs, _⟩ := hk
   simp only at h
   cases hf : fs[f]? with
   | none => simp [hf] at h
   | some p =>
    obtain ⟨off, ft⟩ := p
    simp only [hf] at h
    cases hft : T ft with
    | none => simp [hft] at h
    | some fe =>
     simp only [hft] at h
     split at h
     case isFalse => cases h
     case isTrue hpos =>
     obtain ⟨fd, hfd, rfl, rfl⟩ := fieldAt_of hfs hf
     have hrun : ∀ b o, cx = .pointer (some ⟨b, o, none⟩) → (Instr.fieldAt t cx f).run P w = .ok (.pointer (some ⟨b, o + fd.offset, none⟩)) w := by
      intro b o hcx
      have hne : ¬ (fe.size = 0) := by omega
      simp [Instr.fieldAt, run_underlying hu, hfd, hcx, Instr.sureAddr, fieldPlace, run_sizeOf' hT hft, hne, Addr.add_lit]
     cases hx with
     | @ptr id g i f0 hid hg =>
      simp only [Option.some.injEq] at h
      subst h
      refine ⟨_, hrun _ _ rfl, ?_⟩
      have := VRel.ptr (G := G) (w := w) (i := i) (f := f0 + fd.offset) hid hg
      rwa [← Nat.add_assoc] at this
     | @rop cs b o fv hc h1 hv =>
      simp only [Option.some.injEq] at h
      subst h
      refine ⟨_, hrun _ _ rfl, .rop (f := fun j => fv (fd.offset + j)) (fun j hj => ?_) (fun v hv' => h1 v (List.mem_of_mem_drop hv')) (fun j v hjv => ?_)⟩
      ·rw [List.length_drop] at hj
       have := hc (fd.offset + j) (by omega)
       rwa [← Nat.add_assoc] at this
      ·rw [List.getElem?_drop] at hjv; exact hv _ v hjv
     | _ => simp at h
  | _ => simp [hh] at h
theorem aIndexAddr_sound (hT : TOK P T) (hr : Rel G H w) {t : TypeId} {x ix : AV} {cx cix : Value} (hx : VRel G w x cx) (hix : VRel G w ix cix) {v : AV} (h : aIndexAddr T H t x ix = some v) :
  ∃ c, (Instr.indexAt t cx cix).run P w = .ok c w ∧ VRel G w v c := by
 unfold aIndexAddr at h
 cases he : elemT T t with
 | none => simp [he] at h
 | some ee' =>
  obtain ⟨e, ee⟩ := ee'
  obtain ⟨hu, hTe⟩ := elemT_spec hT he
  simp only [he] at h
  cases hix with
  | int k i =>
   simp only at h
   cases hx with
   | @ro es b o c sz f hs h1 hc hv hl =>
    simp only at h
    split at h
    case isFalse => cases h
    case isTrue hb =>
    cases hy : es[i.toNat]? with
    | none => simp [hy] at h
    | some y =>
     simp only [hy] at h
     split at h
     case isFalse => cases h
     case isTrue hyl =>
     simp only [Option.some.injEq] at h
     subst h
     have hsz : sz = ee.size := by rw [← hs y (List.mem_of_getElem? hy), hyl]
     subst hsz
     have hib : i.toNat < es.length := by omega
     refine ⟨.pointer (some ⟨b, o + i.toNat * ee.size, none⟩), ?_, .rop (f := fun j => f (i.toNat * ee.size + j)) (fun j hj => ?_) (h1 y (List.mem_of_getElem? hy)) (fun j v hjv => hv _ y j v hy hjv)⟩
     ·simp [Instr.indexAt, asIntOf, run_underlying hu, hb, run_sizeOf' hT hTe, Addr.add_lit]
     ·have hlt : i.toNat * ee.size + j < es.length * ee.size := by
       have : (i.toNat + 1) * ee.size ≤ es.length * ee.size := Nat.mul_le_mul_right _ hib
       rw [Nat.add_mul] at this; omega
      have := hc _ hlt
      rwa [← Nat.add_assoc] at this
   | ronil a =>
    simp only [List.length_nil] at h
    split at h
    ·rename_i hb; omega
    ·cases h
   | @sl id g off len o c hid hg hc hl ho =>
    simp only at h
    split at h
    case isFalse => cases h
    case isTrue hb =>
    cases hbk : H.get id with
    | none => simp [hbk] at h
    | some blk =>
     cases blk with
     | map kt et m => simp [hbk] at h
     | lp => simp [hbk] at h
     | row e' sz g' es =>
      simp only [hbk] at h
      split at h
      case isFalse => cases h
      case isTrue hsz =>
      simp only [Option.some.injEq] at h
      subst h
      obtain ⟨_, _, hszz, _⟩ := hr.row hbk
      have hlen : 0 < len := by omega
      have hoo : o = G.base id g + off * G.sz id := by
       rcases ho with ho | ho
       ·exact ho
       ·omega
      have hp := VRel.ptr (G := G) (w := w) (i := off + i.toNat) (f := 0) hid hg
      refine ⟨_, ?_, hp⟩
      have : G.base id g + off * G.sz id + i.toNat * ee.size = G.base id g + (off + i.toNat) * G.sz id + 0 := by rw [← hsz, hszz, Nat.add_mul]; omega
      simp [Instr.indexAt, asIntOf, run_underlying hu, hb, run_sizeOf' hT hTe, Addr.add_lit, hoo, this]
   | _ => simp at h
  | _ => simp at h
theorem isStr_spec (hT : TOK P T) {t : TypeId} (h : isStr T t = true) : P.underlying t = some .string := by
 unfold isStr at h
 cases ht : T t with
 | none => simp [ht] at h
 | some te =>
  have hk := hT.kind ht
  cases hh : te.kind with
  | string => rw [hh] at hk; exact hk
  | _ => simp [ht, hh] at h
theorem aIndex_sound (hT : TOK P T) {t : TypeId} {x ix : AV} {cx cix : Value} (hx : VRel G w x cx) (hix : VRel G w ix cix) {v : AV} (h : aIndex T t x ix = some v) :
  ∃ c, (Instr.index t cx cix).run P w = .ok c w ∧ VRel G w v c := by
 unfold aIndex at h
 cases hx with
 | str s =>
  cases hix with
  | int k i =>
   simp only at h
   split at h
   case isFalse => cases h
   case isTrue h0 =>
   obtain ⟨h0, hst⟩ := h0
   have ht := isStr_spec hT hst
   cases hb : s[i.toNat]? with
   | none => simp [hb] at h
   | some b =>
    simp only [hb, Option.some.injEq] at h
    subst h
    exact ⟨.int .u8 b.toNat, by simp [Instr.index, asIntOf, run_underlying ht, h0, hb], .int _ _⟩
  | _ => simp at h
 | _ => simp at h
theorem bound_none {d : Nat} {n : Nat} (h : boundA none d = some n) : n = d := by simp [boundA] at h; exact h.symm
theorem bound_some {x : AV} {cx : Value} (hx : VRel G w x cx) {d n : Nat} (h : boundA (some x) d = some n) (y : Nat) (hle : n ≤ y) (code : BoundsCode) : (Instr.sliceBound cx y code).run P w = .ok n w := by
 unfold boundA at h
 cases hx with
 | int k i =>
  simp only at h
  split at h
  ·rename_i h0
   simp only [Option.some.injEq] at h
   subst h
   have : 0 ≤ i ∧ i ≤ y := by omega
   simp [Instr.sliceBound, asIntOf, this]
  ·cases h
 | _ => simp at h
theorem run_bounds {isSlice : Bool} {len cap l h m : Nat} {lo hi mx : Option AV} {clo chi cmx : Option Value}
  (hlo : ∀ x, lo = some x → ∃ c, clo = some c ∧ VRel G w x c) (hlo0 : lo = none → clo = none)
  (hhi : ∀ x, hi = some x → ∃ c, chi = some c ∧ VRel G w x c) (hhi0 : hi = none → chi = none)
  (hmx : ∀ x, mx = some x → ∃ c, cmx = some c ∧ VRel G w x c) (hmx0 : mx = none → cmx = none) (hm3 : mx = none ∨ hi ≠ none)
  (hl : boundA lo 0 = some l) (hh : boundA hi len = some h) (hmm : boundA mx cap = some m) (h1 : l ≤ h) (h2 : h ≤ m) (h3 : m ≤ cap) :
  (Instr.sliceBounds isSlice len cap clo chi cmx).run P w = .ok (l, h, m) w := by
 unfold Instr.sliceBounds
 cases mx with
 | none =>
  rw [hmx0 rfl]
  have hm := bound_none hmm
  subst hm
  cases hi with
  | none =>
   rw [hhi0 rfl]
   have := bound_none hh
   subst this
   cases lo with
   | none => rw [hlo0 rfl]; have := bound_none hl; subst this; simp
   | some x => obtain ⟨c, hc, hv⟩ := hlo x rfl; rw [hc]; have := fun code => bound_some (P := P) hv hl h h1 code; simp [this]
  | some y =>
   obtain ⟨c, hc, hv⟩ := hhi y rfl
   rw [hc]
   have hb := fun code => bound_some (P := P) hv hh m h2 code
   cases lo with
   | none => rw [hlo0 rfl]; have := bound_none hl; subst this; simp [hb]
   | some x => obtain ⟨c', hc', hv'⟩ := hlo x rfl; rw [hc']; have := fun code => bound_some (P := P) hv' hl h h1 code; simp [this, hb]
 | some z =>
  obtain ⟨cz, hcz, hvz⟩ := hmx z rfl
  rw [hcz]
  have hbz := fun code => bound_some (P := P) hvz hmm cap h3 code
  cases hi with
  | none => rcases hm3 with hm3 | hm3 <;> simp at hm3
  | some y =>
   obtain ⟨c, hc, hv⟩ := hhi y rfl
   rw [hc]
   have hb := fun code => bound_some (P := P) hv hh m h2 code
   cases lo with
   | none => rw [hlo0 rfl]; have := bound_none hl; subst this; simp [hb, hbz]
   | some x => obtain ⟨c', hc', hv'⟩ := hlo x rfl; rw [hc']; have := fun code => bound_some (P := P) hv' hl h h1 code; simp [this, hb, hbz]
theorem run_sliceAt {t e : TypeId} {sz : Nat} (hu : P.underlying t = some (.slice e)) (hsz : (sizeOf e).run P w = .ok sz w) {a : Option Addr} {len cap l h m : Nat} {clo chi cmx : Option Value}
  (hb : (Instr.sliceBounds true len cap clo chi cmx).run P w = .ok (l, h, m) w) :
  (Instr.sliceAt t (.slice a len cap) clo chi cmx).run P w = .ok (.slice (if m = l then a else a.map (·.add (l * sz))) (h - l) (m - l)) w := by
 simp [Instr.sliceAt, run_underlying hu, Instr.slice, hb, hsz]
theorem aSlice_str {t : TypeId} (ht : P.underlying t = some .string) {s : ByteArray} {lo hi : Option AV} {clo chi : Option Value}
  (hlo : ∀ x, lo = some x → ∃ c, clo = some c ∧ VRel G w x c) (hlo0 : lo = none → clo = none)
  (hhi : ∀ x, hi = some x → ∃ c, chi = some c ∧ VRel G w x c) (hhi0 : hi = none → chi = none) {v : AV} (h : aSlice (.str s) lo hi none = some v) :
  ∃ c, (Instr.sliceAt t (.string s) clo chi none).run P w = .ok c w ∧ VRel G w v c := by
 simp only [aSlice] at h
 cases hl : boundA lo 0 with
 | none => simp [hl] at h
 | some l =>
  cases hh : boundA hi s.size with
  | none => simp [hl, hh] at h
  | some hh' =>
   simp only [hl, hh] at h
   split at h
   ·rename_i hc
    simp only [Option.some.injEq] at h
    subst h
    have hb := run_bounds (P := P) (G := G) (w := w) (isSlice := false) (len := s.size) (cap := s.size) (mx := none) (cmx := none) hlo hlo0 hhi hhi0 (fun x hx => by cases hx) (fun _ => rfl) (.inl rfl) hl hh rfl hc.1 hc.2 (Nat.le_refl _)
    exact ⟨.string (s.extract l hh'), by simp [Instr.sliceAt, run_underlying ht, Instr.slice, hb], .str _⟩
   ·cases h
theorem aSlice_sl (hT : TOK P T) (hr : Rel G H w) {t e : TypeId} {ee : TE} (hu : P.underlying t = some (.slice e)) (hTe : T e = some ee) {x : AV} {cx : Value} (hx : VRel G w x cx) {lo hi mx : Option AV} {clo chi cmx : Option Value}
  (hok : ∀ id g off len, x = .sl id g off len → G.sz id = ee.size) (hok2 : ∀ es, x = .ro es → ∀ y ∈ es, y.cells.length = ee.size) (hns : ∀ s, x ≠ .str s)
  (hlo : ∀ x, lo = some x → ∃ c, clo = some c ∧ VRel G w x c) (hlo0 : lo = none → clo = none)
  (hhi : ∀ x, hi = some x → ∃ c, chi = some c ∧ VRel G w x c) (hhi0 : hi = none → chi = none)
  (hmx : ∀ x, mx = some x → ∃ c, cmx = some c ∧ VRel G w x c) (hmx0 : mx = none → cmx = none) (hm3 : mx = none ∨ hi ≠ none) {v : AV} (h : aSlice x lo hi mx = some v) :
  ∃ c, (Instr.sliceAt t cx clo chi cmx).run P w = .ok c w ∧ VRel G w v c := by
 have hsz := fun w => run_sizeOf' hT hTe w
 cases hx with
 | str s => exact absurd rfl (hns s)
 | nils =>
  cases hl : boundA lo 0 with
  | none => cases mx <;> simp [aSlice, hl] at h
  | some l =>
   cases hh : boundA hi 0 with
   | none => cases mx <;> simp [aSlice, hl, hh] at h
   | some h' =>
    cases mx with
    | none =>
     simp only [aSlice, hl, hh] at h
     split at h
     ·rename_i hc
      obtain ⟨rfl, rfl⟩ := hc
      simp only [Option.some.injEq] at h; subst h
      have hb := run_bounds (P := P) (isSlice := true) (len := 0) (cap := 0) hlo hlo0 hhi hhi0 hmx hmx0 hm3 hl hh (m := 0) (by simp [boundA]) (Nat.le_refl _) (Nat.le_refl _) (Nat.le_refl _)
      exact ⟨_, run_sliceAt hu (hsz w) hb, by simpa using VRel.nils⟩
     ·cases h
    | some z =>
     cases hm : boundA (some z) 0 with
     | none => simp [aSlice, hl, hh, hm] at h
     | some m =>
      simp only [aSlice, hl, hh, hm] at h
      split at h
      ·rename_i hc
       obtain ⟨rfl, rfl, rfl⟩ := hc
       simp only [Option.some.injEq] at h; subst h
       have hb := run_bounds (P := P) (isSlice := true) (len := 0) (cap := 0) hlo hlo0 hhi hhi0 hmx hmx0 hm3 hl hh hm (Nat.le_refl _) (Nat.le_refl _) (Nat.le_refl _)
       exact ⟨_, run_sliceAt hu (hsz w) hb, by simpa using VRel.nils⟩
      ·cases h
 | emp a =>
  cases hl : boundA lo 0 with
  | none => cases mx <;> simp [aSlice, hl] at h
  | some l =>
   cases hh : boundA hi 0 with
   | none => cases mx <;> simp [aSlice, hl, hh] at h
   | some h' =>
    cases mx with
    | none =>
     simp only [aSlice, hl, hh] at h
     split at h
     ·rename_i hc
      obtain ⟨rfl, rfl⟩ := hc
      simp only [Option.some.injEq] at h; subst h
      have hb := run_bounds (P := P) (isSlice := true) (len := 0) (cap := 0) hlo hlo0 hhi hhi0 hmx hmx0 hm3 hl hh (m := 0) (by simp [boundA]) (Nat.le_refl _) (Nat.le_refl _) (Nat.le_refl _)
      exact ⟨_, run_sliceAt hu (hsz w) hb, by simp only [if_true, Nat.sub_self]; exact VRel.emp a⟩
     ·cases h
    | some z =>
     cases hm : boundA (some z) 0 with
     | none => simp [aSlice, hl, hh, hm] at h
     | some m =>
      simp only [aSlice, hl, hh, hm] at h
      split at h
      ·rename_i hc
       obtain ⟨rfl, rfl, rfl⟩ := hc
       simp only [Option.some.injEq] at h; subst h
       have hb := run_bounds (P := P) (isSlice := true) (len := 0) (cap := 0) hlo hlo0 hhi hhi0 hmx hmx0 hm3 hl hh hm (Nat.le_refl _) (Nat.le_refl _) (Nat.le_refl _)
       exact ⟨_, run_sliceAt hu (hsz w) hb, by simp only [if_true, Nat.sub_self]; exact VRel.emp a⟩
      ·cases h
 | ronil a =>
  cases hl : boundA lo 0 with
  | none => cases mx <;> simp [aSlice, hl] at h
  | some l =>
   cases hh : boundA hi 0 with
   | none => cases mx <;> simp [aSlice, hl, hh] at h
   | some h' =>
    cases mx with
    | none =>
     simp only [aSlice, hl, hh, List.length_nil] at h
     split at h
     ·rename_i hc
      obtain ⟨hc1, hc2⟩ := hc
      have : l = 0 := by omega
      have : h' = 0 := by omega
      subst_vars
      simp only [Option.some.injEq] at h; subst h
      have hb := run_bounds (P := P) (isSlice := true) (len := 0) (cap := 0) hlo hlo0 hhi hhi0 hmx hmx0 hm3 hl hh (m := 0) (by simp [boundA]) (Nat.le_refl _) (Nat.le_refl _) (Nat.le_refl _)
      exact ⟨_, run_sliceAt hu (hsz w) hb, by simp only [if_true, Nat.sub_self]; exact VRel.ronil a⟩
     ·cases h
    | some z =>
     cases hm : boundA (some z) 0 with
     | none => simp [aSlice, hl, hh, hm] at h
     | some m =>
      simp only [aSlice, hl, hh, hm, List.length_nil] at h
      split at h
      ·rename_i hc
       obtain ⟨hc1, hc2, hc3⟩ := hc
       have : l = 0 := by omega
       have : h' = 0 := by omega
       have : m = 0 := by omega
       subst_vars
       simp only [if_true, Option.some.injEq] at h; subst h
       have hb := run_bounds (P := P) (isSlice := true) (len := 0) (cap := 0) hlo hlo0 hhi hhi0 hmx hmx0 hm3 hl hh hm (Nat.le_refl _) (Nat.le_refl _) (Nat.le_refl _)
       exact ⟨_, run_sliceAt hu (hsz w) hb, by simp only [if_true, Nat.sub_self]; exact VRel.emp a⟩
      ·cases h
 | @ro es b o c sz f hs h1 hc hv hl' =>
  have hs' := hok2 es rfl
  have part : ∀ (l h' : Nat) (ad : Option Addr) (c' : Nat), l ≤ h' → h' ≤ es.length → (h' - l ≤ c') → (h' - l = 0 ∨ ad = some ⟨b, o + l * ee.size, none⟩) → (∃ bb oo, ad = some ⟨bb, oo, none⟩) →
    VRel G w (.ro ((es.take h').drop l)) (.slice ad (h' - l) c') := by
   intro l h' ad c' h1' h2' h3' had hex
   have hlen : ((es.take h').drop l).length = h' - l := by simp; omega
   obtain ⟨bb, oo, hbb⟩ := hex
   by_cases h0 : h' - l = 0
   ·have he : (es.take h').drop l = [] := List.eq_nil_of_length_eq_zero (by rw [hlen, h0])
    rw [he, h0, hbb]
    exact VRel.ro (es := []) (sz := 1) (f := fun _ => Go.undef) (by simp) (by simp) (by simp) (by simp) (Nat.zero_le _)
   ·rcases had with had | had
    ·exact absurd had h0
    ·have hsz' : sz = ee.size := by
      cases es with
      | nil => simp at h2'; omega
      | cons y r => rw [← hs y (by simp), hs' y (by simp)]
     subst hsz'
     rw [had, ← hlen]
     refine VRel.ro (sz := ee.size) (f := fun j => f (l * ee.size + j)) (fun y hy => hs y (List.mem_of_mem_take (List.mem_of_mem_drop hy))) (fun y hy => h1 y (List.mem_of_mem_take (List.mem_of_mem_drop hy))) ?_ ?_ (by rw [hlen]; exact h3')
     ·intro j hj
      rw [hlen] at hj
      have hle : h' * ee.size ≤ es.length * ee.size := Nat.mul_le_mul_right _ h2'
      rw [Nat.sub_mul] at hj
      have := hc (l * ee.size + j) (by omega)
      rwa [← Nat.add_assoc] at this
     ·intro i y j v hy hv'
      rw [List.getElem?_drop, List.getElem?_take] at hy
      split at hy
      ·have := hv (l + i) y j v hy hv'
       rwa [show (l + i) * ee.size + j = l * ee.size + (i * ee.size + j) by rw [Nat.add_mul]; omega] at this
      ·cases hy
  cases hl : boundA lo 0 with
  | none => cases mx <;> simp [aSlice, hl] at h
  | some l =>
   cases hh : boundA hi es.length with
   | none => cases mx <;> simp [aSlice, hl, hh] at h
   | some h' =>
    cases mx with
    | none =>
     simp only [aSlice, hl, hh] at h
     split at h
     ·rename_i hcc
      simp only [Option.some.injEq] at h; subst h
      have hb := run_bounds (P := P) (isSlice := true) (len := es.length) (cap := c) hlo hlo0 hhi hhi0 hmx hmx0 hm3 hl hh (m := c) (by simp [boundA]) hcc.1 (by omega) (Nat.le_refl _)
      refine ⟨_, run_sliceAt hu (hsz w) hb, part l h' _ _ hcc.1 hcc.2 (by omega) ?_ ?_⟩
      ·by_cases hcl : c = l
       ·left; omega
       ·right; simp [hcl, Addr.add_lit]
      ·by_cases hcl : c = l
       ·simp [hcl]
       ·simp [hcl, Addr.add_lit]
     ·cases h
    | some z =>
     cases hm : boundA (some z) 0 with
     | none => simp [aSlice, hl, hh, hm] at h
     | some m =>
      have hm' : boundA (some z) c = some m := by cases z <;> exact hm
      simp only [aSlice, hl, hh, hm] at h
      split at h
      ·rename_i hcc
       have hb := run_bounds (P := P) (isSlice := true) (len := es.length) (cap := c) hlo hlo0 hhi hhi0 hmx hmx0 hm3 hl hh hm' hcc.1 hcc.2.1 (by omega)
       split at h
       ·rename_i hml
        subst hml
        simp only [Option.some.injEq] at h; subst h
        refine ⟨_, run_sliceAt hu (hsz w) hb, ?_⟩
        have : h' = m := by omega
        subst this
        simp only [if_true, Nat.sub_self]
        exact VRel.emp (some ⟨b, o, none⟩)
       ·rename_i hml
        simp only [Option.some.injEq] at h; subst h
        refine ⟨_, run_sliceAt hu (hsz w) hb, part l h' _ _ hcc.1 (by omega) (by omega) (.inr ?_) ?_⟩
        ·simp [hml, Addr.add_lit]
        ·simp [hml, Addr.add_lit]
      ·cases h
 | @sl id g off len o c hid hg hc hl' ho =>
  have hszz := hok id g off len rfl
  cases hl : boundA lo 0 with
  | none => cases mx <;> simp [aSlice, hl] at h
  | some l =>
   cases hh : boundA hi len with
   | none => cases mx <;> simp [aSlice, hl, hh] at h
   | some h' =>
    have fin : ∀ m, l ≤ h' → h' ≤ len → h' ≤ m → m ≤ c →
      VRel G w (.sl id g (off + l) (h' - l)) (.slice (if m = l then some ⟨G.blk id g, o, none⟩ else (some (⟨G.blk id g, o, none⟩ : Addr)).map (·.add (l * ee.size))) (h' - l) (m - l)) := by
     intro m h1 h2 h3 h4
     by_cases hml : m = l
     ·simp only [hml, if_true]
      exact VRel.sl hid hg (by omega) (by omega) (.inr (by omega))
     ·simp only [hml, if_false, Option.map_some, Addr.add_lit]
      refine VRel.sl hid hg (by omega) (by omega) (.inl ?_)
      rcases ho with ho | ho
      ·rw [ho, hszz, Nat.add_mul]; omega
      ·omega
    cases mx with
    | none =>
     simp only [aSlice, hl, hh] at h
     split at h
     ·rename_i hcc
      simp only [Option.some.injEq] at h; subst h
      have hb := run_bounds (P := P) (isSlice := true) (len := len) (cap := c) hlo hlo0 hhi hhi0 hmx hmx0 hm3 hl hh (m := c) (by simp [boundA]) hcc.1 (by omega) (Nat.le_refl _)
      exact ⟨_, run_sliceAt hu (hsz w) hb, fin c hcc.1 hcc.2 (by omega) (Nat.le_refl _)⟩
     ·cases h
    | some z =>
     cases hm : boundA (some z) 0 with
     | none => simp [aSlice, hl, hh, hm] at h
     | some m =>
      have hm' : boundA (some z) c = some m := by cases z <;> exact hm
      simp only [aSlice, hl, hh, hm] at h
      split at h
      ·rename_i hcc
       simp only [Option.some.injEq] at h; subst h
       have hb := run_bounds (P := P) (isSlice := true) (len := len) (cap := c) hlo hlo0 hhi hhi0 hmx hmx0 hm3 hl hh hm' hcc.1 hcc.2.1 (by omega)
       exact ⟨_, run_sliceAt hu (hsz w) hb, fin m hcc.1 (by omega) hcc.2.1 (by omega)⟩
      ·cases h
 | _ => cases mx <;> simp [aSlice] at h
end
section
variable {P : Program} {T : TypeId → Option TE} {G : Gh} {H : AHeap} {w : World}
theorem aMakeSlice_sound (hT : TOK P T) (hr : Rel G H w) {t : TypeId} {l c : AV} {cl cc : Value} (hl : VRel G w l cl) (hc : VRel G w c cc) {v : AV} {H' : AHeap}
  (h : aMakeSlice T H t l c = some (v, H')) : ∃ x G' w', (Instr.makeSlice t cl cc).run P w = .ok x w' ∧ VRel G' w' v x ∧ Run G H w G' H' w' := by
 unfold aMakeSlice at h
 cases he : elemT T t with
 | none => simp [he] at h
 | some ee' =>
  obtain ⟨e, ee⟩ := ee'
  obtain ⟨hu, hTe⟩ := elemT_spec hT he
  obtain ⟨i, z, hi, hsz, hby, hz, hzok⟩ := hT.info hTe
  simp only [he] at h
  cases hl with
  | int kl l =>
   cases hc with
   | int kc c =>
    simp only at h
    split at h
    case isFalse => cases h
    case isTrue hcond =>
    obtain ⟨hpos, hzl, hz1, h0, hlc, hmax, hbytes⟩ := hcond
    simp only [Option.some.injEq, Prod.mk.injEq] at h
    obtain ⟨rfl, rfl⟩ := h
    obtain ⟨hzs, hzr⟩ := (hzok G w).cells (ones_of_all hz1)
    have hrun := run_make (P := P) w t e i z hu hi hz kl kc l c h0 hlc (by rw [hby]; exact hbytes) hmax
    refine ⟨_, _, _, hrun, VRel.newSl hr _ _ _ _ (by omega), Run.row hr e ee.size _ c.toNat _ hpos (by simp; omega) (by unfold maxLen; omega) (by rw [size_madeCells, hsz]) ?_ ?_⟩
    ·intro y hy
     rw [List.eq_of_mem_replicate hy]
     exact ⟨hzl, ones_of_all hz1⟩
    ·intro k y j u hy hu'
     have hk : k < l.toNat := by simpa using (List.getElem?_eq_some_iff.1 hy).1
     rw [List.getElem?_replicate, if_pos hk, Option.some.injEq] at hy
     subst hy
     have hj : j < ee.size := by rw [← hzl]; exact (List.getElem?_eq_some_iff.1 hu').1
     have hq : k * ee.size + j < c.toNat * ee.size := by
      have : (k + 1) * ee.size ≤ c.toNat * ee.size := Nat.mul_le_mul_right _ (by omega)
      rw [Nat.add_mul] at this; omega
     have hzc : z.cells.size = ee.size := by rw [hzs, hzl]
     have hjz : j < z.cells.size := by omega
     refine ⟨z.cells[j], ?_, hzr j u _ hu' (by simp [hjz])⟩
     have hmod : (k * ee.size + j) % z.cells.size = j := by rw [hzc, Nat.mul_comm, Nat.mul_add_mod]; exact Nat.mod_eq_of_lt hj
     simp only [madeCells, Array.getElem?_map, hsz]
     rw [Array.getElem?_eq_getElem (by simpa using hq)]
     simp [hmod, hjz]
   | _ => simp at h
  | _ => simp at h
theorem run_equal_bool {t : TypeId} (hu : P.underlying t = some .bool) (a b : Bool) : (Op.equal t (.bool a) (.bool b)).run P w = .ok (a == b) w := by
 unfold Op.equal Op.maxDepth
 rw [show (10000 : Nat) = 9999 + 1 from rfl]
 unfold Op.equalIn
 simp [run_underlying hu]
theorem run_equal_ptr {t e : TypeId} (hu : P.underlying t = some (.pointer e)) (a : Option Addr) : (Op.equal t (.pointer a) (.pointer none)).run P w = .ok a.isNone w := by
 unfold Op.equal Op.maxDepth
 rw [show (10000 : Nat) = 9999 + 1 from rfl]
 unfold Op.equalIn
 cases a <;> simp [run_underlying hu]
theorem run_equal_sl {t e : TypeId} (hu : P.underlying t = some (.slice e)) (a : Option Addr) (n c m d : Nat) : (Op.equal t (.slice a n c) (.slice none m d)).run P w = .ok a.isNone w := by
 unfold Op.equal Op.maxDepth
 rw [show (10000 : Nat) = 9999 + 1 from rfl]
 unfold Op.equalIn
 cases a <;> simp [run_underlying hu]
theorem run_equal_sl' {t e : TypeId} (hu : P.underlying t = some (.slice e)) (a : Option Addr) (n c m d : Nat) : (Op.equal t (.slice none m d) (.slice a n c)).run P w = .ok a.isNone w := by
 unfold Op.equal Op.maxDepth
 rw [show (10000 : Nat) = 9999 + 1 from rfl]
 unfold Op.equalIn
 cases a <;> simp [run_underlying hu]
theorem kind_of {t : TypeId} {te : TE} (hT : TOK P T) (ht : T t = some te) {k : TK} (hk : te.kind = k) : KOK P t k := hk ▸ hT.kind ht
def Value.isAggV : Value → Bool
 | .agg _ => true
 | _ => false
theorem run_eqGuard {op : BinOp} {t : TypeId} {x y : Operand} {a b : Value} (h1 : a ≠ .nilIface) (h2 : Value.isAggV a = true → P.eqGuardType P.depth t = false) :
  (eqGuard op t x y a b).run P w = .ok () w := by
 unfold eqGuard
 cases op <;> simp only [Bool.not_true, Bool.not_false, if_true, if_false, Bool.false_eq_true, Sem.run_pure, pure_bind]
 all_goals
  cases a <;> cases b <;> simp only [Sem.run_pure] <;> first | rfl | skip
  all_goals first | (exact absurd rfl h1) | skip
  all_goals simp [h2 rfl]
def eqPlain (cx cy : Value) : Prop :=
 match cx, cy with
 | .int _ _, .int _ _ => False
 | .string _, .string _ => False
 | .float _ _, .float _ _ => False
 | .complex _ _ _, .complex _ _ _ => False
 | _, _ => True
theorem aEq_sound (hT : TOK P T) {t : TypeId} {x y : AV} {cx cy : Value} (hx : VRel G w x cx) (hy : VRel G w y cy) {b : Bool} (h : aEq T t x y = some b) :
  ((∃ j a k c, cx = .int j a ∧ cy = .int k c ∧ j = k ∧ b = (a == c)) ∨ (∃ a c, cx = .string a ∧ cy = .string c ∧ b = (a.toList == c.toList)) ∨
   ((Op.equal t cx cy).run P w = .ok b w ∧ (Value.isAggV cx = true → P.eqGuardType P.depth t = false) ∧
   eqPlain cx cy)) := by
 cases hx with
 | int j a =>
  cases hy with
  | int k c =>
   simp only [aEq] at h
   split at h
   ·rename_i hjk
    simp only [Option.some.injEq] at h
    exact .inl ⟨_, _, _, _, rfl, rfl, hjk, h.symm⟩
   ·cases h
  | _ => simp [aEq] at h
 | str a =>
  cases hy with
  | str c =>
   simp only [aEq, Option.some.injEq] at h
   exact .inr (.inl ⟨_, _, rfl, rfl, h.symm⟩)
  | _ => simp [aEq] at h
 | bool a =>
  cases hy with
  | bool c =>
   simp only [aEq] at h
   cases ht : T t with
   | none => simp [ht] at h
   | some te =>
    simp only [ht] at h
    cases hk : te.kind with
    | bool =>
     simp only [hk, Option.some.injEq] at h
     have hu := kind_of hT ht hk
     exact .inr (.inr ⟨by rw [← h]; first | exact run_equal_bool hu _ _ | exact run_equal_ptr hu _ | exact run_equal_sl hu _ _ _ _ _ | exact run_equal_sl' hu _ _ _ _ _, by simp [Value.isAggV], trivial⟩)
    | _ => simp [hk] at h
  | _ => simp [aEq] at h
 | nils =>
  cases hy with
  | nils =>
   simp only [aEq] at h
   cases ht : T t with
   | none => simp [ht] at h
   | some te =>
    simp only [ht] at h
    cases hk : te.kind with
    | slice e =>
     simp only [hk, Option.some.injEq] at h
     have hu := kind_of hT ht hk
     exact .inr (.inr ⟨by rw [← h]; first | exact run_equal_bool hu _ _ | exact run_equal_ptr hu _ | exact run_equal_sl hu _ _ _ _ _ | exact run_equal_sl' hu _ _ _ _ _, by simp [Value.isAggV], trivial⟩)
    | _ => simp [hk] at h
  | roe =>
   simp only [aEq] at h
   cases ht : T t with
   | none => simp [ht] at h
   | some te =>
    simp only [ht] at h
    cases hk : te.kind with
    | slice e =>
     simp only [hk, Option.some.injEq] at h
     have hu := kind_of hT ht hk
     exact .inr (.inr ⟨by rw [← h]; first | exact run_equal_bool hu _ _ | exact run_equal_ptr hu _ | exact run_equal_sl hu _ _ _ _ _ | exact run_equal_sl' hu _ _ _ _ _, by simp [Value.isAggV], trivial⟩)
    | _ => simp [hk] at h
  | sl =>
   simp only [aEq] at h
   cases ht : T t with
   | none => simp [ht] at h
   | some te =>
    simp only [ht] at h
    cases hk : te.kind with
    | slice e =>
     simp only [hk, Option.some.injEq] at h
     have hu := kind_of hT ht hk
     exact .inr (.inr ⟨by rw [← h]; first | exact run_equal_bool hu _ _ | exact run_equal_ptr hu _ | exact run_equal_sl hu _ _ _ _ _ | exact run_equal_sl' hu _ _ _ _ _, by simp [Value.isAggV], trivial⟩)
    | _ => simp [hk] at h
  | ronil => simp [aEq] at h
  | @ro es =>
   cases es with
   | nil => simp [aEq] at h
   | cons e0 er =>
    simp only [aEq] at h
    cases ht : T t with
    | none => simp [ht] at h
    | some te =>
     simp only [ht] at h
     cases hk : te.kind with
     | slice e =>
      simp only [hk, Option.some.injEq] at h
      have hu := kind_of hT ht hk
      exact .inr (.inr ⟨by rw [← h]; first | exact run_equal_bool hu _ _ | exact run_equal_ptr hu _ | exact run_equal_sl hu _ _ _ _ _ | exact run_equal_sl' hu _ _ _ _ _, by simp [Value.isAggV], trivial⟩)
     | _ => simp [hk] at h
  | _ => simp [aEq] at h
 | sl =>
  cases hy with
  | nils =>
   simp only [aEq] at h
   cases ht : T t with
   | none => simp [ht] at h
   | some te =>
    simp only [ht] at h
    cases hk : te.kind with
    | slice e =>
     simp only [hk, Option.some.injEq] at h
     have hu := kind_of hT ht hk
     exact .inr (.inr ⟨by rw [← h]; first | exact run_equal_bool hu _ _ | exact run_equal_ptr hu _ | exact run_equal_sl hu _ _ _ _ _ | exact run_equal_sl' hu _ _ _ _ _, by simp [Value.isAggV], trivial⟩)
    | _ => simp [hk] at h
  | _ => simp [aEq] at h
 | @ro es =>
  cases es with
  | nil => cases hy <;> simp [aEq] at h
  | cons e0 er =>
   cases hy with
   | nils =>
    simp only [aEq] at h
    cases ht : T t with
    | none => simp [ht] at h
    | some te =>
     simp only [ht] at h
     cases hk : te.kind with
     | slice e =>
      simp only [hk, Option.some.injEq] at h
      have hu := kind_of hT ht hk
      exact .inr (.inr ⟨by rw [← h]; first | exact run_equal_bool hu _ _ | exact run_equal_ptr hu _ | exact run_equal_sl hu _ _ _ _ _ | exact run_equal_sl' hu _ _ _ _ _, by simp [Value.isAggV], trivial⟩)
     | _ => simp [hk] at h
   | _ => simp [aEq] at h
 | roe =>
  cases hy with
  | nils =>
   simp only [aEq] at h
   cases ht : T t with
   | none => simp [ht] at h
   | some te =>
    simp only [ht] at h
    cases hk : te.kind with
    | slice e =>
     simp only [hk, Option.some.injEq] at h
     have hu := kind_of hT ht hk
     exact .inr (.inr ⟨by rw [← h]; first | exact run_equal_bool hu _ _ | exact run_equal_ptr hu _ | exact run_equal_sl hu _ _ _ _ _ | exact run_equal_sl' hu _ _ _ _ _, by simp [Value.isAggV], trivial⟩)
    | _ => simp [hk] at h
  | _ => simp [aEq] at h
 | nilp =>
  cases hy with
  | nilp =>
   simp only [aEq] at h
   cases ht : T t with
   | none => simp [ht] at h
   | some te =>
    simp only [ht] at h
    cases hk : te.kind with
    | pointer =>
     simp only [hk, Option.some.injEq] at h
     obtain ⟨e, hu⟩ := kind_of hT ht hk
     exact .inr (.inr ⟨by rw [← h]; first | exact run_equal_bool hu _ _ | exact run_equal_ptr hu _ | exact run_equal_sl hu _ _ _ _ _ | exact run_equal_sl' hu _ _ _ _ _, by simp [Value.isAggV], trivial⟩)
    | _ => simp [hk] at h
  | _ => simp [aEq] at h
 | ptr =>
  cases hy with
  | nilp =>
   simp only [aEq] at h
   cases ht : T t with
   | none => simp [ht] at h
   | some te =>
    simp only [ht] at h
    cases hk : te.kind with
    | pointer =>
     simp only [hk, Option.some.injEq] at h
     obtain ⟨e, hu⟩ := kind_of hT ht hk
     exact .inr (.inr ⟨by rw [← h]; first | exact run_equal_bool hu _ _ | exact run_equal_ptr hu _ | exact run_equal_sl hu _ _ _ _ _ | exact run_equal_sl' hu _ _ _ _ _, by simp [Value.isAggV], trivial⟩)
    | _ => simp [hk] at h
  | _ => simp [aEq] at h
 | @rop cs =>
  cases cs with
  | nil => cases hy <;> simp [aEq] at h
  | cons e0 er =>
   cases hy with
   | nilp =>
    simp only [aEq] at h
    cases ht : T t with
    | none => simp [ht] at h
    | some te =>
     simp only [ht] at h
     cases hk : te.kind with
     | pointer =>
      simp only [hk, Option.some.injEq] at h
      obtain ⟨e, hu⟩ := kind_of hT ht hk
      exact .inr (.inr ⟨by rw [← h]; first | exact run_equal_bool hu _ _ | exact run_equal_ptr hu _ | exact run_equal_sl hu _ _ _ _ _ | exact run_equal_sl' hu _ _ _ _ _, by simp [Value.isAggV], trivial⟩)
     | _ => simp [hk] at h
   | _ => simp [aEq] at h
 | @agg a ca hs1 h11 hv1 =>
  cases hy with
  | @agg c cb hs2 h12 hv2 =>
   simp only [aEq] at h
   cases ht : T t with
   | none => simp [ht] at h
   | some te =>
    simp only [ht] at h
    cases hte : te.eq with
    | none => simp [hte] at h
    | some ks =>
     simp only [hte] at h
     have := hT.eq ht ks hte w G a c ca cb b (.agg hs1 h11 hv1) (.agg hs2 h12 hv2) h
     exact .inr (.inr ⟨this.1, fun _ => this.2, trivial⟩)
  | _ => simp [aEq] at h
 | _ => cases hy <;> simp [aEq] at h
end
section
variable {P : Program} {T : TypeId → Option TE} {G : Gh} {H : AHeap} {w : World}
theorem VRel.not_nilIface {x : AV} {c : Value} (h : VRel G w x c) (hx : x ≠ .undef) : c ≠ .nilIface := by
 cases h <;> first | exact absurd rfl hx | (intro e; cases e)
theorem VRel.not_agg {x : AV} {c : Value} (h : VRel G w x c) (hx : x ≠ .undef) (ha : ∀ l, x ≠ .agg l) : Value.isAggV c = false := by
 cases h <;> first | exact absurd rfl hx | rfl | exact absurd rfl (ha _)
theorem aEq_undef {t : TypeId} {x y : AV} {b : Bool} (h : aEq T t x y = some b) : x ≠ .undef := by
 rintro rfl; simp [aEq] at h
theorem run_binOp_eq {op : BinOp} (hop : op = .eql ∨ op = .neq) {t : TypeId} {cx cy : Value} {b : Bool} (hrun : (Op.equal t cx cy).run P w = .ok b w)
  (hm : eqPlain cx cy) :
  (binOp op t cx cy).run P w = .ok (.bool (if op = .eql then b else !b)) w := by
 unfold eqPlain at hm
 rcases hop with rfl | rfl
 ·unfold binOp
  split <;> first | (simp at hm; done) | skip
  all_goals first | (rename_i h1 h2; simp_all; done) | simp_all
 ·unfold binOp
  split <;> first | (simp at hm; done) | skip
  all_goals first | (rename_i h1 h2; simp_all; done) | simp_all
theorem aBin_sound (hT : TOK P T) {op : BinOp} {t : TypeId} {ox oy : Operand} {x y : AV} {cx cy : Value} (hx : VRel G w x cx) (hy : VRel G w y cy) {v : AV} (h : aBin T op t x y = some v) :
  ∃ c, (do eqGuard op t ox oy cx cy; binOp op t cx cy : Sem Value).run P w = .ok c w ∧ VRel G w v c := by
 have hg : x ≠ .undef → (∀ l, x ≠ .agg l) → (eqGuard op t ox oy cx cy).run P w = .ok () w := fun h1 h2 =>
  run_eqGuard (hx.not_nilIface h1) (fun h3 => by rw [hx.not_agg h1 h2] at h3; cases h3)
 have heq : ∀ b, (op = .eql ∨ op = .neq) → aEq T t x y = some b → (do eqGuard op t ox oy cx cy; binOp op t cx cy : Sem Value).run P w = .ok (.bool (if op = .eql then b else !b)) w := by
  intro b hop hb
  rcases aEq_sound hT hx hy hb with ⟨j, a, k, c, rfl, rfl, rfl, rfl⟩ | ⟨a, c, rfl, rfl, rfl⟩ | ⟨hrun, hag, hm⟩
  ·have g1 : (eqGuard op t ox oy (.int j a) (.int j c)).run P w = .ok () w := run_eqGuard (by simp) (by simp [Value.isAggV])
   simp only [Sem.run_bind, g1, Result.andThen_ok]
   rcases hop with rfl | rfl <;> simp [binOp, Op.intCmp, bne]
  ·have g1 : (eqGuard op t ox oy (.string a) (.string c)).run P w = .ok () w := run_eqGuard (by simp) (by simp [Value.isAggV])
   simp only [Sem.run_bind, g1, Result.andThen_ok]
   rcases hop with rfl | rfl <;> simp [binOp, Op.stringOp]
  ·simp only [Sem.run_bind, run_eqGuard (hx.not_nilIface (aEq_undef hb)) hag, Result.andThen_ok]
   exact run_binOp_eq hop hrun hm
 cases op <;> simp only [aBin] at h
 case eql =>
  cases hb : aEq T t x y with
  | none => simp [hb] at h
  | some b => simp only [hb, Option.some.injEq] at h; subst h; exact ⟨_, heq b (.inl rfl) hb, .bool _⟩
 case neq =>
  cases hb : aEq T t x y with
  | none => simp [hb] at h
  | some b => simp only [hb, Option.some.injEq] at h; subst h; exact ⟨_, heq b (.inr rfl) hb, .bool _⟩
 all_goals first | (cases h; done) | skip
 all_goals (cases hx <;> first | (simp at h; done) | skip)
 all_goals (cases hy <;> first | (simp at h; done) | skip)
 all_goals (simp only [Sem.run_bind, hg (by simp) (by simp), Result.andThen_ok])
 all_goals (try simp only [Option.ite_none_right_eq_some] at h)
 all_goals (try simp only [Option.some.injEq] at h)
 case add.int.int => obtain ⟨rfl, rfl⟩ := h; exact ⟨_, by simp [binOp, Op.intArith], .int _ _⟩
 case sub.int.int => obtain ⟨rfl, rfl⟩ := h; exact ⟨_, by simp [binOp, Op.intArith], .int _ _⟩
 case mul.int.int => obtain ⟨rfl, rfl⟩ := h; exact ⟨_, by simp [binOp, Op.intArith], .int _ _⟩
 case quo.int.int => obtain ⟨⟨rfl, hne⟩, rfl⟩ := h; exact ⟨_, by simp [binOp, Op.intDiv, hne], .int _ _⟩
 case rem.int.int => obtain ⟨⟨rfl, hne⟩, rfl⟩ := h; exact ⟨_, by simp [binOp, Op.intDiv, hne], .int _ _⟩
 case lss.int.int => obtain ⟨rfl, rfl⟩ := h; exact ⟨_, by simp [binOp, Op.intCmp], .bool _⟩
 case leq.int.int => obtain ⟨rfl, rfl⟩ := h; exact ⟨_, by simp [binOp, Op.intCmp], .bool _⟩
 case gtr.int.int => obtain ⟨rfl, rfl⟩ := h; exact ⟨_, by simp [binOp, Op.intCmp], .bool _⟩
 case geq.int.int => obtain ⟨rfl, rfl⟩ := h; exact ⟨_, by simp [binOp, Op.intCmp], .bool _⟩
 case lss.str.str => subst h; exact ⟨_, by simp [binOp, Op.stringOp], .bool _⟩
 case leq.str.str => subst h; exact ⟨_, by simp [binOp, Op.stringOp], .bool _⟩
 case gtr.str.str => subst h; exact ⟨_, by simp [binOp, Op.stringOp], .bool _⟩
 case geq.str.str => subst h; exact ⟨_, by simp [binOp, Op.stringOp], .bool _⟩
 case add.str.str =>
   obtain ⟨hle, rfl⟩ := h
   refine ⟨_, ?_, .str _⟩
   have hmax : IntKind.i64.max = 9223372036854775807 := rfl
   simp only [binOp, Op.stringOp, hmax]
   rw [if_neg (by omega)]
   rfl
end
section
variable {P : Program} {T : TypeId → Option TE} {G : Gh} {H : AHeap} {w : World}
theorem splice_get {es ys : List AV} {off k : Nat} (hle : off + ys.length ≤ es.length) : (spliceL es ys off)[k]? = if k < off then es[k]? else if k < off + ys.length then ys[k - off]? else es[k]? := by
 unfold spliceL
 have h1 : (es.take off).length = off := by simp; omega
 by_cases hk : k < off
 ·rw [if_pos hk, List.append_assoc, List.getElem?_append_left (by omega), List.getElem?_take, if_pos hk]
 ·rw [if_neg hk]
  by_cases hk2 : k < off + ys.length
  ·rw [if_pos hk2, List.append_assoc, List.getElem?_append_right (by omega), h1, List.getElem?_append_left (by omega)]
  ·rw [if_neg hk2, List.getElem?_append_right (by simp; omega), List.getElem?_drop]
   congr 1; simp; omega
theorem splice_len {es ys : List AV} {off : Nat} (hle : off + ys.length ≤ es.length) : (spliceL es ys off).length = es.length := by unfold spliceL; simp; omega
theorem splice_mem {es ys : List AV} {off : Nat} {x : AV} (h : x ∈ spliceL es ys off) : x ∈ es ∨ x ∈ ys := by
 unfold spliceL at h
 rcases List.mem_append.1 h with h | h
 ·rcases List.mem_append.1 h with h | h
  ·exact .inl (List.mem_of_mem_take h)
  ·exact .inr h
 ·exact .inl (List.mem_of_mem_drop h)
theorem Run.splice (hr : Rel G H w) {id e sz g : Nat} {es : List AV} (hb : H.get id = some (.row e sz g es)) {ys : List AV} {off : Nat} (hle : off + ys.length ≤ es.length)
  (hys : ∀ y ∈ ys, y.cells.length = sz ∧ ∀ u ∈ y.cells, u.one = true) {news : List Value} (hnl : news.length = ys.length * sz)
  (hrel : ∀ (k : Nat) (y : AV) (j : Nat) (u : AV), ys[k]? = some y → y.cells[j]? = some u → ∃ cc, news[k * sz + j]? = some cc ∧ VRel G w u cc) :
  ∃ cur2, (storeCells ⟨G.blk id g, G.base id g + off * sz, none⟩ news).run P w = .ok () (w.setRow (G.blk id g) cur2) ∧ Run G H w G (H.put id (.row e sz g (spliceL es ys off))) (w.setRow (G.blk id g) cur2) := by
 obtain ⟨hid, hgm, hszz, hpos, hlen, hcapm, hro, cur, hcur, hsize, hold⟩ := hr.blk id _ hb
 have hmul : (off + ys.length) * sz ≤ G.cap id g * sz := Nat.mul_le_mul_right _ (by omega)
 rw [Nat.add_mul] at hmul
 have hfit : G.base id g + off * sz + 0 + news.length ≤ cur.size := by rw [hnl, hsize]; omega
 have h1c : ∀ u ∈ news, u.oneCell' = true := by
  intro u hu
  obtain ⟨q, hq⟩ := List.mem_iff_getElem?.1 hu
  have hql : q < ys.length * sz := by rw [← hnl]; exact (List.getElem?_eq_some_iff.1 hq).1
  have hm : q % sz < sz := Nat.mod_lt _ hpos
  have hd : q / sz < ys.length := Nat.div_lt_of_lt_mul (by rw [Nat.mul_comm]; exact hql)
  have he : q / sz * sz + q % sz = q := by rw [Nat.mul_comm]; exact Nat.div_add_mod q sz
  have hy := hys _ (List.getElem_mem hd)
  obtain ⟨cc, hcc, hv⟩ := hrel (q / sz) _ (q % sz) _ (List.getElem?_eq_getElem hd) (List.getElem?_eq_getElem (by rw [hy.1]; exact hm))
  rw [he, hq] at hcc
  cases hcc
  exact hv.oneCell (hy.2 _ (List.getElem_mem _))
 have hst := run_storeCells_at P (G.blk id g) (G.base id g + off * sz) e news 0 cur w hcur hfit h1c
 simp only [Nat.add_zero] at hst
 refine ⟨_, hst, ?_⟩
 obtain ⟨cur2, hcur2⟩ : ∃ c2, c2 = (cur.toList.take (G.base id g + off * sz) ++ news ++ cur.toList.drop (G.base id g + off * sz + news.length)).toArray := ⟨_, rfl⟩
 rw [← hcur2]
 have hnew := setRow_heap w (G.blk id g) cur cur2 e (0, 0) hcur
 have hImm : ∀ q, G.I q → (w.setRow (G.blk id g) cur2).heap[q]? = w.heap[q]? := fun q hq => setRow_other w _ q _ (fun e'' => hr.imm id _ hb (by simpa [Blk.gen] using e'' ▸ hq))
 refine Run.put hr hb (.refl G) (fun _ h => h) (fun _ => Iff.rfl) (fun _ _ _ => rfl) ?_ rfl rfl rfl (by simp) (fun k _ hk => setRow_other w _ k _ hk) (.inl rfl)
 refine ⟨hgm, hszz, hpos, by rw [splice_len hle]; exact hlen, hcapm, ?_, cur2, hnew, ?_, ?_⟩
 ·intro y hy
  rcases splice_mem hy with hy | hy
  ·exact hro y hy
  ·exact hys y hy
 ·rw [hcur2]; simp; omega
 ·intro k y j u hy hu
  have hgetq : ∀ q, cur2[q]? = if q < G.base id g + off * sz then cur[q]? else if q < G.base id g + off * sz + news.length then news[q - (G.base id g + off * sz)]? else cur[q]? := by
   intro q
   rw [hcur2]
   simp only [List.getElem?_toArray]
   have hml : (cur.toList.take (G.base id g + off * sz)).length = G.base id g + off * sz := by simp; omega
   by_cases hq1 : q < G.base id g + off * sz
   ·rw [if_pos hq1, List.append_assoc, List.getElem?_append_left (by omega), List.getElem?_take, if_pos hq1]; simp
   ·rw [if_neg hq1]
    by_cases hq2 : q < G.base id g + off * sz + news.length
    ·rw [if_pos hq2, List.append_assoc, List.getElem?_append_right (by omega), hml, List.getElem?_append_left (by omega)]
    ·rw [if_neg hq2, List.getElem?_append_right (by simp; omega), List.getElem?_drop]
     simp only [List.length_append, hml]
     rw [show G.base id g + off * sz + news.length + (q - (G.base id g + off * sz + news.length)) = q by omega]; simp
  rw [splice_get hle] at hy
  rw [hgetq]
  have hj : j < sz := by
   have : y ∈ es ∨ y ∈ ys := by
    split at hy
    ·exact .inl (List.mem_of_getElem? hy)
    ·split at hy
     ·exact .inr (List.mem_of_getElem? hy)
     ·exact .inl (List.mem_of_getElem? hy)
   rcases this with h | h
   ·rw [← (hro y h).1]; exact (List.getElem?_eq_some_iff.1 hu).1
   ·rw [← (hys y h).1]; exact (List.getElem?_eq_some_iff.1 hu).1
  by_cases hk : k < off
  ·rw [if_pos hk] at hy
   have : (k + 1) * sz ≤ off * sz := Nat.mul_le_mul_right _ hk
   rw [Nat.add_mul] at this
   rw [if_pos (by omega)]
   obtain ⟨cc, h1, h2⟩ := hold k y j u hy hu
   exact ⟨cc, h1, h2.mono (.refl G) hImm⟩
  ·rw [if_neg hk] at hy
   have h0 : off * sz ≤ k * sz := Nat.mul_le_mul_right _ (by omega)
   by_cases hk2 : k < off + ys.length
   ·rw [if_pos hk2] at hy
    have : (k + 1) * sz ≤ (off + ys.length) * sz := Nat.mul_le_mul_right _ hk2
    rw [Nat.add_mul, Nat.add_mul] at this
    rw [if_neg (by omega), if_pos (by rw [hnl]; omega)]
    obtain ⟨cc, h1, h2⟩ := hrel (k - off) y j u hy hu
    refine ⟨cc, ?_, h2.mono (.refl G) hImm⟩
    rw [Nat.sub_mul] at h1
    rw [show G.base id g + k * sz + j - (G.base id g + off * sz) = k * sz - off * sz + j by omega]; exact h1
   ·rw [if_neg hk2] at hy
    have : (off + ys.length) * sz ≤ k * sz := Nat.mul_le_mul_right _ (by omega)
    rw [Nat.add_mul] at this
    rw [if_neg (by omega), if_neg (by rw [hnl]; omega)]
    obtain ⟨cc, h1, h2⟩ := hold k y j u hy hu
    exact ⟨cc, h1, h2.mono (.refl G) hImm⟩
theorem Run.splice_nil (hr : Rel G H w) {id e sz g : Nat} {es : List AV} (hb : H.get id = some (.row e sz g es)) (off : Nat) : Run G H w G (H.put id (.row e sz g (spliceL es [] off))) w := by
 have : spliceL es [] off = es := by simp [spliceL]
 rw [this]
 exact Run.put hr hb (.refl G) (fun _ h => h) (fun _ => Iff.rfl) (fun _ _ _ => rfl) (hr.blk id _ hb).2 rfl rfl rfl (Nat.le_refl _) (fun _ _ _ => rfl) (.inl rfl)
theorem aCopy_sound (hT : TOK P T) (hr : Rel G H w) {t u ty : TypeId} {s x : AV} {cs cx : Value} (hs : VRel G w s cs) (hx : VRel G w x cx) {v : AV} {H' : AHeap}
  (h : aCopy T H t s x = some (v, H')) : ∃ c G' w', (Builtin.copy_ #[t, u] ty #[cs, cx]).run P w = .ok c w' ∧ VRel G' w' v c ∧ Run G H w G' H' w' := by
 unfold aCopy at h
 cases he : elemT T t with
 | none => simp [he] at h
 | some ee' =>
  obtain ⟨e, ee⟩ := ee'
  cases hxs : elems H x with
  | none => simp [he, hxs] at h
  | some xs =>
   simp only [he, hxs] at h
   split at h
   case isFalse => cases h
   case isTrue hcond =>
   obtain ⟨hpos, hall⟩ := hcond
   obtain ⟨hu, hTe⟩ := elemT_spec hT he
   have hxl : ∀ y ∈ xs, y.cells.length = ee.size := fun y hy => by simpa using List.all_eq_true.1 hall y hy
   obtain ⟨hones, hsrc⟩ := elems_sound hr hx hxs hxl hpos
   obtain ⟨ax, cx', hcx⟩ := elems_len hr hx hxs
   cases hs with
   | @sl id g off len o c hid hg hc hl ho =>
    simp only at h
    cases hb : H.get id with
    | none => simp [hb] at h
    | some blk =>
     cases blk with
     | map kt et m => simp [hb] at h
     | lp => simp [hb] at h
     | row e' sz g' es =>
      simp only [hb] at h
      split at h
      case isFalse => cases h
      case isTrue hcc =>
      obtain ⟨rfl, rfl, hle⟩ := hcc
      simp only [Option.some.injEq, Prod.mk.injEq] at h
      obtain ⟨rfl, rfl⟩ := h
      obtain ⟨_, _, hszz, _⟩ := hr.row hb
      have hn : (Builtin.lenOf cx).run P w = .ok xs.length w := by rw [hcx]; simp [Builtin.lenOf]
      by_cases h0 : xs.take len = []
      ·have hmin : min xs.length len = 0 := by
        have := congrArg List.length h0
        simpa [Nat.min_comm] using this
       refine ⟨goInt (min xs.length len : Nat), G, w, ?_, .int _ _, by rw [h0]; exact Run.splice_nil hr hb off⟩
       have hfc : (Builtin.firstCells ee.size 0 cx).run P w = .ok #[] w := by
        rw [hcx]
        cases ax with
        | none => exact run_firstCells_none (P := P) w _ _ _ _
        | some a => exact run_firstCells_some (P := P) w ee.size 0 a _ _ [] (by simp) (by simp)
       have e0 : Nat.min xs.length len = 0 := hmin
       simp [Builtin.copy_, run_underlying hu, hn, run_sizeOf' hT hTe, e0, hfc, storeCells, hmin]
      ·obtain ⟨b, o', c', hcx', hat, hblt⟩ := hsrc.resolve_left (fun h => h0 (by rw [h.1]; simp))
       have hat2 : At G w b o' ((xs.take len).flatMap AV.cells) := by
        intro q u' hq
        refine hat q u' ?_
        have : xs.flatMap AV.cells = (xs.take len).flatMap AV.cells ++ (xs.drop len).flatMap AV.cells := by rw [← List.flatMap_append, List.take_append_drop]
        rw [this, List.getElem?_append_left (List.getElem?_eq_some_iff.1 hq).1]; exact hq
       obtain ⟨news, hnl, hncell, hnrel⟩ := hat2.list
       have hxl2 : ∀ y ∈ xs.take len, y.cells.length = ee.size := fun y hy => hxl y (List.mem_of_mem_take hy)
       have hflat := flat_get hxl2
       have hm : news.length = (xs.take len).length * ee.size := by rw [hnl, hflat.1]
       have hlpos : 0 < len := by
        rcases Nat.eq_zero_or_pos len with h | h
        ·exact absurd (by rw [h]; simp) h0
        ·exact h
       have hoo : o = G.base id g' + off * ee.size := by
        rcases ho with ho | ho
        ·rw [ho, hszz]
        ·omega
       obtain ⟨cur2, hst, hrun⟩ := Run.splice (P := P) hr hb (ys := xs.take len) (off := off) (by simp; omega) (fun y hy => ⟨hxl2 y hy, hones y (List.mem_of_mem_take hy)⟩) (news := news) hm (fun k y j u' hy hu' => by
        have hj : j < ee.size := by rw [← hxl2 y (List.mem_of_getElem? hy)]; exact (List.getElem?_eq_some_iff.1 hu').1
        have hk : k < (xs.take len).length := (List.getElem?_eq_some_iff.1 hy).1
        have hlt : k * ee.size + j < news.length := by
         rw [hm]
         have : (k + 1) * ee.size ≤ (xs.take len).length * ee.size := Nat.mul_le_mul_right _ hk
         rw [Nat.add_mul] at this; omega
        exact ⟨news[k * ee.size + j], by simp [hlt], hnrel _ u' _ (by rw [hflat.2 k y j hy hj]; exact hu') (by simp [hlt])⟩)
       refine ⟨goInt (min xs.length len : Nat), G, _, ?_, .int _ _, hrun⟩
       have hfc : (Builtin.firstCells ee.size (min xs.length len) cx).run P w = .ok news.toArray w := by
        rw [hcx']
        exact run_firstCells_some (P := P) w ee.size _ ⟨b, o', none⟩ _ _ news (by rw [hm]; simp [Nat.min_comm]) hncell
       obtain ⟨mn, hmn⟩ : ∃ mn, mn = min xs.length len := ⟨_, rfl⟩
       have e0 : Nat.min xs.length len = mn := hmn.symm
       rw [← hmn] at hfc ⊢
       rw [← hoo] at hst
       simp [Builtin.copy_, run_underlying hu, hn, run_sizeOf' hT hTe, e0, hfc, hst]
   | _ => simp at h
theorem aClear_sound (hT : TOK P T) (hr : Rel G H w) {t ty : TypeId} {s : AV} {cs : Value} (hs : VRel G w s cs) {v : AV} {H' : AHeap}
  (h : aClear T H t s = some (v, H')) : ∃ c G' w', (Builtin.clear_ #[t] ty #[cs]).run P w = .ok c w' ∧ VRel G' w' v c ∧ Run G H w G' H' w' := by
 unfold aClear at h
 cases he : elemT T t with
 | none => simp [he] at h
 | some ee' =>
  obtain ⟨e, ee⟩ := ee'
  simp only [he] at h
  split at h
  case isFalse => cases h
  case isTrue hcond =>
  obtain ⟨hpos, hzl, hz1⟩ := hcond
  obtain ⟨hu, hTe⟩ := elemT_spec hT he
  obtain ⟨i, z, hi, hsz, hby, hz, hzok⟩ := hT.info hTe
  have hzc := (hzok G w).cells (ones_of_all hz1)
  cases hs with
  | @sl id g off len o c hid hg hc hl ho =>
   simp only at h
   cases hb : H.get id with
   | none => simp [hb] at h
   | some blk =>
    cases blk with
    | map kt et m => simp [hb] at h
    | lp => simp [hb] at h
    | row e' sz g' es =>
     simp only [hb] at h
     split at h
     case isFalse => cases h
     case isTrue hcc =>
     obtain ⟨rfl, rfl, hle⟩ := hcc
     simp only [Option.some.injEq, Prod.mk.injEq] at h
     obtain ⟨rfl, rfl⟩ := h
     obtain ⟨_, _, hszz, _⟩ := hr.row hb
     have htup : ∀ w, VRel G w (.tup []) (.tuple #[]) := fun w => .tup rfl (fun j v c hj => by simp at hj)
     cases len with
     | zero => exact ⟨.tuple #[], G, w, by simp [Builtin.clear_, run_underlying hu], htup w, Run.splice_nil hr hb off⟩
     | succ len =>
      have hoo : o = G.base id g' + off * ee.size := by
       rcases ho with ho | ho
       ·rw [ho, hszz]
       ·omega
      have hzs : z.cells.size = ee.size := by rw [hzc.1, hzl]
      obtain ⟨cur2, hst, hrun⟩ := Run.splice (P := P) hr hb (ys := List.replicate (len + 1) ee.zero) (off := off) (by simp; omega) (fun y hy => by
        rw [List.eq_of_mem_replicate hy]; exact ⟨hzl, ones_of_all hz1⟩) (news := (Builtin.zeroCells z.cells (len + 1)).toList) (by simp [Builtin.zeroCells, hzs]) (fun k y j u' hy hu' => by
        have hy' := List.eq_of_mem_replicate (List.mem_of_getElem? hy)
        subst hy'
        have hk : k < len + 1 := by simpa using (List.getElem?_eq_some_iff.1 hy).1
        have hj : j < ee.size := by rw [← hzl]; exact (List.getElem?_eq_some_iff.1 hu').1
        have hlt : k * ee.size + j < (len + 1) * ee.size := by
         have : (k + 1) * ee.size ≤ (len + 1) * ee.size := Nat.mul_le_mul_right _ hk
         rw [Nat.add_mul] at this; omega
        have hmod : (k * ee.size + j) % ee.size = j := by rw [Nat.add_comm, Nat.mul_comm, Nat.add_mul_mod_self_left, Nat.mod_eq_of_lt hj]
        have hjz : j < z.cells.size := by omega
        refine ⟨z.cells[j], ?_, hzc.2 j u' _ hu' (by simp [hjz])⟩
        simp only [Builtin.zeroCells, hzs, Array.toList_map, Array.toList_range, List.getElem?_map]
        rw [List.getElem?_range hlt]
        simp [hmod, hjz])
      refine ⟨.tuple #[], G, _, ?_, htup _, hrun⟩
      simp only [Builtin.clear_, Sem.run_bind, run_underlying hu, Result.andThen_ok]
      simp only [hoo] at hst ⊢
      simp [zeroValue, typeInfo, run_underlying hu, hi, hz, hst]
  | _ => simp at h
end
section
variable {P : Program} {T : TypeId → Option TE} {G : Gh} {H : AHeap} {w : World}
theorem aUn_sound {op : UnOp} {x : AV} {cx : Value} (hx : VRel G w x cx) {v : AV} (h : aUn op x = some v) : ∃ c, (Op.unary op cx).run P w = .ok c w ∧ VRel G w v c := by
 cases op <;> cases hx <;> simp [aUn] at h
 all_goals (subst h; first | exact ⟨_, by simp [Op.unary], .bool _⟩ | exact ⟨_, by simp [Op.unary, Op.intArith], .int _ _⟩)
theorem aConv_sound (hT : TOK P T) {s d : TypeId} (hs : ∃ te, T s = some te) {x : AV} {cx : Value} (hx : VRel G w x cx) {v : AV} (h : aConv T s d x = some v) : ∃ c, (convert s d cx).run P w = .ok c w ∧ VRel G w v c := by
 unfold aConv at h
 cases hd : T d with
 | none => simp [hd] at h
 | some te =>
  simp only [hd] at h
  cases hx with
  | int j n =>
   simp only at h
   cases hk : te.kind with
   | int k =>
    simp only [hk, Option.some.injEq] at h
    subst h
    have hu := kind_of hT hd hk
    obtain ⟨ts, hts⟩ := hs
    have hks := hT.kind hts
    have : ∃ ds, P.underlying s = some ds := by
     cases hh : ts.kind with
     | struct fs => rw [hh] at hks; obtain ⟨f, hf, _, _⟩ := hks; exact ⟨_, hf⟩
     | pointer => rw [hh] at hks; obtain ⟨f, hf⟩ := hks; exact ⟨_, hf⟩
     | func => rw [hh] at hks; obtain ⟨a, b, c, hf⟩ := hks; exact ⟨_, hf⟩
     | other => rw [hh] at hks; obtain ⟨f, hf, _⟩ := hks; exact ⟨_, hf⟩
     | _ => rw [hh] at hks; exact ⟨_, hks⟩
    obtain ⟨ds, hds⟩ := this
    exact ⟨_, by simp [convert, run_underlying hds, run_underlying hu, Conv.intToInt], .int _ _⟩
   | _ => simp [hk] at h
  | _ => simp at h
theorem slice_kind (hT : TOK P T) (hr : Rel G H w) {t : TypeId} {x : AV} (hx : okSz T H t x = true) : (∃ s, x = .str s ∧ P.underlying t = some .string) ∨
  ∃ e ee, P.underlying t = some (.slice e) ∧ T e = some ee ∧ (∀ id g off len, x = .sl id g off len → G.sz id = ee.size) ∧ (∀ es, x = .ro es → ∀ y ∈ es, y.cells.length = ee.size) ∧ ∀ s, x ≠ .str s := by
 unfold okSz at hx
 split at hx
 ·exact .inl ⟨_, rfl, isStr_spec hT hx⟩
 ·rename_i es
  cases he : elemT T t with
  | none => simp [he] at hx
  | some p =>
   obtain ⟨e, ee⟩ := p
   simp only [he] at hx
   obtain ⟨hu, hTe⟩ := elemT_spec hT he
   exact .inr ⟨e, ee, hu, hTe, fun _ _ _ _ h => (by cases h), fun es' h y hy => (by cases h; simpa using List.all_eq_true.1 hx y hy), fun s h => (by cases h)⟩
 ·rename_i id g off len
  cases he : elemT T t with
  | none => simp [he] at hx
  | some p =>
   obtain ⟨e, ee⟩ := p
   cases hb : H.get id with
   | none => simp [he, hb] at hx
   | some blk =>
    cases blk with
    | map kt et m => simp [he, hb] at hx
    | lp => simp [he, hb] at hx
    | row e' sz g' es =>
     simp only [he, hb, beq_iff_eq] at hx
     obtain ⟨hu, hTe⟩ := elemT_spec hT he
     obtain ⟨_, _, hsz, _⟩ := hr.row hb
     exact .inr ⟨e, ee, hu, hTe, fun _ _ _ _ h => (by cases h; rw [← hsz, hx]), fun es' h => (by cases h), fun s h => (by cases h)⟩
 ·rename_i hn1 hn2 hn3
  cases he : elemT T t with
  | none => simp [he] at hx
  | some p =>
   obtain ⟨e, ee⟩ := p
   obtain ⟨hu, hTe⟩ := elemT_spec hT he
   exact .inr ⟨e, ee, hu, hTe, fun id g off len h => absurd h (hn3 id g off len), fun es h => absurd h (hn2 es), hn1⟩
theorem aSliceT_sound (hT : TOK P T) (hr : Rel G H w) {ρ : Operand → AV} {ρc : Operand → Value} (hρ : ∀ x, VRel G w (ρ x) (ρc x)) {t : TypeId} {x : Operand} {lo hi mx : Option Operand} {v : AV}
  (h : aSliceT T H t (ρ x) (lo.map ρ) (hi.map ρ) (mx.map ρ) = some v) : ∃ c, (Instr.sliceAt t (ρc x) (lo.map ρc) (hi.map ρc) (mx.map ρc)).run P w = .ok c w ∧ VRel G w v c := by
 unfold aSliceT at h
 split at h
 case isFalse => cases h
 case isTrue hc =>
 obtain ⟨hok, hm3⟩ := hc
 have m1 : ∀ (o : Option Operand) (y : AV), o.map ρ = some y → ∃ c, o.map ρc = some c ∧ VRel G w y c := by
  intro o y hy
  cases o with
  | none => simp at hy
  | some z => simp at hy; subst hy; exact ⟨_, rfl, hρ z⟩
 have m0 : ∀ (o : Option Operand), o.map ρ = none → o.map ρc = none := by
  intro o ho
  cases o with
  | none => rfl
  | some z => simp at ho
 rcases slice_kind hT hr hok with ⟨s, hs, hu⟩ | ⟨e, ee, hu, hTe, h1, h2, h3⟩
 ·have hx := hρ x
  rw [hs] at hx h
  cases mx with
  | none =>
   generalize hcx : ρc x = cx at hx
   cases hx
   exact aSlice_str hu (m1 lo) (m0 lo) (m1 hi) (m0 hi) h
  | some z => simp [aSlice] at h
 ·refine aSlice_sl hT hr hu hTe (hρ x) h1 h2 h3 (m1 lo) (m0 lo) (m1 hi) (m0 hi) (m1 mx) (m0 mx) ?_ h
  cases mx with
  | none => exact .inl rfl
  | some z => right; cases hi with
   | none => simp at hm3
   | some q => simp
theorem lenA_sound (hr : Rel G H w) {t ty : TypeId} {x : AV} {cx : Value} (hx : VRel G w x cx) {n : Nat} (h : lenA H x = some n)
  (ht : ∃ d, P.underlying t = some d ∧ (match d, cx with | .string, .string _ => True | .slice _, .slice _ _ _ => True | .map _ _, .map _ => True | _, _ => False)) :
  (Builtin.len_ #[t] ty #[cx]).run P w = .ok (goInt n) w := by
 obtain ⟨d, hu, hd⟩ := ht
 cases hx with
 | @map id hid =>
  simp only [lenA] at h
  cases hb : H.get id with
  | none => simp [hb] at h
  | some blk =>
   cases blk with
   | row e sz g es => simp [hb] at h
   | lp => simp [hb] at h
   | map kt et m =>
    simp only [hb, Option.some.injEq] at h
    subst h
    obtain ⟨_, _, en, clock, h2, h3, _⟩ := hr.blk id _ hb
    cases d <;> simp at hd
    have hg : (getObj (G.blk id 0)).run P w = .ok (.map en clock) w := by simp [getObj, Sem.run, h2]
    simp [Builtin.len_, run_underlying hu, hg, goInt, h3]
 | _ =>
  simp only [lenA, Option.some.injEq] at h <;> first | (cases h; done) | skip
  all_goals (subst h; cases d <;> simp at hd <;> simp [Builtin.len_, run_underlying hu])
theorem minA_sound {isMax : Bool} {x y : AV} {cx cy : Value} (hx : VRel G w x cx) (hy : VRel G w y cy) {v : AV} (h : minA isMax x y = some v) (ts : Array TypeId) (ty : TypeId) :
  ∃ c, (if isMax then Builtin.max_ ts ty #[cx, cy] else Builtin.min_ ts ty #[cx, cy]).run P w = .ok c w ∧ VRel G w v c := by
 cases hx with
 | int j a =>
  cases hy with
  | int k b =>
   simp only [minA] at h
   split at h
   ·simp only [Option.some.injEq] at h
    subst h
    cases isMax <;> exact ⟨_, by simp [Builtin.max_, Builtin.min_, Builtin.max2, Builtin.min2, List.foldlM], .int _ _⟩
   ·cases h
  | _ => simp [minA] at h
 | _ => cases hy <;> simp [minA] at h
theorem fillA_sound (hT : TOK P T) {fs : List (Nat × TypeId)} {places : Array (Nat × Nat)} (hpl : ∀ (i off : Nat) (ft : TypeId) (te : TE), fs[i]? = some (off, ft) → T ft = some te → places[i]? = some (off, te.size)) :
  ∀ (parts : List (Nat × AV)) (cparts : List (Nat × Value)) (cs : List AV) (cc : Array Value), cparts.length = parts.length →
   (∀ (k : Nat) (p : Nat × AV) (c : Nat × Value), parts[k]? = some p → cparts[k]? = some c → p.1 = c.1 ∧ VRel G w p.2 c.2) → VRel G w (.agg cs) (.agg cc) →
   ∀ out, fillA fs T cs parts = some out → ∃ co, Instr.fill (places[·]?) cc cparts = some co ∧ VRel G w (.agg out) (.agg co) := by
 intro parts
 induction parts with
 | nil =>
  intro cparts cs cc hl _ hrel out h
  simp only [fillA, Option.some.injEq] at h
  subst h
  have : cparts = [] := List.eq_nil_of_length_eq_zero (by simpa using hl)
  subst this
  exact ⟨cc, rfl, hrel⟩
 | cons p rest ih =>
  intro cparts cs cc hl hp hrel out h
  obtain ⟨i, v⟩ := p
  cases cparts with
  | nil => simp at hl
  | cons c crest =>
   obtain ⟨ci, cv⟩ := c
   obtain ⟨hi, hv⟩ := hp 0 _ _ rfl rfl
   simp only at hi hv
   subst hi
   simp only [fillA] at h
   cases hf : fs[i]? with
   | none => simp [hf] at h
   | some q =>
    obtain ⟨off, ft⟩ := q
    simp only [hf] at h
    cases hte : T ft with
    | none => simp [hte] at h
    | some te =>
     simp only [hte] at h
     split at h
     case isFalse => cases h
     case isTrue hc =>
     obtain ⟨hvl, hfit, hone⟩ := hc
     have hone' := ones_of_all hone
     obtain ⟨hvs, hvr⟩ := hv.cells hone'
     cases hrel with
     | @agg _ _ hs h1 hcr =>
      have hpl' := hpl i off ft te hf hte
      have hget : ∀ (vs : List Value) (s : Nat) (a : Array Value), off + s + vs.length ≤ a.size →
        ((vs.zipIdx s).foldl (fun cs (x : Value × Nat) => cs.setIfInBounds (off + x.2) x.1) a).size = a.size ∧
        ∀ q, ((vs.zipIdx s).foldl (fun cs (x : Value × Nat) => cs.setIfInBounds (off + x.2) x.1) a)[q]? =
         if off + s ≤ q ∧ q < off + s + vs.length then vs[q - (off + s)]? else a[q]? := by
       intro vs
       induction vs with
       | nil => intro s a _; simp; intro q h1 h2; omega
       | cons x r ihr =>
        intro s a hq
        simp only [List.zipIdx_cons, List.foldl_cons, List.length_cons] at hq ⊢
        obtain ⟨e1, e2⟩ := ihr (s + 1) (a.setIfInBounds (off + s) x) (by simp; omega)
        refine ⟨by rw [e1]; simp, fun q => ?_⟩
        rw [e2 q]
        by_cases g1 : off + (s + 1) ≤ q ∧ q < off + (s + 1) + r.length
        ·rw [if_pos g1, if_pos (by omega), show q - (off + s) = (q - (off + (s + 1))) + 1 by omega]; simp
        ·rw [if_neg g1, Array.getElem?_setIfInBounds]
         by_cases g2 : off + s = q
         ·rw [if_pos g2, if_pos (by omega), if_pos (by omega)]; subst g2; simp
         ·rw [if_neg g2, if_neg (by omega)]
      obtain ⟨e1, e2⟩ := hget cv.cells.toList 0 cc (by simp; rw [hvs, hvl, hs]; exact hfit)
      have hz : (cv.cells.zipIdx.foldl (fun cs (x : Value × Nat) => match x with | (c, j) => cs.setIfInBounds (off + j) c) cc) =
        (cv.cells.toList.zipIdx.foldl (fun cs (x : Value × Nat) => cs.setIfInBounds (off + x.2) x.1) cc) := by
       rw [← Array.foldl_toList, Array.toList_zipIdx]
      have hnew : VRel G w (.agg (cs.take off ++ v.cells ++ cs.drop (off + te.size))) (.agg (cv.cells.toList.zipIdx.foldl (fun cs (x : Value × Nat) => cs.setIfInBounds (off + x.2) x.1) cc)) := by
       refine .agg ?_ ?_ ?_
       ·rw [e1, hs]; simp; omega
       ·intro u hu
        rw [List.append_assoc, List.mem_append, List.mem_append] at hu
        rcases hu with hu | hu | hu
        ·exact h1 u (List.mem_of_mem_take hu)
        ·exact hone' u hu
        ·exact h1 u (List.mem_of_mem_drop hu)
       ·intro j u c hu hc
        rw [e2] at hc
        have hml : (cs.take off).length = off := by simp; omega
        have hcl : cv.cells.toList.length = te.size := by simp; rw [hvs, hvl]
        simp only [Nat.add_zero, hcl] at hc
        by_cases hj1 : j < off
        ·rw [if_neg (by omega)] at hc
         rw [List.append_assoc, List.getElem?_append_left (by omega), List.getElem?_take, if_pos hj1] at hu
         exact hcr j u c hu hc
        ·by_cases hj2 : j < off + te.size
         ·rw [if_pos (by omega)] at hc
          rw [List.append_assoc, List.getElem?_append_right (by omega), hml, List.getElem?_append_left (by omega)] at hu
          exact hvr (j - off) u c hu (by simpa using hc)
         ·rw [if_neg (by omega)] at hc
          rw [List.getElem?_append_right (by simp; omega), List.getElem?_drop] at hu
          simp only [List.length_append, hml, hvl] at hu
          rw [show off + te.size + (j - (off + te.size)) = j by omega] at hu
          exact hcr j u c hu hc
      obtain ⟨co, hco, hcor⟩ := ih crest _ _ (by simpa using hl) (fun k p c hk hc => hp (k + 1) p c (by simpa using hk) (by simpa using hc)) hnew out h
      refine ⟨co, ?_, hcor⟩
      simp only [Instr.fill, hpl']
      rw [if_neg (by rw [hvs, hvl, hs]; simp; omega)]
      rw [hz]; exact hco
theorem run_places (hT : TOK P T) : ∀ (l : List Field), (∀ f ∈ l, ∃ i, P.info? f.type = some i) → ∃ ps : List (Nat × Nat), (l.mapM (m := Sem) fun f => do pure (f.offset, ← sizeOf f.type)).run P w = .ok ps w ∧
  ∀ (i off : Nat) (ft : TypeId) (te : TE), (l.map fun f => (f.offset, f.type))[i]? = some (off, ft) → T ft = some te → ps[i]? = some (off, te.size) := by
 intro l
 induction l with
 | nil => intro _; exact ⟨[], by simp, by simp⟩
 | cons f r ih =>
  intro h
  obtain ⟨ps, hps, hget⟩ := ih (fun f hf => h f (List.mem_cons_of_mem _ hf))
  obtain ⟨ti, hti⟩ := h f (by simp)
  have hsz : (sizeOf f.type).run P w = .ok ti.size w := by simp [sizeOf, typeInfo, hti]
  refine ⟨(f.offset, ti.size) :: ps, ?_, ?_⟩
  ·rw [List.mapM_cons]
   simp only [Sem.run_bind, hsz, Result.andThen_ok, Sem.run_pure, hps]
  ·intro i off ft te' hi hte'
   cases i with
   | zero =>
    simp at hi; obtain ⟨rfl, rfl⟩ := hi
    obtain ⟨i', z, h1, h2, _⟩ := hT.info hte'
    rw [hti] at h1; cases h1; simp [h2]
   | succ i => simpa using hget i off ft te' (by simpa using hi) hte'
theorem aBuild_sound (hT : TOK P T) {t : TypeId} {parts : List (Nat × AV)} {cparts : Array (Nat × Value)} (hp : cparts.toList.length = parts.length)
  (hv : ∀ (k : Nat) (p : Nat × AV) (c : Nat × Value), parts[k]? = some p → cparts.toList[k]? = some c → p.1 = c.1 ∧ VRel G w p.2 c.2) {v : AV} (h : aBuild T t parts = some v) :
  ∃ c, (Instr.build t cparts).run P w = .ok c w ∧ VRel G w v c := by
 unfold aBuild at h
 cases ht : T t with
 | none => simp [ht] at h
 | some te =>
  simp only [ht] at h
  have hk := hT.kind ht
  cases hh : te.kind with
  | struct fs =>
   rw [hh] at hk h
   obtain ⟨fields, hu, hfs, hinf⟩ := hk
   obtain ⟨i, z, hi, hsz, hby, hz, hzok⟩ := hT.info ht
   simp only at h
   split at h
   case isFalse => cases h
   case isTrue hz1 =>
   cases hf : fillA fs T te.zero.cells parts with
   | none => simp [hf] at h
   | some cs =>
    simp only [hf, Option.some.injEq] at h
    subst h
    have hz1' := ones_of_all hz1
    obtain ⟨hzs, hzr⟩ := (hzok G w).cells hz1'
    have hzero : VRel G w (.agg te.zero.cells) (.agg z.cells) := .agg hzs hz1' hzr
    obtain ⟨ps, hps, hget⟩ := run_places (w := w) hT fields.toList hinf
    obtain ⟨co, hco, hrel⟩ := fillA_sound hT (fs := fs) (places := ps.toArray) (fun i off ft te' h1 h2 => by
     subst hfs; simpa using hget i off ft te' h1 h2) parts cparts.toList te.zero.cells z.cells hp hv hzero cs hf
    refine ⟨.agg co, ?_, hrel⟩
    have hpm : (fields.mapM (m := Sem) fun f => do pure (f.offset, ← sizeOf f.type)).run P w = .ok ps.toArray w := by
     rw [Array.mapM_eq_mapM_toList]; simp only [Sem.run_map, hps, Result.andThen_ok]
    simp only [Instr.build, zeroValue, Sem.run_bind, run_typeInfo hi, Result.andThen_ok, hz, Sem.run_pure, run_underlying hu, hpm, hco]
  | _ => simp [hh] at h
theorem map_rel {ρ : Operand → AV} {ρc : Operand → Value} (hρ : ∀ x, VRel G w (ρ x) (ρc x)) (xs : Array Operand) (j : Nat) (v : AV) (c : Value)
  (h1 : (xs.toList.map ρ)[j]? = some v) (h2 : (xs.map ρc)[j]? = some c) : VRel G w v c := by
 simp only [List.getElem?_map, Option.map_eq_some_iff] at h1
 simp only [Array.getElem?_map, Option.map_eq_some_iff] at h2
 obtain ⟨x, hx, rfl⟩ := h1
 obtain ⟨y, hy, rfl⟩ := h2
 rw [Array.getElem?_toList] at hx
 rw [hx] at hy; cases hy
 exact hρ x
theorem parts_rel {ρ : Operand → AV} {ρc : Operand → Value} (hρ : ∀ x, VRel G w (ρ x) (ρc x)) (ps : Array (Nat × Operand)) (k : Nat) (p : Nat × AV) (c : Nat × Value)
  (h1 : (ps.toList.map fun p => (p.1, ρ p.2))[k]? = some p) (h2 : (ps.map fun (i, x) => (i, ρc x))[k]? = some c) : p.1 = c.1 ∧ VRel G w p.2 c.2 := by
 simp only [List.getElem?_map, Option.map_eq_some_iff] at h1
 simp only [Array.getElem?_map, Option.map_eq_some_iff] at h2
 obtain ⟨x, hx, rfl⟩ := h1
 obtain ⟨y, hy, rfl⟩ := h2
 rw [Array.getElem?_toList] at hx
 rw [hx] at hy; cases hy
 exact ⟨rfl, hρ _⟩
theorem lenTy_spec (hT : TOK P T) {ts : List TypeId} {x : AV} {cx : Value} (hx : VRel G w x cx) {n : Nat} (hn : lenA H x = some n) (h : lenTy T ts x = true) :
  ∃ t, ts = [t] ∧ ∃ d, P.underlying t = some d ∧ (match d, cx with | .string, .string _ => True | .slice _, .slice _ _ _ => True | .map _ _, .map _ => True | _, _ => False) := by
 unfold lenTy at h
 split at h
 ·rename_i t s
  cases hx
  exact ⟨t, rfl, _, isStr_spec hT h, trivial⟩
 ·rename_i t
  cases hx
  cases ht : T t with
  | none => simp [ht] at h
  | some te =>
   cases hk : te.kind with
   | map k e => exact ⟨t, rfl, _, kind_of hT ht hk, trivial⟩
   | _ => simp [ht, hk] at h
 ·rename_i t id
  cases hx
  cases ht : T t with
  | none => simp [ht] at h
  | some te =>
   cases hk : te.kind with
   | map k e => exact ⟨t, rfl, _, kind_of hT ht hk, trivial⟩
   | _ => simp [ht, hk] at h
 ·rename_i t h1 h2 h3
  cases ht : T t with
  | none => simp [ht] at h
  | some te =>
   cases hk : te.kind with
   | slice e =>
    refine ⟨t, rfl, _, kind_of hT ht hk, ?_⟩
    cases hx <;> first | trivial | (simp [lenA] at hn; done) | (exact absurd rfl (h1 _)) | (exact absurd rfl h2) | (exact absurd rfl (h3 _))
   | _ => simp [ht, hk] at h
 ·cases h
theorem ares_sound (hT : TOK P T) (hr : Rel G H w) {ρ : Operand → AV} {ρc : Operand → Value} (hρ : ∀ x, VRel G w (ρ x) (ρc x)) {o : Oper} {v : AV} {H' : AHeap} (h : ares T ρ H o.op = some (v, H')) :
  ∃ nx c G' w', (execOp ρc o).run P w = .ok nx w' ∧ (nx = .value c ∨ (nx = .skip ∧ c = Go.undef)) ∧ VRel G' w' v c ∧ Run G H w G' H' w' := by
 have still : ∀ (s : Sem Value) (r : Option AV), pureA H r = some (v, H') → (∀ u, r = some u → ∃ c, s.run P w = .ok c w ∧ VRel G w u c) →
   ∃ c G' w', s.run P w = .ok c w' ∧ VRel G' w' v c ∧ Run G H w G' H' w' := by
  intro s r hp hu
  cases r with
  | none => simp [pureA] at hp
  | some u =>
   simp only [pureA, Option.some.injEq, Prod.mk.injEq] at hp
   obtain ⟨rfl, rfl⟩ := hp
   obtain ⟨c, h1, h2⟩ := hu u rfl
   exact ⟨c, G, w, h1, h2, .refl hr⟩
 have fin : ∀ (s : Sem Value), (∃ c G' w', s.run P w = .ok c w' ∧ VRel G' w' v c ∧ Run G H w G' H' w') → execOp ρc o = (do pure (.value (← s)) : Sem Next) →
   ∃ nx c G' w', (execOp ρc o).run P w = .ok nx w' ∧ (nx = .value c ∨ (nx = .skip ∧ c = Go.undef)) ∧ VRel G' w' v c ∧ Run G H w G' H' w' := by
  rintro s ⟨c, G', w', h1, h2, h3⟩ he
  exact ⟨.value c, c, G', w', by rw [he]; simp [h1], .inl rfl, h2, h3⟩
 obtain ⟨dst, op, type, pos, after, guard⟩ := o
 cases op <;> simp only [ares] at h
 case move x =>
  simp only [Option.some.injEq, Prod.mk.injEq] at h; obtain ⟨rfl, rfl⟩ := h
  exact ⟨_, _, G, w, rfl, .inl rfl, hρ x, .refl hr⟩
 case assign x =>
  simp only [Option.some.injEq, Prod.mk.injEq] at h; obtain ⟨rfl, rfl⟩ := h
  exact ⟨_, _, G, w, rfl, .inl rfl, hρ x, .refl hr⟩
 case pick c a b =>
  have hc := hρ c
  generalize hcc : ρ c = rc at h hc
  generalize hcv : ρc c = cc at hc
  cases hc <;> simp only [Option.some.injEq, Prod.mk.injEq] at h <;> first | (cases h; done) | skip
  rename_i t
  obtain ⟨rfl, rfl⟩ := h
  refine ⟨.value (if t then ρc a else ρc b), _, G, w, by simp [execOp, hcv, asBool], .inl rfl, ?_, .refl hr⟩
  cases t
  ·exact hρ b
  ·exact hρ a
 case alloc e => exact fin _ (aAlloc_sound hT hr h) rfl
 case box e x => exact fin _ (aBox_sound hT hr (hρ x) h) rfl
 case build t parts =>
  refine fin _ (still _ _ h fun u hu => ?_) rfl
  exact aBuild_sound hT (by simp) (fun k p c h1 h2 => parts_rel hρ parts k p c h1 (by simpa using h2)) hu
 case buildSlice t len parts =>
  refine fin _ ?_ rfl
  exact aBuildSlice_sound hT hr (by simp) (fun k p c h1 h2 => parts_rel hρ parts k p c h1 h2) h
 case load t a =>
  cases ht : T t with
  | none => simp [ht] at h
  | some te =>
   simp only [ht] at h
   obtain ⟨rfl, c, h1, h2⟩ := aLoad_sound hT hr ht (hρ a) h
   exact fin _ ⟨c, G, w, h1, h2, .refl hr⟩ rfl
 case store t a x =>
  cases ht : T t with
  | none => simp [ht] at h
  | some te =>
   simp only [ht] at h
   obtain ⟨rfl, w', h1, h2⟩ := aStore_sound hT hr ht (hρ a) (hρ x) h
   exact ⟨.skip, Go.undef, G, w', by simp [execOp, h1], .inr ⟨rfl, rfl⟩, .skip, h2⟩
 case nilCheck x =>
  have hx := hρ x
  generalize hxx : ρ x = rx at h hx
  generalize hxv : ρc x = cx at hx
  cases hx <;> simp only [Option.some.injEq, Prod.mk.injEq] at h <;> first | (cases h; done) | skip
  ·obtain ⟨rfl, rfl⟩ := h
   rename_i hid hg
   exact ⟨_, _, G, w, by simp [execOp, hxv], .inl rfl, .ptr hid hg, .refl hr⟩
  ·obtain ⟨rfl, rfl⟩ := h
   rename_i hc h1 hv
   exact ⟨_, _, G, w, by simp [execOp, hxv], .inl rfl, .rop hc h1 hv, .refl hr⟩
  ·obtain ⟨rfl, rfl⟩ := h
   rename_i hs hv
   exact ⟨_, _, G, w, by simp [execOp, hxv], .inl rfl, .fn hs hv, .refl hr⟩
 case binOp op t x y yt =>
  refine fin _ (still _ _ h fun u hu => ?_) rfl
  exact aBin_sound hT (hρ x) (hρ y) hu
 case unOp op t x => exact fin _ (still _ _ h fun u hu => aUn_sound (hρ x) hu) rfl
 case convert s d x =>
  split at h
  ·rename_i hs
   exact fin _ (still _ _ h fun u hu => aConv_sound hT (Option.isSome_iff_exists.1 hs) (hρ x) hu) rfl
  ·cases h
 case makeFunc f first caps =>
  cases f with
  | func f =>
   simp only at h
   split at h
   ·rename_i hf
    simp only [Option.some.injEq, Prod.mk.injEq] at h
    obtain ⟨rfl, rfl⟩ := h
    have : first = #[] := Array.eq_empty_of_size_eq_zero hf
    subst this
    refine ⟨.value (.func (.func f) #[] (caps.map ρc)), _, G, w, by simp [execOp, Instr.makeFunc], .inl rfl, .fn (by simp) (fun j v c h1 h2 => map_rel hρ caps j v c h1 h2), .refl hr⟩
   ·cases h
  | _ => simp at h
 case makeSlice t l c => exact fin _ (aMakeSlice_sound hT hr (hρ l) (hρ c) h) rfl
 case slice t x lo hi mx => exact fin _ (still _ _ h fun u hu => aSliceT_sound hT hr hρ hu) rfl
 case fieldAddr s x f => exact fin _ (still _ _ h fun u hu => aFieldAddr_sound hT (hρ x) hu) rfl
 case field s x f => exact fin _ (still _ _ h fun u hu => aField_sound hT (hρ x) hu) rfl
 case indexAddr t x ix => exact fin _ (still _ _ h fun u hu => aIndexAddr_sound hT hr (hρ x) (hρ ix) hu) rfl
 case index t x ix => exact fin _ (still _ _ h fun u hu => aIndex_sound hT (hρ x) (hρ ix) hu) rfl
 case extract t ix =>
  have ht := hρ t
  generalize htt : ρ t = rt at h ht
  generalize htv : ρc t = ct at ht
  cases ht <;> simp only at h <;> first | (cases h; done) | skip
  rename_i vs tv hs hv
  cases hx : vs[ix]? with
  | none => simp [hx] at h
  | some u =>
   simp only [hx, Option.some.injEq, Prod.mk.injEq] at h
   obtain ⟨rfl, rfl⟩ := h
   have hlt : ix < tv.size := by rw [hs]; exact (List.getElem?_eq_some_iff.1 hx).1
   exact ⟨.value tv[ix], _, G, w, by simp [execOp, htv, Instr.extract, hlt], .inl rfl, hv ix u _ hx (by simp [hlt]), .refl hr⟩
 case call c =>
  obtain ⟨callee, args, ats⟩ := c
  cases callee with
  | builtin b =>
   simp only at h
   obtain ⟨args⟩ := args
   obtain ⟨ats⟩ := ats
   simp only [aBuiltin] at h
   have bi : ∀ (s : Sem Value), (∃ c G' w', s.run P w = .ok c w' ∧ VRel G' w' v c ∧ Run G H w G' H' w') →
     (∀ r w', s.run P w = .ok r w' → (execOp ρc ⟨dst, .call ⟨.builtin b, ⟨args⟩, ⟨ats⟩⟩, type, pos, after, guard⟩).run P w = .ok (.value r) w') →
     ∃ nx c G' w', (execOp ρc ⟨dst, .call ⟨.builtin b, ⟨args⟩, ⟨ats⟩⟩, type, pos, after, guard⟩).run P w = .ok nx w' ∧ (nx = .value c ∨ (nx = .skip ∧ c = Go.undef)) ∧ VRel G' w' v c ∧ Run G H w G' H' w' := by
    rintro s ⟨c, G', w', h1, h2, h3⟩ he
    exact ⟨_, c, G', w', he _ _ h1, .inl rfl, h2, h3⟩
   split at h
   ·rename_i ts x hargs
    match args, hargs with
    | [ox], hargs =>
     simp at hargs; subst hargs
     split at h
     case isFalse => cases h
     case isTrue hty =>
     cases hl : lenA H (ρ ox) with
     | none => simp [hl] at h
     | some n =>
      simp only [hl, Option.some.injEq, Prod.mk.injEq] at h
      obtain ⟨rfl, rfl⟩ := h
      obtain ⟨t, rfl, d, hu, hd⟩ := lenTy_spec hT (hρ ox) hl hty
      refine bi (Builtin.len_ #[t] type #[ρc ox]) ⟨goInt n, G, w, lenA_sound hr (hρ ox) hl ⟨d, hu, hd⟩, .int _ _, .refl hr⟩ (fun r w' h => ?_)
      simp [execOp, resolve, invoke, builtin, h]
   ·rename_i t u s x hargs
    match args, hargs with
    | [os, ox], hargs =>
     simp at hargs; obtain ⟨rfl, rfl⟩ := hargs
     split at h
     case isFalse => cases h
     case isTrue htu =>
     subst htu
     refine bi (Builtin.append_ #[t, t] type #[ρc os, ρc ox]) (aAppend_sound hT hr (hρ os) (hρ ox) h) (fun r w' h => ?_)
     simp [execOp, resolve, invoke, builtin, h]
   ·rename_i t u s x hargs
    match args, hargs with
    | [os, ox], hargs =>
     simp at hargs; obtain ⟨rfl, rfl⟩ := hargs
     refine bi (Builtin.copy_ #[t, u] type #[ρc os, ρc ox]) (aCopy_sound hT hr (hρ os) (hρ ox) h) (fun r w' h => ?_)
     simp [execOp, resolve, invoke, builtin, h]
   ·rename_i t s hargs
    match args, hargs with
    | [os], hargs =>
     simp at hargs; subst hargs
     refine bi (Builtin.clear_ #[t] type #[ρc os]) (aClear_sound hT hr (hρ os) h) (fun r w' h => ?_)
     simp [execOp, resolve, invoke, builtin, h]
   ·rename_i ats _ _ _ a b hargs
    match args, hargs with
    | [oa, ob], hargs =>
     simp at hargs; obtain ⟨rfl, rfl⟩ := hargs
     cases hm : minA false (ρ oa) (ρ ob) with
     | none => simp [hm] at h
     | some u =>
      simp only [hm, Option.some.injEq, Prod.mk.injEq] at h
      obtain ⟨rfl, rfl⟩ := h
      obtain ⟨c, h1, h2⟩ := minA_sound (P := P) (hρ oa) (hρ ob) hm ⟨ats⟩ type
      refine bi (Builtin.min_ ⟨ats⟩ type #[ρc oa, ρc ob]) ⟨c, G, w, by simpa using h1, h2, .refl hr⟩ (fun r w' h => ?_)
      simp [execOp, resolve, invoke, builtin, h]
   ·rename_i ats _ _ _ a b hargs
    match args, hargs with
    | [oa, ob], hargs =>
     simp at hargs; obtain ⟨rfl, rfl⟩ := hargs
     cases hm : minA true (ρ oa) (ρ ob) with
     | none => simp [hm] at h
     | some u =>
      simp only [hm, Option.some.injEq, Prod.mk.injEq] at h
      obtain ⟨rfl, rfl⟩ := h
      obtain ⟨c, h1, h2⟩ := minA_sound (P := P) (hρ oa) (hρ ob) hm ⟨ats⟩ type
      refine bi (Builtin.max_ ⟨ats⟩ type #[ρc oa, ρc ob]) ⟨c, G, w, by simpa using h1, h2, .refl hr⟩ (fun r w' h => ?_)
      simp [execOp, resolve, invoke, builtin, h]
   ·cases h
  | _ => simp at h
 all_goals cases h
end
abbrev St := Nat → AV
def St.put (σ : St) : Option Tmp → AV → St
 | none, _ => σ
 | some d, v => fun i => if i = d then v else σ i
def Marks (B : Nat) (G : Gh) (w : World) (ds : List Deferred) : Prop :=
 ∃ rs : List Nat, ds = rs.map (fun r => { target := .collected r, args := #[] }) ∧ rs.Nodup ∧ ∀ r ∈ rs, (G.I r ∧ B ≤ r) ∧ w.heap[r]? = some (.deferred (some []))
structure TRel (G : Gh) (w : World) (σ : St) (a : Act) (nt : Nat) : Prop where
 size : a.tmps.size = nt
 tmp : ∀ t, VRel G w (σ t) (a.tmps.getD t Go.undef)
def Callable (P : Program) (f : FuncId) : Prop := ∃ fn c, P.funcs[f]? = some fn ∧ fn.body = some c ∧ (fn.name == "runtime.NumGoroutine") = false
def ACalls (P : Program) (f : FuncId) (args : List AV) (H : AHeap) (K : AV → AHeap → Prop) : Prop :=
 Callable P f ∧ ∀ (G : Gh) (w : World) (cargs : Array Value), Rel G H w → cargs.size = args.length → (∀ (j : Nat) (v : AV) (c : Value), args[j]? = some v → cargs[j]? = some c → VRel G w v c) →
  Calls P f cargs w fun e w' => ∃ v r H' G', e = .returned v ∧ K r H' ∧ VRel G' w' r v ∧ Run G H w G' H' w'
theorem ACalls.mono {P : Program} {f : FuncId} {args : List AV} {H : AHeap} {K K' : AV → AHeap → Prop} (h : ACalls P f args H K) (hk : ∀ r H', K r H' → K' r H') : ACalls P f args H K' :=
 ⟨h.1, fun G w cargs hr hs hv => (h.2 G w cargs hr hs hv).mono fun _ _ ⟨v, r, H', G', h1, h2, h3, h4⟩ => ⟨v, r, H', G', h1, hk r H' h2, h3, h4⟩⟩
def Wide (F : Fence) (rd : Bool) : Prop := (F = Fence.wide ∧ rd = false) ∨ ∃ l, F = Fence.wide.inRound l ∧ rd = true
theorem Wide.fn {F : Fence} {rd : Bool} (h : Wide F rd) (f : FuncId) : F.fn f := by
 rcases h with ⟨rfl, _⟩ | ⟨l, rfl, _⟩ <;> trivial
theorem Wide.depth {F : Fence} {rd : Bool} (h : Wide F rd) : F.depth = none := by
 rcases h with ⟨rfl, _⟩ | ⟨l, rfl, _⟩ <;> rfl
theorem Wide.calls {F : Fence} {rd : Bool} (h : Wide F rd) {P : Program} {n : Nat} {f : FuncId} {args : Array Value} {w : World} {R : Ending → World → Prop} (hc : Calls P f args w R) : CallsIn F n P f args w R := by
 rcases h with ⟨rfl, _⟩ | ⟨l, rfl, _⟩
 ·exact callsIn_wide.2 hc
 ·exact (callsIn_wide (n := n)).2 hc
inductive AX
 | normal
 | ret
 | exit (id : Nat)
def AX.ex : AX → Exit
 | .normal => .normal
 | .ret => .ret
 | .exit id => .exit id
abbrev APost := AX → St → AHeap → Prop
def Post (Q : APost) (nt B : Nat) (G : Gh) (H : AHeap) (w : World) (e : Exit) (a' : Act) (w' : World) : Prop :=
 ∃ x σ' H' G', e = AX.ex x ∧ Q x σ' H' ∧ TRel G' w' σ' a' nt ∧ Run G H w G' H' w' ∧ Marks B G' w' a'.defers
def AWP (P : Program) (rd : Bool) (nt : Nat) (c : Code) (σ : St) (H : AHeap) (Q : APost) : Prop :=
 ∀ (F : Fence) (G : Gh) (a : Act) (w : World) (B : Nat), B ≤ w.heap.size → Wide F rd → Rel G H w → TRel G w σ a nt → Marks B G w a.defers → c.wpIn F 0 P (Post Q nt B G H w) a w
theorem AWP.mono {P : Program} {rd : Bool} {nt : Nat} {σ : St} {H : AHeap} {Q : APost} {c : Code} {Q' : APost} (h : AWP P rd nt c σ H Q) (hq : ∀ e σ H, Q e σ H → Q' e σ H) : AWP P rd nt c σ H Q' :=
 fun F G a w B hB hF hr ht hm => wpIn_mono (h F G a w B hB hF hr ht hm) fun e a' w' ⟨x, σ', H', G', h1, h2, h3⟩ => ⟨x, σ', H', G', h1, hq _ _ _ h2, h3⟩
def AX.jump : AX → Option Code
 | .normal => none
 | .ret => some .ret
 | .exit id => some (.exit id)
def St.puts : St → List Tmp → List AV → St
 | σ, p :: ps, v :: vs => (σ.put (some p) v).puts ps vs
 | σ, _, _ => σ
def yldQ (id : Nat) (K : AV → AHeap → Prop) (σ : St) (nt : Nat) (ps : List Tmp) (assign body : Code) : APost := fun e _ H' =>
 H'.get id = some (.lp σ nt ps assign body .busy none) ∧ K (.bool e.jump.isNone) (H'.put id (.lp σ nt ps assign body (if e.jump.isNone then .ready else .done) e.jump))
def AYield (P : Program) (id : Nat) (args : List AV) (H : AHeap) (K : AV → AHeap → Prop) : Prop :=
 ∃ (σ : St) (nt : Nat) (ps : List Tmp) (assign body : Code), H.get id = some (.lp σ nt ps assign body .ready none) ∧ args.length = ps.length ∧ (∀ p ∈ ps, p < nt) ∧
  AWP P true nt assign (σ.puts ps args) H fun e σ' H' => e = .normal ∧ H'.get id = some (.lp σ nt ps assign body .ready none) ∧
   AWP P true nt body σ' (H'.put id (.lp σ nt ps assign body .busy none)) (yldQ id K σ nt ps assign body)
theorem AYield.mono {P : Program} {id : Nat} {args : List AV} {H : AHeap} {K K' : AV → AHeap → Prop} (h : AYield P id args H K) (hk : ∀ r H', K r H' → K' r H') : AYield P id args H K' := by
 obtain ⟨σ, nt, ps, az, bo, h1, h2, h3, h4⟩ := h
 exact ⟨σ, nt, ps, az, bo, h1, h2, h3, h4.mono fun e σ' H' ⟨q1, q2, q3⟩ => ⟨q1, q2, q3.mono fun e σ' H' ⟨r1, r2⟩ => ⟨r1, hk _ _ r2⟩⟩⟩
section
variable {P : Program} {T : TypeId → Option TE} {G : Gh} {H : AHeap} {w : World}
theorem run_callFunc {f : FuncId} (h : Callable P f) (args : Array Value) (w : World) : (callFunc f args).run P w = .ok (.enter f args) w := by
 obtain ⟨fn, c, h1, h2, h3⟩ := h
 have h3' : ¬ fn.name = "runtime.NumGoroutine" := by simpa using h3
 simp [callFunc, h1, h2, h3']
def goCall : Op → Option (Operand × List Operand)
 | .call c => match c.callee with
  | .value f => some (f, c.args.toList)
  | _ => none
 | _ => none
def wantA (ops : List Oper) (σ : St) (o : Oper) : Option Bool :=
 match o.guard with
 | none => some true
 | some (j, want) =>
  match ops[j]? with
  | some p => match p.dst with
   | some d => match σ d with
    | .bool b => some (b == want)
    | .skip => some false
    | _ => none
   | none => some false
  | none => some false
def aOp (P : Program) (T : TypeId → Option TE) (ops : List Oper) (o : Oper) (σ : St) (H : AHeap) (K : St → AHeap → Prop) : Prop :=
 match wantA ops σ o with
 | some true => match goCall o.op with
  | some (f, az) => match aeval σ f with
   | .fn g caps => ACalls P g (az.map (aeval σ) ++ caps) H fun r H' => K (σ.put o.dst r) H'
   | .yl id => AYield P id (az.map (aeval σ)) H fun r H' => K (σ.put o.dst r) H'
   | _ => False
  | none => match ares T (aeval σ) H o.op with
   | some (v, H') => K (σ.put o.dst v) H'
   | none => False
 | some false => K (σ.put o.dst .skip) H
 | none => False
theorem Marks.run {B : Nat} {G' : Gh} {H' : AHeap} {w' : World} (hr : Rel G H w) {ds : List Deferred} (h : Marks B G w ds) (hg : Run G H w G' H' w') : Marks B G' w' ds := by
 obtain ⟨rs, h1, h2, h3⟩ := h
 exact ⟨rs, h1, h2, fun r hr' => ⟨⟨hg.ext.I r (h3 r hr').1.1, (h3 r hr').1.2⟩, by rw [hg.fr.imm hr r (h3 r hr').1.1]; exact (h3 r hr').2⟩⟩
theorem TRel.run {G' : Gh} {H' : AHeap} {w' : World} (hr : Rel G H w) {σ : St} {a : Act} {nt : Nat} (h : TRel G w σ a nt) (hg : Run G H w G' H' w') : TRel G' w' σ a nt :=
 ⟨h.size, fun t => hg.vrel hr (h.tmp t)⟩
theorem TRel.put {σ : St} {a : Act} {nt : Nat} (h : TRel G w σ a nt) {d : Option Tmp} (hd : ∀ t, d = some t → t < nt) {v : AV} {c : Value} (hv : VRel G w v c) : TRel G w (σ.put d v) (a.put d c) nt := by
 cases d with
 | none => exact h
 | some d =>
  have hd' := hd d rfl
  refine ⟨by simpa [Act.put] using h.size, fun t => ?_⟩
  simp only [St.put, Act.put]
  by_cases ht : t = d
  ·subst ht
   simp only [if_true]
   have : t < a.tmps.size := by rw [h.size]; exact hd'
   simpa [Array.getD_eq_getD_getElem?, this] using hv
  ·simp only [ht, if_false]
   have := h.tmp t
   rw [Array.getD_eq_getD_getElem?, Array.getElem?_setIfInBounds_ne (fun e => ht e.symm)]
   simpa [Array.getD_eq_getD_getElem?] using this
theorem yielded_of {ops : List Oper} {σ : St} {a : Act} {nt : Nat} (h : TRel G w σ a nt) {o : Oper} {b : Bool} (hw : wantA ops σ o = some b) : Region.wanted o (yielded ops.toArray a.tmps) = b := by
 unfold wantA at hw
 unfold Region.wanted
 cases hg : o.guard with
 | none => simp only [hg] at hw; cases hw; rfl
 | some p =>
  obtain ⟨j, want⟩ := p
  simp only [hg] at hw
  unfold yielded
  simp only [List.getElem?_toArray]
  cases hp : ops[j]? with
  | none => simp only [hp] at hw; cases hw; rfl
  | some p =>
   simp only [hp] at hw
   simp only [Option.bind_some]
   cases hd : p.dst with
   | none => simp only [hd] at hw; cases hw; rfl
   | some d =>
    simp only [hd] at hw
    simp only [Option.bind_some]
    have ht := h.tmp d
    rw [Array.getD_eq_getD_getElem?] at ht
    cases hs : σ d with
    | bool x =>
     rw [hs] at ht hw
     simp only [Option.some.injEq] at hw
     cases he : a.tmps[d]? with
     | none => rw [he] at ht; simp [Go.undef] at ht; cases ht
     | some c =>
      rw [he] at ht
      simp only [Option.getD_some] at ht
      cases ht
      subst hw
      simp
    | skip =>
     rw [hs] at ht hw
     simp only [Option.some.injEq] at hw
     subst hw
     cases he : a.tmps[d]? with
     | none => simp
     | some c =>
      rw [he] at ht
      simp only [Option.getD_some] at ht
      cases ht
      simp [Go.undef]
    | _ => rw [hs] at hw; simp at hw
theorem goCall_spec {o : Oper} {f : Operand} {az : List Operand} (h : goCall o.op = some (f, az)) : ∃ ats, o.op = .call { callee := .value f, args := az.toArray, argTypes := ats } := by
 unfold goCall at h
 split at h
 ·rename_i c hc
  obtain ⟨callee, args, ats⟩ := c
  cases callee with
  | value g =>
   simp only [Option.some.injEq, Prod.mk.injEq] at h
   obtain ⟨rfl, rfl⟩ := h
   exact ⟨ats, by rw [hc]⟩
  | _ => simp at h
 ·cases h
theorem Run.putLp {id nt : Nat} {σ : St} {ps : List Tmp} {az bo : Code} {st : LoopState} {pe : Option Code} (hr : Rel G H w) (hb : H.get id = some (.lp σ nt ps az bo st pe)) :
  ∃ r : Loop, w.heap[G.blk id 0]? = some (.loop r) ∧ r.state = st ∧ r.pending = pe ∧ r.params = ps.toArray ∧ r.assign = az ∧ r.body = bo ∧ r.tmps.size = nt ∧ (∀ t, VRel G w (σ t) (r.tmps.getD t Go.undef)) ∧
   ∀ (st' : LoopState) (pe' : Option Code), Run G H w G (H.put id (.lp σ nt ps az bo st' pe')) (w.putObj (G.blk id 0) (.loop { r with state := st', pending := pe' })) := by
 obtain ⟨hd, hgm, fn, tmps, defers, h1, h2, h3⟩ := hr.blk id _ hb
 refine ⟨_, h1, rfl, rfl, rfl, rfl, rfl, h2, h3, fun st' pe' => ?_⟩
 have hlt := (Array.getElem?_eq_some_iff.1 h1).1
 have hold : ∀ k, k ≠ G.blk id 0 → (w.putObj (G.blk id 0) (.loop { state := st', pending := pe', fn, tmps, params := ps.toArray, assign := az, body := bo, defers })).heap[k]? = w.heap[k]? := fun k hk => World.putObj_heap_other hk
 refine Run.put hr hb (.refl G) (fun _ h => h) (fun _ => Iff.rfl) (fun _ _ _ => rfl) ?_ rfl rfl rfl (by simp) (fun k _ hk => hold k hk) (.inl rfl)
 refine ⟨hgm, fn, tmps, defers, World.putObj_heap_same hlt, h2, fun t => (h3 t).mono (.refl G) fun b hb' => hold b ?_⟩
 intro e
 exact hr.imm id _ hb (e ▸ hb')
theorem TRel.puts {nt : Nat} {ds : List Deferred} : ∀ (ps : List Tmp) (vs : List AV) (cs : List Value) (σ : St) (tmps : Array Value), TRel G w σ { tmps := tmps, defers := ds } nt → (∀ p ∈ ps, p < nt) → vs.length = ps.length → cs.length = ps.length →
  (∀ (j : Nat) (v : AV) (c : Value), vs[j]? = some v → cs[j]? = some c → VRel G w v c) → TRel G w (σ.puts ps vs) { tmps := (ps.zip cs).foldl (fun t (p, a) => t.setIfInBounds p a) tmps, defers := ds } nt
 | [], [], [], σ, tmps, h, _, _, _, _ => h
 | p :: ps, v :: vs, c :: cs, σ, tmps, h, hp, hv, hc, hvc => by
  simp only [St.puts, List.zip_cons_cons, List.foldl_cons]
  exact TRel.puts ps vs cs _ _ (h.put (d := some p) (fun t e => by cases e; exact hp p (by simp)) (hvc 0 v c rfl rfl)) (fun q hq => hp q (by simp [hq])) (by simpa using hv) (by simpa using hc) (fun j v' c' h1 h2 => hvc (j + 1) v' c' (by simpa using h1) (by simpa using h2))
 | [], _ :: _, _, _, _, _, _, h, _, _ => by simp at h
 | [], [], _ :: _, _, _, _, _, _, h, _ => by simp at h
 | _ :: _, [], _, _, _, _, _, h, _, _ => by simp at h
 | _ :: _, _ :: _, [], _, _, _, _, _, h, _ => by simp at h
theorem Wide.inRound {F : Fence} {rd : Bool} (h : Wide F rd) (l : Nat) : Wide (F.inRound l) true := by
 rcases h with ⟨rfl, _⟩ | ⟨l', rfl, _⟩
 ·exact .inr ⟨l, rfl, rfl⟩
 ·exact .inr ⟨l, rfl, rfl⟩
theorem ayield_sound {F : Fence} {rd : Bool} (hF : Wide F rd) {id : Nat} {args : List AV} {K : AV → AHeap → Prop} {cargs : Array Value} (hr : Rel G H w) (hs : cargs.size = args.length)
  (hv : ∀ (j : Nat) (v : AV) (c : Value), args[j]? = some v → cargs[j]? = some c → VRel G w v c) (h : AYield P id args H K) :
  ∃ fn tmps assign body, (Instr.yield (G.blk id 0) cargs).run P w = .ok (.round (G.blk id 0) fn tmps assign body) w ∧
   RoundIn F 0 P (G.blk id 0) fn tmps assign body w fun e w' => ∃ v r H' G', e = .returned v ∧ K r H' ∧ VRel G' w' r v ∧ Run G H w G' H' w' := by
 obtain ⟨σ, nt, ps, az, bo, hb, hlen, hps, hw⟩ := h
 obtain ⟨r, h1, h2, h3, h4, rfl, rfl, h7, h8, _⟩ := Run.putLp hr hb
 refine ⟨r.fn, _, r.assign, r.body, run_yield h1 (by rw [h4]; simp [hs, hlen]), ?_⟩
 have hFr := hF.inRound (G.blk id 0)
 have htmps : TRel G w (σ.puts ps args) { tmps := (r.params.zip cargs).foldl (fun t (p, a) => t.setIfInBounds p a) r.tmps, defers := [] } nt := by
  have := TRel.puts (G := G) (w := w) (ds := []) ps args cargs.toList σ r.tmps ⟨h7, h8⟩ hps hlen (by simp [hs, hlen]) (fun j v c h1 h2 => hv j v c h1 (by simpa using h2))
  rw [h4, ← Array.foldl_toList]
  simpa [Array.toList_zip] using this
 have hd := (hr.blk id _ hb).1
 refine roundIn_of_wpIn (hF.fn _) (wpIn_mono (hw (F.inRound (G.blk id 0)) G _ w w.heap.size (Nat.le_refl _) hFr hr htmps ⟨[], rfl, List.nodup_nil, by simp⟩) ?_)
 rintro e a1 w1 ⟨x, σ1, H1, G1, rfl, ⟨rfl, hb1, hbody⟩, ht1, hg1, hm1⟩
 have hblk1 : G1.blk id 0 = G.blk id 0 := hg1.ext.blk id 0 hd (Nat.zero_le _)
 obtain ⟨r1, q1, q2, q3, q4, q5, q6, q7, q8, q9⟩ := Run.putLp hg1.rel hb1
 rw [hblk1] at q1 q9
 have hbusy := q9 .busy none
 rw [show ({ r1 with state := LoopState.busy, pending := none } : Loop) = { r1 with state := .busy } by rw [← q3]] at hbusy
 refine ⟨_, run_beginRound q1 q2, wpIn_mono (hbody (F.inRound (G.blk id 0)) G1 a1 _ w.heap.size (Nat.le_trans hg1.fr.size hbusy.fr.size) hFr hbusy.rel (ht1.run hg1.rel hbusy) (hm1.run hg1.rel hbusy)) ?_⟩
 rintro e a2 w2 ⟨x, σ2, H2, G2, rfl, ⟨hb2, hK⟩, ht2, hg2, hm2⟩
 have hblk2 : G2.blk id 0 = G.blk id 0 := (hg2.ext.blk id 0 (hg1.ext.dom id hd) (Nat.zero_le _)).trans hblk1
 obtain ⟨r2, p1, p2, p3, p4, p5, p6, p7, p8, p9⟩ := Run.putLp hg2.rel hb2
 rw [hblk2] at p1 p9
 have hend := p9 (if x.jump.isNone then .ready else .done) x.jump
 have hrun := run_endRound (P := P) x.jump p1
 have hfin : ∃ v w', (Instr.endRound (G.blk id 0) x.jump).run P w2 = .ok v w' ∧ ∃ v' r H' G', Ending.returned v = .returned v' ∧ K r H' ∧ VRel G' w' r v' ∧ Run G H w G' H' w' :=
  ⟨_, _, hrun, _, _, _, G2, rfl, hK, .bool _, hg1.trans (hbusy.trans (hg2.trans hend))⟩
 cases x <;> exact hfin
theorem aOp_sound (hT : TOK P T) {F : Fence} {rd : Bool} (hF : Wide F rd) {ops : List Oper} {i : Nat} {o : Oper} (hi : ops[i]? = some o) {nt : Nat} (hd : ∀ t, o.dst = some t → t < nt)
  {Q : Exit → Act → World → Prop} {K : St → AHeap → Prop} {K' : Act → World → Prop} {σ : St} {a : Act} (hr : Rel G H w) (ht : TRel G w σ a nt)
  (hK : ∀ σ' H' G' a' w', K σ' H' → Run G H w G' H' w' → TRel G' w' σ' a' nt → a'.defers = a.defers → K' a' w')
  (h : aOp P T ops o σ H K) : wpOpIn F 0 P ops.toArray Q i K' a w := by
 have hρ := VRel.aeval ht.tmp
 unfold wpOpIn
 simp only [List.getElem?_toArray, hi]
 unfold aOp at h
 have hput : ∀ (a : Act) (d : Option Tmp) (v : Value), (a.put d v).defers = a.defers := fun a d v => by cases d <;> rfl
 split at h
 ·rename_i hw
  rw [if_pos (yielded_of ht hw)]
  unfold Oper.wpIn
  refine ⟨fun f _ => hF.fn f, ?_⟩
  split at h
  ·rename_i f az hg
   obtain ⟨ats, hop⟩ := goCall_spec hg
   have hsem : o.semAt F.round a.eval = execOp a.eval o := Oper.semAt_eq _ _ _ (fun c => by rw [hop]; simp)
   rw [hsem]
   split at h
   ·rename_i g caps hf
    have hfv := hρ f
    rw [hf] at hfv
    generalize hfc : a.eval f = fc at hfv
    cases hfv with
    | @fn _ _ cv hs hv =>
     obtain ⟨hcall, hc⟩ := h
     have hrun : (execOp a.eval o).run P w = .ok (.enter g ((az.map a.eval).toArray ++ cv)) w := by
      obtain ⟨dst, op, ty, pos, after, guard⟩ := o
      simp only at hop
      subst hop
      simp [execOp, resolve, hfc, Deferred.ofValue, invoke, run_callFunc hcall]
     rw [hrun]
     refine ⟨fun hq => by rw [hF.depth] at hq; simp at hq, hF.calls ((hc G w _ hr ?_ ?_).mono ?_)⟩
     ·simp [hs]
     ·intro j v c hj hc'
      simp only [List.getElem?_append, List.length_map] at hj
      simp only [Array.getElem?_append, List.size_toArray, List.length_map] at hc'
      split at hj
      ·rename_i hlt
       rw [if_pos hlt] at hc'
       simp only [List.getElem?_toArray] at hc'
       simp only [List.getElem?_map, Option.map_eq_some_iff] at hj hc'
       obtain ⟨x, hx, rfl⟩ := hj
       obtain ⟨y, hy, rfl⟩ := hc'
       rw [hx] at hy; cases hy
       exact hρ x
      ·rename_i hlt
       rw [if_neg hlt] at hc'
       exact hv _ v c hj hc'
     ·rintro e w' ⟨v, r, H', G', rfl, h2, h3, h4⟩
      exact hK _ _ G' _ _ h2 h4 ((ht.run hr h4).put hd h3) (hput _ _ _)
   ·rename_i id hf
    have hfv := hρ f
    rw [hf] at hfv
    generalize hfc : a.eval f = fc at hfv
    cases hfv with
    | yl hid =>
     obtain ⟨fn, tmps, assign, body, hy, hround⟩ := ayield_sound hF (cargs := (az.map a.eval).toArray) hr (by simp) (fun j v c hj hc' => by
      simp only [List.getElem?_toArray, List.getElem?_map, Option.map_eq_some_iff] at hj hc'
      obtain ⟨x, hx, rfl⟩ := hj
      obtain ⟨y, hy, rfl⟩ := hc'
      rw [hx] at hy; cases hy
      exact hρ x) h
     have hrun : (execOp a.eval o).run P w = .ok (.round (G.blk id 0) fn tmps assign body) w := by
      obtain ⟨dst, op, ty, pos, after, guard⟩ := o
      simp only at hop
      subst hop
      simpa [execOp, resolve, hfc, Deferred.ofValue, invoke] using hy
     rw [hrun]
     refine ⟨fun hq => by rw [hF.depth] at hq; simp at hq, hround.mono ?_⟩
     rintro e w' ⟨v, r, H', G', rfl, h2, h3, h4⟩
     exact hK _ _ G' _ _ h2 h4 ((ht.run hr h4).put hd h3) (hput _ _ _)
   ·exact h.elim
  ·rename_i hg
   split at h
   ·rename_i v H' hv
    obtain ⟨nx, c, G', w', hrun, hnx, hvr, hg'⟩ := ares_sound hT hr hρ hv
    have hsem : o.semAt F.round a.eval = execOp a.eval o := Oper.semAt_eq _ _ _ (fun c hc => by rw [hc] at hv; simp [ares] at hv)
    rw [hsem, hrun]
    rcases hnx with rfl | ⟨rfl, rfl⟩
    ·exact hK _ _ G' _ _ h hg' ((ht.run hr hg').put hd hvr) (hput _ _ _)
    ·exact hK _ _ G' _ _ h hg' ((ht.run hr hg').put hd hvr) (hput _ _ _)
   ·exact h.elim
 ·rename_i hw
  rw [if_neg (by rw [yielded_of ht hw]; simp)]
  exact ⟨fun f _ => hF.fn f, hK _ _ G _ _ h (.refl hr) (ht.put hd .skip) (hput _ _ _)⟩
 ·exact h.elim
end
section
variable {P : Program} {T : TypeId → Option TE} {rd : Bool} {nt : Nat} {σ : St} {H : AHeap} {Q : APost}
theorem awp_skip (h : Q .normal σ H) : AWP P rd nt .skip σ H Q :=
 fun F G a w B hB hF hr ht hm => wpIn_skip ⟨.normal, σ, H, G, rfl, h, ht, .refl hr, hm⟩
theorem awp_ret (h : Q .ret σ H) : AWP P rd nt .ret σ H Q :=
 fun F G a w B hB hF hr ht hm => wpIn_ret ⟨.ret, σ, H, G, rfl, h, ht, .refl hr, hm⟩
theorem awp_exit {id : Nat} (h : Q (.exit id) σ H) : AWP P rd nt (.exit id) σ H Q :=
 fun F G a w B hB hF hr ht hm => wpIn_exit ⟨.exit id, σ, H, G, rfl, h, ht, .refl hr, hm⟩
theorem Post.trans {B : Nat} {G G1 : Gh} {H H1 : AHeap} {w w1 : World} (hg : Run G H w G1 H1 w1) {e : Exit} {a' : Act} {w' : World} (h : Post Q nt B G1 H1 w1 e a' w') : Post Q nt B G H w e a' w' := by
 obtain ⟨x, σ', H', G', h1, h2, h3, h4, h5⟩ := h
 exact ⟨x, σ', H', G', h1, h2, h3, hg.trans h4, h5⟩
def seqQ (P : Program) (rd : Bool) (nt : Nat) (y : Code) (Q : APost) : APost
 | .normal, σ, H => AWP P rd nt y σ H Q
 | e, σ, H => Q e σ H
theorem awp_seq {x y : Code} (h : AWP P rd nt x σ H (seqQ P rd nt y Q)) : AWP P rd nt (.seq x y) σ H Q := by
 intro F G a w B hB hF hr ht hm
 refine wpIn_seq (wpIn_mono (h F G a w B hB hF hr ht hm) ?_)
 rintro e a' w' ⟨x, σ', H', G', rfl, h2, h3, h4, h5⟩
 cases x with
 | normal => exact wpIn_mono (h2 F G' a' w' B (Nat.le_trans hB h4.fr.size) hF h4.rel h3 h5) fun e a'' w'' hp => hp.trans h4
 | ret => exact ⟨.ret, σ', H', G', rfl, h2, h3, h4, h5⟩
 | exit id => exact ⟨.exit id, σ', H', G', rfl, h2, h3, h4, h5⟩
def blockQ (id : Nat) (Q : APost) : APost
 | .exit id', σ, H => if id' = id then Q .normal σ H else Q (.exit id') σ H
 | e, σ, H => Q e σ H
theorem awp_block {id : Nat} {c : Code} (h : AWP P rd nt c σ H (blockQ id Q)) : AWP P rd nt (.block id c) σ H Q := by
 intro F G a w B hB hF hr ht hm
 refine wpIn_block (wpIn_mono (h F G a w B hB hF hr ht hm) ?_)
 rintro e a' w' ⟨x, σ', H', G', rfl, h2, h3, h4, h5⟩
 cases x with
 | normal => exact ⟨.normal, σ', H', G', rfl, h2, h3, h4, h5⟩
 | ret => exact ⟨.ret, σ', H', G', rfl, h2, h3, h4, h5⟩
 | exit id' =>
  simp only [AX.ex, Exit.inBlock]
  simp only [blockQ] at h2
  split
  ·rename_i he; simp only [he, if_true] at h2; exact ⟨.normal, σ', H', G', rfl, h2, h3, h4, h5⟩
  ·rename_i he; simp only [he, if_false] at h2; exact ⟨.exit id', σ', H', G', rfl, h2, h3, h4, h5⟩
theorem awp_cond {c : Operand} {x y : Code} (b : Bool) (hc : aeval σ c = .bool b) (h1 : b = true → AWP P rd nt x σ H Q) (h2 : b = false → AWP P rd nt y σ H Q) : AWP P rd nt (.cond c x y) σ H Q := by
 intro F G a w B hB hF hr ht hm
 have hv := VRel.aeval ht.tmp c
 rw [hc] at hv
 generalize hcc : a.eval c = cc at hv
 cases hv
 refine wpIn_cond hcc ?_
 cases b
 ·exact h2 rfl F G a w B hB hF hr ht hm
 ·exact h1 rfl F G a w B hB hF hr ht hm
def aSeq (P : Program) (T : TypeId → Option TE) (ops : List Oper) : List Oper → St → AHeap → (St → AHeap → Prop) → Prop
 | [], σ, H, K => K σ H
 | o :: rest, σ, H, K => aOp P T ops o σ H fun σ H => aSeq P T ops rest σ H K
def dstOk (nt : Nat) (ops : List Oper) : Bool := ops.all fun o => match o.dst with | some d => decide (d < nt) | none => true
theorem dstOk_spec {ops : List Oper} (h : dstOk nt ops = true) {o : Oper} (ho : o ∈ ops) : ∀ t, o.dst = some t → t < nt := by
 intro t ht
 have := List.all_eq_true.1 h o ho
 rw [ht] at this
 simpa using this
theorem aSeq_sound (hT : TOK P T) {F : Fence} (hF : Wide F rd) {ops : List Oper} (hd : dstOk nt ops = true) {K : St → AHeap → Prop} {Q : Exit → Act → World → Prop} :
  ∀ (n : Nat) (k : Nat), k + n = ops.length → ∀ (σ : St) (H : AHeap) (G : Gh) (a : Act) (w : World), Rel G H w → TRel G w σ a nt →
   (∀ σ' H' G' a' w', K σ' H' → Run G H w G' H' w' → TRel G' w' σ' a' nt → a'.defers = a.defers → Q .normal a' w') →
   aSeq P T ops (ops.drop k) σ H K → wpOpsIn F 0 P ops.toArray Q (List.range' k n) a w
 | 0, k, hk, σ, H, G, a, w, hr, ht, hK, h => by
  rw [List.drop_of_length_le (by omega)] at h
  exact hK σ H G a w h (.refl hr) ht rfl
 | n + 1, k, hk, σ, H, G, a, w, hr, ht, hK, h => by
  have hlt : k < ops.length := by omega
  rw [List.drop_eq_getElem_cons hlt] at h
  simp only [aSeq] at h
  rw [List.range'_succ, wpOpsIn_cons]
  refine aOp_sound hT hF (by simp [hlt]) (dstOk_spec hd (List.getElem_mem hlt)) hr ht ?_ h
  intro σ' H' G' a' w' hk' hg ht' hdd
  exact aSeq_sound hT hF hd n (k + 1) (by omega) σ' H' G' a' w' hg.rel ht' (fun σ2 H2 G2 a2 w2 h2 hg2 ht2 hd2 => hK σ2 H2 G2 a2 w2 h2 (hg.trans hg2) ht2 (hd2.trans hdd)) hk'
theorem awp_region (hT : TOK P T) {id : Nat} {ops : Array Oper} (hd : dstOk nt ops.toList = true) (h : aSeq P T ops.toList ops.toList σ H (Q .normal)) : AWP P rd nt (.region id ops false) σ H Q := by
 intro F G a w B hB hF hr ht hm
 refine wpIn_region ?_
 rw [List.range_eq_range']
 have := aSeq_sound hT hF hd ops.size 0 (by simp) σ H G a w hr ht (Q := Post Q nt B G H w) (K := Q .normal)
  (fun σ' H' G' a' w' hk hg ht' hdd => ⟨.normal, σ', H', G', rfl, hk, ht', hg, by rw [hdd]; exact hm.run hr hg⟩) (by simpa using h)
 simpa using this
def aAny (P : Program) (T : TypeId → Option TE) (ops : List Oper) : Nat → Array Bool → St → AHeap → (St → AHeap → Prop) → Prop
 | 0, listed, σ, H, K => Region.ready .any ops.toArray listed = [] ∧ K σ H
 | fuel + 1, listed, σ, H, K =>
  (Region.ready .any ops.toArray listed = [] → K σ H) ∧
  ∀ i ∈ Region.ready .any ops.toArray listed, match ops[i]? with
   | some o => aOp P T ops o σ H fun σ H => aAny P T ops fuel (listed.setIfInBounds i true) σ H K
   | none => False
theorem Run.allocI {G : Gh} {w : World} (hr : Rel G H w) (o : Obj) : Run G H w { G with I := fun b => G.I b ∨ b = w.heap.size } H (w.alloc o) := by
 have he : Ext G { G with I := fun b => G.I b ∨ b = w.heap.size } := ⟨fun _ h => h, fun _ _ => Nat.le_refl _, fun _ _ => rfl, fun _ _ _ _ => rfl, fun _ _ _ _ => rfl, fun _ _ _ _ => rfl, fun _ h => .inl h⟩
 have hold : ∀ k, k < w.heap.size → (w.alloc o).heap[k]? = w.heap[k]? := fun k hk => heap_alloc_old w o k hk
 refine ⟨⟨hr.ok, hr.dom, fun id b hb => ⟨(hr.blk id b hb).1, (hr.blk id b hb).2.keep he (fun b hb => hold b (hr.ilt b hb)) (hr.blk id b hb).1 rfl (hold _ (hr.lt hb))⟩, hr.inj, fun i a ha hi => ?_, fun b hb => ?_⟩, he,
  ⟨rfl, rfl, rfl, by simp, fun k hk _ => hold k hk⟩, fun i a ha => .inr ⟨i, a, ha, rfl⟩, fun b hb => ?_⟩
 ·rcases hi with hi | hi
  ·exact hr.imm i a ha hi
  ·have := hr.lt ha; rw [hi] at this; exact Nat.lt_irrefl _ this
 ·rcases hb with hb | hb
  ·exact Nat.lt_of_lt_of_le (hr.ilt b hb) (by simp)
  ·rw [hb]; simp
 ·rcases hb with hb | hb
  ·exact .inl hb
  ·exact .inr (.inl (by rw [hb]; exact Nat.le_refl _))
theorem awp_rangeFunc {g : Operand} {ps : Array Tmp} {assign body : Code} {f : FuncId} {caps : List AV} (hg : aeval σ g = .fn f caps)
  (h : ACalls P f (.yl H.n :: caps) (H.alloc (.lp σ nt ps.toList assign body .ready none)) fun _ H' => ∃ st x, H'.get H.n = some (.lp σ nt ps.toList assign body st (AX.jump x)) ∧ st ≠ .busy ∧
   Q x σ (H'.put H.n (.lp σ nt ps.toList assign body .exhausted (AX.jump x)))) : AWP P false nt (.rangeFunc g ps assign body) σ H Q := by
 intro F G a w B hB hF hr ht hm
 have hF0 : F = Fence.wide := by
  rcases hF with ⟨h, _⟩ | ⟨l, _, h⟩
  ·exact h
  ·cases h
 subst hF0
 obtain ⟨hcall, hc⟩ := h
 have hfv := VRel.aeval ht.tmp g
 rw [hg] at hfv
 generalize hfc : a.eval g = fc at hfv
 cases hfv with
 | @fn _ _ cv hs hv =>
 refine wpIn_rangeFunc fun fn hfn => ?_
 have r0 := Run.allocI hr (.deferred (some []))
 let rec0 : Loop := { state := .ready, pending := none, fn, tmps := a.tmps, params := ps, assign, body, defers := w.heap.size }
 have r1 : Run { G with I := fun b => G.I b ∨ b = w.heap.size } H (w.alloc (.deferred (some []))) (Gh.add { G with I := fun b => G.I b ∨ b = w.heap.size } H.n (w.alloc (.deferred (some []))).heap.size 0 0 0) (H.alloc (.lp σ nt ps.toList assign body .ready none)) ((w.alloc (.deferred (some []))).alloc (.loop rec0)) := by
  refine Run.alloc r0.rel (.loop rec0) 0 0 0 _ ⟨by simp [Gh.add], fn, a.tmps, w.heap.size, ?_, ht.size, fun t => ?_⟩
  ·have := World.alloc_heap_new (w.alloc (.deferred (some []))) (.loop rec0)
   simpa [Gh.add, rec0] using this
  ·refine ((ht.run hr r0).tmp t).mono (Gh.ext_add _ r0.rel.new _ _ _ _) fun b hb => heap_alloc_old _ _ _ (r0.rel.ilt b hb)
 generalize hG1 : (Gh.add { G with I := fun b => G.I b ∨ b = w.heap.size } H.n (w.alloc (.deferred (some []))).heap.size 0 0 0) = G1 at r1
 have hrun := r0.trans r1
 have hdom : G1.dom H.n := by rw [← hG1]; exact .inl rfl
 have hblk : G1.blk H.n 0 = w.heap.size + 1 := by rw [← hG1]; simp [Gh.add]
 have hmark : G1.I w.heap.size := by rw [← hG1]; exact .inr rfl
 have hmk1 : ((w.alloc (.deferred (some []))).alloc (.loop rec0)).heap[w.heap.size]? = some (.deferred (some [])) := by
  rw [heap_alloc_old _ _ _ (by simp)]; exact World.alloc_heap_new w _
 have hcargs : ∀ (j : Nat) (v : AV) (c : Value), (AV.yl H.n :: caps)[j]? = some v → (#[Value.func (.yield (w.heap.size + 1)) #[] #[]] ++ cv)[j]? = some c → VRel G1 ((w.alloc (.deferred (some []))).alloc (.loop rec0)) v c := by
  intro j v c hj hc
  cases j with
  | zero =>
   rw [Array.getElem?_append_left (by simp)] at hc
   simp at hj hc; subst hj; subst hc
   have := VRel.yl (G := G1) (w := (w.alloc (.deferred (some []))).alloc (.loop rec0)) hdom
   rwa [hblk] at this
  | succ j =>
   simp only [List.getElem?_cons_succ] at hj
   rw [Array.getElem?_append_right (by simp)] at hc
   exact hrun.vrel hr (hv j v c hj (by simpa using hc))
 refine ⟨w.heap.size + 1, [{ target := .collected w.heap.size, args := #[] }], (w.alloc (.deferred (some []))).alloc (.loop rec0), { target := .fn (.func f) cv, args := #[.func (.yield (w.heap.size + 1)) #[] #[]] }, (w.alloc (.deferred (some []))).alloc (.loop rec0), f,
  #[.func (.yield (w.heap.size + 1)) #[] #[]] ++ cv, (w.alloc (.deferred (some []))).alloc (.loop rec0), run_enterLoop_outer _ _ _ _ _, ?_, fun _ _ => trivial, ?_, fun hq => (by simp [Fence.wide] at hq), callsIn_wide.2 ?_⟩
 ·simp only [resolve, hfc]; simp [go_sem]
 ·simp [invoke, go_sem, run_callFunc hcall]
 ·refine (hc G1 _ _ r1.rel (by simp [hs]; omega) hcargs).mono ?_
  rintro e w2 ⟨v, r, H2, G2, rfl, ⟨st, x, hb2, hst, hQ⟩, hvr, hg2⟩
  have hblk2 : G2.blk H.n 0 = w.heap.size + 1 := (hg2.ext.blk _ _ hdom (Nat.zero_le _)).trans hblk
  obtain ⟨r2, p1, p2, p3, p4, p5, p6, p7, p8, p9⟩ := Run.putLp hg2.rel hb2
  rw [hblk2] at p1 p9
  have hend := p9 .exhausted (AX.jump x)
  have hall := (hrun.trans hg2).trans hend
  have hend' := run_endLoop (P := P) p1 (by rw [p2]; exact hst)
  rw [show ({ r2 with state := LoopState.exhausted, pending := AX.jump x } : Loop) = { r2 with state := .exhausted } by rw [← p3]] at hall hend
  have htr : TRel G2 (w2.putObj (w.heap.size + 1) (.loop { r2 with state := .exhausted })) σ { tmps := a.tmps, defers := [{ target := .collected w.heap.size, args := #[] }] ++ a.defers } nt := by
   have := ht.run hr hall
   exact ⟨this.size, this.tmp⟩
  have hmk : Marks B G2 (w2.putObj (w.heap.size + 1) (.loop { r2 with state := .exhausted })) ([{ target := .collected w.heap.size, args := #[] }] ++ a.defers) := by
   obtain ⟨rs, q1, q2, q3⟩ := hm.run hr hall
   refine ⟨w.heap.size :: rs, by rw [q1]; rfl, List.nodup_cons.2 ⟨fun hin => ?_, q2⟩, fun r hr' => ?_⟩
   ·obtain ⟨rs', q1', q2', q3'⟩ := hm
    have : rs = rs' := by
     have e := q1.symm.trans q1'
     have hinj : Function.Injective fun r => ({ target := .collected r, args := #[] } : Deferred) := fun a b h => by simpa using h
     exact (List.map_inj_right (fun a b h => hinj h)).1 e
    rw [this] at hin
    exact Nat.lt_irrefl _ (hr.ilt _ (q3' _ hin).1.1)
   ·rcases List.mem_cons.1 hr' with e | hin
    ·subst e
     refine ⟨⟨(hg2.trans hend).ext.I _ hmark, hB⟩, ?_⟩
     rw [(hg2.trans hend).fr.imm r1.rel _ hmark]; exact hmk1
    ·exact q3 r hin
  have hpost : Post Q nt B G H w (AX.ex x) { tmps := a.tmps, defers := [{ target := .collected w.heap.size, args := #[] }] ++ a.defers } (w2.putObj (w.heap.size + 1) (.loop { r2 with state := .exhausted })) :=
   ⟨x, σ, _, G2, rfl, hQ, htr, hall, hmk⟩
  refine ⟨_, _, hend', ?_⟩
  generalize (w2.putObj (w.heap.size + 1) (.loop { r2 with state := .exhausted })) = W at hpost ⊢
  rw [p3]
  cases x with
  | normal => exact hpost
  | ret => exact wpIn_ret hpost
  | exit id => exact wpIn_exit hpost
def aRes1 (T : TypeId → Option TE) (σ : St) (H : AHeap) : ResultVar → Option AV
 | .tmp t => some (σ t)
 | .cell p t => match T t with
  | some te => match aLoad te H (σ p) with
   | some (v, _) => some v
   | none => none
  | none => none
def aResL (T : TypeId → Option TE) (σ : St) (H : AHeap) : List ResultVar → Option (List AV)
 | [] => some []
 | r :: rs => match aRes1 T σ H r, aResL T σ H rs with
  | some v, some vs => some (v :: vs)
  | _, _ => none
def aRes (T : TypeId → Option TE) (σ : St) (H : AHeap) (rs : List ResultVar) : Option AV :=
 match aResL T σ H rs with
 | some [v] => some v
 | some vs => some (.tup vs)
 | none => none
def resOne (tmps : Array Value) (rv : ResultVar) : Sem Value :=
 match rv with
 | .tmp t => pure (tmps.getD t Go.undef)
 | .cell p t => do loadVar t (← asAddr (tmps.getD p Go.undef))
theorem results_eq (fn : Func) (tmps : Array Value) : results fn tmps = (do let vs ← fn.results.mapM (resOne tmps); pure (if h : vs.size = 1 then vs[0] else .tuple vs)) := by
 unfold results
 congr 1
theorem aRes1_sound (hT : TOK P T) {G : Gh} {w : World} (hr : Rel G H w) {a : Act} (ht : TRel G w σ a nt) {rv : ResultVar} {v : AV} (h : aRes1 T σ H rv = some v) :
  ∃ c, (resOne a.tmps rv).run P w = .ok c w ∧ VRel G w v c := by
 cases rv with
 | tmp t => simp only [aRes1, Option.some.injEq] at h; subst h; exact ⟨_, rfl, ht.tmp t⟩
 | cell p t =>
  simp only [aRes1] at h
  cases hte : T t with
  | none => simp [hte] at h
  | some te =>
   simp only [hte] at h
   cases hl : aLoad te H (σ p) with
   | none => simp [hl] at h
   | some vh =>
    obtain ⟨u, H'⟩ := vh
    simp only [hl, Option.some.injEq] at h
    subst h
    have hp := ht.tmp p
    obtain ⟨_, c, hc, hv⟩ := aLoad_sound hT hr hte hp hl
    refine ⟨c, ?_, hv⟩
    simp only [resOne, Instr.loadAt, Sem.run_bind] at hc ⊢
    generalize a.tmps.getD p Go.undef = q at hc hp
    generalize σ p = s at hl hp
    cases hp <;> first | (simp [aLoad] at hl; done) | simpa [Instr.sureAddr, asAddr] using hc
theorem aResL_sound (hT : TOK P T) {G : Gh} {w : World} (hr : Rel G H w) {a : Act} (ht : TRel G w σ a nt) : ∀ {rs : List ResultVar} {vs : List AV}, aResL T σ H rs = some vs →
  ∃ cs : List Value, (rs.mapM (m := Sem) (resOne a.tmps)).run P w = .ok cs w ∧ cs.length = vs.length ∧ ∀ (j : Nat) (v : AV) (c : Value), vs[j]? = some v → cs[j]? = some c → VRel G w v c
 | [], vs, h => by
  simp only [aResL, Option.some.injEq] at h; subst h
  exact ⟨[], by simp, rfl, fun j v c h => by simp at h⟩
 | r :: rs, vs, h => by
  simp only [aResL] at h
  cases h1 : aRes1 T σ H r with
  | none => simp [h1] at h
  | some v =>
   cases h2 : aResL T σ H rs with
   | none => simp [h1, h2] at h
   | some us =>
    simp only [h1, h2, Option.some.injEq] at h
    subst h
    obtain ⟨c, hc, hv⟩ := aRes1_sound hT hr ht h1
    obtain ⟨cs, hcs, hl, hvs⟩ := aResL_sound hT hr ht h2
    refine ⟨c :: cs, ?_, by simp [hl], fun j v' c' hj hc' => ?_⟩
    ·rw [List.mapM_cons]
     simp only [Sem.run_bind, hc, Result.andThen_ok, hcs, Sem.run_pure]
    ·cases j with
     | zero => simp at hj hc'; subst hj; subst hc'; exact hv
     | succ j => exact hvs j v' c' (by simpa using hj) (by simpa using hc')
theorem aRes_sound (hT : TOK P T) {G : Gh} {w : World} (hr : Rel G H w) {a : Act} (ht : TRel G w σ a nt) {fn : Func} {v : AV} (h : aRes T σ H fn.results.toList = some v) :
  ∃ c, (results fn a.tmps).run P w = .ok c w ∧ VRel G w v c := by
 unfold aRes at h
 cases hl : aResL T σ H fn.results.toList with
 | none => simp [hl] at h
 | some vs =>
  obtain ⟨cs, hcs, hlen, hvs⟩ := aResL_sound hT hr ht hl
  have hm : (fn.results.mapM (m := Sem) (resOne a.tmps)).run P w = .ok cs.toArray w := by
   rw [Array.mapM_eq_mapM_toList]; simp only [Sem.run_map, hcs, Result.andThen_ok]
  rw [results_eq]
  simp only [Sem.run_bind, hm, Result.andThen_ok, Sem.run_pure]
  refine ⟨_, rfl, ?_⟩
  rw [hl] at h
  match vs, h, hlen, hvs with
  | [u], h, hlen, hvs =>
   simp only [Option.some.injEq] at h; subst h
   match cs, hlen with
   | [c], _ => simpa using hvs 0 u c rfl rfl
  | [], h, hlen, hvs =>
   simp only [Option.some.injEq] at h; subst h
   have : cs = [] := List.eq_nil_of_length_eq_zero (by simpa using hlen)
   subst this
   simpa using VRel.tup (G := G) (w := w) (vs := []) (tv := #[]) rfl (fun j v c h => by simp at h)
  | u1 :: u2 :: us, h, hlen, hvs =>
   simp only [Option.some.injEq] at h; subst h
   have hne : ¬ cs.toArray.size = 1 := by simp at hlen ⊢; omega
   rw [dif_neg hne]
   exact .tup (by simpa using hlen) (fun j v c hv hc => hvs j v c hv (by simpa using hc))
theorem leaves_marks {F : Fence} {fn : Func} {tmps : Array Value} {R : Ending → World → Prop} : ∀ (rs : List Nat) (w : World), rs.Nodup → (∀ r ∈ rs, w.heap[r]? = some (.deferred (some []))) →
  (∀ w', w'.os = w.os → w'.tape = w.tape → w'.output = w.output → w'.heap.size = w.heap.size → (∀ b, b ∉ rs → w'.heap[b]? = w.heap[b]?) → ∃ v, (results fn tmps).run P w' = .ok v w' ∧ R (.returned v) w') →
  LeavesInM F 0 P fn tmps R (rs.map fun r => { target := .collected r, args := #[] }) .returning w
 | [], w, _, _, h => by
  simp only [List.map_nil, LeavesInM, LeavesIn]
  exact h w rfl rfl rfl rfl (fun _ _ => rfl)
 | r :: rs, w, hnd, hb, h => by
  simp only [List.map_cons, LeavesInM]
  refine ⟨by simp, .inl ⟨r, _, rfl, run_takeDeferred (hb r (by simp)), ?_⟩⟩
  have hne : ∀ b, b ≠ r → (w.putObj r (.deferred none)).heap[b]? = w.heap[b]? := fun b hb' => World.putObj_heap_other hb'
  refine leaves_marks rs _ (List.nodup_cons.1 hnd).2 (fun q hq => by rw [hne q (fun e => (List.nodup_cons.1 hnd).1 (e ▸ hq))]; exact hb q (by simp [hq])) ?_
  intro w' h1 h2 h3 h4 h5
  refine h w' h1 h2 h3 (by rw [h4]; simp [World.putObj]) (fun b hb' => ?_)
  simp only [List.mem_cons, not_or] at hb'
  rw [h5 b hb'.2, hne b hb'.1]
end
section
variable {P : Program} {T : TypeId → Option TE}
def st0 (args : List AV) : St := fun i => (args[i]?).getD .skip
def retQ (T : TypeId → Option TE) (rs : List ResultVar) (K : AV → AHeap → Prop) : APost
 | .exit _, _, _ => False
 | _, σ, H => ∃ r, aRes T σ H rs = some r ∧ K r H
theorem acalls_body (hT : TOK P T) {f : FuncId} {fn : Func} {c : Code} (hf : P.funcs[f]? = some fn) (hb : fn.body = some c) (hn : (fn.name == "runtime.NumGoroutine") = false)
  {args : List AV} (hsz : args.length ≤ fn.ntmps) {H : AHeap} {K : AV → AHeap → Prop} (h : AWP P false fn.ntmps c (st0 args) H (retQ T fn.results.toList K)) : ACalls P f args H K := by
 refine ⟨⟨fn, c, hf, hb, hn⟩, fun G w cargs hr hcs hv => ?_⟩
 refine (callsIn_wide (n := 0)).1 (callsIn_of_wp_marks hf hb trivial (wpIn_mono (h Fence.wide G _ w w.heap.size (Nat.le_refl _) (.inl ⟨rfl, rfl⟩) hr ⟨?_, fun t => ?_⟩ ⟨[], rfl, List.nodup_nil, by simp⟩) ?_))
 ·simp [hcs]; omega
 ·simp only [st0]
  rw [Array.getD_eq_getD_getElem?, Array.getElem?_append]
  by_cases ht : t < args.length
  ·rw [if_pos (by omega)]
   have h1 : args[t]? = some args[t] := by simp [ht]
   have h2 : cargs[t]? = some cargs[t] := by simp [hcs, ht]
   rw [h1, h2]
   exact hv t _ _ h1 h2
  ·rw [if_neg (by omega), List.getElem?_eq_none (by omega)]
   have : ((Array.replicate (fn.ntmps - cargs.size) Go.undef)[t - cargs.size]?).getD Go.undef = Go.undef := by
    rw [Array.getElem?_replicate]; split <;> rfl
   rw [this]
   exact .skip
 ·rintro e a' w' ⟨x, σ', H', G', rfl, hq, ht, hg, rs, hrs, hnd, hmk⟩
  have key : (∃ r, aRes T σ' H' fn.results.toList = some r ∧ K r H') →
    LeavesInM Fence.wide 0 P fn a'.tmps (fun e w' => ∃ v r H' G', e = .returned v ∧ K r H' ∧ VRel G' w' r v ∧ Run G H w G' H' w') a'.defers .returning w' := by
   rintro ⟨r, hres, hK⟩
   rw [hrs]
   refine leaves_marks rs w' hnd (fun r hr' => (hmk r hr').2) ?_
   intro w'' hos htape hout hsize hold
   let G'' : Gh := { G' with I := fun b => G'.I b ∧ b ∉ rs }
   have hcellne : ∀ b o c, w'.cell? ⟨b, o, none⟩ = some c → b ∉ rs := by
    intro b o c hcell hb'
    rw [World.cell?, (hmk b hb').2] at hcell
    simp at hcell
   have hvr : ∀ {v : AV} {c : Value}, VRel G' w' v c → VRel G'' w'' v c := by
    intro v c hv
    induction hv with
    | undef v => exact .undef v
    | skip => exact .skip
    | bool b => exact .bool b
    | int k n => exact .int k n
    | str s => exact .str s
    | nilp => exact .nilp
    | ptr h1 h2 => exact VRel.ptr (G := G'') h1 h2
    | rop hc h1 hv ih =>
     exact .rop (fun j hj => ⟨⟨(hc j hj).1, hcellne _ _ _ (hc j hj).2⟩, by rw [World.cell?_of_block (hold _ (hcellne _ _ _ (hc j hj).2))]; exact (hc j hj).2⟩) h1 ih
    | nils => exact .nils
    | emp a => exact .emp a
    | roe a c h => exact .roe a c h
    | ronil a => exact .ronil a
    | ro hs h1 hc hv hl ih =>
     exact .ro hs h1 (fun j hj => ⟨⟨(hc j hj).1, hcellne _ _ _ (hc j hj).2⟩, by rw [World.cell?_of_block (hold _ (hcellne _ _ _ (hc j hj).2))]; exact (hc j hj).2⟩) ih hl
    | sl h1 h2 h3 h4 h5 => exact VRel.sl (G := G'') h1 h2 h3 h4 h5
    | nilm => exact .nilm
    | map h1 => exact VRel.map (G := G'') h1
    | fn hs hv ih => exact .fn hs ih
    | nilf => exact .nilf
    | yl h => exact VRel.yl (G := G'') h
    | agg hs h1 hv ih => exact .agg hs h1 ih
    | tup hs hv ih => exact .tup hs ih
   have howned : ∀ i b, H'.get i = some b → G'.blk i b.gen ∉ rs := fun i b hb' hm => hg.rel.imm i b hb' (hmk _ hm).1.1
   have hrel : Rel G'' H' w'' := by
    refine ⟨hg.rel.ok, hg.rel.dom, fun id b hb' => ?_, hg.rel.inj, fun i a ha hi => hg.rel.imm i a ha hi.1, fun b hb' => by rw [hsize]; exact hg.rel.ilt b hb'.1⟩
    obtain ⟨h1, h2⟩ := hg.rel.blk id b hb'
    refine ⟨h1, ?_⟩
    have hblk := hold _ (howned id b hb')
    cases b with
    | row e sz g es =>
     obtain ⟨q1, q2, q3, q4, q5, q6, cur, q7, q8, q9⟩ := h2
     refine ⟨q1, q2, q3, q4, q5, q6, cur, by rw [← q7]; exact hblk, q8, fun i x j v hx hv => ?_⟩
     obtain ⟨c, hc, hvv⟩ := q9 i x j v hx hv
     exact ⟨c, hc, hvr hvv⟩
    | map kt et m =>
     obtain ⟨q1, en, clock, q2, q3, q4, q5, q6⟩ := h2
     exact ⟨q1, en, clock, by rw [← q2]; exact hblk, q3, q4, q5, fun i k v e hk he => ⟨hvr (q6 i k v e hk he).1, hvr (q6 i k v e hk he).2⟩⟩
    | lp σ nt ps assign body st pend =>
     obtain ⟨q1, fn', tmps, defers, q2, q3, q4⟩ := h2
     exact ⟨q1, fn', tmps, defers, by rw [← q2]; exact hblk, q3, fun t => hvr (q4 t)⟩
   have hnew : ∀ r ∈ rs, ¬ r < w.heap.size := by
    intro r hr' hlt
    have := (hmk r hr').1.2
    omega
   have hT' : TRel G'' w'' σ' a' fn.ntmps := ⟨ht.size, fun t => hvr (ht.tmp t)⟩
   obtain ⟨v, hv, hvv⟩ := aRes_sound hT hrel hT' hres
   refine ⟨v, hv, v, r, H', G'', rfl, hK, hvv, hrel, ⟨hg.ext.dom, hg.ext.gm, hg.ext.sz, hg.ext.blk, hg.ext.base, hg.ext.cap, fun b hb' => ⟨hg.ext.I b hb', ?_⟩⟩, ?_, hg.own, fun b hb' => hg.imm b hb'.1⟩
   ·intro hm; exact hnew b hm (hr.ilt b hb')
   ·exact ⟨hos.trans hg.fr.os, htape.trans hg.fr.tape, hout.trans hg.fr.output, by rw [hsize]; exact hg.fr.size, fun b hb' hn' => by rw [hold b (fun hm => hnew b hm hb')]; exact hg.fr.block b hb' hn'⟩
  cases x with
  | normal => exact key hq
  | ret => exact key hq
  | exit id => exact hq.elim
end
inductive Pu : AV → Prop
 | skip : Pu .skip
 | bool (b : Bool) : Pu (.bool b)
 | int (k : IntKind) (n : Int) : Pu (.int k n)
 | str (s : ByteArray) : Pu (.str s)
 | nilp : Pu .nilp
 | rop {cs : List AV} (h : ∀ v ∈ cs, Pu v) : Pu (.rop cs)
 | nils : Pu .nils
 | emp : Pu .emp
 | roe : Pu .roe
 | ro {es : List AV} (h : ∀ v ∈ es, Pu v) : Pu (.ro es)
 | nilm : Pu .nilm
 | fn {f : FuncId} {cs : List AV} (h : ∀ v ∈ cs, Pu v) : Pu (.fn f cs)
 | nilf : Pu .nilf
 | agg {cs : List AV} (h : ∀ v ∈ cs, Pu v) : Pu (.agg cs)
 | tup {cs : List AV} (h : ∀ v ∈ cs, Pu v) : Pu (.tup cs)
theorem Pu.cells {e v : AV} (h : Pu e) (hv : v ∈ e.cells) : Pu v := by
 cases h with
 | agg h => exact h v hv
 | _ => simp only [AV.cells, List.mem_singleton] at hv; subst hv; constructor <;> assumption
section
variable {P : Program} {T : TypeId → Option TE}
theorem VRel.pure {G G' : Gh} {w w' : World} (hI : ∀ b o c, G.I b → w.cell? ⟨b, o, none⟩ = some c → G'.I b ∧ w'.cell? ⟨b, o, none⟩ = some c) {v : AV} {c : Value} (h : VRel G w v c) (hp : Pu v) : VRel G' w' v c := by
 induction h with
 | undef v => cases hp
 | skip => exact .skip
 | bool b => exact .bool b
 | int k n => exact .int k n
 | str s => exact .str s
 | nilp => exact .nilp
 | ptr h hg => cases hp
 | rop hc h1 hv ih =>
  cases hp with
  | rop hp => exact .rop (fun j hj => hI _ _ _ (hc j hj).1 (hc j hj).2) h1 (fun j v hj => ih j v hj (hp v (List.mem_of_getElem? hj)))
 | nils => exact .nils
 | emp a => exact .emp a
 | roe a c h => exact .roe a c h
 | ronil a => exact .ronil a
 | ro hs h1 hc hv hl ih =>
  cases hp with
  | ro hp => exact .ro hs h1 (fun j hj => hI _ _ _ (hc j hj).1 (hc j hj).2) (fun i e j v he hj => ih i e j v he hj ((hp e (List.mem_of_getElem? he)).cells (List.mem_of_getElem? hj))) hl
 | sl h hg hc hl ho => cases hp
 | nilm => exact .nilm
 | map h => cases hp
 | fn hs hv ih =>
  cases hp with
  | fn hp => exact .fn hs (fun j v c hj hc => ih j v c hj hc (hp v (List.mem_of_getElem? hj)))
 | nilf => exact .nilf
 | yl h => cases hp
 | agg hs h1 hv ih =>
  cases hp with
  | agg hp => exact .agg hs h1 (fun j v c hj hc => ih j v c hj hc (hp v (List.mem_of_getElem? hj)))
 | tup hs hv ih =>
  cases hp with
  | tup hp => exact .tup hs (fun j v c hj hc => ih j v c hj hc (hp v (List.mem_of_getElem? hj)))
theorem VRel.toI {G : Gh} {w : World} {v : AV} {c : Value} (h : VRel G w v c) (hp : Pu v) (G' : Gh) (hI : ∀ b, G.I b → G'.I b) : VRel G' w v c :=
 VRel.pure (fun b _ _ hb hc => ⟨hI b hb, hc⟩) h hp
inductive Frz (H : AHeap) : AV → AV → Prop
 | pure {v : AV} (h : Pu v) : Frz H v v
 | sl {id e sz g off len : Nat} {es fs : List AV} (hb : H.get id = some (.row e sz g es)) (hle : off + len ≤ es.length) (hl : fs.length = len)
   (h : ∀ (j : Nat) (x y : AV), es[off + j]? = some x → fs[j]? = some y → ∀ (q : Nat) (u v : AV), x.cells[q]? = some u → y.cells[q]? = some v → Frz H u v) (hs : ∀ y ∈ fs, ∃ x ∈ es, y.cells.length = x.cells.length) (h1 : ∀ y ∈ fs, ∀ v ∈ y.cells, v.one = true) : Frz H (.sl id g off len) (.ro fs)
 | ptr {id e sz g i : Nat} {es : List AV} {x y : AV} (hb : H.get id = some (.row e sz g es)) (hx : es[i]? = some x) (hl : y.cells.length = x.cells.length) (h1 : ∀ v ∈ y.cells, v.one = true)
   (h : ∀ (j : Nat) (u v : AV), x.cells[j]? = some u → y.cells[j]? = some v → Frz H u v) : Frz H (.ptr id g i 0) (.rop y.cells)
 | nils : Frz H .nils (.ro [])
 | emp : Frz H .emp (.ro [])
 | roe : Frz H .roe (.ro [])
 | fn {f : FuncId} {cs ds : List AV} (hl : ds.length = cs.length) (h : ∀ (j : Nat) (x y : AV), cs[j]? = some x → ds[j]? = some y → Frz H x y) : Frz H (.fn f cs) (.fn f ds)
 | agg {cs ds : List AV} (hl : ds.length = cs.length) (h1 : ∀ v ∈ ds, v.one = true) (h : ∀ (j : Nat) (x y : AV), cs[j]? = some x → ds[j]? = some y → Frz H x y) : Frz H (.agg cs) (.agg ds)
 | tup {cs ds : List AV} (hl : ds.length = cs.length) (h : ∀ (j : Nat) (x y : AV), cs[j]? = some x → ds[j]? = some y → Frz H x y) : Frz H (.tup cs) (.tup ds)
def Gh.freeze (G : Gh) (H : AHeap) : Gh := { G with I := fun b => G.I b ∨ ∃ i a, H.get i = some a ∧ G.blk i a.gen = b }
theorem VRel.freeze {G : Gh} {H : AHeap} {w : World} (hr : Rel G H w) {v v' : AV} (h : Frz H v v') : ∀ {c : Value}, VRel G w v c → VRel (G.freeze H) w v' c := by
 have hown : ∀ {id : Nat} {b : Blk}, H.get id = some b → (G.freeze H).I (G.blk id b.gen) := fun hb => .inr ⟨_, _, hb, rfl⟩
 induction h with
 | pure hp => intro c hv; exact hv.pure (fun b o c hb hc => ⟨Or.inl hb, hc⟩) hp
 | @sl id e sz g off len es fs hb hle hl h hs h1 ih =>
  intro c hv
  cases hv with
  | @sl _ _ _ _ o cc hid hg hc hl' ho =>
   have hones := hr.ones hb
   obtain ⟨_, _, hsz, hpos⟩ := hr.row hb
   subst hl
   have hfs : ∀ y ∈ fs, y.cells.length = sz := fun y hy => by obtain ⟨x, hx, he⟩ := hs y hy; rw [he]; exact (hones x hx).1
   by_cases h0 : fs.length = 0
   ·have : fs = [] := List.eq_nil_of_length_eq_zero h0
    subst this
    exact VRel.ro (es := []) (sz := sz) (f := fun _ => Go.undef) (by simp) (by simp) (by simp) (by simp) (Nat.zero_le _)
   ·have hoo : o = G.base id g + off * sz := by
     rcases ho with ho | ho
     ·rw [ho, hsz]
     ·omega
    have hat : ∀ (i : Nat) (x : AV) (j : Nat) (u : AV), es[i]? = some x → x.cells[j]? = some u → ∃ cc, w.cell? ⟨G.blk id g, G.base id g + i * sz + j, none⟩ = some cc ∧ VRel G w u cc := fun i x j u hx hu => hr.at hb hx j u hu
    refine VRel.ro (sz := sz) (f := fun q => (w.cell? ⟨G.blk id g, o + q, none⟩).getD Go.undef) hfs h1 ?_ ?_ hl'
    ·intro q hq
     have hi : q / sz < fs.length := Nat.div_lt_of_lt_mul (by rw [Nat.mul_comm]; exact hq)
     have hm : q % sz < sz := Nat.mod_lt _ hpos
     have he : q / sz * sz + q % sz = q := by rw [Nat.mul_comm]; exact Nat.div_add_mod q sz
     have hx : es[off + q / sz]? = some es[off + q / sz] := by rw [List.getElem?_eq_getElem]
     have hxl := (hones _ (List.getElem_mem (l := es) (n := off + q / sz) (by omega))).1
     obtain ⟨cc', hcc, _⟩ := hat _ _ (q % sz) _ hx (List.getElem?_eq_getElem (by rw [hxl]; exact hm))
     refine ⟨hown hb, ?_⟩
     rw [show G.base id g + (off + q / sz) * sz + q % sz = o + q by rw [hoo, Nat.add_mul]; omega] at hcc
     simp only [Blk.gen] at *
     rw [hcc]; rfl
    ·intro i y j v hy hv
     have hil : i < fs.length := (List.getElem?_eq_some_iff.1 hy).1
     have hx : es[off + i]? = some es[off + i] := by rw [List.getElem?_eq_getElem]
     have hxl := hones _ (List.getElem_mem (l := es) (n := off + i) (by omega))
     have hjs : j < sz := by rw [← hfs y (List.mem_of_getElem? hy)]; exact (List.getElem?_eq_some_iff.1 hv).1
     have hu : (es[off + i]).cells[j]? = some (es[off + i]).cells[j] := by rw [List.getElem?_eq_getElem]
     obtain ⟨cc', hcc, hvr⟩ := hat _ _ j _ hx hu
     rw [show G.base id g + (off + i) * sz + j = o + (i * sz + j) by rw [hoo, Nat.add_mul]; omega] at hcc
     rw [hcc]
     simp only [Option.getD_some]
     exact ih i _ _ hx hy j _ _ hu hv hvr
 | @ptr id e sz g i es x y hb hx hl h1 h ih =>
  intro c hv
  cases hv with
  | ptr hid hg =>
   obtain ⟨_, _, hsz, hpos⟩ := hr.row hb
   have hat := hr.at hb hx
   rw [Nat.add_zero, ← hsz]
   refine VRel.rop (f := fun q => (w.cell? ⟨G.blk id g, G.base id g + i * sz + q, none⟩).getD Go.undef) ?_ h1 ?_
   ·intro j hj
    have hu : x.cells[j]? = some x.cells[j] := by rw [List.getElem?_eq_getElem]
    obtain ⟨cc, hcc, _⟩ := hat j _ hu
    exact ⟨hown hb, by rw [hcc]; rfl⟩
   ·intro j v hv
    have hj : j < x.cells.length := by rw [← hl]; exact (List.getElem?_eq_some_iff.1 hv).1
    have hu : x.cells[j]? = some x.cells[j] := by rw [List.getElem?_eq_getElem]
    obtain ⟨cc, hcc, hvr⟩ := hat j _ hu
    rw [hcc]
    exact ih j _ _ hu hv hvr
 | nils => intro c hv; cases hv; exact .ronil none
 | emp =>
  intro c hv
  cases hv with
  | emp a => exact .ronil a
 | roe =>
  intro c hv
  cases hv with
  | roe a c ha =>
   obtain ⟨b, o, sp⟩ := a
   rcases ha with rfl | rfl
   ·exact VRel.ro (es := []) (sz := 1) (f := fun _ => Go.undef) (by simp) (by simp) (by simp) (by simp) (Nat.zero_le _)
   ·exact .ronil _
 | fn hl h ih =>
  intro c hv
  cases hv with
  | @fn _ _ cv hs hv =>
   refine .fn (by rw [hs, hl]) (fun j v c hj hc => ?_)
   have hlt := (List.getElem?_eq_some_iff.1 hj).1
   exact ih j _ v (List.getElem?_eq_getElem (by omega)) hj (hv j _ c (List.getElem?_eq_getElem (by omega)) hc)
 | agg hl h1 h ih =>
  intro c hv
  cases hv with
  | agg hs h1' hv =>
   refine .agg (by rw [hs, hl]) h1 (fun j v c hj hc => ?_)
   have hlt := (List.getElem?_eq_some_iff.1 hj).1
   exact ih j _ v (List.getElem?_eq_getElem (by omega)) hj (hv j _ c (List.getElem?_eq_getElem (by omega)) hc)
 | tup hl h ih =>
  intro c hv
  cases hv with
  | tup hs hv =>
   refine .tup (by rw [hs, hl]) (fun j v c hj hc => ?_)
   have hlt := (List.getElem?_eq_some_iff.1 hj).1
   exact ih j _ v (List.getElem?_eq_getElem (by omega)) hj (hv j _ c (List.getElem?_eq_getElem (by omega)) hc)
theorem Rel.nilHeap {G : Gh} {H : AHeap} {w : World} (hr : Rel G H w) : Rel { G with dom := fun _ => False } AHeap.nil w :=
 ⟨⟨Nat.one_pos, fun _ => rfl⟩, fun _ h => h.elim, fun id b h => by simp [AHeap.nil] at h, fun i j a b h => by simp [AHeap.nil] at h, fun i a h => by simp [AHeap.nil] at h, hr.ilt⟩
theorem ACalls.pure {f : FuncId} {args : List AV} {K0 : AV → AHeap → Prop} {K : AV → Prop} (h : ACalls P f args AHeap.nil K0) (hp : ∀ a ∈ args, Pu a)
  (hk : ∀ r H', K0 r H' → ∃ r', Frz H' r r' ∧ Pu r' ∧ K r') (H : AHeap) : ACalls P f args H fun r H' => H' = H ∧ K r := by
 refine ⟨h.1, fun G w cargs hr hs hv => ?_⟩
 refine (h.2 { G with dom := fun _ => False } w cargs hr.nilHeap hs (fun j v c hj hc => (hv j v c hj hc).toI (hp v (List.mem_of_getElem? hj)) _ (fun _ hb => hb))).mono ?_
 rintro e w' ⟨v, r, H', G', rfl, hK, hvr, hg⟩
 obtain ⟨r', hf, hpu, hK'⟩ := hk r H' hK
 have hfr := VRel.freeze hg.rel hf hvr
 have hnew : ∀ b, (G'.freeze H').I b → G.I b ∨ w.heap.size ≤ b := by
  rintro b (hb | ⟨i, a, ha, rfl⟩)
  ·rcases hg.imm b hb with h1 | h1 | ⟨j, a, ha, _⟩
   ·exact .inl h1
   ·exact .inr h1
   ·simp [AHeap.nil] at ha
  ·rcases hg.own i a ha with h1 | ⟨j, b, hb, _⟩
   ·exact .inr h1
   ·simp [AHeap.nil] at hb
 have hlt : ∀ b, (G'.freeze H').I b → b < w'.heap.size := by
  rintro b (hb | ⟨i, a, ha, rfl⟩)
  ·exact hg.rel.ilt b hb
  ·exact hg.rel.lt ha
 have hold : ∀ b, b < w.heap.size → w'.heap[b]? = w.heap[b]? := fun b hb => hg.fr.block b hb (fun i a ha => by simp [AHeap.nil] at ha)
 have he : Ext G { G with I := (G'.freeze H').I } := ⟨fun _ h => h, fun _ _ => Nat.le_refl _, fun _ _ => rfl, fun _ _ _ _ => rfl, fun _ _ _ _ => rfl, fun _ _ _ _ => rfl, fun b hb => .inl (hg.ext.I b hb)⟩
 refine ⟨v, r', H, { G with I := (G'.freeze H').I }, rfl, ⟨rfl, hK'⟩, hfr.toI hpu _ (fun _ hb => hb), ?_⟩
 refine ⟨⟨hr.ok, hr.dom, fun id b hb => ⟨(hr.blk id b hb).1, (hr.blk id b hb).2.keep he (fun b hb => hold b (hr.ilt b hb)) (hr.blk id b hb).1 rfl (hold _ (hr.lt hb))⟩, hr.inj, ?_, hlt⟩, he,
  ⟨hg.fr.os, hg.fr.tape, hg.fr.output, hg.fr.size, fun b hb _ => hold b hb⟩, fun i a ha => .inr ⟨i, a, ha, rfl⟩, ?_⟩
 ·intro i a ha hi
  rcases hnew _ hi with h1 | h1
  ·exact hr.imm i a ha h1
  ·have := hr.lt ha; simp only at h1; omega
 ·intro b hb
  rcases hnew b hb with h1 | h1
  ·exact .inl h1
  ·exact .inr (.inl h1)
def Fun1 (P : Program) (f : FuncId) (args : List AV) (r : AV) : Prop := ∀ H, ACalls P f args H fun r' H' => H' = H ∧ r' = r
theorem ACalls.fresh {f : FuncId} {args : List AV} {K0 : AV → AHeap → Prop} {e sz : Nat} {es : List AV} (h : ACalls P f args AHeap.nil K0) (hp : ∀ a ∈ args, Pu a)
  (hpu : ∀ x ∈ es, Pu x) (hk : ∀ r H', K0 r H' → ∃ id g, r = .sl id g 0 es.length ∧ H'.get id = some (.row e sz g es)) (H : AHeap) :
  ACalls P f args H fun r H' => H' = H.alloc (.row e sz 0 es) ∧ r = .sl H.n 0 0 es.length := by
 refine ⟨h.1, fun G w cargs hr hs hv => ?_⟩
 refine (h.2 { G with dom := fun _ => False } w cargs hr.nilHeap hs (fun j v c hj hc => (hv j v c hj hc).toI (hp v (List.mem_of_getElem? hj)) _ (fun _ hb => hb))).mono ?_
 rintro e' w' ⟨v, r, H', G', rfl, hK, hvr, hg⟩
 obtain ⟨id, g, rfl, hb⟩ := hk r H' hK
 obtain ⟨hid, hgm, hsz, hpos⟩ := hg.rel.row hb
 have hold : ∀ b, b < w.heap.size → w'.heap[b]? = w.heap[b]? := fun b hb => hg.fr.block b hb (fun i a ha => by simp [AHeap.nil] at ha)
 have hnew : w.heap.size ≤ G'.blk id g := by
  rcases hg.own id _ hb with h1 | ⟨j, b, hb, _⟩
  ·exact h1
  ·simp [AHeap.nil] at hb
 have hInew : ∀ b, G'.I b → G.I b ∨ w.heap.size ≤ b := by
  intro b hb'
  rcases hg.imm b hb' with h1 | h1 | ⟨j, a, ha, _⟩
  ·exact .inl h1
  ·exact .inr h1
  ·simp [AHeap.nil] at ha
 let G2 : Gh := { G.add H.n (G'.blk id g) (G'.base id g) (G'.cap id g) sz with I := G'.I }
 have he0 := G.ext_add hr.new (G'.blk id g) (G'.base id g) (G'.cap id g) sz
 have he : Ext G G2 := ⟨he0.dom, he0.gm, he0.sz, he0.blk, he0.base, he0.cap, fun b hb => hg.ext.I b hb⟩
 have hvr2 : VRel G2 w' (.sl H.n 0 0 es.length) v := by
  cases hvr with
  | @sl _ _ _ _ o c h1 h2 h3 h4 h5 =>
   have := VRel.sl (G := G2) (w := w') (id := H.n) (g := 0) (off := 0) (len := es.length) (o := o) (c := c) (by simp [G2, Gh.add]) (Nat.zero_le _) (by simpa [G2, Gh.add] using h3) h4 (by simpa [G2, Gh.add, hsz] using h5)
   simpa [G2, Gh.add] using this
 refine ⟨v, _, _, G2, rfl, ⟨rfl, rfl⟩, hvr2, ?_⟩
 have hne : ∀ i a, H.get i = some a → i ≠ H.n := fun i a ha => hr.ne (hr.blk i a ha).1
 have hkey : ∀ i a, H.get i = some a → G2.blk i a.gen = G.blk i a.gen := fun i a ha => by simp [G2, Gh.add, hne i a ha]
 have hkn : G2.blk H.n 0 = G'.blk id g := by simp [G2, Gh.add]
 refine ⟨⟨hr.ok.alloc _, ?_, ?_, ?_, ?_, hg.rel.ilt⟩, he, ⟨hg.fr.os, hg.fr.tape, hg.fr.output, hg.fr.size, fun b hb _ => hold b hb⟩, ?_, fun b hb => ?_⟩
 ·intro i hd
  simp only [AHeap.alloc]
  split
  ·simp
  ·rcases hd with h | h
   ·contradiction
   ·exact hr.dom i h
 ·intro i c hc
  simp only [AHeap.alloc] at hc
  split at hc
  ·rename_i h; cases hc
   obtain ⟨_, _, _, _, q4, q5, q6, cur, q7, q8, q9⟩ := hg.rel.blk id _ hb
   subst h
   refine ⟨.inl rfl, by simp [G2, Gh.add, Blk.gen], by simp [G2, Gh.add], hpos, by simpa [G2, Gh.add] using q4, by simpa [G2, Gh.add] using q5, q6, cur, by simpa [G2, Gh.add] using q7, by simpa [G2, Gh.add] using q8, ?_⟩
   intro i x j u hx hu
   obtain ⟨c, hc, hvv⟩ := q9 i x j u hx hu
   exact ⟨c, by simpa [G2, Gh.add] using hc, hvv.toI ((hpu x (List.mem_of_getElem? hx)).cells (List.mem_of_getElem? hu)) _ (fun _ hb => hb)⟩
  ·rename_i h
   obtain ⟨h1, h2⟩ := hr.blk i c hc
   exact ⟨.inr h1, h2.keep he (fun b hb => hold b (hr.ilt b hb)) h1 (by simp [G2, Gh.add, hr.ne h1]) (hold _ (hr.lt hc))⟩
 ·intro i j a c ha hc hij
  simp only [AHeap.alloc] at ha hc
  split at ha
  ·rename_i h; cases ha; subst h
   split at hc
   ·rename_i h; exact absurd h.symm hij
   ·rw [show (Blk.row e sz 0 es).gen = 0 from rfl, hkn, hkey j c hc]; have := hr.lt hc; omega
  ·split at hc
   ·rename_i h; cases hc; subst h; rw [show (Blk.row e sz 0 es).gen = 0 from rfl, hkn, hkey i a ha]; have := hr.lt ha; omega
   ·rw [hkey i a ha, hkey j c hc]; exact hr.inj i j a c ha hc hij
 ·intro i a ha hi
  simp only [AHeap.alloc] at ha
  split at ha
  ·rename_i h; cases ha; subst h
   simp only [Blk.gen] at hi
   rw [hkn] at hi
   exact hg.rel.imm id _ hb hi
  ·rw [hkey i a ha] at hi
   rcases hInew _ hi with h1 | h1
   ·exact hr.imm i a ha h1
   ·have := hr.lt ha; omega
 ·intro i a ha
  simp only [AHeap.alloc] at ha
  split at ha
  ·rename_i h; cases ha; subst h; left; simp only [Blk.gen]; rw [hkn]; exact hnew
  ·exact .inr ⟨i, a, ha, (hkey i a ha).symm⟩
 ·rcases hInew b hb with h1 | h1
  ·exact .inl h1
  ·exact .inr (.inl h1)
end
inductive Dl
 | none
 | alloc (id : Nat) (b : Blk)
 | put (id : Nat) (b : Blk)
def Dl.app : Dl → AHeap → AHeap
 | .none, H => H
 | .alloc id b, H => ⟨H.n + H.st, H.st, fun i => if i = id then some b else H.get i⟩
 | .put id b, H => ⟨H.n, H.st, fun i => if i = id then some b else H.get i⟩
def Dl.wid : Dl → Option Nat
 | .none => Option.none
 | .alloc id _ | .put id _ => some id
def Dl.isAlloc : Dl → Bool
 | .alloc _ _ => true
 | _ => false
def idOf : AV → List Nat
 | .ptr id _ _ _ | .sl id _ _ _ | .map id => [id]
 | _ => []
def touch (ρ : Operand → AV) : Op → List Nat
 | .load _ a | .store _ a _ => idOf (ρ a)
 | .indexAddr _ x _ | .slice _ x _ _ _ => idOf (ρ x)
 | .call c => match c.callee with
  | .builtin _ => c.args.toList.flatMap fun x => idOf (ρ x)
  | _ => []
 | _ => []
inductive WK
 | none
 | alloc
 | put (id : Nat)
 deriving DecidableEq
def wkind (ρ : Operand → AV) : Op → WK
 | .alloc _ | .box _ _ | .buildSlice _ _ _ | .makeSlice _ _ _ => .alloc
 | .store _ a _ => match ρ a with | .ptr id _ _ _ => .put id | _ => .none
 | .call c => match c.callee, c.args.toList with
  | .builtin .append, x :: _ => match ρ x with | .sl id _ _ _ => .put id | _ => .alloc
  | .builtin .copy, x :: _ => match ρ x with | .sl id _ _ _ => .put id | _ => .none
  | .builtin .clear, x :: _ => match ρ x with | .sl id _ _ _ => .put id | _ => .none
  | _, _ => .none
 | _ => .none
section
variable {P : Program} {T : TypeId → Option TE}
def LocAt (F : AHeap → Ans) (ids : List Nat) (wk : WK) (H : AHeap) (v : AV) (H2 : AHeap) : Prop :=
 ∃ d : Dl, H2 = d.app H ∧ (∀ id b, d = .put id b → wk = .put id ∧ id ∈ ids ∧ H.get id ≠ none) ∧ (∀ id b, d = .alloc id b → wk = .alloc ∧ id = H.n) ∧
  ∀ H' : AHeap, (∀ id ∈ ids, H'.get id = H.get id) → H'.n = H.n → F H' = some (v, d.app H')
theorem LocAt.keep {F : AHeap → Ans} {ids : List Nat} {wk : WK} {H : AHeap} {v : AV} (hk : ∀ H' : AHeap, (∀ id ∈ ids, H'.get id = H.get id) → F H' = some (v, H')) : LocAt F ids wk H v H :=
 ⟨.none, rfl, fun _ _ h => (by cases h), fun _ _ h => (by cases h), fun H' ht _ => hk H' ht⟩
theorem LocAt.mkA {F : AHeap → Ans} {ids : List Nat} {wk : WK} {H : AHeap} {v : AV} (b : Blk) (hw : wk = .alloc)
  (hk : ∀ H' : AHeap, (∀ id ∈ ids, H'.get id = H.get id) → H'.n = H.n → F H' = some (v, H'.alloc b)) : LocAt F ids wk H v (H.alloc b) :=
 ⟨.alloc H.n b, rfl, fun _ _ h => (by cases h), fun _ _ h => (by cases h; exact ⟨hw, rfl⟩), fun H' ht hn => (by rw [hk H' ht hn]; simp only [Dl.app, AHeap.alloc, hn])⟩
theorem LocAt.pureK {F : AHeap → Ans} {ids : List Nat} {wk : WK} {H H2 : AHeap} {v : AV} (r : AHeap → Option AV) (hr : ∀ H' : AHeap, (∀ id ∈ ids, H'.get id = H.get id) → r H' = r H) (he : ∀ H', F H' = pureA H' (r H'))
  (h : F H = some (v, H2)) : LocAt F ids wk H v H2 := by
 rw [he H] at h
 cases hrr : r H with
 | none => simp [hrr, pureA] at h
 | some u =>
  simp only [hrr, pureA, Option.some.injEq, Prod.mk.injEq] at h
  obtain ⟨rfl, rfl⟩ := h
  exact .keep fun H' ht => by rw [he H', hr H' ht, hrr]; rfl
theorem ares_local {ρ : Operand → AV} {H H2 : AHeap} {op : Op} {v : AV} (hop : ares T ρ H op = some (v, H2)) : LocAt (fun H => ares T ρ H op) (touch ρ op) (wkind ρ op) H v H2 := by
 have h := hop
 cases op <;> simp only [ares] at h <;> first | (cases h; done) | skip
 case move x =>
  simp only [Option.some.injEq, Prod.mk.injEq] at h; obtain ⟨rfl, rfl⟩ := h
  exact .keep fun H' _ => rfl
 case assign x =>
  simp only [Option.some.injEq, Prod.mk.injEq] at h; obtain ⟨rfl, rfl⟩ := h
  exact .keep fun H' _ => rfl
 case pick c a b =>
  cases hc : ρ c <;> simp only [hc] at h <;> first | (cases h; done) | skip
  simp only [Option.some.injEq, Prod.mk.injEq] at h; obtain ⟨rfl, rfl⟩ := h
  exact .keep fun H' _ => by simp only [ares, hc]
 case alloc e =>
  unfold aAlloc at h
  cases he : T e with
  | none => simp [he] at h
  | some te =>
   simp only [he] at h
   split at h
   ·rename_i hc
    simp only [Option.some.injEq, Prod.mk.injEq] at h; obtain ⟨rfl, rfl⟩ := h
    exact .mkA _ rfl fun H' _ hn => by simp only [ares, aAlloc, he]; rw [if_pos hc, hn]
   ·cases h
 case box e x =>
  unfold aBox at h
  cases he : T e with
  | none => simp [he] at h
  | some te =>
   simp only [he] at h
   split at h
   ·rename_i hc
    simp only [Option.some.injEq, Prod.mk.injEq] at h; obtain ⟨rfl, rfl⟩ := h
    exact .mkA _ rfl fun H' _ hn => by simp only [ares, aBox, he]; rw [if_pos hc, hn]
   ·cases h
 case build t ps => exact .pureK (fun _ => aBuild T t (ps.toList.map fun p => (p.1, ρ p.2))) (fun _ _ => rfl) (fun _ => rfl) hop
 case buildSlice t n ps =>
  unfold aBuildSlice at h
  cases he : elemT T t with
  | none => simp [he] at h
  | some p =>
   obtain ⟨e, ee⟩ := p
   simp only [he] at h
   split at h
   ·rename_i hc
    simp only [Option.some.injEq, Prod.mk.injEq] at h; obtain ⟨rfl, rfl⟩ := h
    exact .mkA _ rfl fun H' _ hn => by simp only [ares, aBuildSlice, he]; rw [if_pos hc, hn]
   ·cases h
 case load t a =>
  cases ht : T t with
  | none => simp [ht] at h
  | some te =>
   simp only [ht] at h
   cases ha : ρ a <;> simp only [ha, aLoad] at h <;> first | (cases h; done) | skip
   case ptr id g i f =>
    have hH : H2 = H := by
     split at h
     ·split at h
      ·split at h
       ·split at h
        ·simp only [Option.some.injEq, Prod.mk.injEq] at h; exact h.2.symm
        ·cases h
       ·cases h
      ·cases h
     ·cases h
    subst hH; refine .keep fun H' hg => ?_
    simp only [ares, ht, ha, aLoad]
    rw [hg id (by simp [touch, ha, idOf])]
    split at h
    ·split at h
     ·rename_i hgg
      simp only [hgg, if_true] at *
      split at h
      ·rename_i x hx
       split at h
       ·rename_i u hu
        simp only [Option.some.injEq, Prod.mk.injEq] at h
        simp only [hx, hu, h.1]
       ·cases h
      ·cases h
     ·cases h
    ·cases h
   case rop cs =>
    split at h
    ·rename_i u hu
     simp only [Option.some.injEq, Prod.mk.injEq] at h; obtain ⟨rfl, rfl⟩ := h
     exact .keep fun H' _ => by simp only [ares, ht, ha, aLoad, hu]
    ·cases h
 case store t a x =>
  cases ht : T t with
  | none => simp [ht] at h
  | some te =>
   simp only [ht] at h
   cases ha : ρ a <;> simp only [ha, aStore] at h <;> first | (cases h; done) | skip
   case ptr id g i f =>
    split at h
    ·rename_i e sz g' es hb
     split at h
     ·rename_i hc
      split at h
      ·rename_i y hy
       split at h
       ·rename_i hf
        simp only [Option.some.injEq, Prod.mk.injEq] at h; obtain ⟨rfl, rfl⟩ := h
        refine ⟨.put id _, rfl, fun _ _ hd => ?_, fun _ _ hd => (by cases hd), fun H' hg _ => ?_⟩
        ·cases hd; exact ⟨by simp [wkind, ha], by simp [touch, ha, idOf], by rw [hb]; simp⟩
        ·simp only [ares, ht, ha, aStore]
         rw [hg id (by simp [touch, ha, idOf]), hb]
         simp only [if_pos hc, hy, if_pos hf]
         rfl
       ·cases h
      ·cases h
     ·cases h
    ·cases h
 case nilCheck x =>
  cases hx : ρ x <;> simp only [hx] at h <;> first | (cases h; done) | skip
  all_goals
   simp only [Option.some.injEq, Prod.mk.injEq] at h; obtain ⟨rfl, rfl⟩ := h
   exact .keep fun H' _ => by simp only [ares, hx]
 case binOp op t x y u => exact .pureK (fun _ => aBin T op t (ρ x) (ρ y)) (fun _ _ => rfl) (fun _ => rfl) hop
 case unOp op t x => exact .pureK (fun _ => aUn op (ρ x)) (fun _ _ => rfl) (fun _ => rfl) hop
 case convert s d x =>
  split at h
  ·rename_i hs
   exact .pureK (fun _ => aConv T s d (ρ x)) (fun _ _ => rfl) (fun _ => by simp only [ares, hs, if_true]) hop
  ·cases h
 case makeFunc f first caps =>
  cases f with
  | func f =>
   simp only at h
   split at h
   ·rename_i hf
    simp only [Option.some.injEq, Prod.mk.injEq] at h; obtain ⟨rfl, rfl⟩ := h
    exact .keep fun H' _ => by simp only [ares, hf, if_true]
   ·cases h
  | _ => simp at h
 case makeSlice t l c =>
  unfold aMakeSlice at h
  split at h
  ·rename_i e ee j l' k c' he hl hc
   split at h
   ·rename_i hcc
    simp only [Option.some.injEq, Prod.mk.injEq] at h; obtain ⟨rfl, rfl⟩ := h
    exact .mkA _ rfl fun H' _ hn => by simp only [ares, aMakeSlice, he, hl, hc]; rw [if_pos hcc, hn]
   ·cases h
  ·cases h
 case slice t x lo hi mx =>
  refine .pureK (fun H' => aSliceT T H' t (ρ x) (lo.map ρ) (hi.map ρ) (mx.map ρ)) (fun H' hg => ?_) (fun _ => rfl) hop
  unfold aSliceT
  have : okSz T H' t (ρ x) = okSz T H t (ρ x) := by
   unfold okSz
   cases hx : ρ x with
   | sl id g off len => simp only; rw [hg id (by simp [touch, hx, idOf])]
   | _ => rfl
  rw [this]
 case fieldAddr s x f => exact .pureK (fun _ => aFieldAddr T s (ρ x) f) (fun _ _ => rfl) (fun _ => rfl) hop
 case field s x f => exact .pureK (fun _ => aField T s (ρ x) f) (fun _ _ => rfl) (fun _ => rfl) hop
 case indexAddr t x ix =>
  refine .pureK (fun H' => aIndexAddr T H' t (ρ x) (ρ ix)) (fun H' hg => ?_) (fun _ => rfl) hop
  unfold aIndexAddr
  cases hx : ρ x with
  | sl id g off len => simp only [hg id (by simp [touch, hx, idOf])]
  | _ => rfl
 case index t x ix => exact .pureK (fun _ => aIndex T t (ρ x) (ρ ix)) (fun _ _ => rfl) (fun _ => rfl) hop
 case extract x ix =>
  cases hx : ρ x <;> simp only [hx] at h <;> first | (cases h; done) | skip
  rename_i vs
  cases hv : vs[ix]? with
  | none => simp [hv] at h
  | some u =>
   simp only [hv, Option.some.injEq, Prod.mk.injEq] at h; obtain ⟨rfl, rfl⟩ := h
   exact .keep fun H' _ => by simp only [ares, hx, hv]
 case call c =>
  obtain ⟨callee, ⟨args⟩, ⟨ats⟩⟩ := c
  cases callee with
  | builtin b =>
   simp only [aBuiltin] at h
   split at h
   ·rename_i ts x hargs
    split at h
    ·rename_i hty
     match args, hargs with
     | [ox], hargs =>
      simp at hargs; subst hargs
      cases hl : lenA H (ρ ox) with
      | none => simp [hl] at h
      | some n =>
       simp only [hl, Option.some.injEq, Prod.mk.injEq] at h; obtain ⟨rfl, rfl⟩ := h
       refine .keep fun H' hg => ?_
       have : lenA H' (ρ ox) = lenA H (ρ ox) := by
        unfold lenA
        cases hx : ρ ox with
        | map id => simp only; rw [hg id (by simp [touch, hx, idOf])]
        | _ => rfl
       simp only [ares, aBuiltin, List.map_cons, List.map_nil, hty, if_true, this, hl]
    ·cases h
   ·rename_i t u s x hargs
    match args, hargs with
    | [os, ox], hargs =>
     simp at hargs; obtain ⟨rfl, rfl⟩ := hargs
     split at h
     case isFalse => cases h
     case isTrue htu =>
     subst htu
     have hel : ∀ H' : AHeap, (∀ id ∈ touch ρ (.call ⟨.builtin .append, ⟨[os, ox]⟩, ⟨[t, t]⟩⟩), H'.get id = H.get id) → elems H' (ρ ox) = elems H (ρ ox) := by
      intro H' hg
      unfold elems
      cases hx : ρ ox with
      | sl id g off len => simp only; rw [hg id (by simp [touch, hx, idOf])]
      | _ => rfl
     have hev : ∀ H' : AHeap, ares T ρ H' (.call ⟨.builtin .append, ⟨[os, ox]⟩, ⟨[t, t]⟩⟩) = aAppend T H' t (ρ os) (ρ ox) := fun H' => by simp [ares, aBuiltin]
     unfold aAppend at h
     cases he : elemT T t with
     | none => simp [he] at h
     | some p =>
      obtain ⟨e, ee⟩ := p
      cases hxs : elems H (ρ ox) with
      | none => simp [he, hxs] at h
      | some xs =>
       simp only [he, hxs] at h
       split at h
       case isFalse => cases h
       case isTrue hc =>
       cases hs : ρ os with
       | nils =>
        simp only [hs] at h
        split at h
        ·rename_i h0
         simp only [Option.some.injEq, Prod.mk.injEq] at h; obtain ⟨rfl, rfl⟩ := h
         exact .keep fun H' hg => by rw [hev]; simp only [aAppend, he, hel H' hg, hxs, hs]; rw [if_pos hc, if_pos h0]
        ·rename_i h0
         split at h
         ·rename_i hb
          simp only [Option.some.injEq, Prod.mk.injEq] at h; obtain ⟨rfl, rfl⟩ := h
          exact .mkA _ (by simp [wkind, hs]) fun H' hg hn => by rw [hev]; simp only [aAppend, he, hel H' hg, hxs, hs]; rw [if_pos hc, if_neg h0, if_pos hb, hn]
         ·cases h
       | emp =>
        simp only [hs] at h
        split at h
        ·rename_i h0
         simp only [Option.some.injEq, Prod.mk.injEq] at h; obtain ⟨rfl, rfl⟩ := h
         exact .keep fun H' hg => by rw [hev]; simp only [aAppend, he, hel H' hg, hxs, hs]; rw [if_pos hc, if_pos h0]
        ·rename_i h0
         split at h
         ·rename_i hb
          simp only [Option.some.injEq, Prod.mk.injEq] at h; obtain ⟨rfl, rfl⟩ := h
          exact .mkA _ (by simp [wkind, hs]) fun H' hg hn => by rw [hev]; simp only [aAppend, he, hel H' hg, hxs, hs]; rw [if_pos hc, if_neg h0, if_pos hb, hn]
         ·cases h
       | sl id g off len =>
        simp only [hs] at h
        cases hb : H.get id with
        | none => simp [hb] at h
        | some blk =>
         cases blk with
         | map kt et m => simp [hb] at h
         | lp => simp [hb] at h
         | row e' sz g' es =>
          simp only [hb] at h
          split at h
          case isFalse => cases h
          case isTrue hcc =>
          simp only [Option.some.injEq, Prod.mk.injEq] at h; obtain ⟨rfl, rfl⟩ := h
          refine ⟨.put id _, rfl, fun _ _ hd => ?_, fun _ _ hd => (by cases hd), fun H' hg _ => ?_⟩
          ·cases hd; exact ⟨by simp [wkind, hs], by simp [touch, hs, idOf], by rw [hb]; simp⟩
          ·show ares T ρ H' _ = _
           rw [hev]; simp only [aAppend, he, hel H' hg, hxs, hs]; rw [if_pos hc, hg id (by simp [touch, hs, idOf]), hb]; simp only [if_pos hcc]; rfl
       | _ => simp [hs] at h
   ·rename_i t u s x hargs
    match args, hargs with
    | [os, ox], hargs =>
     simp at hargs; obtain ⟨rfl, rfl⟩ := hargs
     have hel : ∀ H' : AHeap, (∀ id ∈ touch ρ (.call ⟨.builtin .copy, ⟨[os, ox]⟩, ⟨[t, u]⟩⟩), H'.get id = H.get id) → elems H' (ρ ox) = elems H (ρ ox) := by
      intro H' hg
      unfold elems
      cases hx : ρ ox with
      | sl id g off len => simp only; rw [hg id (by simp [touch, hx, idOf])]
      | _ => rfl
     have hev : ∀ H' : AHeap, ares T ρ H' (.call ⟨.builtin .copy, ⟨[os, ox]⟩, ⟨[t, u]⟩⟩) = aCopy T H' t (ρ os) (ρ ox) := fun H' => by simp [ares, aBuiltin]
     unfold aCopy at h
     cases he : elemT T t with
     | none => simp [he] at h
     | some p =>
      obtain ⟨e, ee⟩ := p
      cases hxs : elems H (ρ ox) with
      | none => simp [he, hxs] at h
      | some xs =>
       simp only [he, hxs] at h
       split at h
       case isFalse => cases h
       case isTrue hc =>
       cases hs : ρ os with
       | sl id g off len =>
        simp only [hs] at h
        cases hb : H.get id with
        | none => simp [hb] at h
        | some blk =>
         cases blk with
         | map kt et m => simp [hb] at h
         | lp => simp [hb] at h
         | row e' sz g' es =>
          simp only [hb] at h
          split at h
          case isFalse => cases h
          case isTrue hcc =>
          simp only [Option.some.injEq, Prod.mk.injEq] at h; obtain ⟨rfl, rfl⟩ := h
          refine ⟨.put id _, rfl, fun _ _ hd => ?_, fun _ _ hd => (by cases hd), fun H' hg _ => ?_⟩
          ·cases hd; exact ⟨by simp [wkind, hs], by simp [touch, hs, idOf], by rw [hb]; simp⟩
          ·show ares T ρ H' _ = _
           rw [hev]; simp only [aCopy, he, hel H' hg, hxs, hs]; rw [if_pos hc, hg id (by simp [touch, hs, idOf]), hb]; simp only [if_pos hcc]; rfl
       | _ => simp [hs] at h
   ·rename_i t s hargs
    match args, hargs with
    | [os], hargs =>
     simp at hargs; subst hargs
     have hev : ∀ H' : AHeap, ares T ρ H' (.call ⟨.builtin .clear, ⟨[os]⟩, ⟨[t]⟩⟩) = aClear T H' t (ρ os) := fun H' => by simp [ares, aBuiltin]
     unfold aClear at h
     cases he : elemT T t with
     | none => simp [he] at h
     | some p =>
      obtain ⟨e, ee⟩ := p
      simp only [he] at h
      split at h
      case isFalse => cases h
      case isTrue hc =>
      cases hs : ρ os with
      | sl id g off len =>
       simp only [hs] at h
       cases hb : H.get id with
       | none => simp [hb] at h
       | some blk =>
        cases blk with
        | map kt et m => simp [hb] at h
        | lp => simp [hb] at h
        | row e' sz g' es =>
         simp only [hb] at h
         split at h
         case isFalse => cases h
         case isTrue hcc =>
         simp only [Option.some.injEq, Prod.mk.injEq] at h; obtain ⟨rfl, rfl⟩ := h
         refine ⟨.put id _, rfl, fun _ _ hd => ?_, fun _ _ hd => (by cases hd), fun H' hg _ => ?_⟩
         ·cases hd; exact ⟨by simp [wkind, hs], by simp [touch, hs, idOf], by rw [hb]; simp⟩
         ·show ares T ρ H' _ = _
          rw [hev]; simp only [aClear, he, hs]; rw [if_pos hc, hg id (by simp [touch, hs, idOf]), hb]; simp only [if_pos hcc]; rfl
      | _ => simp [hs] at h
   ·rename_i ts a b hargs
    match args, hargs with
    | [oa, ob], hargs =>
     simp at hargs; obtain ⟨rfl, rfl⟩ := hargs
     cases hm : minA false (ρ oa) (ρ ob) with
     | none => simp [hm] at h
     | some u =>
      simp only [hm, Option.some.injEq, Prod.mk.injEq] at h; obtain ⟨rfl, rfl⟩ := h
      exact .keep fun H' _ => by simp [ares, aBuiltin, hm]
   ·rename_i ts a b hargs
    match args, hargs with
    | [oa, ob], hargs =>
     simp at hargs; obtain ⟨rfl, rfl⟩ := hargs
     cases hm : minA true (ρ oa) (ρ ob) with
     | none => simp [hm] at h
     | some u =>
      simp only [hm, Option.some.injEq, Prod.mk.injEq] at h; obtain ⟨rfl, rfl⟩ := h
      exact .keep fun H' _ => by simp [ares, aBuiltin, hm]
   ·cases h
  | _ => simp at h
end
section
variable {P : Program} {T : TypeId → Option TE}
theorem ares_congr {ρ ρ' : Operand → AV} {op : Op} (h : ∀ x ∈ op.operands.toList, ρ x = ρ' x) (H : AHeap) : ares T ρ H op = ares T ρ' H op := by
 cases op <;> simp only [Op.operands, List.mem_cons, List.not_mem_nil, or_false, forall_eq_or_imp, forall_eq] at h <;>
  simp only [ares] <;> first | rfl | (simp only [h]; done) | (obtain ⟨h1, h2⟩ := h; simp only [h1, h2]; done) | (obtain ⟨h1, h2, h3⟩ := h; simp only [h1, h2, h3]; done) | skip
 case build t ps =>
  have : (ps.toList.map fun p => (p.1, ρ p.2)) = ps.toList.map fun p => (p.1, ρ' p.2) := List.map_congr_left fun p hp => by rw [h p.2 (List.mem_map_of_mem hp)]
  rw [this]
 case buildSlice t n ps =>
  have : (ps.toList.map fun p => (p.1, ρ p.2)) = ps.toList.map fun p => (p.1, ρ' p.2) := List.map_congr_left fun p hp => by rw [h p.2 (List.mem_map_of_mem hp)]
  rw [this]
 case makeFunc f first caps =>
  have : caps.toList.map ρ = caps.toList.map ρ' := List.map_congr_left fun p hp => h p (by simp only [Array.toList_append, List.mem_append]; exact .inr hp)
  cases f <;> simp only [ares, this]
 case slice t x lo hi mx =>
  have hx : ρ x = ρ' x := h x (by simp)
  have hlo : lo.map ρ = lo.map ρ' := by cases lo <;> simp at h ⊢; simp [h]
  have hhi : hi.map ρ = hi.map ρ' := by cases hi <;> simp at h ⊢; simp [h]
  have hmx : mx.map ρ = mx.map ρ' := by cases mx <;> simp at h ⊢; simp [h]
  rw [hx, hlo, hhi, hmx]
 case call c =>
  cases hc : c.callee with
  | builtin b =>
   have : c.args.toList.map ρ = c.args.toList.map ρ' := List.map_congr_left fun p hp => h p (by simp only [Call.operands, hc, Array.toList_append, List.mem_append]; exact .inr hp)
   simp only [this]
  | _ => rfl
end
def last : Nat → (Nat → Bool) → Option Nat
 | 0, _ => none
 | n + 1, p => if p n then some n else last n p
theorem last_congr {p q : Nat → Bool} : ∀ {n : Nat}, (∀ i, i < n → p i = q i) → last n p = last n q
 | 0, _ => rfl
 | n + 1, h => by simp only [last]; rw [h n (Nat.lt_succ_self n), last_congr fun i hi => h i (Nat.lt_succ_of_lt hi)]
theorem last_top {p : Nat → Bool} {j : Nat} (hj : p j = true) : ∀ {n : Nat}, j < n → (∀ i, i < n → j < i → p i = false) → last n p = some j
 | 0, h, _ => by omega
 | n + 1, h, hi => by
  simp only [last]
  by_cases e : n = j
  ·subst e; simp [hj]
  ·rw [hi n (Nat.lt_succ_self n) (by omega)]
   simpa using last_top hj (by omega) fun i h1 h2 => hi i (Nat.lt_succ_of_lt h1) h2
theorem last_none {p : Nat → Bool} : ∀ {n : Nat}, (∀ i, i < n → p i = false) → last n p = none
 | 0, _ => rfl
 | n + 1, h => by simp only [last]; rw [h n (Nat.lt_succ_self n)]; simpa using last_none fun i hi => h i (Nat.lt_succ_of_lt hi)
abbrev Foot := List Nat × Option Nat
structure Ev where
 v : AV
 wr : Option (Nat × Blk)
 foot : Foot
 deriving Inhabited
abbrev Mem := Nat → Option Blk
def wrG (g : Mem) : Option (Nat × Blk) → Mem
 | none => g
 | some (id, b) => fun i => if i = id then some b else g i
def hits (e : Ev) (id : Nat) : Bool := match e.wr with | some (i, _) => i == id | none => false
def stL (dst : Nat → Option Tmp) (ev : Nat → Ev) (σ : St) : Nat → St
 | 0 => σ
 | i + 1 => (stL dst ev σ i).put (dst i) (ev i).v
def gL (ev : Nat → Ev) (g : Mem) : Nat → Mem
 | 0 => g
 | i + 1 => wrG (gL ev g i) (ev i).wr
def stOf (k : Nat) (dst : Nat → Option Tmp) (ev : Nat → Ev) (σ : St) (S : Nat → Bool) : St := fun x =>
 match last k (fun i => S i && dst i == some x) with | some i => (ev i).v | none => σ x
def gOf (k : Nat) (ev : Nat → Ev) (g : Mem) (S : Nat → Bool) : Mem := fun id =>
 match last k (fun i => S i && hits (ev i) id) with | some i => (ev i).wr.map (·.2) | none => g id
section
variable {k : Nat} {dst : Nat → Option Tmp} {ev : Nat → Ev} {σ : St} {g : Mem}
theorem stOf_add {S S' : Nat → Bool} {j : Nat} (hj : j < k) (hS : S' = fun i => S i || i == j) (hup : ∀ i, i < k → j < i → S i = true → ∀ x, dst j = some x → dst i ≠ some x) :
  stOf k dst ev σ S' = (stOf k dst ev σ S).put (dst j) (ev j).v := by
 subst hS
 funext x
 by_cases hx : dst j = some x
 ·have h1 : last k (fun i => (S i || i == j) && dst i == some x) = some j := by
   refine last_top (by simp [hx]) hj fun i hi hji => ?_
   have hne : (i == j) = false := by simp; omega
   cases hs : S i with
   | false => simp [hne]
   | true => simp [hup i hi hji hs x hx]
  simp only [stOf, h1, hx, St.put, if_true]
 ·have h1 : last k (fun i => (S i || i == j) && dst i == some x) = last k (fun i => S i && dst i == some x) := by
   refine last_congr fun i hi => ?_
   by_cases e : i = j
   ·subst e; simp [hx]
   ·have e' : (i == j) = false := by simpa using e
    simp [e']
  cases hd : dst j with
  | none => simp only [stOf, h1, St.put]
  | some d =>
   simp only [stOf, h1, St.put]
   rw [if_neg (fun e => hx (by rw [hd, e]))]
theorem gOf_add {S S' : Nat → Bool} {j : Nat} (hj : j < k) (hS : S' = fun i => S i || i == j) (hup : ∀ i, i < k → j < i → S i = true → ∀ id, hits (ev j) id = true → hits (ev i) id = false) :
  gOf k ev g S' = wrG (gOf k ev g S) (ev j).wr := by
 subst hS
 funext id
 by_cases hx : hits (ev j) id = true
 ·have h1 : last k (fun i => (S i || i == j) && hits (ev i) id) = some j := by
   refine last_top (by simp [hx]) hj fun i hi hji => ?_
   have hne : (i == j) = false := by simp; omega
   cases hs : S i with
   | false => simp [hne]
   | true => simp [hup i hi hji hs id hx]
  simp only [gOf, h1]
  unfold hits at hx
  cases hw : (ev j).wr with
  | none => simp [hw] at hx
  | some p =>
   obtain ⟨q, b⟩ := p
   simp only [hw, beq_iff_eq] at hx
   simp [wrG, hx]
 ·have h1 : last k (fun i => (S i || i == j) && hits (ev i) id) = last k (fun i => S i && hits (ev i) id) := by
   refine last_congr fun i hi => ?_
   by_cases e : i = j
   ·subst e; simp [hx]
   ·have e' : (i == j) = false := by simpa using e
    simp [e']
  cases hw : (ev j).wr with
  | none => simp only [gOf, h1, wrG]
  | some p =>
   obtain ⟨q, b⟩ := p
   simp only [hits, hw, beq_iff_eq] at hx
   simp only [gOf, h1, wrG]
   rw [if_neg (fun e => hx e.symm)]
theorem stOf_none {S : Nat → Bool} (h : ∀ i, i < k → S i = false) : stOf k dst ev σ S = σ := by
 funext x
 simp only [stOf]
 rw [last_none fun i hi => by simp [h i hi]]
theorem gOf_none {S : Nat → Bool} (h : ∀ i, i < k → S i = false) : gOf k ev g S = g := by
 funext x
 simp only [gOf]
 rw [last_none fun i hi => by simp [h i hi]]
theorem stOf_congr {S S' : Nat → Bool} (h : ∀ i, i < k → S i = S' i) : stOf k dst ev σ S = stOf k dst ev σ S' := by
 funext x
 simp only [stOf]
 rw [last_congr (q := fun i => S' i && dst i == some x) fun i hi => by simp [h i hi]]
theorem gOf_congr {S S' : Nat → Bool} (h : ∀ i, i < k → S i = S' i) : gOf k ev g S = gOf k ev g S' := by
 funext x
 simp only [gOf]
 rw [last_congr (q := fun i => S' i && hits (ev i) x) fun i hi => by simp [h i hi]]
theorem stL_eq : ∀ {j : Nat}, j ≤ k → stL dst ev σ j = stOf k dst ev σ fun i => decide (i < j)
 | 0, _ => (stOf_none fun i _ => by simp).symm
 | j + 1, h => by
  rw [stL, stL_eq (Nat.le_of_succ_le h)]
  refine (stOf_add (Nat.lt_of_succ_le h) ?_ fun i hi hji hs => by simp at hs; omega).symm
  funext i
  by_cases h1 : i < j
  ·have h2 : i < j + 1 := by omega
   simp [h1, h2]
  ·by_cases h2 : i = j
   ·simp [h2]
   ·have h3 : ¬ i < j + 1 := by omega
    have e' : (i == j) = false := by simpa using h2
    simp [h1, h3, e']
theorem gL_eq : ∀ {j : Nat}, j ≤ k → gL ev g j = gOf k ev g fun i => decide (i < j)
 | 0, _ => (gOf_none fun i _ => by simp).symm
 | j + 1, h => by
  rw [gL, gL_eq (Nat.le_of_succ_le h)]
  refine (gOf_add (Nat.lt_of_succ_le h) ?_ fun i hi hji hs => by simp at hs; omega).symm
  funext i
  by_cases h1 : i < j
  ·have h2 : i < j + 1 := by omega
   simp [h1, h2]
  ·by_cases h2 : i = j
   ·simp [h2]
   ·have h3 : ¬ i < j + 1 := by omega
    have e' : (i == j) = false := by simpa using h2
    simp [h1, h3, e']
structure Free (rd : Nat → List Tmp) (dst : Nat → Option Tmp) (ev : Nat → Ev) (i j : Nat) : Prop where
 dr : ∀ x, dst i = some x → x ∉ rd j
 rd : ∀ x, dst j = some x → x ∉ rd i
 dd : ∀ x, dst i = some x → dst j ≠ some x
 wt : ∀ id, hits (ev i) id = true → id ∉ (ev j).foot.1
 tw : ∀ id, hits (ev j) id = true → id ∉ (ev i).foot.1
 ww : ∀ id, hits (ev i) id = true → hits (ev j) id = false
def KeyAt (k : Nat) (rd : Nat → List Tmp) (dst : Nat → Option Tmp) (ev : Nat → Ev) (S : Nat → Bool) (j : Nat) : Prop :=
 ∀ i, i < k → i ≠ j → (i < j ∧ S i = true) ∨ (j < i ∧ S i = false) ∨ Free rd dst ev i j
variable {rd : Nat → List Tmp} {S : Nat → Bool} {j : Nat}
theorem key_reads (hk : KeyAt k rd dst ev S j) (hj : j < k) (hSj : S j = false) {x : Tmp} (hx : x ∈ rd j) : stOf k dst ev σ S x = stL dst ev σ j x := by
 rw [stL_eq (Nat.le_of_lt hj)]
 simp only [stOf]
 rw [last_congr (q := fun i => decide (i < j) && dst i == some x) fun i hi => ?_]
 by_cases e : i = j
 ·subst e; simp [hSj]
 ·rcases hk i hi e with ⟨h1, h2⟩ | ⟨h1, h2⟩ | hf
  ·simp [h1, h2]
  ·have : ¬ i < j := by omega
   simp [h2, this]
  ·have h0 : dst i ≠ some x := fun h => hf.dr x h hx
   have : (dst i == some x) = false := by simpa using h0
   simp [this]
theorem key_touch (hk : KeyAt k rd dst ev S j) (hj : j < k) (hSj : S j = false) {id : Nat} (hx : id ∈ (ev j).foot.1) : gOf k ev g S id = gL ev g j id := by
 rw [gL_eq (Nat.le_of_lt hj)]
 simp only [gOf]
 rw [last_congr (q := fun i => decide (i < j) && hits (ev i) id) fun i hi => ?_]
 by_cases e : i = j
 ·subst e; simp [hSj]
 ·rcases hk i hi e with ⟨h1, h2⟩ | ⟨h1, h2⟩ | hf
  ·simp [h1, h2]
  ·have : ¬ i < j := by omega
   simp [h2, this]
  ·have : hits (ev i) id = false := by
    cases h : hits (ev i) id with
    | false => rfl
    | true => exact absurd hx (hf.wt id h)
   simp [this]
theorem key_st (hk : KeyAt k rd dst ev S j) (hj : j < k) : stOf k dst ev σ (fun i => S i || i == j) = (stOf k dst ev σ S).put (dst j) (ev j).v := by
 refine stOf_add hj rfl fun i hi hji hs x hx => ?_
 rcases hk i hi (by omega) with ⟨h1, _⟩ | ⟨_, h2⟩ | hf
 ·omega
 ·rw [hs] at h2; cases h2
 ·exact fun h => hf.dd x h hx
theorem key_g (hk : KeyAt k rd dst ev S j) (hj : j < k) : gOf k ev g (fun i => S i || i == j) = wrG (gOf k ev g S) (ev j).wr := by
 refine gOf_add hj rfl fun i hi hji hs id hx => ?_
 rcases hk i hi (by omega) with ⟨h1, _⟩ | ⟨_, h2⟩ | hf
 ·omega
 ·rw [hs] at h2; cases h2
 ·cases h : hits (ev i) id with
  | false => rfl
  | true => rw [hf.ww id h] at hx; cases hx
def left : Nat → (Nat → Bool) → Nat
 | 0, _ => 0
 | n + 1, S => left n S + if S n then 0 else 1
theorem left_congr {S S' : Nat → Bool} : ∀ {n : Nat}, (∀ i, i < n → S i = S' i) → left n S = left n S'
 | 0, _ => rfl
 | n + 1, h => by simp only [left]; rw [h n (Nat.lt_succ_self n), left_congr fun i hi => h i (Nat.lt_succ_of_lt hi)]
theorem left_add {S : Nat → Bool} {j : Nat} (hj : S j = false) : ∀ {n : Nat}, j < n → left n (fun i => S i || i == j) + 1 = left n S
 | 0, h => by omega
 | n + 1, h => by
  simp only [left]
  by_cases e : n = j
  ·subst e
   rw [left_congr (S' := S) fun i hi => by
    have : (i == n) = false := by simp; omega
    simp [this]]
   simp [hj]
  ·have h1 := left_add hj (n := n) (by omega)
   have : (n == j) = false := by simp [e]
   simp only [this, Bool.or_false]
   omega
theorem left_zero {S : Nat → Bool} : ∀ {n : Nat}, left n S = 0 → ∀ i, i < n → S i = true
 | 0, _, i, hi => by omega
 | n + 1, h, i, hi => by
  simp only [left] at h
  by_cases e : i = n
  ·subst e
   cases hs : S i with
   | true => rfl
   | false => simp [hs] at h
  ·exact left_zero (n := n) (by omega) i (by omega)
theorem left_all {S : Nat → Bool} : ∀ {n : Nat}, left n S ≤ n
 | 0 => Nat.le_refl _
 | n + 1 => by simp only [left]; have := left_all (S := S) (n := n); split <;> omega
end
def otmp : Operand → Option Tmp
 | .tmp t => some t
 | _ => none
def gtmp (ops : List Oper) (o : Oper) : Option Tmp :=
 match o.guard with
 | none => none
 | some (j, _) => match ops[j]? with
  | some p => p.dst
  | none => none
def reads (ops : List Oper) (o : Oper) : List Tmp := (gtmp ops o).toList ++ o.op.operands.toList.filterMap otmp
def maskOf (done : List Nat) (o : Oper) : Nat := o.after.toList.foldl (fun m e => if Region.binds .any e then m ||| (2 ^ e.on ||| done.getD e.on 0) else m) 0
def masksGo : List Nat → List Oper → List Nat
 | done, [] => done
 | done, o :: r => masksGo (done ++ [maskOf done o]) r
def masks (ops : List Oper) : List Nat := masksGo [] ops
def downOk : Nat → List Oper → Bool
 | _, [] => true
 | j, o :: r => (o.after.toList.all fun e => !Region.binds .any e || decide (e.on < j)) && downOk (j + 1) r
def stFree (a b : Option Tmp × List Tmp) : Bool :=
 (match a.1 with | some d => !b.2.contains d && !(b.1 == some d) | none => true) && (match b.1 with | some d => !a.2.contains d | none => true)
def unord (ms : List Nat) (k : Nat) : List (Nat × Nat) := (List.range k).flatMap fun j => ((List.range j).filter fun i => !(ms.getD j 0).testBit i).map fun i => (i, j)
def fixedOk (ops : List Oper) (U : List (Nat × Nat)) : Bool :=
 let ds := ops.map fun o => (o.dst, reads ops o)
 U.all fun p => stFree (ds.getD p.1 (none, [])) (ds.getD p.2 (none, []))
def ftFree (a b : Foot) : Bool := (match a.2 with | some id => !b.1.contains id && !(b.2 == some id) | none => true) && (match b.2 with | some id => !a.1.contains id | none => true)
def logOk (U : List (Nat × Nat)) (log : List Foot) : Bool := U.all fun p => ftFree (log.getD p.1 ([], none)) (log.getD p.2 ([], none))
inductive Anc (ops : List Oper) : Nat → Nat → Prop
 | one {i j : Nat} {o : Oper} {e : Edge} (ho : ops[j]? = some o) (he : e ∈ o.after.toList) (hb : Region.binds .any e = true) (hi : e.on = i) : Anc ops i j
 | step {i l j : Nat} {o : Oper} {e : Edge} (h : Anc ops i l) (ho : ops[j]? = some o) (he : e ∈ o.after.toList) (hb : Region.binds .any e = true) (hl : e.on = l) : Anc ops i j
theorem maskOf_spec {ops : List Oper} {done : List Nat} {o : Oper} {j : Nat} (ho : ops[j]? = some o) (hd : ∀ l i, (done.getD l 0).testBit i = true → Anc ops i l) {i : Nat} (h : (maskOf done o).testBit i = true) : Anc ops i j := by
 unfold maskOf at h
 have key : ∀ (es : List Edge) (m : Nat), (∀ e ∈ es, e ∈ o.after.toList) → (m.testBit i = true → Anc ops i j) →
   (es.foldl (fun m e => if Region.binds .any e then m ||| (2 ^ e.on ||| done.getD e.on 0) else m) m).testBit i = true → Anc ops i j := by
  intro es
  induction es with
  | nil => intro m _ hm h; exact hm h
  | cons e es ih =>
   intro m hes hm h
   simp only [List.foldl_cons] at h
   refine ih _ (fun e he => hes e (List.mem_cons_of_mem _ he)) ?_ h
   intro h'
   split at h'
   ·rename_i hb
    rw [Nat.testBit_or, Nat.testBit_or, Bool.or_eq_true, Bool.or_eq_true] at h'
    rcases h' with h' | h' | h'
    ·exact hm h'
    ·rw [Nat.testBit_two_pow] at h'
     exact .one ho (hes e (List.mem_cons_self ..)) hb (by simpa using h')
    ·exact .step (hd _ _ h') ho (hes e (List.mem_cons_self ..)) hb rfl
   ·exact hm h'
 exact key _ 0 (fun e he => he) (fun h => by simp at h) h
theorem masksGo_spec {ops : List Oper} : ∀ (rest : List Oper) (done : List Nat), ops.drop done.length = rest → (∀ l i, (done.getD l 0).testBit i = true → Anc ops i l) →
  ∀ l i, ((masksGo done rest).getD l 0).testBit i = true → Anc ops i l
 | [], done, _, hd, l, i, h => hd l i h
 | o :: r, done, hr, hd, l, i, h => by
  have ho : ops[done.length]? = some o := by
   have := congrArg (·[0]?) hr
   simpa using this
  refine masksGo_spec r (done ++ [maskOf done o]) ?_ ?_ l i h
  ·rw [List.length_append, List.length_singleton, ← List.drop_drop, hr]; rfl
  ·intro l i h
   rw [List.getD_eq_getElem?_getD, List.getElem?_append] at h
   split at h
   ·exact hd l i (by rw [List.getD_eq_getElem?_getD]; exact h)
   ·rename_i hl
    by_cases e : l = done.length
    ·subst e
     simp only [Nat.sub_self, List.getElem?_cons_zero, Option.getD_some] at h
     exact maskOf_spec ho hd h
    ·rw [List.getElem?_eq_none (by simp; omega)] at h
     simp at h
theorem masks_spec {ops : List Oper} {l i : Nat} (h : ((masks ops).getD l 0).testBit i = true) : Anc ops i l :=
 masksGo_spec ops [] rfl (fun l i h => by simp at h) l i h
theorem downOk_spec {ops : List Oper} : ∀ (rest : List Oper) (j : Nat), ops.drop j = rest → downOk j rest = true → ∀ l o e, j ≤ l → ops[l]? = some o → e ∈ o.after.toList → Region.binds .any e = true → e.on < l
 | [], j, hr, _, l, o, e, hl, ho, _, _ => by
  have : ops.length ≤ j := List.drop_eq_nil_iff.1 hr
  have := (List.getElem?_eq_some_iff.1 ho).1
  omega
 | o' :: r, j, hr, h, l, o, e, hl, ho, he, hb => by
  simp only [downOk, Bool.and_eq_true] at h
  by_cases hjl : l = j
  ·subst hjl
   have ho' : ops[l]? = some o' := by
    have := congrArg (·[0]?) hr
    simpa using this
   rw [ho] at ho'; cases ho'
   have := List.all_eq_true.1 h.1 e he
   simpa [hb] using this
  ·refine downOk_spec r (j + 1) ?_ h.2 l o e (by omega) ho he hb
   rw [← List.drop_drop, hr]; rfl
theorem unord_spec {ms : List Nat} {k i j : Nat} (hij : i < j) (hj : j < k) (h : (i, j) ∉ unord ms k) : (ms.getD j 0).testBit i = true := by
 cases hb : (ms.getD j 0).testBit i with
 | true => rfl
 | false =>
  refine absurd ?_ h
  simp only [unord, List.mem_flatMap, List.mem_map, List.mem_filter, List.mem_range]
  exact ⟨j, hj, i, ⟨hij, by simpa using hb⟩, rfl⟩
inductive LRes
 | val (r : AV)
 | row (e : TypeId) (sz : Nat) (es : List AV)
def LRes.av (n : Nat) : LRes → AV
 | .val r => r
 | .row _ _ es => .sl n 0 0 es.length
def LRes.wr (n : Nat) : LRes → Option (Nat × Blk)
 | .val _ => none
 | .row e sz es => some (n, .row e sz 0 es)
def LRes.wid (n : Nat) : LRes → Option Nat
 | .val _ => none
 | .row _ _ _ => some n
def LRes.heap (H : AHeap) (n st : Nat) : LRes → AHeap
 | .val _ => H
 | .row e sz es => (AHeap.mk n st H.get).alloc (.row e sz 0 es)
def WK.wid (n : Nat) : WK → Option Nat
 | .none => Option.none
 | .alloc => some n
 | .put id => some id
def LCall (P : Program) (f : FuncId) (args : List AV) (H : AHeap) (ids : List Nat) (r : LRes) : Prop :=
 ∀ H' : AHeap, (∀ id ∈ ids, H'.get id = H.get id) → ACalls P f args H' fun v H2 => v = r.av H'.n ∧ H2 = r.heap H' H'.n H'.st
def Dl.wr : Dl → Option (Nat × Blk)
 | .none => Option.none
 | .alloc id b => some (id, b)
 | .put id b => some (id, b)
section
variable (P : Program) (T : TypeId → Option TE) (ops : List Oper) (al : Bool) (k n0 s : Nat)
def quietOp : Op → Bool
 | .alloc _ | .box _ _ | .buildSlice _ _ _ | .makeSlice _ _ _ => false
 | .call c => match c.callee with | .builtin .append => false | _ => true
 | _ => true
def lexOp (j : Nat) (o : Oper) (σ : St) (H : AHeap) (K : St → AHeap → Foot → Prop) : Prop :=
 match wantA ops σ o with
 | some true => match goCall o.op with
  | some (f, az) => match aeval σ f with
   | .fn g caps => ∃ (ids : List Nat) (r : LRes), (al || !(r.wid 0).isSome) = true ∧ LCall P g (az.map (aeval σ) ++ caps) H ids r ∧ K (σ.put o.dst (r.av (n0 + j * s))) (r.heap H (n0 + j * s) (s * k)) (ids, r.wid (n0 + j * s))
   | _ => False
  | none => match ares T (aeval σ) ⟨n0 + j * s, s * k, H.get⟩ o.op with
   | some (v, H') => K (σ.put o.dst v) H' (touch (aeval σ) o.op, (wkind (aeval σ) o.op).wid (n0 + j * s))
   | none => False
 | some false => K (σ.put o.dst .skip) H ([], none)
 | none => False
def aLex : Nat → List Oper → St → AHeap → List Foot → (St → AHeap → List Foot → Prop) → Prop
 | _, [], σ, H, log, K => K σ ⟨bif al then n0 + k * s else n0, s, H.get⟩ log
 | j, o :: rest, σ, H, log, K => lexOp P T ops al k n0 s j o σ H fun σ H ft => aLex (j + 1) rest σ H (log ++ [ft]) K
def Answers (j : Nat) (o : Oper) (σ : St) (g : Mem) (e : Ev) : Prop :=
 (∀ (σ' : St) (g' : Mem), (∀ t ∈ reads ops o, σ' t = σ t) → (∀ id ∈ e.foot.1, g' id = g id) → aOp P T ops o σ' ⟨n0 + j * s, s * k, g'⟩ fun σ2 H2 => σ2 = σ'.put o.dst e.v ∧ H2.get = wrG g' e.wr) ∧
 ∀ id b, e.wr = some (id, b) → e.foot.2 = some id ∧ ((al = true ∧ id = n0 + j * s) ∨ (g id ≠ none ∧ id ∈ e.foot.1))
variable {P T ops al k n0 s}
theorem aeval_congr {σ σ' : St} {x : Operand} (h : ∀ t, otmp x = some t → σ' t = σ t) : aeval σ' x = aeval σ x := by
 cases x <;> first | rfl | exact h _ rfl
theorem wantA_congr {σ σ' : St} {o : Oper} (h : ∀ t, gtmp ops o = some t → σ' t = σ t) : wantA ops σ' o = wantA ops σ o := by
 unfold wantA
 unfold gtmp at h
 cases hg : o.guard with
 | none => rfl
 | some p =>
  obtain ⟨j, want⟩ := p
  simp only [hg] at h ⊢
  cases hp : ops[j]? with
  | none => rfl
  | some q =>
   simp only [hp] at h ⊢
   cases hd : q.dst with
   | none => rfl
   | some d => simp only [hd] at h ⊢; rw [h d rfl]
theorem goCall_operands {op : Op} {f : Operand} {az : List Operand} (h : goCall op = some (f, az)) : op.operands.toList = f :: az := by
 unfold goCall at h
 split at h
 ·rename_i c
  split at h
  ·rename_i f' hc
   simp only [Option.some.injEq, Prod.mk.injEq] at h
   obtain ⟨rfl, rfl⟩ := h
   simp [Op.operands, Call.operands, hc]
  ·cases h
 ·cases h
theorem quiet_wkind {ρ : Operand → AV} {op : Op} (h : quietOp op = true) : wkind ρ op ≠ .alloc := by
 cases op <;> first | (simp [quietOp] at h; done) | (simp only [wkind]; simp; done) | skip
 case store t a x => simp only [wkind]; cases ρ a <;> simp
 case call c =>
  simp only [wkind]
  simp only [quietOp] at h
  cases hc : c.callee with
  | builtin b =>
   cases b <;> first | (simp [hc] at h; done) | (simp; done) | (cases c.args.toList with | nil => simp | cons x r => (simp only; cases ρ x <;> simp))
  | _ => simp
theorem lexOp_answers {j : Nat} {o : Oper} {σ : St} {H : AHeap} {K : St → AHeap → Foot → Prop} (hq : al = false → quietOp o.op = true) (h : lexOp P T ops al k n0 s j o σ H K) :
  ∃ (e : Ev) (H' : AHeap), Answers P T ops al k n0 s j o σ H.get e ∧ H'.get = wrG H.get e.wr ∧ K (σ.put o.dst e.v) H' e.foot := by
 unfold lexOp at h
 have hev : ∀ σ' : St, (∀ t ∈ reads ops o, σ' t = σ t) → ∀ x ∈ o.op.operands.toList, aeval σ' x = aeval σ x := fun σ' hσ x hx =>
  aeval_congr fun t ht => hσ t (by simp only [reads, List.mem_append, List.mem_filterMap]; exact .inr ⟨x, hx, ht⟩)
 have hwa : ∀ σ' : St, (∀ t ∈ reads ops o, σ' t = σ t) → wantA ops σ' o = wantA ops σ o := fun σ' hσ => wantA_congr fun t ht => hσ t (by simp [reads, ht])
 split at h
 ·rename_i hw
  split at h
  ·rename_i f az hg
   have hops := goCall_operands hg
   split at h
   ·rename_i gid caps hf
    obtain ⟨ids, r, hal, hc, hK⟩ := h
    refine ⟨⟨r.av (n0 + j * s), r.wr (n0 + j * s), (ids, r.wid (n0 + j * s))⟩, _, ⟨fun σ' g' hσ hg' => ?_, fun id b hw => ?_⟩, ?_, hK⟩
    ·unfold aOp
     rw [hwa σ' hσ, hw]
     simp only [hg]
     rw [hev σ' hσ f (by simp [hops]), hf]
     simp only
     rw [List.map_congr_left fun x hx => hev σ' hσ x (by simp [hops, hx])]
     refine (hc ⟨n0 + j * s, s * k, g'⟩ hg').mono fun r' H' ⟨h1, h2⟩ => ?_
     subst h1; subst h2
     exact ⟨rfl, by cases r <;> rfl⟩
    ·cases r with
     | val r => simp [LRes.wr] at hw
     | row e sz es => simp only [LRes.wr, Option.some.injEq, Prod.mk.injEq] at hw; obtain ⟨rfl, rfl⟩ := hw; exact ⟨rfl, .inl ⟨by simpa [LRes.wid] using hal, rfl⟩⟩
    ·cases r <;> rfl
   ·exact h.elim
  ·rename_i hg
   split at h
   ·rename_i v H' hv
    obtain ⟨d, hd, hp, ha, hl⟩ := ares_local hv
    refine ⟨⟨v, d.wr, (touch (aeval σ) o.op, (wkind (aeval σ) o.op).wid (n0 + j * s))⟩, H', ⟨fun σ' g' hσ hg' => ?_, fun id b hw => ?_⟩, ?_, h⟩
    ·unfold aOp
     rw [hwa σ' hσ, hw]
     simp only [hg]
     have hl' : ares T (aeval σ) ⟨n0 + j * s, s * k, g'⟩ o.op = _ := hl ⟨n0 + j * s, s * k, g'⟩ hg' rfl
     rw [ares_congr (hev σ' hσ), hl']
     refine ⟨rfl, ?_⟩
     cases d <;> rfl
    ·cases d with
     | none => simp [Dl.wr] at hw
     | alloc id' b' =>
      simp only [Dl.wr, Option.some.injEq, Prod.mk.injEq] at hw; obtain ⟨rfl, rfl⟩ := hw
      obtain ⟨h1, h2⟩ := ha _ _ rfl
      refine ⟨by simp only [h1, WK.wid, h2], .inl ⟨?_, h2⟩⟩
      cases hal : al with
      | true => rfl
      | false =>
       have hqq := hq hal
       exact absurd h1 (quiet_wkind hqq)
     | put id' b' =>
      simp only [Dl.wr, Option.some.injEq, Prod.mk.injEq] at hw; obtain ⟨rfl, rfl⟩ := hw
      obtain ⟨h1, h2, h3⟩ := hp _ _ rfl
      exact ⟨by simp only [h1, WK.wid], .inr ⟨h3, h2⟩⟩
    ·rw [hd]; cases d <;> rfl
   ·exact h.elim
 ·rename_i hw
  refine ⟨⟨.skip, none, ([], none)⟩, H, ⟨fun σ' g' hσ hg' => ?_, fun id b hw => (by cases hw)⟩, rfl, h⟩
  unfold aOp
  rw [hwa σ' hσ, hw]
  exact ⟨rfl, rfl⟩
 ·exact h.elim
def Chain (P : Program) (T : TypeId → Option TE) (ops : List Oper) (al : Bool) (k n0 s : Nat) : Nat → List Ev → List Oper → St → Mem → (St → Mem → Prop) → Prop
 | _, [], [], σ, g, K => K σ g
 | j, e :: es, o :: rest, σ, g, K => Answers P T ops al k n0 s j o σ g e ∧ Chain P T ops al k n0 s (j + 1) es rest (σ.put o.dst e.v) (wrG g e.wr) K
 | _, _, _, _, _, _ => False
theorem lex_chain {K : St → AHeap → List Foot → Prop} : ∀ (rest : List Oper) (j : Nat) (σ : St) (H : AHeap) (log : List Foot), (al = false → ∀ o ∈ rest, quietOp o.op = true) → aLex P T ops al k n0 s j rest σ H log K →
  ∃ es : List Ev, Chain P T ops al k n0 s j es rest σ H.get fun σ' g' => K σ' ⟨bif al then n0 + k * s else n0, s, g'⟩ (log ++ es.map (·.foot))
 | [], j, σ, H, log, _, h => ⟨[], by simpa [Chain, aLex] using h⟩
 | o :: rest, j, σ, H, log, hq, h => by
  obtain ⟨e, H', h1, h2, h3⟩ := lexOp_answers (fun ha => hq ha o (by simp)) h
  obtain ⟨es, h4⟩ := lex_chain rest (j + 1) _ _ _ (fun ha q hm => hq ha q (by simp [hm])) h3
  refine ⟨e :: es, h1, ?_⟩
  rw [h2] at h4
  simpa using h4
theorem chain_at {K : St → Mem → Prop} {dst : Nat → Option Tmp} {ev : Nat → Ev} {σ0 : St} {g0 : Mem} : ∀ (rest : List Oper) (es : List Ev) (j : Nat),
  (∀ i o, rest[i]? = some o → dst (j + i) = o.dst) → (∀ i e, es[i]? = some e → ev (j + i) = e) → Chain P T ops al k n0 s j es rest (stL dst ev σ0 j) (gL ev g0 j) K →
  (∀ i o, rest[i]? = some o → Answers P T ops al k n0 s (j + i) o (stL dst ev σ0 (j + i)) (gL ev g0 (j + i)) (ev (j + i))) ∧ K (stL dst ev σ0 (j + rest.length)) (gL ev g0 (j + rest.length))
 | [], [], j, _, _, h => ⟨fun i o ho => by simp at ho, h⟩
 | [], e :: es, j, _, _, h => by simp [Chain] at h
 | o :: rest, [], j, _, _, h => by simp [Chain] at h
 | o :: rest, e :: es, j, hd, he, h => by
  obtain ⟨h1, h2⟩ := h
  have hdj := hd 0 o rfl
  have hej := he 0 e rfl
  simp only [Nat.add_zero] at hdj hej
  have h2' : Chain P T ops al k n0 s (j + 1) es rest (stL dst ev σ0 (j + 1)) (gL ev g0 (j + 1)) K := by
   simp only [stL, gL, hdj, hej]; exact h2
  obtain ⟨h3, h4⟩ := chain_at rest es (j + 1) (fun i o ho => by rw [← hd (i + 1) o (by simpa using ho)]; congr 1; omega) (fun i e h => by rw [← he (i + 1) e (by simpa using h)]; congr 1; omega) h2'
  refine ⟨fun i o' ho' => ?_, ?_⟩
  ·cases i with
   | zero => simp at ho'; subst ho'; simp only [Nat.add_zero]; rw [hej]; exact h1
   | succ i =>
    have := h3 i o' (by simpa using ho')
    rwa [show j + 1 + i = j + (i + 1) by omega] at this
  ·rw [List.length_cons, show j + (rest.length + 1) = j + 1 + rest.length by omega]; exact h4
end
end Go.Abs
