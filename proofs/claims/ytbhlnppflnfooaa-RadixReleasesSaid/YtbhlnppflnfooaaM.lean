/- What pieces of a program do to memory: blocks, rows, maps, interval lists. No further condition. -/
import Derived.Test.YtbhlnppflnfooaaSh
import Derived.Below
set_option linter.all false
namespace Go.Sh
open Go.RowKit (Below)

/-! ### What a piece of a program changes -/

/-- Of the blocks that w has, only those of S may have changed. -/
structure Ext (S : Nat → Prop) (w w' : World) : Prop where
  os : w'.os = w.os
  tape : w'.tape = w.tape
  output : w'.output = w.output
  size : w.heap.size ≤ w'.heap.size
  block : ∀ k, k < w.heap.size → ¬ S k → w'.heap[k]? = w.heap[k]?

def Nothing : Nat → Prop := fun _ => False
def Only (b : Nat) : Nat → Prop := fun k => k = b

theorem Ext.refl (S : Nat → Prop) (w : World) : Ext S w w := ⟨rfl, rfl, rfl, Nat.le_refl _, fun _ _ _ => rfl⟩
theorem Ext.drew (S : Nat → Prop) (w : World) : Ext S w w.drew := ⟨rfl, rfl, rfl, Nat.le_refl _, fun _ _ _ => rfl⟩
theorem Ext.trans {S T U : Nat → Prop} {a b c : World} (h : Ext S a b) (k : Ext T b c) (hS : ∀ i, i < a.heap.size → S i → U i) (hT : ∀ i, i < a.heap.size → T i → U i) : Ext U a c :=
  ⟨k.os.trans h.os, k.tape.trans h.tape, k.output.trans h.output, Nat.le_trans h.size k.size, fun i hi hu =>
    (k.block i (Nat.lt_of_lt_of_le hi h.size) fun t => hu (hT i hi t)).trans (h.block i hi fun s => hu (hS i hi s))⟩
theorem Ext.trans' {S : Nat → Prop} {a b c : World} (h : Ext S a b) (k : Ext S b c) : Ext S a c := h.trans k (fun _ _ s => s) (fun _ _ s => s)
theorem Ext.mono {S T : Nat → Prop} {a b : World} (h : Ext S a b) (hs : ∀ i, i < a.heap.size → S i → T i) : Ext T a b :=
  ⟨h.os, h.tape, h.output, h.size, fun i hi ht => h.block i hi fun s => ht (hs i hi s)⟩
theorem Ext.any {S : Nat → Prop} {a b : World} (h : Ext Nothing a b) : Ext S a b := h.mono fun _ _ f => f.elim
theorem Ext.alloc (S : Nat → Prop) (w : World) (o : Obj) : Ext S w (w.alloc o) :=
  ⟨rfl, rfl, rfl, by simp, fun k hk _ => RowKit.Below.heap_alloc w o k hk⟩
theorem Ext.setCell (w : World) (p : Addr) (v : Value) : Ext (Only p.block) w (w.setCell p v) :=
  ⟨rfl, rfl, rfl, by simp [World.setCell], fun k hk hs => RowKit.Below.heap_setCell w p v k hs⟩
theorem Ext.setO (w : World) (b : Nat) (o : Obj) : Ext (Only b) w (World.setO w b o) :=
  ⟨rfl, rfl, rfl, by simp [World.setO], fun k hk hs => by
    have : k ≠ b := hs
    simp [World.setO, Array.getElem?_setIfInBounds_ne (Ne.symm this)]⟩

theorem Ext.cell {S : Nat → Prop} {w w' : World} (h : Ext S w w') {p : Addr} {v : Value} (hc : w.cell? p = some v) (hs : ¬ S p.block) : w'.cell? p = some v := by
  have hb := World.block_lt_of_cell? w p hc
  rw [← hc]
  exact World.cell?_of_block (h.block p.block hb hs)
theorem Ext.frozen {S : Nat → Prop} {w w' : World} (h : Ext S w w') {p : Addr} (hb : p.block < w.heap.size) (hs : ¬ S p.block) : w'.frozen? p = w.frozen? p :=
  World.frozen?_of_block (h.block p.block hb hs)
theorem Ext.obj {S : Nat → Prop} {w w' : World} (h : Ext S w w') {b : Nat} {o : Obj} (hc : w.heap[b]? = some o) (hs : ¬ S b) : w'.heap[b]? = some o := by
  have hb : b < w.heap.size := (Array.getElem?_eq_some_iff.1 hc).1
  rw [h.block b hb hs, hc]

theorem Ext.below {S : Nat → Prop} {w w' : World} (h : Ext S w w') {B : Nat} (hB : B ≤ w.heap.size) (hS : ∀ i, S i → B ≤ i) : Below B w w' :=
  ⟨h.os, h.tape, h.output, h.size, fun k hk => h.block k (by omega) fun s => by have := hS k s; omega⟩

theorem block_lt {w : World} {b : Nat} {o : Obj} (h : w.heap[b]? = some o) : b < w.heap.size := (Array.getElem?_eq_some_iff.1 h).1

/-! ### Cells of a block that is known whole -/

theorem cell_of_block {w : World} {b : Nat} {cs : Array Value} {t : TypeId} {f : Nat × Nat} (h : w.heap[b]? = some (.cells cs t f)) (j : Nat) : w.cell? ⟨b, j, none⟩ = cs[j]? := by
  simp [World.cell?, h]

theorem add_eq (b o n : Nat) : (Addr.mk b o none).add n = ⟨b, o + n, none⟩ := by
  unfold Addr.add; split <;> simp_all

theorem add_add (p : Addr) (a b : Nat) : (p.add a).add b = p.add (a + b) := by
  unfold Addr.add
  by_cases ha : a = 0
  · subst ha; simp
  · by_cases hb : b = 0
    · subst hb; simp
    · simp [ha, hb, Nat.add_assoc]

theorem add_zero (p : Addr) : p.add 0 = p := by simp [Addr.add]

theorem add_block (p : Addr) (n : Nat) : (p.add n).block = p.block := by unfold Addr.add; split <;> rfl

/-! ### A new block -/

theorem AL_intro {o : Obj} {w : World} {K : Nat → World → Prop}
    (h : ∀ w', w'.heap[w.heap.size]? = some o → w'.heap.size = w.heap.size + 1 → Ext Nothing w w' → K w.heap.size w') : AL o w K :=
  h (w.alloc o) (heap_alloc_new w o) (by simp) (Ext.alloc _ w o)

/-! ### Stores -/

/-- A world with one cell stored into. -/
structure Stored (p : Addr) (v : Value) (w w' : World) : Prop where
  ext : Ext (Only p.block) w w'
  same : w'.cell? p = some v
  other : ∀ q : Addr, q ≠ p → w'.cell? q = w.cell? q
  frozen : ∀ q : Addr, w'.frozen? q = w.frozen? q
  size : w'.heap.size = w.heap.size

theorem stored_setCell {w : World} {p : Addr} {u v : Value} (h : w.cell? p = some u) : Stored p v w (w.setCell p v) :=
  ⟨Ext.setCell w p v, World.cell?_setCell_same w p v h, fun q hq => World.cell?_setCell_other w p q v (Ne.symm hq), fun q => World.frozen?_setCell w p q v, by simp⟩

theorem st_one {p : Addr} {v u : Value} {w : World} {K : World → Prop} (h : w.cell? p = some u) (hf : w.frozen? p = false) (ho : v.oneCell' = true)
    (hK : ∀ w', Stored p v w w' → K w') : stCells p 0 [v] w K := by
  simp only [stCells, add_zero]
  exact ⟨⟨⟨u, h⟩, hf, ho⟩, hK _ (stored_setCell h)⟩

theorem cell_stored_block {w : World} {b j : Nat} {cs : Array Value} {t : TypeId} {f : Nat × Nat} {v : Value} (h : w.heap[b]? = some (.cells cs t f)) :
    (w.setCell ⟨b, j, none⟩ v).heap[b]? = some (.cells (cs.setIfInBounds j v) t f) := by
  simp [World.setCell, Array.getElem?_modify, h]

/-- Storing a row of cells into a block that is known whole. -/
theorem st_block {t : TypeId} : ∀ (vs : List Value) (b o i : Nat) (cs : Array Value) (w : World) (K : World → Prop), w.heap[b]? = some (.cells cs t) → o + i + vs.length ≤ cs.size → (∀ v ∈ vs, v.oneCell' = true) →
    (∀ w', Ext (Only b) w w' → w'.heap.size = w.heap.size → w'.heap[b]? = some (.cells (cs.toList.take (o + i) ++ vs ++ cs.toList.drop (o + i + vs.length)).toArray t) → K w') →
    stCells ⟨b, o, none⟩ i vs w K
  | [], b, o, i, cs, w, K, h, hl, ho, hK => by
    refine hK w (Ext.refl _ _) rfl ?_
    rw [h]
    simp
  | v :: r, b, o, i, cs, w, K, h, hl, ho, hK => by
    have hlt : o + i < cs.size := by simp at hl; omega
    simp only [stCells, add_eq]
    refine ⟨⟨⟨cs[o + i], by rw [cell_of_block h]; exact Array.getElem?_eq_getElem hlt⟩, by simp [World.frozen?, h], ho v (by simp)⟩, ?_⟩
    have hst := cell_stored_block (j := o + i) (v := v) h
    refine st_block r b o (i + 1) _ _ K hst (by simp at hl ⊢; omega) (fun u hu => ho u (by simp [hu])) fun w' he hs hb => ?_
    refine hK w' ((Ext.setCell w ⟨b, o + i, none⟩ v).trans' he) (by rw [hs]; simp) ?_
    rw [hb]
    congr 3
    have hlt' : o + i < cs.toList.length := by simpa using hlt
    simp only [Array.toList_setIfInBounds]
    rw [show o + (i + 1) = o + i + 1 from by omega]
    rw [List.take_set, List.take_succ_eq_append_getElem hlt', List.set_append_right _ _ (by simp; omega)]
    simp only [List.length_take, Nat.min_eq_left (Nat.le_of_lt hlt'), Nat.sub_self, List.set_cons_zero, List.append_assoc, List.singleton_append, List.length_cons]
    congr 2
    rw [List.drop_set_of_lt (by omega)]
    rw [show o + i + 1 + r.length = o + i + (r.length + 1) from by omega]

/-! ### Rows -/

theorem rowAt_ext {S : Nat → Prop} {w w' : World} {b : Option Addr} {n : Nat} {l : List Value} (h : rowAt w b n l) (he : Ext S w w') (hs : ∀ a, b = some a → l ≠ [] → ¬ S a.block) : rowAt w' b n l := by
  cases b with
  | none => exact h
  | some a =>
    refine ⟨h.1, fun j v hj => he.cell (h.2 j v hj) ?_⟩
    rw [add_block]
    exact hs a rfl (by intro e; subst e; simp at hj)

/-- The call's own row: nothing, or a whole block from B on. -/
structure Own (w : World) (B t z : Nat) (s : SlV) (vs : List Value) : Prop where
  len : vs.length = s.len * z
  cap : s.len ≤ s.cap
  top : s.cap < 9223372036854775808
  row : (s.base = none ∧ s.cap = 0) ∨ ∃ b cs, s.base = some ⟨b, 0, none⟩ ∧ B ≤ b ∧ w.heap[b]? = some (.cells cs t) ∧ cs.size = s.cap * z ∧ cs.toList.take (s.len * z) = vs

theorem Own.nil (w : World) (B t z : Nat) : Own w B t z ⟨none, 0, 0⟩ [] := ⟨by simp, Nat.le_refl _, by decide, .inl ⟨rfl, rfl⟩⟩

theorem Own.rowAt {w : World} {B t z : Nat} {s : SlV} {vs : List Value} (h : Own w B t z s vs) : rowAt w s.base (s.len * z) vs := by
  rcases h.row with ⟨h1, h2⟩ | ⟨b, cs, h1, h2, h3, h4, h5⟩
  · have : s.len = 0 := by have := h.cap; omega
    have hl := h.len
    rw [this] at hl
    rw [h1]
    exact List.eq_nil_of_length_eq_zero (by simpa using hl)
  · rw [h1]
    refine ⟨h.len, fun j v hj => ?_⟩
    rw [add_eq, Nat.zero_add, cell_of_block h3]
    rw [← h5, List.getElem?_take] at hj
    split at hj
    · simpa using hj
    · cases hj

theorem Own.ext {w w' : World} {B t z : Nat} {s : SlV} {vs : List Value} {S : Nat → Prop} (h : Own w B t z s vs) (he : Ext S w w') (hs : ∀ b, s.base = some ⟨b, 0, none⟩ → ¬ S b) : Own w' B t z s vs := by
  refine ⟨h.len, h.cap, h.top, ?_⟩
  rcases h.row with h1 | ⟨b, cs, h1, h2, h3, h4⟩
  · exact .inl h1
  · exact .inr ⟨b, cs, h1, h2, he.obj h3 (hs b h1), h4⟩

theorem Own.lower {w : World} {B B' t z : Nat} {s : SlV} {vs : List Value} (h : Own w B t z s vs) (hB : B' ≤ B) : Own w B' t z s vs := by
  refine ⟨h.len, h.cap, h.top, ?_⟩
  rcases h.row with h1 | ⟨b, cs, h1, h2, h3, h4⟩
  · exact .inl h1
  · exact .inr ⟨b, cs, h1, by omega, h3, h4⟩

theorem Own.lt {w : World} {B t z : Nat} {s : SlV} {vs : List Value} (h : Own w B t z s vs) {a : Addr} (ha : s.base = some a) : B ≤ a.block ∧ a.block < w.heap.size ∧ a.off = 0 ∧ a.spot = none := by
  rcases h.row with ⟨h1, _⟩ | ⟨b, cs, h1, h2, h3, h4⟩
  · rw [h1] at ha; cases ha
  · rw [h1] at ha; cases ha; exact ⟨h2, block_lt h3, rfl, rfl⟩

theorem oneCells_append {a b : List Value} (ha : ∀ v ∈ a, v.oneCell' = true) (hb : ∀ v ∈ b, v.oneCell' = true) : ∀ v ∈ a ++ b, v.oneCell' = true := by
  intro v hv
  rcases List.mem_append.1 hv with h | h
  · exact ha v h
  · exact hb v h

/-- Appending to the call's own row. -/
theorem APP_own {e z bytes : Nat} {zs : Array Value} {s x : SlV} {w : World} {K : SlV → World → Prop} {B : Nat} {vs news : List Value}
    (hz : zs.size = z) (hown : Own w B e z s vs) (hrow : rowAt w x.base (x.len * z) news) (hnl : news.length = x.len * z) (ho : ∀ v ∈ news, v.oneCell' = true) (hB : B ≤ w.heap.size)
    (hb : (s.len + x.len) * bytes ≤ 140737488355328) (h63 : s.len + x.len ≤ 9223372036854775807)
    (hK : ∀ s' w', Own w' B e z s' (vs ++ news) → s'.len = s.len + x.len → Ext (fun k => ∃ a, s.base = some a ∧ k = a.block) w w' →
      (s'.base = s.base ∨ ∃ b, s'.base = some ⟨b, 0, none⟩ ∧ w.heap.size ≤ b) → K s' w') : APP e z bytes zs s x w K := by
  refine ⟨news, hrow, fun hroom => ?_, fun hgrow => ⟨hb, h63, vs, hown.rowAt, fun cap hcap hc63 => ?_⟩⟩
  · rcases hown.row with ⟨h1, h2⟩ | ⟨b, cs, h1, h2, h3, h4, h5⟩
    · have hx : x.len = 0 := by omega
      have hs : s.len = 0 := by omega
      rw [h1]
      have hn : news = [] := List.eq_nil_of_length_eq_zero (by rw [hnl, hx]; simp)
      have hv : vs = [] := List.eq_nil_of_length_eq_zero (by rw [hown.len, hs]; simp)
      subst hn; subst hv
      refine hK _ w ⟨by simp [hs, hx], by simpa using hroom, hown.top, .inl ⟨rfl, h2⟩⟩ rfl (Ext.refl _ _) (.inl h1.symm)
    · rw [h1]
      simp only [add_eq, Nat.zero_add]
      have hle : s.len * z + news.length ≤ cs.size := by
        rw [hnl, h4, ← Nat.add_mul]
        exact Nat.mul_le_mul_right _ hroom
      refine st_block news b (s.len * z) 0 cs w _ h3 (by simpa using hle) ho fun w' he hsz hb' => ?_
      refine hK _ w' ⟨by simp [hown.len, hnl, Nat.add_mul], hroom, hown.top, .inr ⟨b, _, rfl, h2, hb', ?_, ?_⟩⟩ rfl (he.mono fun i _ hi => ⟨_, h1, hi⟩) (.inl h1.symm)
      · simp only [Nat.add_zero, List.size_toArray, List.length_append, List.length_take, List.length_drop, Array.length_toList]
        omega
      · simp only [Nat.add_zero]
        rw [h5, List.append_assoc, ← List.append_assoc, Nat.add_mul, ← hnl, ← hown.len, ← List.length_append]
        exact List.take_left
  · refine hK _ _ ⟨by simp [hown.len, hnl, Nat.add_mul], hcap, hc63, .inr ⟨w.heap.size, _, rfl, hB, heap_alloc_new w.drew _, ?_, ?_⟩⟩ rfl ((Ext.drew _ w).trans' (Ext.alloc _ w.drew _)) (.inr ⟨_, rfl, Nat.le_refl _⟩)
    · simp only [Array.size_append, List.size_toArray, Builtin.zeroCells, Array.size_map, Array.size_range, hown.len, hnl, hz]
      rw [← Nat.add_mul, ← Nat.add_mul]
      congr 1
      omega
    · simp only [Array.toList_append, Nat.add_mul]
      rw [← hnl, ← hown.len, ← List.length_append]
      exact List.take_left

theorem own_new {w w' : World} {B t z n : Nat} {cells : List Value} (h : w'.heap[w.heap.size]? = some (.cells ⟨cells⟩ t)) (hl : cells.length = n * z) (hB : B ≤ w.heap.size) (hn : n < 9223372036854775808) :
    Own w' B t z ⟨some ⟨w.heap.size, 0, none⟩, n, n⟩ cells :=
  ⟨hl, Nat.le_refl _, hn, .inr ⟨_, _, rfl, hB, h, by simpa using hl, by rw [← hl]; simp⟩⟩

/-! ### Slices of slices -/

theorem slB_zero (a : Option Addr) (c z : Nat) : slB a c 0 z = a := by
  unfold slB
  split
  · rfl
  · cases a <;> simp [add_zero]

theorem rowAt_take {w : World} {b : Option Addr} {n m : Nat} {l : List Value} (h : rowAt w b n l) (hm : m ≤ n) (hl : l.length = n) : rowAt w b m (l.take m) := by
  cases b with
  | none => have : l = [] := h; subst this; exact List.take_nil
  | some a =>
    refine ⟨by rw [List.length_take, hl]; omega, fun j v hj => h.2 j v ?_⟩
    rw [List.getElem?_take] at hj
    split at hj
    · exact hj
    · cases hj

theorem rowAt_drop {w : World} {b : Option Addr} {n len cap k z : Nat} {l : List Value} (h : rowAt w b n l) (hn : n = len * z) (hk : k ≤ len) (hlc : len ≤ cap) (hl : l.length = n) :
    rowAt w (slB b cap k z) ((len - k) * z) (l.drop (k * z)) := by
  have hlen : (l.drop (k * z)).length = (len - k) * z := by rw [List.length_drop, hl, hn, Nat.sub_mul]
  unfold slB
  split
  · rename_i hck
    have : len - k = 0 := by omega
    rw [this] at hlen ⊢
    have hnil : l.drop (k * z) = [] := List.eq_nil_of_length_eq_zero (by simpa using hlen)
    rw [hnil]
    cases b with
    | none => rfl
    | some a => exact ⟨by simp, by simp⟩
  · cases b with
    | none => have : l = [] := h; subst this; exact List.drop_nil
    | some a =>
      refine ⟨hlen, fun j v hj => ?_⟩
      rw [add_add]
      rw [List.getElem?_drop] at hj
      exact h.2 _ v hj

/-! ### Loops and joins -/

theorem LOOP_intro {σ : Type} {s0 : σ} {w0 : World} {body : σ → (Nat → Value) → World → (σ → World → Prop) → Prop} (I : σ → World → Prop) (μ : σ → World → Nat) (h0 : I s0 w0)
    (h : ∀ s j w, I s w → body s j w fun s' w' => I s' w' ∧ μ s' w' < μ s w) : LOOP σ s0 w0 body := ⟨I, μ, h0, h⟩

theorem JOIN_intro {σ : Type} {first : (σ → World → Prop) → Prop} {rest : σ → (Nat → Value) → World → Prop} (J : σ → World → Prop) (h1 : first J) (h2 : ∀ s j w, J s w → rest s j w) : JOIN σ first rest := ⟨J, h1, h2⟩

theorem CND_intro {b : Bool} {T E : Prop} (h1 : b = true → T) (h2 : b = false → E) : CND b T E := CND_iff.2 ⟨h1, h2⟩
theorem CND_dec {p : Prop} [Decidable p] {T E : Prop} (h1 : p → T) (h2 : ¬ p → E) : CND (decide p) T E :=
  CND_iff.2 ⟨fun h => h1 (of_decide_eq_true h), fun h => h2 (of_decide_eq_false h)⟩
theorem LET_intro {α : Type} {e : α} {K : α → Prop} (h : ∀ x, x = e → K x) : LET e K := h e rfl

/-! ### Numbers -/

theorem u64_mod (n : Int) : u64 n = n % 18446744073709551616 := by simp [u64, IntKind.wrap, IntKind.bits, IntKind.signed]
theorem u64_id {n : Int} (h0 : 0 ≤ n) (h1 : n < 18446744073709551616) : u64 n = n := by rw [u64_mod]; omega
theorem i64_id {n : Int} (h0 : -9223372036854775808 ≤ n) (h1 : n < 9223372036854775808) : i64 n = n := IntWalk.i64_in n (by omega)
theorem minI_eq (a b : Int) : minI a b = min a b := by unfold minI; omega
theorem maxI_eq (a b : Int) : maxI a b = max a b := by unfold maxI; omega

end Go.Sh

set_option linter.all false
namespace Go.Sh

abbrev Iv := List (Int × Int)

/-- Stretches from least to greatest, with a gap between each two. -/
def Ok : Iv → Prop
  | [] => True
  | p :: r => 0 ≤ p.1 ∧ p.1 < p.2 ∧ p.2 < 18446744073709551616 ∧ (∀ q ∈ r, p.2 < q.1) ∧ Ok r

def mem (l : Iv) (n : Int) : Prop := ∃ p ∈ l, p.1 ≤ n ∧ n < p.2

def posn : Iv → Int → Nat
  | [], _ => 0
  | p :: r, x => if p.2 ≤ x then posn r x + 1 else 0

def tot : Iv → Int
  | [] => 0
  | p :: r => (p.2 - p.1) + tot r

def cnt1 (p : Int × Int) (a b : Int) : Int := max 0 (min p.2 b - max p.1 a)
def cnt : Iv → Int → Int → Int
  | [], _, _ => 0
  | p :: r, a, b => cnt1 p a b + cnt r a b

def cut1 (p : Int × Int) (a b : Int) : Iv := (if p.1 < a then [(p.1, min p.2 a)] else []) ++ (if b < p.2 then [(max p.1 b, p.2)] else [])
def cutL : Iv → Int → Int → Iv
  | [], _, _ => []
  | p :: r, a, b => cut1 p a b ++ cutL r a b

def addHi (l : Iv) (i : Nat) (b : Int) : Int × Nat := match l[i]? with
  | some q => if q.1 = b then (q.2, i + 1) else (b, i)
  | none => (b, i)
def addLo (l : Iv) (i : Nat) (a : Int) : Int × Nat := match i with
  | 0 => (a, 0)
  | i + 1 => match l[i]? with
    | some q => if q.2 = a then (q.1, i) else (a, i + 1)
    | none => (a, i + 1)
def insL (l : Iv) (a b : Int) : Iv :=
  l.take (addLo l (posn l a) a).2 ++ [((addLo l (posn l a) a).1, (addHi l (posn l a) b).1)] ++ l.drop (addHi l (posn l a) b).2
def addL (l : Iv) (a b : Int) : Iv := insL (cutL l a b) a b

/-! #### Places -/

theorem posn_le : ∀ (l : Iv) (x : Int), posn l x ≤ l.length
  | [], _ => Nat.le_refl _
  | p :: r, x => by unfold posn; split; · have := posn_le r x; simp; omega
                    · simp

theorem posn_before : ∀ (l : Iv) (x : Int) (i : Nat) (p : Int × Int), i < posn l x → l[i]? = some p → p.2 ≤ x
  | [], x, i, p, h, _ => by simp [posn] at h
  | q :: r, x, i, p, h, hp => by
    unfold posn at h
    split at h
    · rename_i hq
      cases i with
      | zero => simp at hp; subst hp; exact hq
      | succ i => exact posn_before r x i p (by omega) (by simpa using hp)
    · omega

theorem posn_at : ∀ (l : Iv) (x : Int) (p : Int × Int), l[posn l x]? = some p → x < p.2
  | [], x, p, h => by simp at h
  | q :: r, x, p, h => by
    unfold posn at h
    split at h
    · exact posn_at r x p (by simpa using h)
    · simp at h; subst h; omega

theorem Ok.tail {p : Int × Int} {r : Iv} (h : Ok (p :: r)) : Ok r := h.2.2.2.2

theorem Ok.get : ∀ {l : Iv}, Ok l → ∀ {i : Nat} {p : Int × Int}, l[i]? = some p → 0 ≤ p.1 ∧ p.1 < p.2 ∧ p.2 < 18446744073709551616
  | [], _, i, p, h => by simp at h
  | q :: r, h, 0, p, hp => by simp at hp; subst hp; exact ⟨h.1, h.2.1, h.2.2.1⟩
  | q :: r, h, i + 1, p, hp => Ok.get h.tail (by simpa using hp)

theorem Ok.mem : ∀ {l : Iv}, Ok l → ∀ {p : Int × Int}, p ∈ l → 0 ≤ p.1 ∧ p.1 < p.2 ∧ p.2 < 18446744073709551616
  | [], _, p, h => by cases h
  | q :: r, h, p, hp => by
    rcases List.mem_cons.1 hp with rfl | hp
    · exact ⟨h.1, h.2.1, h.2.2.1⟩
    · exact Ok.mem h.tail hp

theorem Ok.lt : ∀ {l : Iv}, Ok l → ∀ {i j : Nat} {p q : Int × Int}, i < j → l[i]? = some p → l[j]? = some q → p.2 < q.1
  | [], _, i, j, p, q, _, h, _ => by simp at h
  | r :: l, h, 0, j + 1, p, q, _, hp, hq => by
    simp at hp; subst hp
    exact h.2.2.2.1 q (List.mem_of_getElem? (by simpa using hq))
  | r :: l, h, i + 1, j + 1, p, q, hij, hp, hq => Ok.lt (l := l) (i := i) (j := j) h.tail (by omega) (by simpa using hp) (by simpa using hq)
  | _ :: _, _, _, 0, _, _, hij, _, _ => by omega

theorem posn_after {l : Iv} (h : Ok l) (x : Int) {i : Nat} {p : Int × Int} (hi : posn l x ≤ i) (hp : l[i]? = some p) : x < p.2 := by
  rcases Nat.lt_or_ge (posn l x) i with hlt | hge
  · have hl : posn l x < l.length := by have := (List.getElem?_eq_some_iff.1 hp).1; omega
    have h1 := posn_at l x _ (List.getElem?_eq_getElem hl)
    have h2 := h.lt hlt (List.getElem?_eq_getElem hl) hp
    have h3 := h.get hp
    omega
  · have : i = posn l x := by omega
    subst this
    exact posn_at l x p hp

/-! #### Members -/

theorem mem_nil (n : Int) : ¬ mem [] n := by rintro ⟨p, hp, _⟩; cases hp
theorem mem_cons {p : Int × Int} {r : Iv} {n : Int} : mem (p :: r) n ↔ (p.1 ≤ n ∧ n < p.2) ∨ mem r n := by
  constructor
  · rintro ⟨q, hq, h⟩
    rcases List.mem_cons.1 hq with rfl | hq
    · exact .inl h
    · exact .inr ⟨q, hq, h⟩
  · rintro (h | ⟨q, hq, h⟩)
    · exact ⟨p, by simp, h⟩
    · exact ⟨q, by simp [hq], h⟩
theorem mem_append {l m : Iv} {n : Int} : mem (l ++ m) n ↔ mem l n ∨ mem m n := by
  induction l with
  | nil => simp [mem_nil]
  | cons p r ih => simp [mem_cons, ih, or_assoc]

theorem mem_cut1 {p : Int × Int} {a b n : Int} (hab : a < b) : mem (cut1 p a b) n ↔ (p.1 ≤ n ∧ n < p.2) ∧ ¬ (a ≤ n ∧ n < b) := by
  unfold cut1
  rw [mem_append]
  have h1 : mem (if p.1 < a then [(p.1, min p.2 a)] else []) n ↔ p.1 < a ∧ p.1 ≤ n ∧ n < min p.2 a := by
    split <;> rename_i h <;> simp [mem_cons, mem_nil, h]
  have h2 : mem (if b < p.2 then [(max p.1 b, p.2)] else []) n ↔ b < p.2 ∧ max p.1 b ≤ n ∧ n < p.2 := by
    split <;> rename_i h <;> simp [mem_cons, mem_nil, h]
  rw [h1, h2]
  omega

theorem mem_cutL {l : Iv} {a b n : Int} (hab : a < b) : mem (cutL l a b) n ↔ mem l n ∧ ¬ (a ≤ n ∧ n < b) := by
  induction l with
  | nil => simp [cutL, mem_nil]
  | cons p r ih =>
    simp only [cutL, mem_append, mem_cons, mem_cut1 hab, ih]
    constructor
    · rintro (⟨h1, h2⟩ | ⟨h1, h2⟩)
      · exact ⟨.inl h1, h2⟩
      · exact ⟨.inr h1, h2⟩
    · rintro ⟨h1 | h1, h2⟩
      · exact .inl ⟨h1, h2⟩
      · exact .inr ⟨h1, h2⟩

/-! #### The order is kept -/

theorem Ok_append : ∀ {l m : Iv}, Ok (l ++ m) ↔ Ok l ∧ Ok m ∧ ∀ p ∈ l, ∀ q ∈ m, p.2 < q.1
  | [], m => by simp [Ok]
  | p :: r, m => by
    simp only [List.cons_append, Ok, Ok_append (l := r) (m := m), List.mem_append, List.mem_cons]
    constructor
    · rintro ⟨h1, h2, h3, h4, h5, h6, h7⟩
      refine ⟨⟨h1, h2, h3, fun q hq => h4 q (.inl hq), h5⟩, h6, ?_⟩
      rintro q (rfl | hq) q' hq'
      · exact h4 q' (.inr hq')
      · exact h7 q hq q' hq'
    · rintro ⟨⟨h1, h2, h3, h4, h5⟩, h6, h7⟩
      refine ⟨h1, h2, h3, ?_, h5, h6, fun q hq q' hq' => h7 q (.inr hq) q' hq'⟩
      rintro q (hq | hq)
      · exact h4 q hq
      · exact h7 p (.inl rfl) q hq

theorem cut1_within {p q : Int × Int} {a b : Int} (hq : q ∈ cut1 p a b) (hp : p.1 < p.2) (hab : a < b) : p.1 ≤ q.1 ∧ q.2 ≤ p.2 ∧ q.1 < q.2 := by
  unfold cut1 at hq
  rcases List.mem_append.1 hq with h | h
  · split at h
    · simp at h; subst h; simp only; omega
    · cases h
  · split at h
    · simp at h; subst h; simp only; omega
    · cases h

theorem cutL_within {l : Iv} {a b : Int} {q : Int × Int} (h : Ok l) (hab : a < b) (hq : q ∈ cutL l a b) : ∃ p ∈ l, p.1 ≤ q.1 ∧ q.2 ≤ p.2 ∧ q.1 < q.2 := by
  induction l with
  | nil => cases hq
  | cons p r ih =>
    rcases List.mem_append.1 hq with hq | hq
    · exact ⟨p, by simp, cut1_within hq h.2.1 hab⟩
    · obtain ⟨p', hp', h'⟩ := ih h.tail hq
      exact ⟨p', by simp [hp'], h'⟩

theorem Ok_cut1 {p : Int × Int} {a b : Int} (h0 : 0 ≤ p.1) (h1 : p.1 < p.2) (h2 : p.2 < 18446744073709551616) (hab : a < b) : Ok (cut1 p a b) := by
  unfold cut1
  split <;> split <;> simp [Ok] <;> omega

theorem Ok_cutL {l : Iv} {a b : Int} (h : Ok l) (hab : a < b) : Ok (cutL l a b) := by
  induction l with
  | nil => trivial
  | cons p r ih =>
    simp only [cutL, Ok_append]
    refine ⟨Ok_cut1 h.1 h.2.1 h.2.2.1 hab, ih h.tail, fun q hq q' hq' => ?_⟩
    have h1 := cut1_within hq h.2.1 hab
    obtain ⟨p', hp', h2⟩ := cutL_within h.tail hab hq'
    have h3 := h.2.2.2.1 p' hp'
    omega

/-! #### Sums -/

theorem tot_append (l m : Iv) : tot (l ++ m) = tot l + tot m := by
  induction l with
  | nil => simp [tot]
  | cons p r ih => simp [tot, ih]; omega

theorem tot_cut1 {p : Int × Int} {a b : Int} (hp : p.1 < p.2) (hab : a < b) : tot (cut1 p a b) = p.2 - p.1 - cnt1 p a b := by
  unfold cut1 cnt1
  rw [tot_append]
  split <;> split <;> simp [tot] <;> omega

theorem tot_cutL {l : Iv} {a b : Int} (h : Ok l) (hab : a < b) : tot (cutL l a b) = tot l - cnt l a b := by
  induction l with
  | nil => simp [cutL, tot, cnt]
  | cons p r ih =>
    simp only [cutL, tot_append, tot, cnt, ih h.tail, tot_cut1 h.2.1 hab]
    omega

theorem tot_nonneg {l : Iv} (h : Ok l) : 0 ≤ tot l := by
  induction l with
  | nil => simp [tot]
  | cons p r ih => have := ih h.tail; have := h.2.1; simp only [tot]; omega

theorem tot_lt : ∀ {l : Iv} (h : Ok l) (B : Int), 0 ≤ B → B < 18446744073709551616 → (∀ p ∈ l, B ≤ p.1) → B + tot l < 18446744073709551616
  | [], _, B, h0, h1, _ => by simp only [tot]; omega
  | p :: r, h, B, h0, h1, hB => by
    have h2 := hB p (by simp)
    have := tot_lt h.tail p.2 (by have := h.1; have := h.2.1; omega) h.2.2.1 (fun q hq => by have := h.2.2.2.1 q hq; omega)
    simp only [tot]
    omega

theorem tot_max {l : Iv} (h : Ok l) : tot l < 18446744073709551616 := by
  have := tot_lt h 0 (by omega) (by omega) (fun p hp => (h.mem hp).1)
  omega

theorem cnt_nonneg (l : Iv) (a b : Int) : 0 ≤ cnt l a b := by
  induction l with
  | nil => simp [cnt]
  | cons p r ih => simp only [cnt, cnt1]; omega

theorem cnt_append (l m : Iv) (a b : Int) : cnt (l ++ m) a b = cnt l a b + cnt m a b := by
  induction l with
  | nil => simp [cnt]
  | cons p r ih => simp [cnt, ih]; omega

theorem cnt_le_from : ∀ {l : Iv} (h : Ok l) {a b : Int}, a ≤ b → ∀ c : Int, a ≤ c → c ≤ b → (∀ p ∈ l, c ≤ p.1) → cnt l a b ≤ b - c
  | [], _, a, b, hab, c, _, hc, _ => by simp [cnt]; omega
  | p :: r, h, a, b, hab, c, hac, hcb, hB => by
    have h1 := hB p (by simp)
    simp only [cnt, cnt1]
    rcases Int.lt_or_le b p.2 with hb | hb
    · have : cnt r a b = 0 := by
        have : ∀ l : Iv, (∀ q ∈ l, b ≤ q.1) → cnt l a b = 0 := by
          intro l
          induction l with
          | nil => intro _; rfl
          | cons q s ih =>
            intro hq
            have := hq q (by simp)
            have := ih fun q' hq' => hq q' (by simp [hq'])
            simp only [cnt, cnt1]; omega
        exact this r fun q hq => by have := h.2.2.2.1 q hq; omega
      omega
    · have := cnt_le_from h.tail hab p.2 (by have := h.2.1; omega) hb (fun q hq => by have := h.2.2.2.1 q hq; omega)
      have := h.2.1
      omega

theorem cnt_split : ∀ {l : Iv} (h : Ok l) {a b : Int}, a ≤ b → cnt l a b ≤ b - a
  | [], _, a, b, hab => by simp [cnt]; omega
  | p :: r, h, a, b, hab => by
    have hp := h.2.1
    simp only [cnt, cnt1]
    have hz : (∀ q ∈ r, b ≤ q.1) → cnt r a b = 0 := by
      intro hh
      have : ∀ l : Iv, (∀ q ∈ l, b ≤ q.1) → cnt l a b = 0 := by
        intro l
        induction l with
        | nil => intro _; rfl
        | cons q s ih =>
          intro hq
          have := hq q (by simp)
          have := ih fun q' hq' => hq q' (by simp [hq'])
          simp only [cnt, cnt1]; omega
      exact this r hh
    rcases Int.lt_or_le p.2 a with h1 | h1
    · have := cnt_split h.tail hab
      omega
    · rcases Int.lt_or_le b p.2 with h2 | h2
      · have := hz fun q hq => by have := h.2.2.2.1 q hq; omega
        omega
      · have := cnt_le_from h.tail hab p.2 h1 h2 (fun q hq => by have := h.2.2.2.1 q hq; omega)
        omega

theorem cnt_zero_before {l : Iv} {a b : Int} (h : ∀ p ∈ l, p.2 ≤ a) : cnt l a b = 0 := by
  induction l with
  | nil => rfl
  | cons q s ih =>
    have := h q (by simp)
    have := ih fun q' hq' => h q' (by simp [hq'])
    simp only [cnt, cnt1]; omega
theorem cnt_zero_after {l : Iv} {a b : Int} (h : ∀ p ∈ l, b ≤ p.1) : cnt l a b = 0 := by
  induction l with
  | nil => rfl
  | cons q s ih =>
    have := h q (by simp)
    have := ih fun q' hq' => h q' (by simp [hq'])
    simp only [cnt, cnt1]; omega

/-! #### What is cut, by places -/

theorem cutL_append (l m : Iv) (a b : Int) : cutL (l ++ m) a b = cutL l a b ++ cutL m a b := by
  induction l with
  | nil => rfl
  | cons p r ih => simp [cutL, ih]

theorem cutL_before {l : Iv} {a b : Int} (hab : a < b) (h : ∀ p ∈ l, p.1 < p.2 ∧ p.2 ≤ a) : cutL l a b = l := by
  induction l with
  | nil => rfl
  | cons p r ih =>
    have hp := h p (by simp)
    simp only [cutL, ih fun q hq => h q (by simp [hq])]
    unfold cut1
    rw [if_pos (by omega), if_neg (by omega)]
    have : min p.2 a = p.2 := by omega
    rw [this]; rfl

theorem cutL_after {l : Iv} {a b : Int} (hab : a < b) (h : ∀ p ∈ l, p.1 < p.2 ∧ b ≤ p.1) : cutL l a b = l := by
  induction l with
  | nil => rfl
  | cons p r ih =>
    have hp := h p (by simp)
    simp only [cutL, ih fun q hq => h q (by simp [hq])]
    unfold cut1
    rw [if_neg (by omega), if_pos (by omega)]
    have : max p.1 b = p.1 := by omega
    rw [this]; rfl

theorem posn_cut {l : Iv} {a : Int} : ∀ p ∈ l.take (posn l a), p.2 ≤ a := by
  intro p hp
  obtain ⟨i, hi, rfl⟩ := List.mem_iff_getElem.1 hp
  simp only [List.length_take] at hi
  rw [List.getElem_take]
  exact posn_before l a i _ (by omega) (List.getElem?_eq_getElem (by omega))

/-- The cut row: what lies ahead, the middle's parts, what lies behind. -/
theorem cutL_parts {l : Iv} (h : Ok l) {a b : Int} (hab : a < b) {k : Nat} (hk : posn l a ≤ k) (hend : ∀ p, l[k]? = some p → b ≤ p.1) :
    cutL l a b = l.take (posn l a) ++ cutL ((l.take k).drop (posn l a)) a b ++ l.drop k := by
  have h1 : l = l.take (posn l a) ++ (l.take k).drop (posn l a) ++ l.drop k := by
    have e1 : l.take k = (l.take k).take (posn l a) ++ (l.take k).drop (posn l a) := (List.take_append_drop _ _).symm
    rw [List.take_take, Nat.min_eq_left hk] at e1
    rw [← e1, List.take_append_drop]
  have h2 : cutL (l.take (posn l a)) a b = l.take (posn l a) := cutL_before hab fun p hp => ⟨(h.mem (List.mem_of_mem_take hp)).2.1, posn_cut p hp⟩
  have h3 : cutL (l.drop k) a b = l.drop k := by
    refine cutL_after hab fun p hp => ⟨(h.mem (List.mem_of_mem_drop hp)).2.1, ?_⟩
    obtain ⟨i, hi, rfl⟩ := List.mem_iff_getElem.1 hp
    rw [List.getElem_drop]
    simp only [List.length_drop] at hi
    have hkl : k < l.length := by omega
    have h4 := hend _ (List.getElem?_eq_getElem hkl)
    rcases Nat.eq_zero_or_pos i with rfl | hi0
    · simpa using h4
    · have h5 := h.lt (i := k) (j := k + i) (by omega) (List.getElem?_eq_getElem hkl) (List.getElem?_eq_getElem (by omega))
      have h6 := h.get (List.getElem?_eq_getElem hkl)
      omega
  conv => lhs; rw [h1]
  rw [cutL_append, cutL_append, h2, h3]

/-- Nothing of [a, b) is in l. -/
def Clear (l : Iv) (a b : Int) : Prop := ∀ p ∈ l, p.2 ≤ a ∨ b ≤ p.1

theorem clear_cutL {l : Iv} {a b : Int} (h : Ok l) (hab : a < b) : Clear (cutL l a b) a b := by
  intro q hq
  have hm : mem (cutL l a b) q.1 := ⟨q, hq, by omega, ((Ok_cutL h hab).mem hq).2.1⟩
  have h1 := (mem_cutL hab).1 hm
  have h2 := (Ok_cutL h hab).mem hq
  rcases Int.lt_or_le q.1 a with hlt | hge
  · left
    rcases Int.lt_or_le a q.2 with h3 | h3
    · have : mem (cutL l a b) a := ⟨q, hq, by omega, h3⟩
      have := ((mem_cutL hab).1 this).2
      omega
    · exact h3
  · right; omega

theorem mem_split (l : Iv) (i : Nat) (n : Int) : mem l n ↔ mem (l.take i) n ∨ mem (l.drop i) n := by
  rw [← mem_append, List.take_append_drop]

theorem drop_posn {l : Iv} (h : Ok l) {a b : Int} (hc : Clear l a b) : ∀ p ∈ l.drop (posn l a), b ≤ p.1 := by
  intro p hp
  obtain ⟨i, hi, rfl⟩ := List.mem_iff_getElem.1 hp
  rw [List.getElem_drop]
  simp only [List.length_drop] at hi
  have h1 := posn_after h a (i := posn l a + i) (by omega) (List.getElem?_eq_getElem (by omega))
  rcases hc _ (List.getElem_mem (l := l) (n := posn l a + i) (by omega)) with h2 | h2 <;> omega

/-- The three parts of a row into which a stretch is put. -/
theorem insL_spec {l : Iv} {a b : Int} (h : Ok l) (hab : a < b) (h0 : 0 ≤ a) (hb : b < 18446744073709551616) (hc : Clear l a b) :
    Ok (insL l a b) ∧ (∀ n, mem (insL l a b) n ↔ mem l n ∨ (a ≤ n ∧ n < b)) ∧ tot (insL l a b) = tot l + (b - a) := by
  have hpl := posn_le l a
  obtain ⟨i, hi⟩ : ∃ i, i = posn l a := ⟨_, rfl⟩
  have hbef : ∀ p ∈ l.take i, p.2 ≤ a := by rw [hi]; exact posn_cut
  have haft : ∀ p ∈ l.drop i, b ≤ p.1 := by rw [hi]; exact drop_posn h hc
  have hsplit : l = l.take i ++ l.drop i := (List.take_append_drop i l).symm
  have hOk := h
  rw [hsplit, Ok_append] at hOk
  obtain ⟨hL, hR, hLR⟩ := hOk
  have key : ∀ (L M R N : Iv) (x y : Int), l.take i = L ++ M → l.drop i = N ++ R → x ≤ a → b ≤ y → 0 ≤ x → y < 18446744073709551616 →
      (∀ p ∈ L, p.2 < x) → (∀ p ∈ R, y < p.1) → (∀ n, (x ≤ n ∧ n < y) ↔ mem M n ∨ (a ≤ n ∧ n < b) ∨ mem N n) → y - x = tot M + (b - a) + tot N →
      insL l a b = L ++ [(x, y)] ++ R → Ok (insL l a b) ∧ (∀ n, mem (insL l a b) n ↔ mem l n ∨ (a ≤ n ∧ n < b)) ∧ tot (insL l a b) = tot l + (b - a) := by
    intro L M R N x y h1 h2 hx hy hx0 hy1 hl hr hmem htot he
    rw [he]
    rw [h1] at hL; rw [h2] at hR
    rw [Ok_append] at hL hR
    refine ⟨?_, fun n => ?_, ?_⟩
    · rw [Ok_append, Ok_append]
      refine ⟨⟨hL.1, ?_, ?_⟩, hR.2.1, ?_⟩
      · simp only [Ok]; refine ⟨hx0, by omega, hy1, by simp, trivial⟩
      · intro p hp q hq; simp at hq; subst hq; exact hl p hp
      · intro p hp q hq
        rcases List.mem_append.1 hp with hp | hp
        · have := hl p hp; have := hr q hq; omega
        · simp at hp; subst hp; exact hr q hq
    · rw [mem_append, mem_append, mem_split l i n, h1, h2, mem_append, mem_append]
      simp only [mem_cons, mem_nil, or_false]
      rw [hmem n]
      constructor
      · rintro ((h | h | h | h) | h)
        · exact .inl (.inl (.inl h))
        · exact .inl (.inl (.inr h))
        · exact .inr h
        · exact .inl (.inr (.inl h))
        · exact .inl (.inr (.inr h))
      · rintro (((h | h) | (h | h)) | h)
        · exact .inl (.inl h)
        · exact .inl (.inr (.inl h))
        · exact .inl (.inr (.inr (.inr h)))
        · exact .inr h
        · exact .inl (.inr (.inr (.inl h)))
    · have e1 := tot_append (l.take i) (l.drop i)
      rw [List.take_append_drop] at e1
      rw [e1, h1, h2]
      simp only [tot_append, tot]
      omega
  -- the right side
  have hhi : (∃ q R, l.drop i = q :: R ∧ q.1 = b ∧ addHi l i b = (q.2, i + 1) ∧ l.drop (i + 1) = R) ∨ ((∀ p ∈ l.drop i, b < p.1) ∧ addHi l i b = (b, i)) := by
    unfold addHi
    rcases Nat.lt_or_ge i l.length with hlt | hge
    · have hg := List.getElem?_eq_getElem hlt
      rw [hg]
      have hd : l.drop i = l[i] :: l.drop (i + 1) := List.drop_eq_getElem_cons hlt
      by_cases hq : l[i].1 = b
      · exact .inl ⟨_, _, hd, hq, by simp [hq], rfl⟩
      · refine .inr ⟨?_, by simp [hq]⟩
        intro p hp
        rw [hd] at hp
        have hb1 : b ≤ l[i].1 := haft _ (by rw [hd]; exact List.mem_cons_self)
        rcases List.mem_cons.1 hp with rfl | hp
        · omega
        · have h2 := hR
          rw [hd] at h2
          have := h2.2.2.2.1 p hp
          have := h2.2.1
          omega
    · rw [List.getElem?_eq_none hge]
      refine .inr ⟨?_, rfl⟩
      rw [List.drop_eq_nil_of_le hge]; simp
  -- the left side
  have hlo : (∃ q L, l.take i = L ++ [q] ∧ q.2 = a ∧ addLo l i a = (q.1, i - 1) ∧ l.take (i - 1) = L) ∨ ((∀ p ∈ l.take i, p.2 < a) ∧ addLo l i a = (a, i)) := by
    unfold addLo
    cases i with
    | zero => exact .inr ⟨by simp, rfl⟩
    | succ j =>
      have hlt : j < l.length := by omega
      have hg := List.getElem?_eq_getElem hlt
      simp only [hg]
      have ht : l.take (j + 1) = l.take j ++ [l[j]] := List.take_succ_eq_append_getElem hlt
      by_cases hq : l[j].2 = a
      · exact .inl ⟨_, _, ht, hq, by simp [hq], rfl⟩
      · refine .inr ⟨?_, by simp [hq]⟩
        intro p hp
        have hb1 : l[j].2 ≤ a := hbef _ (by rw [ht]; exact List.mem_append_right _ List.mem_cons_self)
        rw [ht] at hp
        rcases List.mem_append.1 hp with hp | hp
        · have h2 := hL
          rw [ht, Ok_append] at h2
          have := h2.2.2 p hp l[j] (by simp)
          have := h2.2.1.2.1
          omega
        · simp at hp; subst hp; omega
  have hins : insL l a b = l.take (addLo l i a).2 ++ [((addLo l i a).1, (addHi l i b).1)] ++ l.drop (addHi l i b).2 := by rw [hi]; rfl
  rcases hlo with ⟨q, L, h1, h2, h3, h4⟩ | ⟨h1, h3⟩ <;> rcases hhi with ⟨q', R, h5, h6, h7, h8⟩ | ⟨h5, h7⟩
  · rw [h3, h7] at hins; simp only [h4, h8] at hins
    have hq : q ∈ l.take i := by rw [h1]; simp
    have hq' : q' ∈ l.drop i := by rw [h5]; simp
    have g1 := hL.mem hq
    have g2 := hR.mem hq'
    refine key L [q] R [q'] q.1 q'.2 h1 h5 (by omega) (by omega) (by omega) (by omega) ?_ ?_ ?_ ?_ hins
    · rw [h1, Ok_append] at hL; intro p hp; exact hL.2.2 p hp q (by simp)
    · rw [h5] at hR; exact hR.2.2.2.1
    · intro n; simp only [mem_cons, mem_nil, or_false]; omega
    · simp only [tot]; omega
  · rw [h3, h7] at hins; simp only [h4] at hins
    have hq : q ∈ l.take i := by rw [h1]; simp
    have g1 := hL.mem hq
    refine key L [q] (l.drop i) [] q.1 b h1 rfl (by omega) (by omega) (by omega) hb ?_ h5 ?_ ?_ hins
    · rw [h1, Ok_append] at hL; intro p hp; exact hL.2.2 p hp q (by simp)
    · intro n; simp only [mem_cons, mem_nil, or_false]; omega
    · simp only [tot]; omega
  · rw [h3, h7] at hins; simp only [h8] at hins
    have hq' : q' ∈ l.drop i := by rw [h5]; simp
    have g2 := hR.mem hq'
    refine key (l.take i) [] R [q'] a q'.2 (by simp) h5 (by omega) (by omega) h0 (by omega) h1 ?_ ?_ ?_ hins
    · rw [h5] at hR; exact hR.2.2.2.1
    · intro n; simp only [mem_cons, mem_nil, or_false, false_or]; omega
    · simp only [tot]; omega
  · rw [h3, h7] at hins
    refine key (l.take i) [] (l.drop i) [] a b (by simp) rfl (by omega) (by omega) h0 hb h1 h5 ?_ ?_ hins
    · intro n; simp only [mem_nil, or_false, false_or]
    · simp only [tot]; omega

theorem addL_spec {l : Iv} {a b : Int} (h : Ok l) (hab : a < b) (h0 : 0 ≤ a) (hb : b < 18446744073709551616) :
    Ok (addL l a b) ∧ (∀ n, mem (addL l a b) n ↔ mem l n ∨ (a ≤ n ∧ n < b)) ∧ tot (addL l a b) = tot l - cnt l a b + (b - a) := by
  obtain ⟨h1, h2, h3⟩ := insL_spec (Ok_cutL h hab) hab h0 hb (clear_cutL h hab)
  refine ⟨h1, fun n => ?_, by rw [addL, h3, tot_cutL h hab]⟩
  rw [addL, h2, mem_cutL hab]
  constructor
  · rintro (⟨h, _⟩ | h)
    · exact .inl h
    · exact .inr h
  · rintro (h | h)
    · by_cases hn : a ≤ n ∧ n < b
      · exact .inr hn
      · exact .inl ⟨h, hn⟩
    · exact .inr h

end Go.Sh
