/- What pieces of a program do to memory: blocks, rows, maps, interval lists, resources that lie apart. No further condition. -/
import Derived.Test.YtbmbflhcebdjgaaGreatDoorSh
import Derived.Below
set_option linter.all false
namespace Go.Sh
open Go.RowKit (Below)
structure Ext (S : Nat -> Prop) (w w' : World) : Prop where
  os : w'.os = w.os
  tape : w'.tape = w.tape
  output : w'.output = w.output
  size : w.heap.size <= w'.heap.size
  block : ∀ k, k < w.heap.size -> ¬ S k -> w'.heap[k]? = w.heap[k]?
def Nothing : Nat -> Prop := fun _ => False
def Only (b : Nat) : Nat -> Prop := fun k => k = b
theorem Ext.refl (S : Nat -> Prop) (w : World) : Ext S w w := ⟨rfl, rfl, rfl, Nat.le_refl _, fun _ _ _ => rfl⟩
theorem Ext.drew (S : Nat -> Prop) (w : World) : Ext S w w.drew := ⟨rfl, rfl, rfl, Nat.le_refl _, fun _ _ _ => rfl⟩
theorem Ext.trans {S T U : Nat -> Prop} {a b c : World} (h : Ext S a b) (k : Ext T b c) (hS : ∀ i, i < a.heap.size -> S i -> U i) (hT : ∀ i, i < a.heap.size -> T i -> U i) : Ext U a c :=
  ⟨k.os.trans h.os, k.tape.trans h.tape, k.output.trans h.output, Nat.le_trans h.size k.size, fun i hi hu =>
    (k.block i (Nat.lt_of_lt_of_le hi h.size) fun t => hu (hT i hi t)).trans (h.block i hi fun s => hu (hS i hi s))⟩
theorem Ext.trans' {S : Nat -> Prop} {a b c : World} (h : Ext S a b) (k : Ext S b c) : Ext S a c := h.trans k (fun _ _ s => s) (fun _ _ s => s)
theorem Ext.mono {S T : Nat -> Prop} {a b : World} (h : Ext S a b) (hs : ∀ i, i < a.heap.size -> S i -> T i) : Ext T a b :=
  ⟨h.os, h.tape, h.output, h.size, fun i hi ht => h.block i hi fun s => ht (hs i hi s)⟩
theorem Ext.any {S : Nat -> Prop} {a b : World} (h : Ext Nothing a b) : Ext S a b := h.mono fun _ _ f => f.elim
theorem Ext.alloc (S : Nat -> Prop) (w : World) (o : Obj) : Ext S w (w.alloc o) :=
  ⟨rfl, rfl, rfl, by simp, fun k hk _ => RowKit.Below.heap_alloc w o k hk⟩
theorem Ext.setCell (w : World) (p : Addr) (v : Value) : Ext (Only p.block) w (w.setCell p v) :=
  ⟨rfl, rfl, rfl, by simp [World.setCell], fun k hk hs => RowKit.Below.heap_setCell w p v k hs⟩
theorem Ext.setO (w : World) (b : Nat) (o : Obj) : Ext (Only b) w (World.setO w b o) :=
  ⟨rfl, rfl, rfl, by simp [World.setO], fun k hk hs => by
    have : k ≠ b := hs
    simp [World.setO, Array.getElem?_setIfInBounds_ne (Ne.symm this)]⟩
theorem Ext.cell {S : Nat -> Prop} {w w' : World} (h : Ext S w w') {p : Addr} {v : Value} (hc : w.cell? p = some v) (hs : ¬ S p.block) : w'.cell? p = some v := by
  have hb := World.block_lt_of_cell? w p hc
  rw [<- hc]
  exact World.cell?_of_block (h.block p.block hb hs)
theorem Ext.frozen {S : Nat -> Prop} {w w' : World} (h : Ext S w w') {p : Addr} (hb : p.block < w.heap.size) (hs : ¬ S p.block) : w'.frozen? p = w.frozen? p :=
  World.frozen?_of_block (h.block p.block hb hs)
theorem Ext.obj {S : Nat -> Prop} {w w' : World} (h : Ext S w w') {b : Nat} {o : Obj} (hc : w.heap[b]? = some o) (hs : ¬ S b) : w'.heap[b]? = some o := by
  have hb : b < w.heap.size := (Array.getElem?_eq_some_iff.1 hc).1
  rw [h.block b hb hs, hc]
theorem Ext.below {S : Nat -> Prop} {w w' : World} (h : Ext S w w') {B : Nat} (hB : B <= w.heap.size) (hS : ∀ i, S i -> B <= i) : Below B w w' :=
  ⟨h.os, h.tape, h.output, h.size, fun k hk => h.block k (by omega) fun s => by have := hS k s; omega⟩
theorem block_lt {w : World} {b : Nat} {o : Obj} (h : w.heap[b]? = some o) : b < w.heap.size := (Array.getElem?_eq_some_iff.1 h).1
theorem cell_of_block {w : World} {b : Nat} {cs : Array Value} {t : TypeId} {f : Nat × Nat} (h : w.heap[b]? = some (.cells cs t f)) (j : Nat) : w.cell? ⟨b, j, none⟩ = cs[j]? := by
  simp [World.cell?, h]
theorem add_eq (b o n : Nat) : (Addr.mk b o none).add n = ⟨b, o + n, none⟩ := by
  unfold Addr.add; split <;> simp_all
theorem add_add (p : Addr) (a b : Nat) : (p.add a).add b = p.add (a + b) := by
  unfold Addr.add
  by_cases ha : a = 0
  · subst ha; simp
  · by_cases hb : b = 0
    · subst hb; simp
    · simp [ha, hb, Nat.add_assoc]
theorem add_zero (p : Addr) : p.add 0 = p := by simp [Addr.add]
theorem add_block (p : Addr) (n : Nat) : (p.add n).block = p.block := by unfold Addr.add; split <;> rfl
theorem AL_intro {o : Obj} {w : World} {K : Nat -> World -> Prop}
    (h : ∀ w', w'.heap[w.heap.size]? = some o -> w'.heap.size = w.heap.size + 1 -> Ext Nothing w w' -> K w.heap.size w') : AL o w K :=
  h (w.alloc o) (heap_alloc_new w o) (by simp) (Ext.alloc _ w o)
structure Stored (p : Addr) (v : Value) (w w' : World) : Prop where
  ext : Ext (Only p.block) w w'
  same : w'.cell? p = some v
  other : ∀ q : Addr, q ≠ p -> w'.cell? q = w.cell? q
  frozen : ∀ q : Addr, w'.frozen? q = w.frozen? q
  size : w'.heap.size = w.heap.size
theorem stored_setCell {w : World} {p : Addr} {u v : Value} (h : w.cell? p = some u) : Stored p v w (w.setCell p v) :=
  ⟨Ext.setCell w p v, World.cell?_setCell_same w p v h, fun q hq => World.cell?_setCell_other w p q v (Ne.symm hq), fun q => World.frozen?_setCell w p q v, by simp⟩
theorem st_one {p : Addr} {v u : Value} {w : World} {K : World -> Prop} (h : w.cell? p = some u) (hf : w.frozen? p = false) (ho : v.oneCell' = true)
    (hK : ∀ w', Stored p v w w' -> K w') : stCells p 0 [v] w K := by
  simp only [stCells, add_zero]
  exact ⟨⟨⟨u, h⟩, hf, ho⟩, hK _ (stored_setCell h)⟩
theorem cell_stored_block {w : World} {b j : Nat} {cs : Array Value} {t : TypeId} {f : Nat × Nat} {v : Value} (h : w.heap[b]? = some (.cells cs t f)) :
    (w.setCell ⟨b, j, none⟩ v).heap[b]? = some (.cells (cs.setIfInBounds j v) t f) := by
  simp [World.setCell, Array.getElem?_modify, h]
theorem st_block {t : TypeId} : ∀ (vs : List Value) (b o i : Nat) (cs : Array Value) (w : World) (K : World -> Prop), w.heap[b]? = some (.cells cs t) -> o + i + vs.length <= cs.size -> (∀ v ∈ vs, v.oneCell' = true) ->
    (∀ w', Ext (Only b) w w' -> w'.heap.size = w.heap.size -> w'.heap[b]? = some (.cells (cs.toList.take (o + i) ++ vs ++ cs.toList.drop (o + i + vs.length)).toArray t) -> K w') ->
    stCells ⟨b, o, none⟩ i vs w K
  | [], b, o, i, cs, w, K, h, hl, ho, hK => by
    refine hK w (Ext.refl _ _) rfl ?_
    rw [h]
    simp
  | v :: r, b, o, i, cs, w, K, h, hl, ho, hK => by
    have hlt : o + i < cs.size := by simp at hl; omega
    simp only [stCells, add_eq]
    refine ⟨⟨⟨cs[o + i], by rw [cell_of_block h]; exact Array.getElem?_eq_getElem hlt⟩, by simp [World.frozen?, h], ho v (by simp)⟩, ?_⟩
    have hst := cell_stored_block (j := o + i) (v := v) h
    refine st_block r b o (i + 1) _ _ K hst (by simp at hl ⊢; omega) (fun u hu => ho u (by simp [hu])) fun w' he hs hb => ?_
    refine hK w' ((Ext.setCell w ⟨b, o + i, none⟩ v).trans' he) (by rw [hs]; simp) ?_
    rw [hb]
    congr 3
    have hlt' : o + i < cs.toList.length := by simpa using hlt
    simp only [Array.toList_setIfInBounds]
    rw [show o + (i + 1) = o + i + 1 from by omega]
    rw [List.take_set, List.take_succ_eq_append_getElem hlt', List.set_append_right _ _ (by simp; omega)]
    simp only [List.length_take, Nat.min_eq_left (Nat.le_of_lt hlt'), Nat.sub_self, List.set_cons_zero, List.append_assoc, List.singleton_append, List.length_cons]
    congr 2
    rw [List.drop_set_of_lt (by omega)]
    rw [show o + i + 1 + r.length = o + i + (r.length + 1) from by omega]
theorem rowAt_ext {S : Nat -> Prop} {w w' : World} {b : Option Addr} {n : Nat} {l : List Value} (h : rowAt w b n l) (he : Ext S w w') (hs : ∀ a, b = some a -> l ≠ [] -> ¬ S a.block) : rowAt w' b n l := by
  cases b with
  | none => exact h
  | some a =>
    refine ⟨h.1, fun j v hj => he.cell (h.2 j v hj) ?_⟩
    rw [add_block]
    exact hs a rfl (by intro e; subst e; simp at hj)
structure Own (w : World) (B t z : Nat) (s : SlV) (vs : List Value) : Prop where
  len : vs.length = s.len * z
  cap : s.len <= s.cap
  top : s.cap < 9223372036854775808
  row : (s.base = none /\ s.cap = 0) ∨ ∃ b cs, s.base = some ⟨b, 0, none⟩ /\ B <= b /\ w.heap[b]? = some (.cells cs t) /\ cs.size = s.cap * z /\ cs.toList.take (s.len * z) = vs
theorem Own.nil (w : World) (B t z : Nat) : Own w B t z ⟨none, 0, 0⟩ [] := ⟨by simp, Nat.le_refl _, by decide, .inl ⟨rfl, rfl⟩⟩
theorem Own.rowAt {w : World} {B t z : Nat} {s : SlV} {vs : List Value} (h : Own w B t z s vs) : rowAt w s.base (s.len * z) vs := by
  rcases h.row with ⟨h1, h2⟩ | ⟨b, cs, h1, h2, h3, h4, h5⟩
  · have : s.len = 0 := by have := h.cap; omega
    have hl := h.len
    rw [this] at hl
    rw [h1]
    exact List.eq_nil_of_length_eq_zero (by simpa using hl)
  · rw [h1]
    refine ⟨h.len, fun j v hj => ?_⟩
    rw [add_eq, Nat.zero_add, cell_of_block h3]
    rw [<- h5, List.getElem?_take] at hj
    split at hj
    · simpa using hj
    · cases hj
theorem Own.ext {w w' : World} {B t z : Nat} {s : SlV} {vs : List Value} {S : Nat -> Prop} (h : Own w B t z s vs) (he : Ext S w w') (hs : ∀ b, s.base = some ⟨b, 0, none⟩ -> ¬ S b) : Own w' B t z s vs := by
  refine ⟨h.len, h.cap, h.top, ?_⟩
  rcases h.row with h1 | ⟨b, cs, h1, h2, h3, h4⟩
  · exact .inl h1
  · exact .inr ⟨b, cs, h1, h2, he.obj h3 (hs b h1), h4⟩
theorem Own.lower {w : World} {B B' t z : Nat} {s : SlV} {vs : List Value} (h : Own w B t z s vs) (hB : B' <= B) : Own w B' t z s vs := by
  refine ⟨h.len, h.cap, h.top, ?_⟩
  rcases h.row with h1 | ⟨b, cs, h1, h2, h3, h4⟩
  · exact .inl h1
  · exact .inr ⟨b, cs, h1, by omega, h3, h4⟩
theorem Own.lt {w : World} {B t z : Nat} {s : SlV} {vs : List Value} (h : Own w B t z s vs) {a : Addr} (ha : s.base = some a) : B <= a.block /\ a.block < w.heap.size /\ a.off = 0 /\ a.spot = none := by
  rcases h.row with ⟨h1, _⟩ | ⟨b, cs, h1, h2, h3, h4⟩
  · rw [h1] at ha; cases ha
  · rw [h1] at ha; cases ha; exact ⟨h2, block_lt h3, rfl, rfl⟩
theorem APP_own {e z bytes : Nat} {zs : Array Value} {s x : SlV} {w : World} {K : SlV -> World -> Prop} {B : Nat} {vs news : List Value}
    (hz : zs.size = z) (hown : Own w B e z s vs) (hrow : rowAt w x.base (x.len * z) news) (hnl : news.length = x.len * z) (ho : ∀ v ∈ news, v.oneCell' = true) (hB : B <= w.heap.size)
    (hb : (s.len + x.len) * bytes <= 140737488355328) (h63 : s.len + x.len <= 9223372036854775807)
    (hK : ∀ s' w', Own w' B e z s' (vs ++ news) -> s'.len = s.len + x.len -> Ext (fun k => ∃ a, s.base = some a /\ k = a.block) w w' ->
      (s'.base = s.base ∨ ∃ b, s'.base = some ⟨b, 0, none⟩ /\ w.heap.size <= b) -> K s' w') : APP e z bytes zs s x w K := by
  refine ⟨news, hrow, fun hroom => ?_, fun hgrow => ⟨hb, h63, vs, hown.rowAt, fun cap hcap hc63 => ?_⟩⟩
  · rcases hown.row with ⟨h1, h2⟩ | ⟨b, cs, h1, h2, h3, h4, h5⟩
    · have hx : x.len = 0 := by omega
      have hs : s.len = 0 := by omega
      rw [h1]
      have hn : news = [] := List.eq_nil_of_length_eq_zero (by rw [hnl, hx]; simp)
      have hv : vs = [] := List.eq_nil_of_length_eq_zero (by rw [hown.len, hs]; simp)
      subst hn; subst hv
      refine hK _ w ⟨by simp [hs, hx], by simpa using hroom, hown.top, .inl ⟨rfl, h2⟩⟩ rfl (Ext.refl _ _) (.inl h1.symm)
    · rw [h1]
      simp only [add_eq, Nat.zero_add]
      have hle : s.len * z + news.length <= cs.size := by
        rw [hnl, h4, <- Nat.add_mul]
        exact Nat.mul_le_mul_right _ hroom
      refine st_block news b (s.len * z) 0 cs w _ h3 (by simpa using hle) ho fun w' he hsz hb' => ?_
      refine hK _ w' ⟨by simp [hown.len, hnl, Nat.add_mul], hroom, hown.top, .inr ⟨b, _, rfl, h2, hb', ?_, ?_⟩⟩ rfl (he.mono fun i _ hi => ⟨_, h1, hi⟩) (.inl h1.symm)
      · simp only [Nat.add_zero, List.size_toArray, List.length_append, List.length_take, List.length_drop, Array.length_toList]
        omega
      · simp only [Nat.add_zero]
        rw [h5, List.append_assoc, <- List.append_assoc, Nat.add_mul, <- hnl, <- hown.len, <- List.length_append]
        exact List.take_left
  · refine hK _ _ ⟨by simp [hown.len, hnl, Nat.add_mul], hcap, hc63, .inr ⟨w.heap.size, _, rfl, hB, heap_alloc_new w.drew _, ?_, ?_⟩⟩ rfl ((Ext.drew _ w).trans' (Ext.alloc _ w.drew _)) (.inr ⟨_, rfl, Nat.le_refl _⟩)
    · simp only [Array.size_append, List.size_toArray, Builtin.zeroCells, Array.size_map, Array.size_range, hown.len, hnl, hz]
      rw [<- Nat.add_mul, <- Nat.add_mul]
      congr 1
      omega
    · simp only [Array.toList_append, Nat.add_mul]
      rw [<- hnl, <- hown.len, <- List.length_append]
      exact List.take_left
theorem own_new {w w' : World} {B t z n : Nat} {cells : List Value} (h : w'.heap[w.heap.size]? = some (.cells ⟨cells⟩ t)) (hl : cells.length = n * z) (hB : B <= w.heap.size) (hn : n < 9223372036854775808) :
    Own w' B t z ⟨some ⟨w.heap.size, 0, none⟩, n, n⟩ cells :=
  ⟨hl, Nat.le_refl _, hn, .inr ⟨_, _, rfl, hB, h, by simpa using hl, by rw [<- hl]; simp⟩⟩
theorem slB_zero (a : Option Addr) (c z : Nat) : slB a c 0 z = a := by
  unfold slB
  split
  · rfl
  · cases a <;> simp [add_zero]
theorem rowAt_take {w : World} {b : Option Addr} {n m : Nat} {l : List Value} (h : rowAt w b n l) (hm : m <= n) (hl : l.length = n) : rowAt w b m (l.take m) := by
  cases b with
  | none => have : l = [] := h; subst this; exact List.take_nil
  | some a =>
    refine ⟨by rw [List.length_take, hl]; omega, fun j v hj => h.2 j v ?_⟩
    rw [List.getElem?_take] at hj
    split at hj
    · exact hj
    · cases hj
theorem rowAt_drop {w : World} {b : Option Addr} {n len cap k z : Nat} {l : List Value} (h : rowAt w b n l) (hn : n = len * z) (hk : k <= len) (hlc : len <= cap) (hl : l.length = n) :
    rowAt w (slB b cap k z) ((len - k) * z) (l.drop (k * z)) := by
  have hlen : (l.drop (k * z)).length = (len - k) * z := by rw [List.length_drop, hl, hn, Nat.sub_mul]
  unfold slB
  split
  · rename_i hck
    have : len - k = 0 := by omega
    rw [this] at hlen ⊢
    have hnil : l.drop (k * z) = [] := List.eq_nil_of_length_eq_zero (by simpa using hlen)
    rw [hnil]
    cases b with
    | none => rfl
    | some a => exact ⟨by simp, by simp⟩
  · cases b with
    | none => have : l = [] := h; subst this; exact List.drop_nil
    | some a =>
      refine ⟨hlen, fun j v hj => ?_⟩
      rw [add_add]
      rw [List.getElem?_drop] at hj
      exact h.2 _ v hj
theorem LOOP_intro {σ : Type} {s0 : σ} {w0 : World} {body : σ -> (Nat -> Value) -> World -> (σ -> World -> Prop) -> Prop} (I : σ -> World -> Prop) (μ : σ -> World -> Nat) (h0 : I s0 w0)
    (h : ∀ s j w, I s w -> body s j w fun s' w' => I s' w' /\ μ s' w' < μ s w) : LOOP σ s0 w0 body := ⟨I, μ, h0, h⟩
theorem JOIN_intro {σ : Type} {first : (σ -> World -> Prop) -> Prop} {rest : σ -> (Nat -> Value) -> World -> Prop} (J : σ -> World -> Prop) (h1 : first J) (h2 : ∀ s j w, J s w -> rest s j w) : JOIN σ first rest := ⟨J, h1, h2⟩
theorem CND_intro {b : Bool} {T E : Prop} (h1 : b = true -> T) (h2 : b = false -> E) : CND b T E := CND_iff.2 ⟨h1, h2⟩
theorem CND_dec {p : Prop} [Decidable p] {T E : Prop} (h1 : p -> T) (h2 : ¬ p -> E) : CND (decide p) T E :=
  CND_iff.2 ⟨fun h => h1 (of_decide_eq_true h), fun h => h2 (of_decide_eq_false h)⟩
theorem LET_intro {α : Type} {e : α} {K : α -> Prop} (h : ∀ x, x = e -> K x) : LET e K := h e rfl
theorem u64_mod (n : Int) : u64 n = n % 18446744073709551616 := by simp [u64, IntKind.wrap, IntKind.bits, IntKind.signed]
theorem u64_id {n : Int} (h0 : 0 <= n) (h1 : n < 18446744073709551616) : u64 n = n := by rw [u64_mod]; omega
theorem i64_id {n : Int} (h0 : -9223372036854775808 <= n) (h1 : n < 9223372036854775808) : i64 n = n := IntWalk.i64_in n (by omega)
theorem minI_eq (a b : Int) : minI a b = min a b := by unfold minI; omega
theorem maxI_eq (a b : Int) : maxI a b = max a b := by unfold maxI; omega
end Go.Sh

set_option linter.all false
namespace Go.Sh
abbrev Iv := List (Int × Int)
def Ok : Iv -> Prop
  | [] => True
  | p :: r => 0 <= p.1 /\ p.1 < p.2 /\ p.2 < 18446744073709551616 /\ (∀ q ∈ r, p.2 < q.1) /\ Ok r
def mem (l : Iv) (n : Int) : Prop := ∃ p ∈ l, p.1 <= n /\ n < p.2
def posn : Iv -> Int -> Nat
  | [], _ => 0
  | p :: r, x => if p.2 <= x then posn r x + 1 else 0
def tot : Iv -> Int
  | [] => 0
  | p :: r => (p.2 - p.1) + tot r
def cnt1 (p : Int × Int) (a b : Int) : Int := max 0 (min p.2 b - max p.1 a)
def cnt : Iv -> Int -> Int -> Int
  | [], _, _ => 0
  | p :: r, a, b => cnt1 p a b + cnt r a b
def cut1 (p : Int × Int) (a b : Int) : Iv := (if p.1 < a then [(p.1, min p.2 a)] else []) ++ (if b < p.2 then [(max p.1 b, p.2)] else [])
def cutL : Iv -> Int -> Int -> Iv
  | [], _, _ => []
  | p :: r, a, b => cut1 p a b ++ cutL r a b
def addHi (l : Iv) (i : Nat) (b : Int) : Int × Nat := match l[i]? with
  | some q => if q.1 = b then (q.2, i + 1) else (b, i)
  | none => (b, i)
def addLo (l : Iv) (i : Nat) (a : Int) : Int × Nat := match i with
  | 0 => (a, 0)
  | i + 1 => match l[i]? with
    | some q => if q.2 = a then (q.1, i) else (a, i + 1)
    | none => (a, i + 1)
def insL (l : Iv) (a b : Int) : Iv :=
  l.take (addLo l (posn l a) a).2 ++ [((addLo l (posn l a) a).1, (addHi l (posn l a) b).1)] ++ l.drop (addHi l (posn l a) b).2
def addL (l : Iv) (a b : Int) : Iv := insL (cutL l a b) a b
theorem posn_le : ∀ (l : Iv) (x : Int), posn l x <= l.length
  | [], _ => Nat.le_refl _
  | p :: r, x => by unfold posn; split; · have := posn_le r x; simp; omega
                    · simp
theorem posn_before : ∀ (l : Iv) (x : Int) (i : Nat) (p : Int × Int), i < posn l x -> l[i]? = some p -> p.2 <= x
  | [], x, i, p, h, _ => by simp [posn] at h
  | q :: r, x, i, p, h, hp => by
    unfold posn at h
    split at h
    · rename_i hq
      cases i with
      | zero => simp at hp; subst hp; exact hq
      | succ i => exact posn_before r x i p (by omega) (by simpa using hp)
    · omega
theorem posn_at : ∀ (l : Iv) (x : Int) (p : Int × Int), l[posn l x]? = some p -> x < p.2
  | [], x, p, h => by simp at h
  | q :: r, x, p, h => by
    unfold posn at h
    split at h
    · exact posn_at r x p (by simpa using h)
    · simp at h; subst h; omega
theorem Ok.tail {p : Int × Int} {r : Iv} (h : Ok (p :: r)) : Ok r := h.2.2.2.2
theorem Ok.get : ∀ {l : Iv}, Ok l -> ∀ {i : Nat} {p : Int × Int}, l[i]? = some p -> 0 <= p.1 /\ p.1 < p.2 /\ p.2 < 18446744073709551616
  | [], _, i, p, h => by simp at h
  | q :: r, h, 0, p, hp => by simp at hp; subst hp; exact ⟨h.1, h.2.1, h.2.2.1⟩
  | q :: r, h, i + 1, p, hp => Ok.get h.tail (by simpa using hp)
theorem Ok.mem : ∀ {l : Iv}, Ok l -> ∀ {p : Int × Int}, p ∈ l -> 0 <= p.1 /\ p.1 < p.2 /\ p.2 < 18446744073709551616
  | [], _, p, h => by cases h
  | q :: r, h, p, hp => by
    rcases List.mem_cons.1 hp with rfl | hp
    · exact ⟨h.1, h.2.1, h.2.2.1⟩
    · exact Ok.mem h.tail hp
theorem Ok.lt : ∀ {l : Iv}, Ok l -> ∀ {i j : Nat} {p q : Int × Int}, i < j -> l[i]? = some p -> l[j]? = some q -> p.2 < q.1
  | [], _, i, j, p, q, _, h, _ => by simp at h
  | r :: l, h, 0, j + 1, p, q, _, hp, hq => by
    simp at hp; subst hp
    exact h.2.2.2.1 q (List.mem_of_getElem? (by simpa using hq))
  | r :: l, h, i + 1, j + 1, p, q, hij, hp, hq => Ok.lt (l := l) (i := i) (j := j) h.tail (by omega) (by simpa using hp) (by simpa using hq)
  | _ :: _, _, _, 0, _, _, hij, _, _ => by omega
theorem posn_after {l : Iv} (h : Ok l) (x : Int) {i : Nat} {p : Int × Int} (hi : posn l x <= i) (hp : l[i]? = some p) : x < p.2 := by
  rcases Nat.lt_or_ge (posn l x) i with hlt | hge
  · have hl : posn l x < l.length := by have := (List.getElem?_eq_some_iff.1 hp).1; omega
    have h1 := posn_at l x _ (List.getElem?_eq_getElem hl)
    have h2 := h.lt hlt (List.getElem?_eq_getElem hl) hp
    have h3 := h.get hp
    omega
  · have : i = posn l x := by omega
    subst this
    exact posn_at l x p hp
theorem mem_nil (n : Int) : ¬ mem [] n := by rintro ⟨p, hp, _⟩; cases hp
theorem mem_cons {p : Int × Int} {r : Iv} {n : Int} : mem (p :: r) n ↔ (p.1 <= n /\ n < p.2) ∨ mem r n := by
  constructor
  · rintro ⟨q, hq, h⟩
    rcases List.mem_cons.1 hq with rfl | hq
    · exact .inl h
    · exact .inr ⟨q, hq, h⟩
  · rintro (h | ⟨q, hq, h⟩)
    · exact ⟨p, by simp, h⟩
    · exact ⟨q, by simp [hq], h⟩
theorem mem_append {l m : Iv} {n : Int} : mem (l ++ m) n ↔ mem l n ∨ mem m n := by
  induction l with
  | nil => simp [mem_nil]
  | cons p r ih => simp [mem_cons, ih, or_assoc]
theorem mem_cut1 {p : Int × Int} {a b n : Int} (hab : a < b) : mem (cut1 p a b) n ↔ (p.1 <= n /\ n < p.2) /\ ¬ (a <= n /\ n < b) := by
  unfold cut1
  rw [mem_append]
  have h1 : mem (if p.1 < a then [(p.1, min p.2 a)] else []) n ↔ p.1 < a /\ p.1 <= n /\ n < min p.2 a := by
    split <;> rename_i h <;> simp [mem_cons, mem_nil, h]
  have h2 : mem (if b < p.2 then [(max p.1 b, p.2)] else []) n ↔ b < p.2 /\ max p.1 b <= n /\ n < p.2 := by
    split <;> rename_i h <;> simp [mem_cons, mem_nil, h]
  rw [h1, h2]
  omega
theorem mem_cutL {l : Iv} {a b n : Int} (hab : a < b) : mem (cutL l a b) n ↔ mem l n /\ ¬ (a <= n /\ n < b) := by
  induction l with
  | nil => simp [cutL, mem_nil]
  | cons p r ih =>
    simp only [cutL, mem_append, mem_cons, mem_cut1 hab, ih]
    constructor
    · rintro (⟨h1, h2⟩ | ⟨h1, h2⟩)
      · exact ⟨.inl h1, h2⟩
      · exact ⟨.inr h1, h2⟩
    · rintro ⟨h1 | h1, h2⟩
      · exact .inl ⟨h1, h2⟩
      · exact .inr ⟨h1, h2⟩
theorem Ok_append : ∀ {l m : Iv}, Ok (l ++ m) ↔ Ok l /\ Ok m /\ ∀ p ∈ l, ∀ q ∈ m, p.2 < q.1
  | [], m => by simp [Ok]
  | p :: r, m => by
    simp only [List.cons_append, Ok, Ok_append (l := r) (m := m), List.mem_append, List.mem_cons]
    constructor
    · rintro ⟨h1, h2, h3, h4, h5, h6, h7⟩
      refine ⟨⟨h1, h2, h3, fun q hq => h4 q (.inl hq), h5⟩, h6, ?_⟩
      rintro q (rfl | hq) q' hq'
      · exact h4 q' (.inr hq')
      · exact h7 q hq q' hq'
    · rintro ⟨⟨h1, h2, h3, h4, h5⟩, h6, h7⟩
      refine ⟨h1, h2, h3, ?_, h5, h6, fun q hq q' hq' => h7 q (.inr hq) q' hq'⟩
      rintro q (hq | hq)
      · exact h4 q hq
      · exact h7 p (.inl rfl) q hq
theorem cut1_within {p q : Int × Int} {a b : Int} (hq : q ∈ cut1 p a b) (hp : p.1 < p.2) (hab : a < b) : p.1 <= q.1 /\ q.2 <= p.2 /\ q.1 < q.2 := by
  unfold cut1 at hq
  rcases List.mem_append.1 hq with h | h
  · split at h
    · simp at h; subst h; simp only; omega
    · cases h
  · split at h
    · simp at h; subst h; simp only; omega
    · cases h
theorem cutL_within {l : Iv} {a b : Int} {q : Int × Int} (h : Ok l) (hab : a < b) (hq : q ∈ cutL l a b) : ∃ p ∈ l, p.1 <= q.1 /\ q.2 <= p.2 /\ q.1 < q.2 := by
  induction l with
  | nil => cases hq
  | cons p r ih =>
    rcases List.mem_append.1 hq with hq | hq
    · exact ⟨p, by simp, cut1_within hq h.2.1 hab⟩
    · obtain ⟨p', hp', h'⟩ := ih h.tail hq
      exact ⟨p', by simp [hp'], h'⟩
theorem Ok_cut1 {p : Int × Int} {a b : Int} (h0 : 0 <= p.1) (h1 : p.1 < p.2) (h2 : p.2 < 18446744073709551616) (hab : a < b) : Ok (cut1 p a b) := by
  unfold cut1
  split <;> split <;> simp [Ok] <;> omega
theorem Ok_cutL {l : Iv} {a b : Int} (h : Ok l) (hab : a < b) : Ok (cutL l a b) := by
  induction l with
  | nil => trivial
  | cons p r ih =>
    simp only [cutL, Ok_append]
    refine ⟨Ok_cut1 h.1 h.2.1 h.2.2.1 hab, ih h.tail, fun q hq q' hq' => ?_⟩
    have h1 := cut1_within hq h.2.1 hab
    obtain ⟨p', hp', h2⟩ := cutL_within h.tail hab hq'
    have h3 := h.2.2.2.1 p' hp'
    omega
theorem tot_append (l m : Iv) : tot (l ++ m) = tot l + tot m := by
  induction l with
  | nil => simp [tot]
  | cons p r ih => simp [tot, ih]; omega
theorem tot_cut1 {p : Int × Int} {a b : Int} (hp : p.1 < p.2) (hab : a < b) : tot (cut1 p a b) = p.2 - p.1 - cnt1 p a b := by
  unfold cut1 cnt1
  rw [tot_append]
  split <;> split <;> simp [tot] <;> omega
theorem tot_cutL {l : Iv} {a b : Int} (h : Ok l) (hab : a < b) : tot (cutL l a b) = tot l - cnt l a b := by
  induction l with
  | nil => simp [cutL, tot, cnt]
  | cons p r ih =>
    simp only [cutL, tot_append, tot, cnt, ih h.tail, tot_cut1 h.2.1 hab]
    omega
theorem tot_nonneg {l : Iv} (h : Ok l) : 0 <= tot l := by
  induction l with
  | nil => simp [tot]
  | cons p r ih => have := ih h.tail; have := h.2.1; simp only [tot]; omega
theorem tot_lt : ∀ {l : Iv} (h : Ok l) (B : Int), 0 <= B -> B < 18446744073709551616 -> (∀ p ∈ l, B <= p.1) -> B + tot l < 18446744073709551616
  | [], _, B, h0, h1, _ => by simp only [tot]; omega
  | p :: r, h, B, h0, h1, hB => by
    have h2 := hB p (by simp)
    have := tot_lt h.tail p.2 (by have := h.1; have := h.2.1; omega) h.2.2.1 (fun q hq => by have := h.2.2.2.1 q hq; omega)
    simp only [tot]
    omega
theorem tot_max {l : Iv} (h : Ok l) : tot l < 18446744073709551616 := by
  have := tot_lt h 0 (by omega) (by omega) (fun p hp => (h.mem hp).1)
  omega
theorem cnt_nonneg (l : Iv) (a b : Int) : 0 <= cnt l a b := by
  induction l with
  | nil => simp [cnt]
  | cons p r ih => simp only [cnt, cnt1]; omega
theorem cnt_append (l m : Iv) (a b : Int) : cnt (l ++ m) a b = cnt l a b + cnt m a b := by
  induction l with
  | nil => simp [cnt]
  | cons p r ih => simp [cnt, ih]; omega
theorem cnt_le_from : ∀ {l : Iv} (h : Ok l) {a b : Int}, a <= b -> ∀ c : Int, a <= c -> c <= b -> (∀ p ∈ l, c <= p.1) -> cnt l a b <= b - c
  | [], _, a, b, hab, c, _, hc, _ => by simp [cnt]; omega
  | p :: r, h, a, b, hab, c, hac, hcb, hB => by
    have h1 := hB p (by simp)
    simp only [cnt, cnt1]
    rcases Int.lt_or_le b p.2 with hb | hb
    · have : cnt r a b = 0 := by
        have : ∀ l : Iv, (∀ q ∈ l, b <= q.1) -> cnt l a b = 0 := by
          intro l
          induction l with
          | nil => intro _; rfl
          | cons q s ih =>
            intro hq
            have := hq q (by simp)
            have := ih fun q' hq' => hq q' (by simp [hq'])
            simp only [cnt, cnt1]; omega
        exact this r fun q hq => by have := h.2.2.2.1 q hq; omega
      omega
    · have := cnt_le_from h.tail hab p.2 (by have := h.2.1; omega) hb (fun q hq => by have := h.2.2.2.1 q hq; omega)
      have := h.2.1
      omega
theorem cnt_split : ∀ {l : Iv} (h : Ok l) {a b : Int}, a <= b -> cnt l a b <= b - a
  | [], _, a, b, hab => by simp [cnt]; omega
  | p :: r, h, a, b, hab => by
    have hp := h.2.1
    simp only [cnt, cnt1]
    have hz : (∀ q ∈ r, b <= q.1) -> cnt r a b = 0 := by
      intro hh
      have : ∀ l : Iv, (∀ q ∈ l, b <= q.1) -> cnt l a b = 0 := by
        intro l
        induction l with
        | nil => intro _; rfl
        | cons q s ih =>
          intro hq
          have := hq q (by simp)
          have := ih fun q' hq' => hq q' (by simp [hq'])
          simp only [cnt, cnt1]; omega
      exact this r hh
    rcases Int.lt_or_le p.2 a with h1 | h1
    · have := cnt_split h.tail hab
      omega
    · rcases Int.lt_or_le b p.2 with h2 | h2
      · have := hz fun q hq => by have := h.2.2.2.1 q hq; omega
        omega
      · have := cnt_le_from h.tail hab p.2 h1 h2 (fun q hq => by have := h.2.2.2.1 q hq; omega)
        omega
theorem cnt_zero_before {l : Iv} {a b : Int} (h : ∀ p ∈ l, p.2 <= a) : cnt l a b = 0 := by
  induction l with
  | nil => rfl
  | cons q s ih =>
    have := h q (by simp)
    have := ih fun q' hq' => h q' (by simp [hq'])
    simp only [cnt, cnt1]; omega
theorem cnt_zero_after {l : Iv} {a b : Int} (h : ∀ p ∈ l, b <= p.1) : cnt l a b = 0 := by
  induction l with
  | nil => rfl
  | cons q s ih =>
    have := h q (by simp)
    have := ih fun q' hq' => h q' (by simp [hq'])
    simp only [cnt, cnt1]; omega
theorem cutL_append (l m : Iv) (a b : Int) : cutL (l ++ m) a b = cutL l a b ++ cutL m a b := by
  induction l with
  | nil => rfl
  | cons p r ih => simp [cutL, ih]
theorem cutL_before {l : Iv} {a b : Int} (hab : a < b) (h : ∀ p ∈ l, p.1 < p.2 /\ p.2 <= a) : cutL l a b = l := by
  induction l with
  | nil => rfl
  | cons p r ih =>
    have hp := h p (by simp)
    simp only [cutL, ih fun q hq => h q (by simp [hq])]
    unfold cut1
    rw [if_pos (by omega), if_neg (by omega)]
    have : min p.2 a = p.2 := by omega
    rw [this]; rfl
theorem cutL_after {l : Iv} {a b : Int} (hab : a < b) (h : ∀ p ∈ l, p.1 < p.2 /\ b <= p.1) : cutL l a b = l := by
  induction l with
  | nil => rfl
  | cons p r ih =>
    have hp := h p (by simp)
    simp only [cutL, ih fun q hq => h q (by simp [hq])]
    unfold cut1
    rw [if_neg (by omega), if_pos (by omega)]
    have : max p.1 b = p.1 := by omega
    rw [this]; rfl
theorem posn_cut {l : Iv} {a : Int} : ∀ p ∈ l.take (posn l a), p.2 <= a := by
  intro p hp
  obtain ⟨i, hi, rfl⟩ := List.mem_iff_getElem.1 hp
  simp only [List.length_take] at hi
  rw [List.getElem_take]
  exact posn_before l a i _ (by omega) (List.getElem?_eq_getElem (by omega))
theorem cutL_parts {l : Iv} (h : Ok l) {a b : Int} (hab : a < b) {k : Nat} (hk : posn l a <= k) (hend : ∀ p, l[k]? = some p -> b <= p.1) :
    cutL l a b = l.take (posn l a) ++ cutL ((l.take k).drop (posn l a)) a b ++ l.drop k := by
  have h1 : l = l.take (posn l a) ++ (l.take k).drop (posn l a) ++ l.drop k := by
    have e1 : l.take k = (l.take k).take (posn l a) ++ (l.take k).drop (posn l a) := (List.take_append_drop _ _).symm
    rw [List.take_take, Nat.min_eq_left hk] at e1
    rw [<- e1, List.take_append_drop]
  have h2 : cutL (l.take (posn l a)) a b = l.take (posn l a) := cutL_before hab fun p hp => ⟨(h.mem (List.mem_of_mem_take hp)).2.1, posn_cut p hp⟩
  have h3 : cutL (l.drop k) a b = l.drop k := by
    refine cutL_after hab fun p hp => ⟨(h.mem (List.mem_of_mem_drop hp)).2.1, ?_⟩
    obtain ⟨i, hi, rfl⟩ := List.mem_iff_getElem.1 hp
    rw [List.getElem_drop]
    simp only [List.length_drop] at hi
    have hkl : k < l.length := by omega
    have h4 := hend _ (List.getElem?_eq_getElem hkl)
    rcases Nat.eq_zero_or_pos i with rfl | hi0
    · simpa using h4
    · have h5 := h.lt (i := k) (j := k + i) (by omega) (List.getElem?_eq_getElem hkl) (List.getElem?_eq_getElem (by omega))
      have h6 := h.get (List.getElem?_eq_getElem hkl)
      omega
  conv => lhs; rw [h1]
  rw [cutL_append, cutL_append, h2, h3]
def Clear (l : Iv) (a b : Int) : Prop := ∀ p ∈ l, p.2 <= a ∨ b <= p.1
theorem clear_cutL {l : Iv} {a b : Int} (h : Ok l) (hab : a < b) : Clear (cutL l a b) a b := by
  intro q hq
  have hm : mem (cutL l a b) q.1 := ⟨q, hq, by omega, ((Ok_cutL h hab).mem hq).2.1⟩
  have h1 := (mem_cutL hab).1 hm
  have h2 := (Ok_cutL h hab).mem hq
  rcases Int.lt_or_le q.1 a with hlt | hge
  · left
    rcases Int.lt_or_le a q.2 with h3 | h3
    · have : mem (cutL l a b) a := ⟨q, hq, by omega, h3⟩
      have := ((mem_cutL hab).1 this).2
      omega
    · exact h3
  · right; omega
theorem mem_split (l : Iv) (i : Nat) (n : Int) : mem l n ↔ mem (l.take i) n ∨ mem (l.drop i) n := by
  rw [<- mem_append, List.take_append_drop]
theorem drop_posn {l : Iv} (h : Ok l) {a b : Int} (hc : Clear l a b) : ∀ p ∈ l.drop (posn l a), b <= p.1 := by
  intro p hp
  obtain ⟨i, hi, rfl⟩ := List.mem_iff_getElem.1 hp
  rw [List.getElem_drop]
  simp only [List.length_drop] at hi
  have h1 := posn_after h a (i := posn l a + i) (by omega) (List.getElem?_eq_getElem (by omega))
  rcases hc _ (List.getElem_mem (l := l) (n := posn l a + i) (by omega)) with h2 | h2 <;> omega
theorem insL_spec {l : Iv} {a b : Int} (h : Ok l) (hab : a < b) (h0 : 0 <= a) (hb : b < 18446744073709551616) (hc : Clear l a b) :
    Ok (insL l a b) /\ (∀ n, mem (insL l a b) n ↔ mem l n ∨ (a <= n /\ n < b)) /\ tot (insL l a b) = tot l + (b - a) := by
  have hpl := posn_le l a
  obtain ⟨i, hi⟩ : ∃ i, i = posn l a := ⟨_, rfl⟩
  have hbef : ∀ p ∈ l.take i, p.2 <= a := by rw [hi]; exact posn_cut
  have haft : ∀ p ∈ l.drop i, b <= p.1 := by rw [hi]; exact drop_posn h hc
  have hsplit : l = l.take i ++ l.drop i := (List.take_append_drop i l).symm
  have hOk := h
  rw [hsplit, Ok_append] at hOk
  obtain ⟨hL, hR, hLR⟩ := hOk
  have key : ∀ (L M R N : Iv) (x y : Int), l.take i = L ++ M -> l.drop i = N ++ R -> x <= a -> b <= y -> 0 <= x -> y < 18446744073709551616 ->
      (∀ p ∈ L, p.2 < x) -> (∀ p ∈ R, y < p.1) -> (∀ n, (x <= n /\ n < y) ↔ mem M n ∨ (a <= n /\ n < b) ∨ mem N n) -> y - x = tot M + (b - a) + tot N ->
      insL l a b = L ++ [(x, y)] ++ R -> Ok (insL l a b) /\ (∀ n, mem (insL l a b) n ↔ mem l n ∨ (a <= n /\ n < b)) /\ tot (insL l a b) = tot l + (b - a) := by
    intro L M R N x y h1 h2 hx hy hx0 hy1 hl hr hmem htot he
    rw [he]
    rw [h1] at hL; rw [h2] at hR
    rw [Ok_append] at hL hR
    refine ⟨?_, fun n => ?_, ?_⟩
    · rw [Ok_append, Ok_append]
      refine ⟨⟨hL.1, ?_, ?_⟩, hR.2.1, ?_⟩
      · simp only [Ok]; refine ⟨hx0, by omega, hy1, by simp, trivial⟩
      · intro p hp q hq; simp at hq; subst hq; exact hl p hp
      · intro p hp q hq
        rcases List.mem_append.1 hp with hp | hp
        · have := hl p hp; have := hr q hq; omega
        · simp at hp; subst hp; exact hr q hq
    · rw [mem_append, mem_append, mem_split l i n, h1, h2, mem_append, mem_append]
      simp only [mem_cons, mem_nil, or_false]
      rw [hmem n]
      constructor
      · rintro ((h | h | h | h) | h)
        · exact .inl (.inl (.inl h))
        · exact .inl (.inl (.inr h))
        · exact .inr h
        · exact .inl (.inr (.inl h))
        · exact .inl (.inr (.inr h))
      · rintro (((h | h) | (h | h)) | h)
        · exact .inl (.inl h)
        · exact .inl (.inr (.inl h))
        · exact .inl (.inr (.inr (.inr h)))
        · exact .inr h
        · exact .inl (.inr (.inr (.inl h)))
    · have e1 := tot_append (l.take i) (l.drop i)
      rw [List.take_append_drop] at e1
      rw [e1, h1, h2]
      simp only [tot_append, tot]
      omega
  have hhi : (∃ q R, l.drop i = q :: R /\ q.1 = b /\ addHi l i b = (q.2, i + 1) /\ l.drop (i + 1) = R) ∨ ((∀ p ∈ l.drop i, b < p.1) /\ addHi l i b = (b, i)) := by
    unfold addHi
    rcases Nat.lt_or_ge i l.length with hlt | hge
    · have hg := List.getElem?_eq_getElem hlt
      rw [hg]
      have hd : l.drop i = l[i] :: l.drop (i + 1) := List.drop_eq_getElem_cons hlt
      by_cases hq : l[i].1 = b
      · exact .inl ⟨_, _, hd, hq, by simp [hq], rfl⟩
      · refine .inr ⟨?_, by simp [hq]⟩
        intro p hp
        rw [hd] at hp
        have hb1 : b <= l[i].1 := haft _ (by rw [hd]; exact List.mem_cons_self)
        rcases List.mem_cons.1 hp with rfl | hp
        · omega
        · have h2 := hR
          rw [hd] at h2
          have := h2.2.2.2.1 p hp
          have := h2.2.1
          omega
    · rw [List.getElem?_eq_none hge]
      refine .inr ⟨?_, rfl⟩
      rw [List.drop_eq_nil_of_le hge]; simp
  have hlo : (∃ q L, l.take i = L ++ [q] /\ q.2 = a /\ addLo l i a = (q.1, i - 1) /\ l.take (i - 1) = L) ∨ ((∀ p ∈ l.take i, p.2 < a) /\ addLo l i a = (a, i)) := by
    unfold addLo
    cases i with
    | zero => exact .inr ⟨by simp, rfl⟩
    | succ j =>
      have hlt : j < l.length := by omega
      have hg := List.getElem?_eq_getElem hlt
      simp only [hg]
      have ht : l.take (j + 1) = l.take j ++ [l[j]] := List.take_succ_eq_append_getElem hlt
      by_cases hq : l[j].2 = a
      · exact .inl ⟨_, _, ht, hq, by simp [hq], rfl⟩
      · refine .inr ⟨?_, by simp [hq]⟩
        intro p hp
        have hb1 : l[j].2 <= a := hbef _ (by rw [ht]; exact List.mem_append_right _ List.mem_cons_self)
        rw [ht] at hp
        rcases List.mem_append.1 hp with hp | hp
        · have h2 := hL
          rw [ht, Ok_append] at h2
          have := h2.2.2 p hp l[j] (by simp)
          have := h2.2.1.2.1
          omega
        · simp at hp; subst hp; omega
  have hins : insL l a b = l.take (addLo l i a).2 ++ [((addLo l i a).1, (addHi l i b).1)] ++ l.drop (addHi l i b).2 := by rw [hi]; rfl
  rcases hlo with ⟨q, L, h1, h2, h3, h4⟩ | ⟨h1, h3⟩ <;> rcases hhi with ⟨q', R, h5, h6, h7, h8⟩ | ⟨h5, h7⟩
  · rw [h3, h7] at hins; simp only [h4, h8] at hins
    have hq : q ∈ l.take i := by rw [h1]; simp
    have hq' : q' ∈ l.drop i := by rw [h5]; simp
    have g1 := hL.mem hq
    have g2 := hR.mem hq'
    refine key L [q] R [q'] q.1 q'.2 h1 h5 (by omega) (by omega) (by omega) (by omega) ?_ ?_ ?_ ?_ hins
    · rw [h1, Ok_append] at hL; intro p hp; exact hL.2.2 p hp q (by simp)
    · rw [h5] at hR; exact hR.2.2.2.1
    · intro n; simp only [mem_cons, mem_nil, or_false]; omega
    · simp only [tot]; omega
  · rw [h3, h7] at hins; simp only [h4] at hins
    have hq : q ∈ l.take i := by rw [h1]; simp
    have g1 := hL.mem hq
    refine key L [q] (l.drop i) [] q.1 b h1 rfl (by omega) (by omega) (by omega) hb ?_ h5 ?_ ?_ hins
    · rw [h1, Ok_append] at hL; intro p hp; exact hL.2.2 p hp q (by simp)
    · intro n; simp only [mem_cons, mem_nil, or_false]; omega
    · simp only [tot]; omega
  · rw [h3, h7] at hins; simp only [h8] at hins
    have hq' : q' ∈ l.drop i := by rw [h5]; simp
    have g2 := hR.mem hq'
    refine key (l.take i) [] R [q'] a q'.2 (by simp) h5 (by omega) (by omega) h0 (by omega) h1 ?_ ?_ ?_ hins
    · rw [h5] at hR; exact hR.2.2.2.1
    · intro n; simp only [mem_cons, mem_nil, or_false, false_or]; omega
    · simp only [tot]; omega
  · rw [h3, h7] at hins
    refine key (l.take i) [] (l.drop i) [] a b (by simp) rfl (by omega) (by omega) h0 hb h1 h5 ?_ ?_ hins
    · intro n; simp only [mem_nil, or_false, false_or]
    · simp only [tot]; omega
theorem addL_spec {l : Iv} {a b : Int} (h : Ok l) (hab : a < b) (h0 : 0 <= a) (hb : b < 18446744073709551616) :
    Ok (addL l a b) /\ (∀ n, mem (addL l a b) n ↔ mem l n ∨ (a <= n /\ n < b)) /\ tot (addL l a b) = tot l - cnt l a b + (b - a) := by
  obtain ⟨h1, h2, h3⟩ := insL_spec (Ok_cutL h hab) hab h0 hb (clear_cutL h hab)
  refine ⟨h1, fun n => ?_, by rw [addL, h3, tot_cutL h hab]⟩
  rw [addL, h2, mem_cutL hab]
  constructor
  · rintro (⟨h, _⟩ | h)
    · exact .inl h
    · exact .inr h
  · rintro (h | h)
    · by_cases hn : a <= n /\ n < b
      · exact .inr hn
      · exact .inl ⟨h, hn⟩
    · exact .inr h
end Go.Sh

set_option linter.all false
set_option maxRecDepth 4000
namespace Go.Sh
theorem drop_get {α : Type} {l : List α} {k : Nat} {x : α} (h : l[k]? = some x) : l.drop k = x :: l.drop (k + 1) := by
  obtain ⟨hlt, rfl⟩ := List.getElem?_eq_some_iff.1 h
  exact List.drop_eq_getElem_cons hlt
theorem cnt1_add {p : Int × Int} {a m b : Int} (hp : p.1 < p.2) (h1 : a <= m) (h2 : m <= b) : cnt1 p a b = cnt1 p a m + cnt1 p m b := by
  unfold cnt1; omega
theorem cnt_add : ∀ {l : Iv}, (∀ p ∈ l, p.1 < p.2) -> ∀ {a m b : Int}, a <= m -> m <= b -> cnt l a b = cnt l a m + cnt l m b
  | [], _, a, m, b, _, _ => rfl
  | p :: r, h, a, m, b, h1, h2 => by
    simp only [cnt]
    rw [cnt_add (fun q hq => h q (List.mem_cons_of_mem _ hq)) h1 h2, cnt1_add (h p List.mem_cons_self) h1 h2]
    omega
theorem cnt_pos : ∀ {l : Iv}, (∀ p ∈ l, p.1 < p.2) -> ∀ {a : Int}, 0 < cnt l a (a + 1) ↔ mem l a
  | [], _, a => by simp [cnt, mem]
  | p :: r, h, a => by
    have ih := cnt_pos (l := r) (fun q hq => h q (List.mem_cons_of_mem _ hq)) (a := a)
    have h0 := cnt_nonneg r a (a + 1)
    have hp := h p List.mem_cons_self
    rw [mem_cons, <- ih]
    simp only [cnt]
    unfold cnt1
    omega
theorem cnt_full {l : Iv} (h : Ok l) {a b : Int} (hab : a <= b) : cnt l a b = b - a ↔ ∀ n, a <= n -> n < b -> mem l n := by
  have hlt : ∀ p ∈ l, p.1 < p.2 := fun p hp => (h.mem hp).2.1
  obtain ⟨k, hk⟩ : ∃ k : Nat, b = a + k := ⟨(b - a).toNat, by omega⟩
  subst hk
  induction k with
  | zero =>
    have h1 := cnt_split h (a := a) (b := a + (0 : Nat)) hab
    have h2 := cnt_nonneg l a (a + (0 : Nat))
    constructor
    · intro _ n h1 h2; omega
    · intro _; omega
  | succ k ih =>
    have ih := ih (by omega)
    have e := cnt_add hlt (a := a) (m := a + (k : Nat)) (b := a + ((k + 1 : Nat) : Int)) (by omega) (by omega)
    have h1 := cnt_split h (a := a) (b := a + (k : Nat)) (by omega)
    have h2 := cnt_split h (a := a + (k : Nat)) (b := a + (k : Nat) + 1) (by omega)
    have hpos := cnt_pos hlt (a := a + (k : Nat))
    have e2 : a + ((k + 1 : Nat) : Int) = a + (k : Nat) + 1 := by omega
    rw [e2] at e ⊢
    constructor
    · intro he n hn1 hn2
      by_cases hn : n = a + (k : Nat)
      · subst hn; exact hpos.1 (by omega)
      · exact ih.1 (by omega) n hn1 (by omega)
    · intro hall
      have := ih.2 fun n h1 h2 => hall n h1 (by omega)
      have := hpos.2 (hall _ (by omega) (by omega))
      omega
end Go.Sh

set_option linter.all false
namespace Go.Sh
theorem Ok.lts {l : Iv} (h : Ok l) : ∀ p ∈ l, p.1 < p.2 := fun p hp => (h.mem hp).2.1
theorem cnt_none {l : Iv} (h : Ok l) {a b : Int} (hab : a <= b) : cnt l a b = 0 ↔ ∀ n, a <= n -> n < b -> ¬ mem l n := by
  obtain ⟨k, hk⟩ : ∃ k : Nat, b = a + k := ⟨(b - a).toNat, by omega⟩
  subst hk
  induction k with
  | zero =>
    have h1 := cnt_split h (a := a) (b := a + (0 : Nat)) hab
    have h2 := cnt_nonneg l a (a + (0 : Nat))
    exact ⟨fun _ n h1 h2 => by omega, fun _ => by omega⟩
  | succ k ih =>
    have ih := ih (by omega)
    have e := cnt_add h.lts (a := a) (m := a + (k : Nat)) (b := a + ((k + 1 : Nat) : Int)) (by omega) (by omega)
    have h1 := cnt_nonneg l a (a + (k : Nat))
    have h2 := cnt_nonneg l (a + (k : Nat)) (a + (k : Nat) + 1)
    have hpos := cnt_pos h.lts (a := a + (k : Nat))
    have e2 : a + ((k + 1 : Nat) : Int) = a + (k : Nat) + 1 := by omega
    rw [e2] at e ⊢
    constructor
    · intro he n hn1 hn2 hm
      by_cases hn : n = a + (k : Nat)
      · subst hn; have := hpos.2 hm; omega
      · exact ih.1 (by omega) n hn1 (by omega) hm
    · intro hall
      have := ih.2 fun n h1 h2 => hall n h1 (by omega)
      have : ¬ 0 < cnt l (a + (k : Nat)) (a + (k : Nat) + 1) := fun hp => hall _ (by omega) (by omega) (hpos.1 hp)
      omega
theorem mem_addL {l : Iv} (h : Ok l) {a b : Int} (hab : a < b) (h0 : 0 <= a) (hb : b < 18446744073709551616) (n : Int) : mem (addL l a b) n ↔ mem l n ∨ (a <= n /\ n < b) :=
  (addL_spec h hab h0 hb).2.1 n
theorem mem_pos {l : Iv} (h : Ok l) {n : Int} (hm : mem l n) : 0 <= n := by
  obtain ⟨p, hp, h1, h2⟩ := hm
  have := (h.mem hp).1
  omega
theorem mem_run {l : Iv} (h : Ok l) : ∀ {a b : Int}, a < b -> (∀ n, a <= n -> n < b -> mem l n) -> ∃ q ∈ l, q.1 <= a /\ b <= q.2 := by
  induction l with
  | nil => intro a b hab hm; exact absurd (hm a (Int.le_refl _) hab) (mem_nil _)
  | cons p r ih =>
    intro a b hab hm
    by_cases h1 : p.1 <= a /\ a < p.2
    · by_cases h2 : b <= p.2
      · exact ⟨p, List.mem_cons_self, h1.1, h2⟩
      · have hq := hm p.2 (by omega) (by omega)
        rcases mem_cons.1 hq with h3 | ⟨q, hq, h3, h4⟩
        · omega
        · have := h.2.2.2.1 q hq; omega
    · have hlt : ∀ n, a <= n -> n < b -> mem r n := by
        intro n hn1 hn2
        rcases mem_cons.1 (hm n hn1 hn2) with h3 | h3
        · exfalso
          have ha := hm a (Int.le_refl _) hab
          rcases mem_cons.1 ha with h4 | ⟨q, hq, h4, h5⟩
          · exact h1 h4
          · have := h.2.2.2.1 q hq; omega
        · exact h3
      obtain ⟨q, hq, h3⟩ := ih h.tail hab hlt
      exact ⟨q, List.mem_cons_of_mem _ hq, h3⟩
theorem Ok_ext : ∀ {l m : Iv}, Ok l -> Ok m -> (∀ n, mem l n ↔ mem m n) -> l = m
  | [], [], _, _, _ => rfl
  | [], q :: m, _, hm, h => absurd ((h q.1).2 (mem_cons.2 (.inl ⟨by omega, hm.2.1⟩))) (mem_nil _)
  | p :: l, [], hl, _, h => absurd ((h p.1).1 (mem_cons.2 (.inl ⟨by omega, hl.2.1⟩))) (mem_nil _)
  | p :: l, q :: m, hl, hm, h => by
    have first : ∀ {p q : Int × Int} {l m : Iv}, Ok (p :: l) -> Ok (q :: m) -> (∀ n, mem (p :: l) n -> mem (q :: m) n) -> q.1 <= p.1 /\ (p.1 <= q.1 -> p.2 <= q.2) := by
      intro p q l m hl hm h
      constructor
      · rcases mem_cons.1 (h p.1 (mem_cons.2 (.inl ⟨by omega, hl.2.1⟩))) with h1 | ⟨r, hr, h1, h2⟩
        · exact h1.1
        · have := hm.2.2.2.1 r hr; have := hm.2.1; omega
      · intro hle
        obtain ⟨r, hr, h1, h2⟩ := mem_run hm (a := p.1) (b := p.2) hl.2.1 fun n h1 h2 => h n (mem_cons.2 (.inl ⟨h1, h2⟩))
        rcases List.mem_cons.1 hr with rfl | hr
        · exact h2
        · have := hm.2.2.2.1 r hr; have := hm.2.1; omega
    have h1 := first hl hm fun n => (h n).1
    have h2 := first hm hl fun n => (h n).2
    have e1 : p.1 = q.1 := by omega
    have e2 : p.2 = q.2 := by have := h1.2 (by omega); have := h2.2 (by omega); omega
    have e : p = q := Prod.ext e1 e2
    subst e
    rw [Ok_ext hl.tail hm.tail]
    intro n
    have hn := h n
    rw [mem_cons, mem_cons] at hn
    constructor
    · rintro ⟨r, hr, h3, h4⟩
      rcases hn.1 (.inr ⟨r, hr, h3, h4⟩) with h5 | h5
      · have := hl.2.2.2.1 r hr; omega
      · exact h5
    · rintro ⟨r, hr, h3, h4⟩
      rcases hn.2 (.inr ⟨r, hr, h3, h4⟩) with h5 | h5
      · have := hm.2.2.2.1 r hr; omega
      · exact h5
theorem cnt_succ {l : Iv} (h : Ok l) {a k : Int} (hk : a <= k) : (mem l k -> cnt l a (k + 1) = cnt l a k + 1) /\ (¬ mem l k -> cnt l a (k + 1) = cnt l a k) := by
  have h1 := cnt_add (Ok.lts h) hk (show k <= k + 1 by omega)
  have h2 := cnt_pos (Ok.lts h) (a := k)
  have h3 := cnt_split h (show k <= k + 1 by omega)
  have h4 := cnt_nonneg l k (k + 1)
  constructor
  · intro hm; have := h2.2 hm; omega
  · intro hm
    have : ¬ 0 < cnt l k (k + 1) := fun e => hm (h2.1 e)
    omega
theorem cnt_all : ∀ {l : Iv}, (∀ p ∈ l, p.1 < p.2) -> ∀ {a b : Int}, (∀ n, mem l n -> a <= n /\ n < b) -> cnt l a b = tot l
  | [], _, a, b, _ => rfl
  | p :: r, h, a, b, hin => by
    have hp := h p List.mem_cons_self
    have h1 := hin p.1 (mem_cons.2 (.inl ⟨by omega, hp⟩))
    have h2 := hin (p.2 - 1) (mem_cons.2 (.inl ⟨by omega, by omega⟩))
    have ih := cnt_all (l := r) (fun q hq => h q (List.mem_cons_of_mem _ hq)) (a := a) (b := b) fun n hn => hin n (mem_cons.2 (.inr hn))
    simp only [cnt, tot, cnt1, ih]
    omega
end Go.Sh

set_option linter.all false
namespace Go.Sh
def aget : List (Int × Value) -> Int -> Option Value
  | [], _ => none
  | p :: r, n => if p.1 = n then some p.2 else aget r n
structure MapI (k : IntKind) (es : Array MapEntry) (clock : Nat) (m : List (Int × Value)) : Prop where
  keys : es.toList.map (fun e => (e.key, e.val)) = m.map (fun p => (Value.int k p.1, p.2))
  nodup : (m.map (·.1)).Nodup
  born : (es.toList.map (·.born)).Nodup
  lt : ∀ e ∈ es.toList, e.born < clock
theorem MapI.empty (k : IntKind) : MapI k #[] 0 [] := ⟨rfl, by simp, by simp, by simp⟩
theorem sameNow_int (k : IntKind) (a b : Int) : Instr.sameNow (.int k) (.int k a) (.int k b) = some (a == b) := by simp [Instr.sameNow]
theorem findNow_list (k : IntKind) (n : Int) : ∀ (es : List MapEntry) (m : List (Int × Value)) (i : Nat), es.map (fun e => (e.key, e.val)) = m.map (fun p => (Value.int k p.1, p.2)) ->
    ∃ res, Instr.findNow (.int k) (.int k n) es i = some res /\
      ((res = none /\ aget m n = none) ∨ ∃ j v, res = some (i + j, v) /\ aget m n = some v /\ m[j]? = some (n, v) /\ j < es.length)
  | [], [], i, _ => ⟨none, rfl, .inl ⟨rfl, rfl⟩⟩
  | [], _ :: _, i, h => by simp at h
  | _ :: _, [], i, h => by simp at h
  | e :: r, p :: m, i, h => by
    simp only [List.map_cons, List.cons.injEq, Prod.mk.injEq] at h
    obtain ⟨⟨hk, hv⟩, hr⟩ := h
    simp only [Instr.findNow, hk, sameNow_int]
    by_cases hn : n = p.1
    · subst hn
      simp only [beq_self_eq_true]
      refine ⟨_, rfl, .inr ⟨0, p.2, by simp [hv], by simp [aget], by simp, by simp⟩⟩
    · have : (n == p.1) = false := by simp [hn]
      simp only [this]
      obtain ⟨res, h1, h2⟩ := findNow_list k n r m (i + 1) hr
      refine ⟨res, h1, ?_⟩
      rcases h2 with ⟨h3, h4⟩ | ⟨j, v, h3, h4, h5, h6⟩
      · exact .inl ⟨h3, by simp [aget, Ne.symm hn, h4]⟩
      · refine .inr ⟨j + 1, v, by rw [h3]; congr 2; omega, by simp [aget, Ne.symm hn, h4], by simpa using h5, by simp; omega⟩
theorem MapI.find {k : IntKind} {es : Array MapEntry} {c : Nat} {m : List (Int × Value)} (h : MapI k es c m) (n : Int) :
    ∃ res, findI k n es res /\ ((res = none /\ aget m n = none) ∨ ∃ j v, res = some (j, v) /\ aget m n = some v /\ m[j]? = some (n, v) /\ j < es.size) := by
  obtain ⟨res, h1, h2⟩ := findNow_list k n es.toList m 0 h.keys
  refine ⟨res, h1, ?_⟩
  rcases h2 with h2 | ⟨j, v, h3, h4, h5, h6⟩
  · exact .inl h2
  · exact .inr ⟨j, v, by simpa using h3, h4, h5, by simpa using h6⟩
theorem LKP_intro {k : IntKind} {n : Int} {b : Nat} {w : World} {z : Value} {K : Value -> Bool -> Array MapEntry -> Prop} {es : Array MapEntry} {c : Nat} {m : List (Int × Value)}
    (hb : w.heap[b]? = some (.map es c)) (h : MapI k es c m) (hK : K ((aget m n).getD z) (aget m n).isSome es) : LKP k n (some b) w z K := by
  obtain ⟨res, h1, h2⟩ := h.find n
  refine ⟨es, res, ⟨c, hb⟩, h1, ?_⟩
  rcases h2 with ⟨rfl, h3⟩ | ⟨j, v, rfl, h3, _⟩
  · rw [h3] at hK; exact hK
  · rw [h3] at hK; exact hK
theorem aget_append_none {m : List (Int × Value)} {n : Int} {q : List (Int × Value)} (h : aget m n = none) : aget (m ++ q) n = aget q n := by
  induction m with
  | nil => rfl
  | cons p r ih =>
    simp only [aget] at h
    split at h
    · cases h
    · rename_i hp; simp [aget, hp, ih h]
theorem aget_none_iff {m : List (Int × Value)} {n : Int} : aget m n = none ↔ n ∉ m.map (·.1) := by
  induction m with
  | nil => simp [aget]
  | cons p r ih =>
    simp only [aget, List.map_cons, List.mem_cons, not_or]
    split
    · rename_i h; simp [h]
    · rename_i h; rw [ih]; exact ⟨fun h2 => ⟨fun e => h e.symm, h2⟩, fun h2 => h2.2⟩
theorem aget_append_some {m q : List (Int × Value)} {n : Int} {v : Value} (h : aget m n = some v) : aget (m ++ q) n = some v := by
  induction m with
  | nil => cases h
  | cons p r ih =>
    simp only [aget] at h
    by_cases hp : p.1 = n
    · rw [if_pos hp] at h; simp [aget, hp, h]
    · rw [if_neg hp] at h; simp [aget, hp, ih h]
theorem aget_set {m : List (Int × Value)} {n : Int} {v : Value} {j : Nat} {u : Value} (hj : m[j]? = some (n, u)) (hn : (m.map (·.1)).Nodup) :
    (∀ i, aget (m.set j (n, v)) i = if i = n then some v else aget m i) /\ (m.set j (n, v)).map (·.1) = m.map (·.1) := by
  induction m generalizing j with
  | nil => simp at hj
  | cons p r ih =>
    cases j with
    | zero =>
      simp at hj
      subst hj
      refine ⟨fun i => ?_, by simp⟩
      simp only [List.set_cons_zero, aget]
      by_cases h : n = i
      · simp [h]
      · simp [h, Ne.symm h]
    | succ j =>
      simp only [List.map_cons, List.nodup_cons] at hn
      obtain ⟨h1, h2⟩ := ih (by simpa using hj) hn.2
      have hmem : n ∈ r.map (·.1) := List.mem_map.2 ⟨_, List.mem_of_getElem? (by simpa using hj), rfl⟩
      have hne : p.1 ≠ n := fun e => hn.1 (e ▸ hmem)
      refine ⟨fun i => ?_, by simp only [List.set_cons_succ, List.map_cons, h2]⟩
      simp only [List.set_cons_succ, aget, h1]
      by_cases h : p.1 = i
      · simp only [h, if_true]
        rw [if_neg]
        intro e; exact hne (h.trans e)
      · simp [h]
theorem MapI.put {k : IntKind} {es : Array MapEntry} {c : Nat} {m : List (Int × Value)} (h : MapI k es c m) (n : Int) (v : Value) {res : Option (Nat × Value)} (hf : findI k n es res) :
    ∃ es' c' m', mapPut es c (.int k n) v res = .map es' c' /\ MapI k es' c' m' /\ (∀ i, aget m' i = if i = n then some v else aget m i) /\ m'.length <= m.length + 1 /\
      (aget m n = none -> m'.length = m.length + 1) /\ (aget m n ≠ none -> m'.length = m.length) := by
  obtain ⟨res', h1, h2⟩ := h.find n
  have : res' = res := by unfold findI at h1 hf; rw [h1] at hf; exact Option.some.inj hf
  subst this
  rcases h2 with ⟨rfl, h3⟩ | ⟨j, u, rfl, h3, h4, h5⟩
  · refine ⟨_, _, m ++ [(n, v)], rfl, ⟨?_, ?_, ?_, ?_⟩, fun i => ?_, by simp, by simp, fun h => absurd h3 h⟩
    · simp [h.keys]
    · rw [List.map_append, List.nodup_append]
      refine ⟨h.nodup, by simp, fun a ha b hb => ?_⟩
      simp at hb
      subst hb
      intro e; subst e
      exact aget_none_iff.1 h3 ha
    · simp only [Array.toList_push, List.map_append, List.nodup_append]
      refine ⟨h.born, by simp, fun a ha b hb => ?_⟩
      simp at hb
      obtain ⟨e, he, rfl⟩ := List.mem_map.1 ha
      have := h.lt e he
      omega
    · intro e he
      simp only [Array.toList_push, List.mem_append, List.mem_singleton] at he
      rcases he with he | rfl
      · have := h.lt e he; omega
      · simp
    · by_cases hi : i = n
      · subst hi; rw [if_pos rfl, aget_append_none h3]; simp [aget]
      · rw [if_neg hi]
        cases hg : aget m i with
        | none => rw [aget_append_none hg]; simp [aget, Ne.symm hi]
        | some u => exact aget_append_some hg
  · obtain ⟨g1, g2⟩ := aget_set (v := v) h4 h.nodup
    refine ⟨_, _, m.set j (n, v), rfl, ⟨?_, by rw [g2]; exact h.nodup, ?_, ?_⟩, g1, by simp, (fun h => by rw [h3] at h; cases h), fun _ => by simp⟩
    · apply List.ext_getElem?
      intro i
      have hk := congrArg (fun l => l[i]?) h.keys
      simp only [List.getElem?_map, Array.getElem?_toList] at hk ⊢
      simp only [Array.getElem?_modify, List.getElem?_set]
      by_cases hij : j = i
      · subst hij
        have hlt : j < m.length := by have := (List.getElem?_eq_some_iff.1 h4).1; exact this
        simp [Array.getElem?_eq_getElem h5, hlt]
      · simp only [hij, if_false]
        exact hk
    · have : (es.modify j fun e => { e with key := .int k n, val := v }).toList.map (·.born) = es.toList.map (·.born) := by
        apply List.ext_getElem?
        intro i
        simp only [List.getElem?_map, Array.getElem?_toList, Array.getElem?_modify]
        split
        · cases es[i]? <;> simp
        · rfl
      rw [this]; exact h.born
    · intro e he
      obtain ⟨i, hi, rfl⟩ := List.mem_iff_getElem.1 he
      simp only [Array.getElem_toList, Array.getElem_modify]
      have hi' : i < es.size := by simpa using hi
      split
      · exact h.lt es[i] (by simp)
      · exact h.lt es[i] (by simp)
theorem MUPD_intro {k : IntKind} {n : Int} {v : Value} {b : Nat} {w : World} {K : World -> Prop} {es : Array MapEntry} {c : Nat} {m : List (Int × Value)}
    (hb : w.heap[b]? = some (.map es c)) (h : MapI k es c m)
    (hK : ∀ w' es' c' m', w'.heap[b]? = some (.map es' c') -> MapI k es' c' m' -> (∀ i, aget m' i = if i = n then some v else aget m i) -> m'.length <= m.length + 1 ->
      (aget m n = none -> m'.length = m.length + 1) -> (aget m n ≠ none -> m'.length = m.length) -> Ext (Only b) w w' -> w'.heap.size = w.heap.size -> K w') : MUPD k n v (some b) w K := by
  obtain ⟨res, h1, _⟩ := h.find n
  refine ⟨b, es, c, res, rfl, hb, h1, ?_⟩
  obtain ⟨es', c', m', h2, h3, h4, h5, h6, h7⟩ := h.put n v h1
  rw [h2]
  have hlt := block_lt hb
  exact hK _ es' c' m' (by simp [World.setO, hlt]) h3 h4 h5 h6 h7 (Ext.setO w b _) (by simp [World.setO])
theorem map_eraseIdx' {α β : Type} (f : α -> β) : ∀ (l : List α) (j : Nat), (l.eraseIdx j).map f = (l.map f).eraseIdx j
  | [], j => by simp
  | x :: r, 0 => by simp
  | x :: r, j + 1 => by simp [map_eraseIdx' f r j]
theorem aget_erase {m : List (Int × Value)} {n : Int} {j : Nat} {u : Value} (hj : m[j]? = some (n, u)) (hn : (m.map (·.1)).Nodup) :
    (∀ i, aget (m.eraseIdx j) i = if i = n then none else aget m i) /\ ((m.eraseIdx j).map (·.1)).Nodup := by
  refine ⟨?_, ?_⟩
  · induction m generalizing j with
    | nil => simp at hj
    | cons p r ih =>
      simp only [List.map_cons, List.nodup_cons] at hn
      cases j with
      | zero =>
        simp at hj
        subst hj
        intro i
        simp only [List.eraseIdx_cons_zero, aget]
        by_cases h : n = i
        · subst h; simp; exact aget_none_iff.2 hn.1
        · simp [h, Ne.symm h]
      | succ j =>
        have hmem : n ∈ r.map (·.1) := List.mem_map.2 ⟨_, List.mem_of_getElem? (by simpa using hj), rfl⟩
        have hne : p.1 ≠ n := fun e => hn.1 (e ▸ hmem)
        intro i
        simp only [List.eraseIdx_cons_succ, aget]
        rw [ih (by simpa using hj) hn.2 i]
        by_cases h : p.1 = i
        · simp only [h, if_true]
          rw [if_neg]
          intro e; exact hne (h.trans e)
        · simp [h]
  · rw [map_eraseIdx']
    exact hn.sublist (List.eraseIdx_sublist _ _)
theorem MapI.del {k : IntKind} {es : Array MapEntry} {c : Nat} {m : List (Int × Value)} (h : MapI k es c m) (n : Int) {res : Option (Nat × Value)} (hf : findI k n es res) :
    ∃ es' m', mapDel es c res = .map es' c /\ MapI k es' c m' /\ (∀ i, aget m' i = if i = n then none else aget m i) /\ m'.length <= m.length /\ es'.toList.Sublist es.toList /\
      (∀ e ∈ es.toList, e.key ≠ .int k n -> e ∈ es'.toList) := by
  obtain ⟨res', h1, h2⟩ := h.find n
  have : res' = res := by unfold findI at h1 hf; rw [h1] at hf; exact Option.some.inj hf
  subst this
  rcases h2 with ⟨rfl, h3⟩ | ⟨j, u, rfl, h3, h4, h5⟩
  · refine ⟨es, m, rfl, h, fun i => ?_, Nat.le_refl _, List.Sublist.refl _, fun _ h _ => h⟩
    by_cases hi : i = n
    · subst hi; simp [h3]
    · simp [hi]
  · obtain ⟨g1, g2⟩ := aget_erase h4 h.nodup
    have he : (es.eraseIdxIfInBounds j).toList = es.toList.eraseIdx j := by simp
    refine ⟨_, m.eraseIdx j, rfl, ⟨?_, g2, ?_, ?_⟩, g1, List.length_eraseIdx_le _ _, ?_, ?_⟩
    · rw [he, map_eraseIdx', map_eraseIdx', h.keys]
    · rw [he, map_eraseIdx']; exact h.born.sublist (List.eraseIdx_sublist _ _)
    · intro e hm; rw [he] at hm; exact h.lt e (List.mem_of_mem_eraseIdx hm)
    · rw [he]; exact List.eraseIdx_sublist _ _
    · intro e hm hk
      rw [he, List.mem_eraseIdx_iff_getElem?]
      obtain ⟨i, hi⟩ := List.mem_iff_getElem?.1 hm
      refine ⟨i, ?_, hi⟩
      intro e2; subst e2
      have hkk := congrArg (fun l => l[i]?) h.keys
      simp only [List.getElem?_map, hi, h4, Option.map_some, Option.some.injEq, Prod.mk.injEq] at hkk
      exact hk hkk.1
theorem MDEL_intro {k : IntKind} {n : Int} {b : Nat} {w : World} {K : World -> Prop} {es : Array MapEntry} {c : Nat} {m : List (Int × Value)}
    (hb : w.heap[b]? = some (.map es c)) (h : MapI k es c m)
    (hK : ∀ w' es' m', w'.heap[b]? = some (.map es' c) -> MapI k es' c m' -> (∀ i, aget m' i = if i = n then none else aget m i) -> m'.length <= m.length -> es'.toList.Sublist es.toList ->
      (∀ e ∈ es.toList, e.key ≠ .int k n -> e ∈ es'.toList) -> Ext (Only b) w w' -> w'.heap.size = w.heap.size -> K w') : MDEL k n (some b) w K := by
  obtain ⟨res, h1, _⟩ := h.find n
  refine ⟨es, c, res, hb, h1, ?_⟩
  obtain ⟨es', m', h2, h3, h4, h5, h6, h7⟩ := h.del n h1
  rw [h2]
  have hlt := block_lt hb
  exact hK _ es' m' (by simp [World.setO, hlt]) h3 h4 h5 h6 h7 (Ext.setO w b _) (by simp [World.setO])
theorem MapI.mem_key {k : IntKind} {es : Array MapEntry} {c : Nat} {m : List (Int × Value)} (h : MapI k es c m) {e : MapEntry} (he : e ∈ es.toList) :
    ∃ n, e.key = .int k n /\ aget m n = some e.val := by
  obtain ⟨i, hi⟩ := List.mem_iff_getElem?.1 he
  have hkk := congrArg (fun l => l[i]?) h.keys
  simp only [List.getElem?_map, hi, Option.map_some] at hkk
  cases hm : m[i]? with
  | none => rw [hm] at hkk; cases hkk
  | some p =>
    rw [hm] at hkk
    simp only [Option.map_some, Option.some.injEq, Prod.mk.injEq] at hkk
    refine ⟨p.1, hkk.1, ?_⟩
    have : ∀ (m : List (Int × Value)) (i : Nat), (m.map (·.1)).Nodup -> m[i]? = some p -> aget m p.1 = some p.2 := by
      intro m
      induction m with
      | nil => intro i _ h; simp at h
      | cons q r ih =>
        intro i hn hi
        simp only [List.map_cons, List.nodup_cons] at hn
        cases i with
        | zero => simp at hi; subst hi; simp [aget]
        | succ i =>
          have hmem : p.1 ∈ r.map (·.1) := List.mem_map.2 ⟨_, List.mem_of_getElem? (by simpa using hi), rfl⟩
          have hne : q.1 ≠ p.1 := fun e => hn.1 (e ▸ hmem)
          simp [aget, hne, ih i hn.2 (by simpa using hi)]
    rw [this m i h.nodup hm, hkk.2]
theorem MapI.key_mem {k : IntKind} {es : Array MapEntry} {c : Nat} {m : List (Int × Value)} (h : MapI k es c m) {n : Int} {v : Value} (hg : aget m n = some v) :
    ∃ e ∈ es.toList, e.key = .int k n /\ e.val = v := by
  obtain ⟨res, h1, h2⟩ := h.find n
  rcases h2 with ⟨_, h3⟩ | ⟨j, u, rfl, h3, h4, h5⟩
  · rw [h3] at hg; cases hg
  · rw [h3] at hg; cases hg
    obtain ⟨e, he, hk, hv⟩ := findNow_at k n es.toList 0 j _ h1
    exact ⟨e, List.mem_of_getElem? (by simpa using he), hk, hv⟩
end Go.Sh

set_option linter.all false
namespace Go.Sh
def Blk' (s : SlV) : Nat -> Prop := fun k => ∃ a, s.base = some a /\ k = a.block
structure Pr where
  holds : (Nat -> Prop) -> World -> Prop
  loc : ∀ {D : Nat -> Prop} {w w' : World} {S : Nat -> Prop}, holds D w -> Ext S w w' -> (∀ k, D k -> ¬ S k) -> holds D w'
  lt : ∀ {D : Nat -> Prop} {w : World} {k : Nat}, holds D w -> D k -> k < w.heap.size
def SatD : List Pr -> (Nat -> Prop) -> World -> Prop
  | [], D, _ => ∀ k, ¬ D k
  | P :: Ps, D, w => ∃ D1 D2, P.holds D1 w /\ SatD Ps D2 w /\ (∀ k, D1 k -> ¬ D2 k) /\ ∀ k, D k ↔ D1 k ∨ D2 k
def Sat (Ps : List Pr) (w : World) : Prop := ∃ D, SatD Ps D w
theorem SatD.loc : ∀ {Ps : List Pr} {D : Nat -> Prop} {w w' : World} {S : Nat -> Prop}, SatD Ps D w -> Ext S w w' -> (∀ k, D k -> ¬ S k) -> SatD Ps D w'
  | [], _, _, _, _, h, _, _ => h
  | P :: Ps, D, w, w', S, ⟨D1, D2, h1, h2, hd, hD⟩, he, hS => ⟨D1, D2, P.loc h1 he fun k hk => hS k ((hD k).2 (.inl hk)), h2.loc he fun k hk => hS k ((hD k).2 (.inr hk)), hd, hD⟩
theorem SatD.lt : ∀ {Ps : List Pr} {D : Nat -> Prop} {w : World} {k : Nat}, SatD Ps D w -> D k -> k < w.heap.size
  | [], _, _, _, h, hk => (h _ hk).elim
  | P :: Ps, D, w, k, ⟨D1, D2, h1, h2, hd, hD⟩, hk => by
    rcases (hD k).1 hk with h | h
    · exact P.lt h1 h
    · exact h2.lt h
theorem SatD.append : ∀ {Ps Qs : List Pr} {D : Nat -> Prop} {w : World}, SatD (Ps ++ Qs) D w ↔ ∃ D1 D2, SatD Ps D1 w /\ SatD Qs D2 w /\ (∀ k, D1 k -> ¬ D2 k) /\ ∀ k, D k ↔ D1 k ∨ D2 k
  | [], Qs, D, w => by
    constructor
    · intro h; exact ⟨fun _ => False, D, fun _ f => f, h, fun _ f => f.elim, fun k => by simp⟩
    · rintro ⟨D1, D2, h1, h2, _, hD⟩
      have : D = D2 := by
        funext k
        have := hD k
        simp [h1 k] at this
        exact propext this
      subst this
      exact h2
  | P :: Ps, Qs, D, w => by
    constructor
    · rintro ⟨D1, D2, h1, h2, hd, hD⟩
      obtain ⟨E1, E2, g1, g2, gd, gD⟩ := SatD.append.1 h2
      refine ⟨fun k => D1 k ∨ E1 k, E2, ⟨D1, E1, h1, g1, fun k hk he => hd k hk ((gD k).2 (.inl he)), fun k => Iff.rfl⟩, g2, ?_, ?_⟩
      · rintro k (hk | hk) he
        · exact hd k hk ((gD k).2 (.inr he))
        · exact gd k hk he
      · intro k; rw [hD k, gD k, or_assoc]
    · rintro ⟨D1, D2, ⟨E1, E2, h1, h2, hd, hD⟩, g2, gd, gD⟩
      refine ⟨E1, fun k => E2 k ∨ D2 k, h1, SatD.append.2 ⟨E2, D2, h2, g2, fun k hk => gd k ((hD k).2 (.inr hk)), fun k => Iff.rfl⟩, ?_, ?_⟩
      · rintro k hk (he | he)
        · exact hd k hk he
        · exact gd k ((hD k).2 (.inl hk)) he
      · intro k; rw [gD k, hD k, or_assoc]
theorem SatD.perm {Ps Qs : List Pr} (h : Ps.Perm Qs) : ∀ {D : Nat -> Prop} {w : World}, SatD Ps D w -> SatD Qs D w := by
  induction h with
  | nil => exact fun h => h
  | cons P _ ih =>
    rintro D w ⟨D1, D2, h1, h2, h3⟩
    exact ⟨D1, D2, h1, ih h2, h3⟩
  | swap P Q l =>
    rintro D w ⟨D1, D2, h1, ⟨D3, D4, h3, h4, hd, hD⟩, gd, gD⟩
    refine ⟨D3, fun k => D1 k ∨ D4 k, h3, ⟨D1, D4, h1, h4, fun k hk he => gd k hk ((hD k).2 (.inr he)), fun k => Iff.rfl⟩, ?_, ?_⟩
    · rintro k hk (he | he)
      · exact gd k he ((hD k).2 (.inl hk))
      · exact hd k hk he
    · intro k; rw [gD k, hD k]
      constructor
      · rintro (h | h | h)
        · exact .inr (.inl h)
        · exact .inl h
        · exact .inr (.inr h)
      · rintro (h | h | h)
        · exact .inr (.inl h)
        · exact .inl h
        · exact .inr (.inr h)
  | trans _ _ ih1 ih2 => exact fun h => ih2 (ih1 h)
theorem Sat.perm {Ps Qs : List Pr} {w : World} (h : Sat Ps w) (hp : Ps.Perm Qs) : Sat Qs w := let ⟨D, h⟩ := h; ⟨D, h.perm hp⟩
theorem perm_front {α : Type} : ∀ {l : List α} {i : Nat} {x : α}, l[i]? = some x -> l.Perm (x :: l.eraseIdx i)
  | [], i, x, h => by simp at h
  | y :: l, 0, x, h => by simp at h; subst h; exact .refl _
  | y :: l, i + 1, x, h => by
    have := perm_front (l := l) (i := i) (x := x) (by simpa using h)
    exact (this.cons y).trans (.swap x y _)
theorem perm_back {α : Type} : ∀ {l : List α} {i : Nat} {x : α}, i < l.length -> (x :: l.eraseIdx i).Perm (l.set i x)
  | [], i, x, h => by simp at h
  | y :: l, 0, x, h => .refl _
  | y :: l, i + 1, x, h => by
    have := perm_back (l := l) (i := i) (x := x) (by simpa using h)
    exact (List.Perm.swap y x _).trans (this.cons y)
section
variable {Ps F : List Pr} {P P' : Pr} {w w' : World}
theorem Sat.front (i : Nat) (H : Sat Ps w) (hi : Ps[i]? = some P) : Sat (P :: Ps.eraseIdx i) w := H.perm (perm_front hi)
theorem Sat.back (i : Nat) (H : Sat (P' :: Ps.eraseIdx i) w) (hi : i < Ps.length := by simp) : Sat (Ps.set i P') w := H.perm (perm_back hi)
theorem Sat.nothing (H : Sat Ps w) (he : Ext Nothing w w') : Sat Ps w' := let ⟨D, h⟩ := H; ⟨D, h.loc he fun _ _ f => f⟩
theorem Sat.drew (H : Sat Ps w) : Sat Ps w.drew := H.nothing (Ext.drew _ w)
theorem Sat.tail (H : Sat (P :: F) w) : Sat F w := let ⟨_, _, D2, _, h, _⟩ := H; ⟨D2, h⟩
theorem Sat.head (H : Sat (P :: F) w) : ∃ D, P.holds D w := let ⟨_, D1, _, h, _⟩ := H; ⟨D1, h⟩
theorem Sat.step (H : Sat (P :: F) w) : ∃ D, P.holds D w /\ ∀ w' D' P', Ext D w w' -> P'.holds D' w' -> (∀ k, D' k -> D k ∨ w.heap.size <= k) -> Sat (P' :: F) w' := by
  obtain ⟨D, D1, D2, h1, h2, hd, hD⟩ := H
  refine ⟨D1, h1, fun w' D' P' he hP hn => ⟨_, D', D2, hP, h2.loc he fun k hk h => hd k h hk, fun k hk h => ?_, fun k => Iff.rfl⟩⟩
  rcases hn k hk with h' | h'
  · exact hd k h' h
  · have := h2.lt h; omega
theorem Sat.new (H : Sat F w) {D : Nat -> Prop} (he : Ext Nothing w w') (hP : P.holds D w') (hn : ∀ k, D k -> w.heap.size <= k) : Sat (P :: F) w' := by
  obtain ⟨D2, h2⟩ := H
  refine ⟨_, D, D2, hP, h2.loc he fun _ _ f => f, fun k hk h => ?_, fun k => Iff.rfl⟩
  have h1 := hn k hk
  have := h2.lt h
  omega
end
def Old (w0 : World) : Pr where
  holds D w := (∀ k, D k ↔ k < w0.heap.size) /\ Ext Nothing w0 w
  loc h he hS := ⟨h.1, h.2.trans he (fun _ _ f => f) fun i hi hs => hS i ((h.1 i).2 hi) hs⟩
  lt h hk := by have h1 := (h.1 _).1 hk; have := h.2.size; omega
theorem Sat.start (w : World) : Sat [Old w] w := ⟨_, fun k => k < w.heap.size, fun _ => False, ⟨fun _ => Iff.rfl, Ext.refl _ _⟩, fun _ f => f, fun _ _ f => f, fun _ => Iff.rfl⟩
theorem Sat.old {Ps : List Pr} {w w0 : World} (i : Nat) (H : Sat Ps w) (hi : Ps[i]? = some (Old w0)) : Ext Nothing w0 w := let ⟨_, h⟩ := (H.front i hi).head; h.2
def Star (Qs : List Pr) : Pr where
  holds D w := SatD Qs D w
  loc := SatD.loc
  lt := SatD.lt
def Ex {α : Type} (P : α -> Pr) : Pr where
  holds D w := ∃ x, (P x).holds D w
  loc h he hS := let ⟨x, h⟩ := h; ⟨x, (P x).loc h he hS⟩
  lt h hk := let ⟨x, h⟩ := h; (P x).lt h hk
def Where (p : Prop) (P : Pr) : Pr where
  holds D w := p /\ P.holds D w
  loc h he hS := ⟨h.1, P.loc h.2 he hS⟩
  lt h hk := P.lt h.2 hk
theorem Sat.star {Qs F : List Pr} {w : World} : Sat (Star Qs :: F) w ↔ Sat (Qs ++ F) w := by
  constructor
  · rintro ⟨D, D1, D2, h1, h2, h3⟩; exact ⟨D, SatD.append.2 ⟨D1, D2, h1, h2, h3⟩⟩
  · rintro ⟨D, h⟩; obtain ⟨D1, D2, h1, h2, h3⟩ := SatD.append.1 h; exact ⟨D, D1, D2, h1, h2, h3⟩
theorem Sat.ex {α : Type} {P : α -> Pr} {F : List Pr} {w : World} : Sat (Ex P :: F) w ↔ ∃ x, Sat (P x :: F) w := by
  constructor
  · rintro ⟨D, D1, D2, ⟨x, h1⟩, h2, h3⟩; exact ⟨x, D, D1, D2, h1, h2, h3⟩
  · rintro ⟨x, D, D1, D2, h1, h2, h3⟩; exact ⟨D, D1, D2, ⟨x, h1⟩, h2, h3⟩
theorem Sat.where {p : Prop} {P : Pr} {F : List Pr} {w : World} : Sat (Where p P :: F) w ↔ p /\ Sat (P :: F) w := by
  constructor
  · rintro ⟨D, D1, D2, ⟨x, h1⟩, h2, h3⟩; exact ⟨x, D, D1, D2, h1, h2, h3⟩
  · rintro ⟨x, D, D1, D2, h1, h2, h3⟩; exact ⟨D, D1, D2, ⟨x, h1⟩, h2, h3⟩
def Cells (b t : Nat) (vs : List Value) : Pr where
  holds D w := (∀ k, D k ↔ k = b) /\ b < w.heap.size /\ ∀ j v, vs[j]? = some v -> w.cell? ⟨b, j, none⟩ = some v /\ w.frozen? ⟨b, j, none⟩ = false
  loc h he hS := ⟨h.1, Nat.lt_of_lt_of_le h.2.1 he.size, fun j v hj => ⟨he.cell (h.2.2 j v hj).1 (hS _ ((h.1 _).2 rfl)), by
    rw [he.frozen (p := ⟨_, j, none⟩) h.2.1 (hS _ ((h.1 _).2 rfl))]; exact (h.2.2 j v hj).2⟩⟩
  lt h hk := by have := (h.1 _).1 hk; subst this; exact h.2.1
section
variable {Ps F : List Pr} {w w' : World} {b t : Nat} {vs : List Value}
theorem Sat.cell0 (H : Sat (Cells b t vs :: F) w) {o : Nat} {v : Value} (hv : vs[o]? = some v) : w.cell? (Addr.mk b o none) = some v := let ⟨_, h⟩ := H.head; (h.2.2 o v hv).1
theorem Sat.cell (H : Sat (Cells b t vs :: F) w) {o m : Nat} {v : Value} (hv : vs[o + m]? = some v) : w.cell? ((Addr.mk b o none).add m) = some v := by
  rw [add_eq]; exact H.cell0 hv
theorem Sat.frz (H : Sat (Cells b t vs :: F) w) {o : Nat} (ho : o < vs.length) : w.frozen? (Addr.mk b o none) = false := let ⟨_, h⟩ := H.head; (h.2.2 o _ (List.getElem?_eq_getElem ho)).2
theorem cells_of_block {D : Nat -> Prop} (hD : ∀ k, D k ↔ k = b) (h : w.heap[b]? = some (.cells ⟨vs⟩ t)) : (Cells b t vs).holds D w :=
  ⟨hD, block_lt h, fun j v hj => ⟨by rw [cell_of_block h]; simpa using hj, by simp [World.frozen?, h]⟩⟩
theorem AL_cells (H : Sat F w) {K : Nat -> World -> Prop} (hK : ∀ b w', Sat (Cells b t vs :: F) w' -> Ext Nothing w w' -> K b w') : AL (.cells ⟨vs⟩ t) w K :=
  AL_intro fun w' hb hs he => hK _ _ (H.new (P := Cells w.heap.size t vs) (D := fun k => k = w.heap.size) he (cells_of_block (fun _ => Iff.rfl) hb) fun k hk => by omega) he
theorem Sat.stored (H : Sat (Cells b t vs :: F) w) {o : Nat} (ho : o < vs.length) (v : Value) : Sat (Cells b t (vs.set o v) :: F) (w.setCell ⟨b, o, none⟩ v) := by
  obtain ⟨D, h, hs⟩ := H.step
  have hst := stored_setCell (v := v) (h.2.2 o _ (List.getElem?_eq_getElem ho)).1
  refine hs _ D _ (hst.ext.mono fun i _ hi => (h.1 i).2 hi) ⟨h.1, by rw [hst.size]; exact h.2.1, fun j u hj => ?_⟩ fun k hk => .inl hk
  rw [hst.frozen]
  rw [List.getElem?_set] at hj
  by_cases e : o = j
  · subst e
    rw [if_pos rfl, if_pos ho] at hj
    cases hj
    exact ⟨hst.same, (h.2.2 o _ (List.getElem?_eq_getElem ho)).2⟩
  · rw [if_neg e] at hj
    rw [hst.other _ (by intro e2; injection e2 with _ e2; exact e e2.symm)]
    exact h.2.2 j u hj
theorem st_cell (H : Sat (Cells b t vs :: F) w) {o m : Nat} {v : Value} (ho : v.oneCell' = true) (hl : o + m < vs.length) {K : World -> Prop} (hK : ∀ w', Sat (Cells b t (vs.set (o + m) v) :: F) w' -> K w') :
    stCells ((Addr.mk b o none).add m) 0 [v] w K := by
  simp only [stCells, add_zero, add_eq]
  exact ⟨⟨⟨_, H.cell0 (List.getElem?_eq_getElem hl)⟩, H.frz hl, ho⟩, hK _ (H.stored hl v)⟩
theorem st_cell0 (H : Sat (Cells b t vs :: F) w) {o : Nat} {v : Value} (ho : v.oneCell' = true) (hl : o < vs.length) {K : World -> Prop} (hK : ∀ w', Sat (Cells b t (vs.set o v) :: F) w' -> K w') :
    stCells (Addr.mk b o none) 0 [v] w K := by
  have := st_cell H (m := 0) ho hl hK
  rwa [show (Addr.mk b o none).add 0 = Addr.mk b o none from add_zero _] at this
theorem st_many : ∀ (news : List Value) {vs : List Value} {w : World} (o i : Nat), Sat (Cells b t vs :: F) w -> o + i + news.length <= vs.length -> (∀ v ∈ news, v.oneCell' = true) -> ∀ {K : World -> Prop},
    (∀ w', Sat (Cells b t (vs.take (o + i) ++ news ++ vs.drop (o + i + news.length)) :: F) w' -> K w') -> stCells (Addr.mk b o none) i news w K
  | [], vs, w, o, i, H, hl, ho, K, hK => by
    refine hK w ?_
    simpa using H
  | v :: r, vs, w, o, i, H, hl, ho, K, hK => by
    have hlt : o + i < vs.length := by simp at hl; omega
    simp only [stCells, add_eq]
    refine ⟨⟨⟨_, H.cell0 (List.getElem?_eq_getElem hlt)⟩, H.frz hlt, ho v (by simp)⟩, ?_⟩
    refine st_many r o (i + 1) (H.stored hlt v) (by simp at hl ⊢; omega) (fun u hu => ho u (by simp [hu])) fun w' H' => hK w' ?_
    have : (vs.set (o + i) v).take (o + (i + 1)) ++ r ++ (vs.set (o + i) v).drop (o + (i + 1) + r.length) = vs.take (o + i) ++ (v :: r) ++ vs.drop (o + i + (v :: r).length) := by
      rw [show o + (i + 1) = o + i + 1 from by omega, List.take_set, List.take_succ_eq_append_getElem hlt, List.set_append_right _ _ (by simp; omega)]
      simp only [List.length_take, Nat.min_eq_left (Nat.le_of_lt hlt), Nat.sub_self, List.set_cons_zero, List.append_assoc, List.singleton_append, List.length_cons, List.cons_append]
      congr 2
      rw [List.drop_set_of_lt (by omega), show o + i + 1 + r.length = o + i + (r.length + 1) from by omega]
      simp
    rw [<- this]
    exact H'
theorem st_all {news : List Value} (H : Sat (Cells b t vs :: F) w) (hl : news.length = vs.length) (ho : ∀ v ∈ news, v.oneCell' = true) {K : World -> Prop}
    (hK : ∀ w', Sat (Cells b t news :: F) w' -> K w') : stCells (Addr.mk b 0 none) 0 news w K := by
  refine st_many news 0 0 H (by omega) ho fun w' H' => hK w' ?_
  have : List.drop news.length vs = [] := List.drop_eq_nil_iff.2 (by omega)
  simpa [this] using H'
end
def Row (t z : Nat) (s : SlV) (vs : List Value) : Pr where
  holds D w := (∀ k, D k ↔ Blk' s k) /\ Own w 0 t z s vs
  loc h he hS := ⟨h.1, h.2.ext he fun b hb => hS _ ((h.1 _).2 ⟨_, hb, rfl⟩)⟩
  lt h hk := by obtain ⟨a, ha, rfl⟩ := (h.1 _).1 hk; exact (h.2.lt ha).2.1
section
variable {Ps F : List Pr} {w w' : World} {t z : Nat} {s : SlV} {vs : List Value}
theorem Sat.own (H : Sat (Row t z s vs :: F) w) : Own w 0 t z s vs := let ⟨_, h⟩ := H.head; h.2
theorem Sat.rowLen (H : Sat (Row t z s vs :: F) w) : vs.length = s.len * z := H.own.len
theorem Own.base_of {w : World} {B t z : Nat} {s : SlV} {vs : List Value} (h : Own w B t z s vs) (hl : 0 < s.len) : ∃ b, s.base = some ⟨b, 0, none⟩ := by
  rcases h.row with ⟨h1, h2⟩ | ⟨b, cs, h1, _⟩
  · have := h.cap; omega
  · exact ⟨b, h1⟩
theorem Own.cell {w : World} {B t z : Nat} {s : SlV} {vs : List Value} (h : Own w B t z s vs) {a : Addr} (ha : s.base = some a) {j : Nat} {v : Value} (hv : vs[j]? = some v) : w.cell? (a.add j) = some v := by
  have := h.rowAt
  rw [ha] at this
  exact this.2 j v hv
theorem Sat.nil (H : Sat F w) (t z : Nat) : Sat (Row t z ⟨none, 0, 0⟩ [] :: F) w :=
  H.new (P := Row t z ⟨none, 0, 0⟩ []) (D := Blk' ⟨none, 0, 0⟩) (Ext.refl _ _) ⟨fun _ => Iff.rfl, Own.nil w 0 t z⟩ fun k hk => by obtain ⟨a, ha, _⟩ := hk; cases ha
theorem APP_row {bytes : Nat} {zs : Array Value} {x : SlV} {K : SlV -> World -> Prop} {news : List Value} (H : Sat (Row t z s vs :: F) w)
    (hz : zs.size = z) (hrow : rowAt w x.base (x.len * z) news) (hnl : news.length = x.len * z) (ho : ∀ v ∈ news, v.oneCell' = true)
    (hb : (s.len + x.len) * bytes <= 140737488355328) (h63 : s.len + x.len <= 9223372036854775807)
    (hK : ∀ s' w', Sat (Row t z s' (vs ++ news) :: F) w' -> s'.len = s.len + x.len -> K s' w') : APP t z bytes zs s x w K := by
  obtain ⟨D, h, hs⟩ := H.step
  refine APP_own hz h.2 hrow hnl ho (Nat.zero_le _) hb h63 fun s' w' hown hlen hext hbase => hK s' w' ?_ hlen
  refine hs w' (Blk' s') _ (hext.mono fun i _ hi => (h.1 i).2 hi) ⟨fun _ => Iff.rfl, hown⟩ ?_
  rintro k ⟨a, ha, rfl⟩
  rcases hbase with e | ⟨b, e, hb⟩
  · exact .inl ((h.1 _).2 ⟨a, by rw [<- e]; exact ha, rfl⟩)
  · rw [e] at ha; cases ha; exact .inr hb
theorem APP_one {bytes : Nat} {zs : Array Value} {K : SlV -> World -> Prop} {news : List Value} {b : Nat} (H : Sat (Cells b t news :: Row t z s vs :: F) w)
    (hz : zs.size = z) (hnl : news.length = z) (ho : ∀ v ∈ news, v.oneCell' = true)
    (hb : (s.len + 1) * bytes <= 140737488355328) (h63 : s.len + 1 <= 9223372036854775807)
    (hK : ∀ s' w', Sat (Row t z s' (vs ++ news) :: F) w' -> s'.len = s.len + 1 -> K s' w') : APP t z bytes zs s ⟨some (Addr.mk b 0 none), 1, 1⟩ w K := by
  refine APP_row H.tail hz (x := ⟨some (Addr.mk b 0 none), 1, 1⟩) ⟨by simpa using hnl, fun j v hj => ?_⟩ (by simpa using hnl) ho hb h63 hK
  exact H.cell (by simpa using hj)
theorem Sat.rowAll (H : Sat (Row t z s vs :: F) w) : rowAt w s.base (s.len * z) vs := H.own.rowAt
theorem st_row (H : Sat (Row t z s vs :: F) w) {j : Nat} {v : Value} (ho : v.oneCell' = true) (hj : j < vs.length) {a : Addr} (ha : s.base = some a) {K : World -> Prop}
    (hK : ∀ w', Sat (Row t z s (vs.set j v) :: F) w' -> K w') : stCells (a.add j) 0 [v] w K := by
  obtain ⟨D, h, hs⟩ := H.step
  have hown := h.2
  rcases hown.row with ⟨h1, _⟩ | ⟨b, cs, h1, h2, h3, h4, h5⟩
  · rw [h1] at ha; cases ha
  · rw [h1] at ha
    cases ha
    have hl := hown.len
    have hjc : j < cs.size := by
      have : s.len * z <= s.cap * z := Nat.mul_le_mul_right _ hown.cap
      omega
    simp only [stCells, add_zero, add_eq, Nat.zero_add]
    refine ⟨⟨⟨_, (by rw [cell_of_block h3]; exact Array.getElem?_eq_getElem hjc)⟩, by simp [World.frozen?, h3], ho⟩, hK _ ?_⟩
    refine hs _ D _ ((Ext.setCell w ⟨b, j, none⟩ v).mono fun i _ hi => (h.1 i).2 ⟨_, h1, hi⟩) ⟨h.1, ?_⟩ fun k hk => .inl hk
    refine ⟨by simpa using hl, hown.cap, hown.top, .inr ⟨b, _, h1, h2, cell_stored_block h3, by simpa using h4, ?_⟩⟩
    rw [Array.toList_setIfInBounds, List.take_set, h5]
end
theorem JOIN_in {σ : Type} {first : (σ -> World -> Prop) -> Prop} {rest : σ -> (Nat -> Value) -> World -> Prop} (h : first fun s w => ∀ j, rest s j w) : JOIN σ first rest :=
  ⟨_, h, fun s j w h => h j⟩
@[simp] theorem CND_true {T E : Prop} : CND true T E ↔ T := Iff.rfl
@[simp] theorem CND_false {T E : Prop} : CND false T E ↔ E := Iff.rfl
theorem CND_t {b : Bool} {T E : Prop} (hb : b = true) (h : T) : CND b T E := by subst hb; exact h
theorem CND_f {b : Bool} {T E : Prop} (hb : b = false) (h : E) : CND b T E := by subst hb; exact h
theorem CND_eq {a b : Int} {T E : Prop} (h1 : a = b -> T) (h2 : a ≠ b -> E) : CND (a == b) T E := by
  by_cases h : a = b
  · rw [show (a == b) = true from by simpa using h]; exact h1 h
  · rw [show (a == b) = false from by simpa using h]; exact h2 h
theorem CND_ne {a b : Int} {T E : Prop} (h1 : a ≠ b -> T) (h2 : a = b -> E) : CND (a != b) T E := by
  by_cases h : a = b
  · rw [show (a != b) = false from by simpa using h]; exact h2 h
  · rw [show (a != b) = true from by simpa using h]; exact h1 h
theorem CND_not {b : Bool} {T E : Prop} (h : CND b E T) : CND (!b) T E := by cases b <;> exact h
end Go.Sh

set_option linter.all false
namespace Go.Sh
structure Rg (it mb since : Nat) (a b : Int) (m0 : List (Int × Value)) (w : World) (seen : Array Nat) (es : Array MapEntry) (m : List (Int × Value)) : Prop where
  iter : ∃ last, w.heap[it]? = some (.mapIter (some mb) since seen last) /\ (seen.isEmpty = true ∨ last = since)
  map : w.heap[mb]? = some (.map es since)
  ok : MapI .u64 es since m
  out : ∀ c, ¬ (a <= c /\ c < b) -> aget m c = aget m0 c
  sub : ∀ c v, aget m c = some v -> aget m0 c = some v
  done : ∀ e ∈ es.toList, seen.contains e.born = true -> ∀ n, e.key = .int .u64 n -> ¬ (a <= n /\ n < b)
theorem leftOf_mem {es : Array MapEntry} {seen : Array Nat} {e : MapEntry} : e ∈ leftOf es seen ↔ e ∈ es.toList /\ seen.contains e.born = false := by
  simp [leftOf, Array.mem_filter]
def leftN (es : Array MapEntry) (seen : Array Nat) : Nat := (es.toList.filter fun e => !seen.contains e.born).length
theorem filter_lt {α : Type} {p q : α -> Bool} : ∀ {l : List α}, (∀ x ∈ l, q x = true -> p x = true) -> (∃ x ∈ l, p x = true /\ q x = false) -> (l.filter q).length < (l.filter p).length
  | [], _, ⟨x, hx, _⟩ => by cases hx
  | y :: r, h, ⟨x, hx, h1, h2⟩ => by
    have hle : ∀ {l : List α}, (∀ x ∈ l, q x = true -> p x = true) -> (l.filter q).length <= (l.filter p).length := by
      intro l
      induction l with
      | nil => intro _; simp
      | cons z s ih =>
        intro hz
        have := ih fun x hx => hz x (List.mem_cons_of_mem _ hx)
        have hz0 := hz z List.mem_cons_self
        simp only [List.filter_cons]
        cases hq : q z
        · simp only [Bool.false_eq_true, if_false]
          split
          · simp; omega
          · exact this
        · simp only [hz0 hq, if_true]; simp; omega
    rcases List.mem_cons.1 hx with rfl | hx2
    · have := hle fun z hz => h z (List.mem_cons_of_mem _ hz)
      simp only [List.filter_cons, h1, h2, if_true, Bool.false_eq_true, if_false]
      simp; omega
    · have := filter_lt (fun z hz => h z (List.mem_cons_of_mem _ hz)) ⟨x, hx2, h1, h2⟩
      have hy := h y List.mem_cons_self
      simp only [List.filter_cons]
      cases hq : q y
      · simp only [Bool.false_eq_true, if_false]
        split
        · simp; omega
        · exact this
      · simp only [hy hq, if_true]; simp; omega
theorem nodup_inj {α β : Type} {f : α -> β} : ∀ {l : List α}, (l.map f).Nodup -> ∀ {x y : α}, x ∈ l -> y ∈ l -> f x = f y -> x = y
  | [], _, x, y, hx, _, _ => by cases hx
  | z :: r, h, x, y, hx, hy, he => by
    simp only [List.map_cons, List.nodup_cons] at h
    rcases List.mem_cons.1 hx with rfl | hx2 <;> rcases List.mem_cons.1 hy with rfl | hy2
    · rfl
    · exact absurd (he ▸ List.mem_map.2 ⟨y, hy2, rfl⟩) h.1
    · exact absurd (he ▸ List.mem_map.2 ⟨x, hx2, rfl⟩) h.1
    · exact nodup_inj h.2 hx2 hy2 he
theorem range_del {it mb since : Nat} {a b : Int} {m0 : List (Int × Value)} {w0 : World} {K : World -> Prop} {getm : (Option Nat -> World -> Prop) -> World -> Prop}
    (hget : ∀ w K', Ext (fun k => k = it ∨ k = mb) w0 w -> K' (some mb) w -> getm K' w)
    {seen0 : Array Nat} {es0 : Array MapEntry} {m1 : List (Int × Value)} (h0 : Rg it mb since a b m0 w0 seen0 es0 m1) (hne : it ≠ mb) (hit : it < w0.heap.size) (hmb : mb < w0.heap.size)
    (hK : ∀ w' es' m', Ext (fun k => k = it ∨ k = mb) w0 w' -> w'.heap.size = w0.heap.size -> w'.heap[mb]? = some (.map es' since) -> MapI .u64 es' since m' ->
      (∀ c, aget m' c = if a <= c /\ c < b then none else aget m0 c) -> K w') :
    LOOP (Unit) (()) w0 fun s52 _ w53 next54 =>
          JOIN (Bool × Unit) (fun J55 =>
            NEXT it w53 (fun w58 =>
              J55 (false, ()) w58
            ) fun k60 v61 w59 =>
              J55 (true, ()) w59
          ) fun s56 _ w57 =>
            JOIN (Bool × Unit) (fun J62 =>
              CND (s56.1) (
                J62 (s56.1, ()) w57
              ) (
                K  w57
              )
            ) fun s63 _ w64 =>
              ENT it w64 fun k65 v66 S67 =>
              unInt .u64 k65 fun x68 =>
              JOIN (Bool × Unit) (fun J69 =>
                CND (decide ((x68 : Int) ≥ a)) (
                  J69 (decide ((x68 : Int) < b), ()) w64
                ) (
                  J69 (false, ()) w64
                )
              ) fun s70 _ w71 =>
                CND (s70.1) (
                  getm (fun x73 w71 =>
                  MDEL .u64 x68 x73 w71 fun w74 =>
                  next54 (()) w74) w71
                ) (
                  next54 (()) w71
                ) := by
  refine LOOP_intro (fun _ w => (∃ seen es m, Rg it mb since a b m0 w seen es m) /\ Ext (fun k => k = it ∨ k = mb) w0 w /\ w.heap.size = w0.heap.size)
    (fun _ w => match w.heap[it]?, w.heap[mb]? with | some (.mapIter _ _ seen _), some (.map es _) => leftN es seen | _, _ => 0) ⟨⟨_, _, _, h0⟩, Ext.refl _ _, rfl⟩ ?_
  rintro _ _ w ⟨⟨seen, es, m, h⟩, hw, hsz⟩
  obtain ⟨last, hlast, hl⟩ := h.iter
  have hmu : (match w.heap[it]?, w.heap[mb]? with | some (.mapIter _ _ seen _), some (.map es _) => leftN es seen | _, _ => 0 : Nat) = leftN es seen := by rw [hlast, h.map]
  simp only [hmu]
  refine JOIN_intro (fun st w' => (st.1 = false /\ (leftOf es seen).isEmpty = true /\ (∃ seen' , Rg it mb since a b m0 w' seen' es m /\ seen' = seen) /\ Ext (fun k => k = it ∨ k = mb) w0 w' /\ w'.heap.size = w0.heap.size) ∨
      (st.1 = true /\ ∃ e, e ∈ es.toList /\ seen.contains e.born = false /\ w'.heap[it]? = some (.mapIter (some mb) since (seen.push e.born) since) /\ w'.heap[mb]? = some (.map es since) /\ Ext (fun k => k = it ∨ k = mb) w0 w' /\ w'.heap.size = w0.heap.size)) ?_ ?_
  · refine ⟨some mb, since, seen, last, hlast, es, since, h.map, ?_, ?_, ?_⟩
    · rcases hl with hl | rfl
      · simp [hl]
      · by_cases he : es.isEmpty = true
        · simp [he]
        · have : es.all (fun x => decide (x.born ≥ last)) = false := by
            have hsz0 : 0 < es.size := Nat.pos_of_ne_zero fun e => he (by simpa [Array.isEmpty] using e)
            have hm : es[0] ∈ es.toList := by simp
            have := h.ok.lt _ hm
            rw [Bool.eq_false_iff]
            intro hall
            have := (Array.all_eq_true_iff_forall_mem.1 hall) es[0] (Array.getElem_mem hsz0)
            simp at this; omega
          simp [this]
    · intro w' hw' hemp
      left
      have hwe : Ext Nothing w w' := by rcases hw' with rfl | rfl; exact Ext.refl _ _; exact Ext.drew _ _
      have hs' : w'.heap.size = w.heap.size := by rcases hw' with rfl | rfl <;> rfl
      refine ⟨rfl, ?_, ⟨seen, ⟨⟨last, hwe.obj hlast (fun f => f), hl⟩, hwe.obj h.map (fun f => f), h.ok, h.out, h.sub, h.done⟩, rfl⟩, hw.trans' hwe.any, by omega⟩
      have : (leftOf es seen).filter (fun x => decide (x.born < since)) = leftOf es seen := by
        apply Array.filter_eq_self.2
        intro e he
        have h1 := (leftOf_mem.1 he).1
        exact decide_eq_true (h.ok.lt e h1)
      rw [this] at hemp
      exact hemp
    · intro w' e hw' he
      right
      have hwe : Ext Nothing w w' := by rcases hw' with rfl | rfl; exact Ext.refl _ _; exact Ext.drew _ _
      have hs' : w'.heap.size = w.heap.size := by rcases hw' with rfl | rfl <;> rfl
      obtain ⟨h1, h2⟩ := leftOf_mem.1 he
      refine ⟨rfl, e, h1, h2, ?_, ?_, (hw.trans' hwe.any).trans (Ext.setO w' it _) (fun _ _ h => h) (fun i _ e => .inl e), ?_⟩
      · have hlt : it < w'.heap.size := by omega
        simp [World.setO, hlt]
      · have := (Ext.setO w' it (.mapIter (some mb) since (seen.push e.born) since)).obj (hwe.obj h.map fun f => f) (fun e : mb = it => hne e.symm)
        exact this
      · simp [World.setO]; omega
  · rintro ⟨bt, u⟩ _ w57 hJ
    simp only at hJ ⊢
    refine JOIN_intro (fun st w' => w' = w57 /\ bt = true) ?_ ?_
    · refine CND_intro (fun ht => ⟨rfl, ht⟩) (fun hf => ?_)
      rcases hJ with ⟨_, hemp, ⟨seen', hR, hse⟩, hE, hS⟩ | ⟨ht, _⟩
      · subst hse
        refine hK w57 es m hE hS hR.map hR.ok fun c => ?_
        split
        · rename_i hc
          cases hg : aget m c with
          | none => rfl
          | some v =>
            exfalso
            obtain ⟨e, he, hk, hv⟩ := h.ok.key_mem hg
            have hs : seen'.contains e.born = true := by
              cases hsc : seen'.contains e.born with
              | true => rfl
              | false =>
                have : e ∈ leftOf es seen' := leftOf_mem.2 ⟨he, hsc⟩
                have h0 : leftOf es seen' = #[] := by simpa [Array.isEmpty_iff] using hemp
                rw [h0] at this
                cases this with | mk h => cases h
            exact h.done e he hs c hk hc
        · rename_i hc; exact h.out c hc
      · rw [ht] at hf; cases hf
    · rintro ⟨_, u⟩ _ w64 ⟨rfl, hbt⟩
      rcases hJ with ⟨hf, _⟩ | ⟨_, e, he, hns, hit', hmb', hE, hS⟩
      · rw [hbt] at hf; cases hf
      · obtain ⟨n, hkey, hgn⟩ := h.ok.mem_key he
        have hfind : es.find? (fun x : MapEntry => x.born == e.born) = some e := by
          rw [<- Array.find?_toList]
          have hb := h.ok.born
          have : ∀ l : List MapEntry, (l.map (·.born)).Nodup -> e ∈ l -> l.find? (fun x : MapEntry => x.born == e.born) = some e := by
            intro l
            induction l with
            | nil => intro _ h; cases h
            | cons x r ih =>
              intro hn hm
              simp only [List.map_cons, List.nodup_cons] at hn
              rcases List.mem_cons.1 hm with rfl | hm
              · simp [List.find?_cons]
              · have : x.born ≠ e.born := fun e2 => hn.1 (e2 ▸ List.mem_map.2 ⟨e, hm, rfl⟩)
                have hb : (x.born == e.born) = false := by simp [this]
                simp only [List.find?_cons, hb]
                exact ih hn.2 hm
          exact this es.toList hb he
        refine ⟨mb, since, since, seen.push e.born, es, since, e.born, e, ⟨hit', hmb'⟩, by simp, rfl, hfind, ?_⟩
        rw [hkey]
        show unV (.int .u64) (.int .u64 n) _
        show sameK .u64 .u64 _
        show JOIN _ _ _
        have hdec : leftN es (seen.push e.born) < leftN es seen := by
          unfold leftN
          refine filter_lt (fun x _ hx => ?_) ⟨e, he, by rw [hns]; rfl, by simp⟩
          simp at hx ⊢
          exact hx.1
        refine JOIN_intro (fun st w' => w' = w64 /\ (st.1 = true ↔ a <= n /\ n < b)) ?_ ?_
        · refine CND_dec (fun h1 => ⟨rfl, ?_⟩) (fun h1 => ⟨rfl, ?_⟩)
          · simp only [decide_eq_true_iff]; omega
          · simp only [Bool.false_eq_true, false_iff]; omega
        · rintro ⟨bt2, u⟩ _ w71 ⟨rfl, hbt2⟩
          simp only at hbt2 ⊢
          have hR : Rg it mb since a b m0 w71 seen es m -> True := fun _ => trivial
          refine CND_intro (fun ht => ?_) (fun hf => ?_)
          · refine hget w71 _ hE ?_
            refine MDEL_intro hmb' h.ok fun w' es' m' hb' hm' hg' hl' hsub hkeep hext hsz' => ?_
            have hit2 : w'.heap[it]? = some (.mapIter (some mb) since (seen.push e.born) since) := hext.obj hit' (fun e2 : it = mb => hne e2)
            refine ⟨⟨⟨seen.push e.born, es', m', ⟨since, hit2, .inr rfl⟩, hb', hm', ?_, ?_, ?_⟩, hE.trans hext (fun _ _ h => h) (fun i _ e => .inr e), by omega⟩, ?_⟩
            · intro c hc
              rw [hg', if_neg, h.out c hc]
              intro e2; subst e2; exact hc (hbt2.1 ht)
            · intro c v hcv
              rw [hg'] at hcv
              split at hcv
              · cases hcv
              · exact h.sub c v hcv
            · intro x hx hs k hk
              have hxe := hsub.subset hx
              by_cases hxb : x.born = e.born
              · -- the entry that was taken out
                obtain ⟨k', hk', hgk⟩ := hm'.mem_key hx
                rw [hk] at hk'; cases hk'
                have hx2 : x = e := by
                  have h1 := nodup_inj h.ok.born hxe he hxb
                  exact h1
                subst hx2
                rw [hkey] at hk; cases hk
                rw [hg'] at hgk; simp at hgk
              · refine h.done x hxe ?_ k hk
                simp at hs
                rcases hs with hs | hs
                · simpa using hs
                · exact absurd hs hxb
            · simp only [hit2, hb']
              have : leftN es' (seen.push e.born) <= leftN es (seen.push e.born) := (hsub.filter _).length_le
              omega
          · have hnab : ¬ (a <= n /\ n < b) := fun h => by rw [hbt2.2 h] at hf; cases hf
            refine ⟨⟨⟨seen.push e.born, es, m, ⟨since, hit', .inr rfl⟩, hmb', h.ok, h.out, h.sub, ?_⟩, hE, hS⟩, by simp only [hit', hmb']; exact hdec⟩
            intro x hx hs k hk
            simp at hs
            rcases hs with hs | hs
            · exact h.done x hx (by simpa using hs) k hk
            · have hx2 : x = e := nodup_inj h.ok.born hx he hs
              subst hx2
              rw [hkey] at hk; cases hk
              exact hnab
end Go.Sh
