/- The law RadixFirst holds: for every input the Go function returns true and leaves its arguments alone. No further condition. -/
import Derived.Test.YtbhlnppflnfooaaM
import Derived.Test.YtbhlnppflnfooaaR
import Derived.Test.YtbhlnppflnfooaaA
import Derived.Test.YtbhlnppflnfooaaT
import Derived.Test.YtbhlnppflnfooaaRows
import Derived.WalkKit
import Derived.ProofKit
import Derived.OpenShut
set_option linter.all false
namespace Go.Sh

def Blk' (s : SlV) : Nat → Prop := fun k => ∃ a, s.base = some a ∧ k = a.block

/-- A resource: what holds of the blocks that it owns. -/
structure Pr where
  holds : (Nat → Prop) → World → Prop
  loc : ∀ {D : Nat → Prop} {w w' : World} {S : Nat → Prop}, holds D w → Ext S w w' → (∀ k, D k → ¬ S k) → holds D w'
  lt : ∀ {D : Nat → Prop} {w : World} {k : Nat}, holds D w → D k → k < w.heap.size

def SatD : List Pr → (Nat → Prop) → World → Prop
  | [], D, _ => ∀ k, ¬ D k
  | P :: Ps, D, w => ∃ D1 D2, P.holds D1 w ∧ SatD Ps D2 w ∧ (∀ k, D1 k → ¬ D2 k) ∧ ∀ k, D k ↔ D1 k ∨ D2 k

def Sat (Ps : List Pr) (w : World) : Prop := ∃ D, SatD Ps D w

theorem SatD.loc : ∀ {Ps : List Pr} {D : Nat → Prop} {w w' : World} {S : Nat → Prop}, SatD Ps D w → Ext S w w' → (∀ k, D k → ¬ S k) → SatD Ps D w'
  | [], _, _, _, _, h, _, _ => h
  | P :: Ps, D, w, w', S, ⟨D1, D2, h1, h2, hd, hD⟩, he, hS => ⟨D1, D2, P.loc h1 he fun k hk => hS k ((hD k).2 (.inl hk)), h2.loc he fun k hk => hS k ((hD k).2 (.inr hk)), hd, hD⟩

theorem SatD.lt : ∀ {Ps : List Pr} {D : Nat → Prop} {w : World} {k : Nat}, SatD Ps D w → D k → k < w.heap.size
  | [], _, _, _, h, hk => (h _ hk).elim
  | P :: Ps, D, w, k, ⟨D1, D2, h1, h2, hd, hD⟩, hk => by
    rcases (hD k).1 hk with h | h
    · exact P.lt h1 h
    · exact h2.lt h

theorem SatD.append : ∀ {Ps Qs : List Pr} {D : Nat → Prop} {w : World}, SatD (Ps ++ Qs) D w ↔ ∃ D1 D2, SatD Ps D1 w ∧ SatD Qs D2 w ∧ (∀ k, D1 k → ¬ D2 k) ∧ ∀ k, D k ↔ D1 k ∨ D2 k
  | [], Qs, D, w => by
    constructor
    · intro h; exact ⟨fun _ => False, D, fun _ f => f, h, fun _ f => f.elim, fun k => by simp⟩
    · rintro ⟨D1, D2, h1, h2, _, hD⟩
      have : D = D2 := by
        funext k
        have := hD k
        simp [h1 k] at this
        exact propext this
      subst this
      exact h2
  | P :: Ps, Qs, D, w => by
    constructor
    · rintro ⟨D1, D2, h1, h2, hd, hD⟩
      obtain ⟨E1, E2, g1, g2, gd, gD⟩ := SatD.append.1 h2
      refine ⟨fun k => D1 k ∨ E1 k, E2, ⟨D1, E1, h1, g1, fun k hk he => hd k hk ((gD k).2 (.inl he)), fun k => Iff.rfl⟩, g2, ?_, ?_⟩
      · rintro k (hk | hk) he
        · exact hd k hk ((gD k).2 (.inr he))
        · exact gd k hk he
      · intro k; rw [hD k, gD k, or_assoc]
    · rintro ⟨D1, D2, ⟨E1, E2, h1, h2, hd, hD⟩, g2, gd, gD⟩
      refine ⟨E1, fun k => E2 k ∨ D2 k, h1, SatD.append.2 ⟨E2, D2, h2, g2, fun k hk => gd k ((hD k).2 (.inr hk)), fun k => Iff.rfl⟩, ?_, ?_⟩
      · rintro k hk (he | he)
        · exact hd k hk he
        · exact gd k ((hD k).2 (.inl hk)) he
      · intro k; rw [gD k, hD k, or_assoc]

theorem SatD.perm {Ps Qs : List Pr} (h : Ps.Perm Qs) : ∀ {D : Nat → Prop} {w : World}, SatD Ps D w → SatD Qs D w := by
  induction h with
  | nil => exact fun h => h
  | cons P _ ih =>
    rintro D w ⟨D1, D2, h1, h2, h3⟩
    exact ⟨D1, D2, h1, ih h2, h3⟩
  | swap P Q l =>
    rintro D w ⟨D1, D2, h1, ⟨D3, D4, h3, h4, hd, hD⟩, gd, gD⟩
    refine ⟨D3, fun k => D1 k ∨ D4 k, h3, ⟨D1, D4, h1, h4, fun k hk he => gd k hk ((hD k).2 (.inr he)), fun k => Iff.rfl⟩, ?_, ?_⟩
    · rintro k hk (he | he)
      · exact gd k he ((hD k).2 (.inl hk))
      · exact hd k hk he
    · intro k; rw [gD k, hD k]
      constructor
      · rintro (h | h | h)
        · exact .inr (.inl h)
        · exact .inl h
        · exact .inr (.inr h)
      · rintro (h | h | h)
        · exact .inr (.inl h)
        · exact .inl h
        · exact .inr (.inr h)
  | trans _ _ ih1 ih2 => exact fun h => ih2 (ih1 h)

theorem Sat.perm {Ps Qs : List Pr} {w : World} (h : Sat Ps w) (hp : Ps.Perm Qs) : Sat Qs w := let ⟨D, h⟩ := h; ⟨D, h.perm hp⟩

theorem perm_front {α : Type} : ∀ {l : List α} {i : Nat} {x : α}, l[i]? = some x → l.Perm (x :: l.eraseIdx i)
  | [], i, x, h => by simp at h
  | y :: l, 0, x, h => by simp at h; subst h; exact .refl _
  | y :: l, i + 1, x, h => by
    have := perm_front (l := l) (i := i) (x := x) (by simpa using h)
    exact (this.cons y).trans (.swap x y _)

theorem perm_back {α : Type} : ∀ {l : List α} {i : Nat} {x : α}, i < l.length → (x :: l.eraseIdx i).Perm (l.set i x)
  | [], i, x, h => by simp at h
  | y :: l, 0, x, h => .refl _
  | y :: l, i + 1, x, h => by
    have := perm_back (l := l) (i := i) (x := x) (by simpa using h)
    exact (List.Perm.swap y x _).trans (this.cons y)

section
variable {Ps F : List Pr} {P P' : Pr} {w w' : World}

/-- The i-th one to the front. -/
theorem Sat.front (i : Nat) (H : Sat Ps w) (hi : Ps[i]? = some P) : Sat (P :: Ps.eraseIdx i) w := H.perm (perm_front hi)
theorem Sat.back (i : Nat) (H : Sat (P' :: Ps.eraseIdx i) w) (hi : i < Ps.length := by simp) : Sat (Ps.set i P') w := H.perm (perm_back hi)

theorem Sat.nothing (H : Sat Ps w) (he : Ext Nothing w w') : Sat Ps w' := let ⟨D, h⟩ := H; ⟨D, h.loc he fun _ _ f => f⟩
theorem Sat.drew (H : Sat Ps w) : Sat Ps w.drew := H.nothing (Ext.drew _ w)

theorem Sat.tail (H : Sat (P :: F) w) : Sat F w := let ⟨_, _, D2, _, h, _⟩ := H; ⟨D2, h⟩
theorem Sat.head (H : Sat (P :: F) w) : ∃ D, P.holds D w := let ⟨_, D1, _, h, _⟩ := H; ⟨D1, h⟩

/-- A step that only changes what the first one owns. -/
theorem Sat.step (H : Sat (P :: F) w) : ∃ D, P.holds D w ∧ ∀ w' D' P', Ext D w w' → P'.holds D' w' → (∀ k, D' k → D k ∨ w.heap.size ≤ k) → Sat (P' :: F) w' := by
  obtain ⟨D, D1, D2, h1, h2, hd, hD⟩ := H
  refine ⟨D1, h1, fun w' D' P' he hP hn => ⟨_, D', D2, hP, h2.loc he fun k hk h => hd k h hk, fun k hk h => ?_, fun k => Iff.rfl⟩⟩
  rcases hn k hk with h' | h'
  · exact hd k h' h
  · have := h2.lt h; omega

/-- A new one. -/
theorem Sat.new (H : Sat F w) {D : Nat → Prop} (he : Ext Nothing w w') (hP : P.holds D w') (hn : ∀ k, D k → w.heap.size ≤ k) : Sat (P :: F) w' := by
  obtain ⟨D2, h2⟩ := H
  refine ⟨_, D, D2, hP, h2.loc he fun _ _ f => f, fun k hk h => ?_, fun k => Iff.rfl⟩
  have h1 := hn k hk
  have := h2.lt h
  omega
end

/-! ### Making resources -/

/-- All that was there is as it was. -/
def Old (w0 : World) : Pr where
  holds D w := (∀ k, D k ↔ k < w0.heap.size) ∧ Ext Nothing w0 w
  loc h he hS := ⟨h.1, h.2.trans he (fun _ _ f => f) fun i hi hs => hS i ((h.1 i).2 hi) hs⟩
  lt h hk := by have h1 := (h.1 _).1 hk; have := h.2.size; omega

theorem Sat.start (w : World) : Sat [Old w] w := ⟨_, fun k => k < w.heap.size, fun _ => False, ⟨fun _ => Iff.rfl, Ext.refl _ _⟩, fun _ f => f, fun _ _ f => f, fun _ => Iff.rfl⟩
theorem Sat.old {Ps : List Pr} {w w0 : World} (i : Nat) (H : Sat Ps w) (hi : Ps[i]? = some (Old w0)) : Ext Nothing w0 w := let ⟨_, h⟩ := (H.front i hi).head; h.2

/-- Several as one. -/
def Star (Qs : List Pr) : Pr where
  holds D w := SatD Qs D w
  loc := SatD.loc
  lt := SatD.lt

def Ex {α : Type} (P : α → Pr) : Pr where
  holds D w := ∃ x, (P x).holds D w
  loc h he hS := let ⟨x, h⟩ := h; ⟨x, (P x).loc h he hS⟩
  lt h hk := let ⟨x, h⟩ := h; (P x).lt h hk

def Where (p : Prop) (P : Pr) : Pr where
  holds D w := p ∧ P.holds D w
  loc h he hS := ⟨h.1, P.loc h.2 he hS⟩
  lt h hk := P.lt h.2 hk

theorem Sat.star {Qs F : List Pr} {w : World} : Sat (Star Qs :: F) w ↔ Sat (Qs ++ F) w := by
  constructor
  · rintro ⟨D, D1, D2, h1, h2, h3⟩; exact ⟨D, SatD.append.2 ⟨D1, D2, h1, h2, h3⟩⟩
  · rintro ⟨D, h⟩; obtain ⟨D1, D2, h1, h2, h3⟩ := SatD.append.1 h; exact ⟨D, D1, D2, h1, h2, h3⟩
theorem Sat.ex {α : Type} {P : α → Pr} {F : List Pr} {w : World} : Sat (Ex P :: F) w ↔ ∃ x, Sat (P x :: F) w := by
  constructor
  · rintro ⟨D, D1, D2, ⟨x, h1⟩, h2, h3⟩; exact ⟨x, D, D1, D2, h1, h2, h3⟩
  · rintro ⟨x, D, D1, D2, h1, h2, h3⟩; exact ⟨D, D1, D2, ⟨x, h1⟩, h2, h3⟩
theorem Sat.where {p : Prop} {P : Pr} {F : List Pr} {w : World} : Sat (Where p P :: F) w ↔ p ∧ Sat (P :: F) w := by
  constructor
  · rintro ⟨D, D1, D2, ⟨x, h1⟩, h2, h3⟩; exact ⟨x, D, D1, D2, h1, h2, h3⟩
  · rintro ⟨x, D, D1, D2, h1, h2, h3⟩; exact ⟨D, D1, D2, ⟨x, h1⟩, h2, h3⟩

/-! ### A whole block -/

def Cells (b t : Nat) (vs : List Value) : Pr where
  holds D w := (∀ k, D k ↔ k = b) ∧ w.heap[b]? = some (.cells ⟨vs⟩ t)
  loc h he hS := ⟨h.1, he.obj h.2 (hS _ ((h.1 _).2 rfl))⟩
  lt h hk := by have := (h.1 _).1 hk; subst this; exact block_lt h.2

section
variable {Ps F : List Pr} {w w' : World} {b t : Nat} {vs : List Value}

theorem Sat.block (H : Sat (Cells b t vs :: F) w) : w.heap[b]? = some (.cells ⟨vs⟩ t) := let ⟨_, h⟩ := H.head; h.2
theorem Sat.cell (H : Sat (Cells b t vs :: F) w) {o m : Nat} {v : Value} (hv : vs[o + m]? = some v) : w.cell? ((Addr.mk b o none).add m) = some v := by
  rw [add_eq, cell_of_block H.block]; simpa using hv
theorem Sat.cell0 (H : Sat (Cells b t vs :: F) w) {o : Nat} {v : Value} (hv : vs[o]? = some v) : w.cell? (Addr.mk b o none) = some v := by
  rw [cell_of_block H.block]; simpa using hv

theorem AL_cells (H : Sat F w) {K : Nat → World → Prop} (hK : ∀ b w', Sat (Cells b t vs :: F) w' → Ext Nothing w w' → K b w') : AL (.cells ⟨vs⟩ t) w K :=
  AL_intro fun w' hb hs he => hK _ _ (H.new (P := Cells w.heap.size t vs) (D := fun k => k = w.heap.size) he ⟨fun _ => Iff.rfl, hb⟩ fun k hk => by omega) he

theorem Sat.stored (H : Sat (Cells b t vs :: F) w) {o : Nat} (v : Value) : Sat (Cells b t (vs.set o v) :: F) (w.setCell ⟨b, o, none⟩ v) := by
  obtain ⟨D, h, hs⟩ := H.step
  refine hs _ D _ ((Ext.setCell w ⟨b, o, none⟩ v).mono fun i _ hi => (h.1 i).2 hi) ⟨h.1, ?_⟩ fun k hk => .inl hk
  rw [cell_stored_block h.2]
  simp

theorem st_cell (H : Sat (Cells b t vs :: F) w) {o m : Nat} {v : Value} (ho : v.oneCell' = true) (hl : o + m < vs.length) {K : World → Prop} (hK : ∀ w', Sat (Cells b t (vs.set (o + m) v) :: F) w' → K w') :
    stCells ((Addr.mk b o none).add m) 0 [v] w K := by
  have hb := H.block
  simp only [stCells, add_zero, add_eq]
  refine ⟨⟨⟨_, (by rw [cell_of_block hb]; exact Array.getElem?_eq_getElem (by simpa using hl))⟩, by simp [World.frozen?, hb], ho⟩, hK _ (H.stored v)⟩
end

/-! ### A row of one's own -/

def Row (t z : Nat) (s : SlV) (vs : List Value) : Pr where
  holds D w := (∀ k, D k ↔ Blk' s k) ∧ Own w 0 t z s vs
  loc h he hS := ⟨h.1, h.2.ext he fun b hb => hS _ ((h.1 _).2 ⟨_, hb, rfl⟩)⟩
  lt h hk := by obtain ⟨a, ha, rfl⟩ := (h.1 _).1 hk; exact (h.2.lt ha).2.1

section
variable {Ps F : List Pr} {w w' : World} {t z : Nat} {s : SlV} {vs : List Value}

theorem Sat.own (H : Sat (Row t z s vs :: F) w) : Own w 0 t z s vs := let ⟨_, h⟩ := H.head; h.2
theorem Sat.rowLen (H : Sat (Row t z s vs :: F) w) : vs.length = s.len * z := H.own.len

theorem Own.base_of {w : World} {B t z : Nat} {s : SlV} {vs : List Value} (h : Own w B t z s vs) (hl : 0 < s.len) : ∃ b, s.base = some ⟨b, 0, none⟩ := by
  rcases h.row with ⟨h1, h2⟩ | ⟨b, cs, h1, _⟩
  · have := h.cap; omega
  · exact ⟨b, h1⟩

theorem Own.cell {w : World} {B t z : Nat} {s : SlV} {vs : List Value} (h : Own w B t z s vs) {a : Addr} (ha : s.base = some a) {j : Nat} {v : Value} (hv : vs[j]? = some v) : w.cell? (a.add j) = some v := by
  have := h.rowAt
  rw [ha] at this
  exact this.2 j v hv

theorem Sat.rowCell (H : Sat (Row t z s vs :: F) w) {j : Nat} {v : Value} (hv : vs[j]? = some v) {K : Addr → Prop} (hK : ∀ a, s.base = some a → w.cell? (a.add j) = some v → K a) : NC s.base K := by
  have ho := H.own
  have hj : j < vs.length := (List.getElem?_eq_some_iff.1 hv).1
  have hl : 0 < s.len := by
    rw [ho.len] at hj
    rcases Nat.eq_zero_or_pos s.len with h | h
    · rw [h] at hj; omega
    · exact h
  obtain ⟨b, hb⟩ := ho.base_of hl
  rw [hb]
  exact hK _ hb (ho.cell hb hv)

theorem Sat.nil (H : Sat F w) (t z : Nat) : Sat (Row t z ⟨none, 0, 0⟩ [] :: F) w :=
  H.new (P := Row t z ⟨none, 0, 0⟩ []) (D := Blk' ⟨none, 0, 0⟩) (Ext.refl _ _) ⟨fun _ => Iff.rfl, Own.nil w 0 t z⟩ fun k hk => by obtain ⟨a, ha, _⟩ := hk; cases ha

/-- Appending to a row of one's own. -/
theorem APP_row {bytes : Nat} {zs : Array Value} {x : SlV} {K : SlV → World → Prop} {news : List Value} (H : Sat (Row t z s vs :: F) w)
    (hz : zs.size = z) (hrow : rowAt w x.base (x.len * z) news) (hnl : news.length = x.len * z) (ho : ∀ v ∈ news, v.oneCell' = true)
    (hb : (s.len + x.len) * bytes ≤ 140737488355328) (h63 : s.len + x.len ≤ 9223372036854775807)
    (hK : ∀ s' w', Sat (Row t z s' (vs ++ news) :: F) w' → s'.len = s.len + x.len → K s' w') : APP t z bytes zs s x w K := by
  obtain ⟨D, h, hs⟩ := H.step
  refine APP_own hz h.2 hrow hnl ho (Nat.zero_le _) hb h63 fun s' w' hown hlen hext hbase => hK s' w' ?_ hlen
  refine hs w' (Blk' s') _ (hext.mono fun i _ hi => (h.1 i).2 hi) ⟨fun _ => Iff.rfl, hown⟩ ?_
  rintro k ⟨a, ha, rfl⟩
  rcases hbase with e | ⟨b, e, hb⟩
  · exact .inl ((h.1 _).2 ⟨a, by rw [← e]; exact ha, rfl⟩)
  · rw [e] at ha; cases ha; exact .inr hb

/-- One that was put into a cell of its own for it. -/
theorem APP_one {bytes : Nat} {zs : Array Value} {K : SlV → World → Prop} {news : List Value} {b : Nat} (H : Sat (Cells b t news :: Row t z s vs :: F) w)
    (hz : zs.size = z) (hnl : news.length = z) (ho : ∀ v ∈ news, v.oneCell' = true)
    (hb : (s.len + 1) * bytes ≤ 140737488355328) (h63 : s.len + 1 ≤ 9223372036854775807)
    (hK : ∀ s' w', Sat (Row t z s' (vs ++ news) :: F) w' → s'.len = s.len + 1 → K s' w') : APP t z bytes zs s ⟨some (Addr.mk b 0 none), 1, 1⟩ w K := by
  have hbl := H.block
  refine APP_row H.tail hz (x := ⟨some (Addr.mk b 0 none), 1, 1⟩) ⟨by simpa using hnl, fun j v hj => ?_⟩ (by simpa using hnl) ho hb h63 hK
  exact H.cell (by simpa using hj)

/-- A whole row of one's own, read. -/
theorem Sat.rowAll (H : Sat (Row t z s vs :: F) w) : rowAt w s.base (s.len * z) vs := H.own.rowAt

/-- Storing into a row of one's own. -/
theorem st_row (H : Sat (Row t z s vs :: F) w) {j : Nat} {v : Value} (ho : v.oneCell' = true) (hj : j < vs.length) {a : Addr} (ha : s.base = some a) {K : World → Prop}
    (hK : ∀ w', Sat (Row t z s (vs.set j v) :: F) w' → K w') : stCells (a.add j) 0 [v] w K := by
  obtain ⟨D, h, hs⟩ := H.step
  have hown := h.2
  rcases hown.row with ⟨h1, _⟩ | ⟨b, cs, h1, h2, h3, h4, h5⟩
  · rw [h1] at ha; cases ha
  · rw [h1] at ha
    cases ha
    have hl := hown.len
    have hjc : j < cs.size := by
      have : s.len * z ≤ s.cap * z := Nat.mul_le_mul_right _ hown.cap
      omega
    simp only [stCells, add_zero, add_eq, Nat.zero_add]
    refine ⟨⟨⟨_, (by rw [cell_of_block h3]; exact Array.getElem?_eq_getElem hjc)⟩, by simp [World.frozen?, h3], ho⟩, hK _ ?_⟩
    refine hs _ D _ ((Ext.setCell w ⟨b, j, none⟩ v).mono fun i _ hi => (h.1 i).2 ⟨_, h1, hi⟩) ⟨h.1, ?_⟩ fun k hk => .inl hk
    refine ⟨by simpa using hl, hown.cap, hown.top, .inr ⟨b, _, h1, h2, cell_stored_block h3, by simpa using h4, ?_⟩⟩
    rw [Array.toList_setIfInBounds, List.take_set, h5]
end

/-! ### Short circuits -/

/-- What follows a join, at once in each branch. -/
theorem JOIN_in {σ : Type} {first : (σ → World → Prop) → Prop} {rest : σ → (Nat → Value) → World → Prop} (h : first fun s w => ∀ j, rest s j w) : JOIN σ first rest :=
  ⟨_, h, fun s j w h => h j⟩
@[simp] theorem CND_true {T E : Prop} : CND true T E ↔ T := Iff.rfl
@[simp] theorem CND_false {T E : Prop} : CND false T E ↔ E := Iff.rfl
theorem CND_t {b : Bool} {T E : Prop} (hb : b = true) (h : T) : CND b T E := by subst hb; exact h
theorem CND_f {b : Bool} {T E : Prop} (hb : b = false) (h : E) : CND b T E := by subst hb; exact h
theorem CND_eq {a b : Int} {T E : Prop} (h1 : a = b → T) (h2 : a ≠ b → E) : CND (a == b) T E := by
  by_cases h : a = b
  · rw [show (a == b) = true from by simpa using h]; exact h1 h
  · rw [show (a == b) = false from by simpa using h]; exact h2 h
theorem CND_ne {a b : Int} {T E : Prop} (h1 : a ≠ b → T) (h2 : a = b → E) : CND (a != b) T E := by
  by_cases h : a = b
  · rw [show (a != b) = false from by simpa using h]; exact h2 h
  · rw [show (a != b) = true from by simpa using h]; exact h1 h
theorem CND_not {b : Bool} {T E : Prop} (h : CND b E T) : CND (!b) T E := by cases b <;> exact h

end Go.Sh

set_option linter.all false
set_option maxRecDepth 4000
namespace Go.Sh

/-- A tree with these four lists. -/
def TreeP (E : Env) (b : Nat) (l : Nat → Iv) : Pr where
  holds D w := ∃ G, TreeR E w b G ∧ G.l = l ∧ ∀ k, D k ↔ TOwns b G k
  loc h he hS := let ⟨G, h1, h2, h3⟩ := h; ⟨G, h1.ext he fun k hk => hS k ((h3 k).2 hk), h2, h3⟩
  lt h hk := let ⟨G, h1, h2, h3⟩ := h; h1.owns_lt ((h3 _).1 hk)

theorem Sat.tree {E : Env} {b : Nat} {l : Nat → Iv} {F : List Pr} {w : World} (H : Sat (TreeP E b l :: F) w) :
    ∃ G, TreeR E w b G ∧ G.l = l ∧ ∀ w' G', TStep E b w G w' G' → Sat (TreeP E b G'.l :: F) w' := by
  obtain ⟨D, ⟨G, h1, h2, h3⟩, hs⟩ := H.step
  refine ⟨G, h1, h2, fun w' G' st => hs w' (TOwns b G') _ (st.ext.mono fun i _ hi => (h3 i).2 hi) ⟨G', st.rep, rfl, fun _ => Iff.rfl⟩ fun k hk => ?_⟩
  rcases st.owns k hk with h | h
  · exact .inl ((h3 k).2 h)
  · exact .inr h

theorem Sat.treeNew {E : Env} {b : Nat} {F : List Pr} {w w' : World} {G : TreeG} (H : Sat F w) (h : TMade E w w' b G) : Sat (TreeP E b G.l :: F) w' :=
  H.new (P := TreeP E b G.l) (D := TOwns b G) h.ext ⟨G, h.rep, rfl, fun _ => Iff.rfl⟩ h.young

theorem Sat.treeInv {E : Env} {b : Nat} {l : Nat → Iv} {F : List Pr} {w : World} (H : Sat (TreeP E b l :: F) w) : TInv l ∧ ∀ i, i < 4 → Ok (l i) := by
  obtain ⟨G, h1, rfl, _⟩ := H.tree
  exact ⟨h1.inv, fun i hi => (h1.sets.sets i hi).row.ok⟩

/-! ### Stretches are told by what is in them -/

theorem mem_run {l : Iv} (h : Ok l) : ∀ {a b : Int}, a < b → (∀ n, a ≤ n → n < b → mem l n) → ∃ q ∈ l, q.1 ≤ a ∧ b ≤ q.2 := by
  induction l with
  | nil => intro a b hab hm; exact absurd (hm a (Int.le_refl _) hab) (mem_nil _)
  | cons p r ih =>
    intro a b hab hm
    by_cases h1 : p.1 ≤ a ∧ a < p.2
    · by_cases h2 : b ≤ p.2
      · exact ⟨p, List.mem_cons_self, h1.1, h2⟩
      · have hq := hm p.2 (by omega) (by omega)
        rcases mem_cons.1 hq with h3 | ⟨q, hq, h3, h4⟩
        · omega
        · have := h.2.2.2.1 q hq; omega
    · have hlt : ∀ n, a ≤ n → n < b → mem r n := by
        intro n hn1 hn2
        rcases mem_cons.1 (hm n hn1 hn2) with h3 | h3
        · exfalso
          have ha := hm a (Int.le_refl _) hab
          rcases mem_cons.1 ha with h4 | ⟨q, hq, h4, h5⟩
          · exact h1 h4
          · have := h.2.2.2.1 q hq; omega
        · exact h3
      obtain ⟨q, hq, h3⟩ := ih h.tail hab hlt
      exact ⟨q, List.mem_cons_of_mem _ hq, h3⟩

/-- [p, p + n) is a row of members. -/
def rowIn (l : Iv) (p n : Int) : Prop := ∀ m, p ≤ m → m < p + n → mem l m

theorem findL_some {l : Iv} (h : Ok l) {n p : Int} (hn : 0 < n) (hf : findL l n = some p) : rowIn l p n ∧ ∀ p', rowIn l p' n → p ≤ p' := by
  induction l with
  | nil => cases hf
  | cons q r ih =>
    simp only [findL] at hf
    split at hf
    · cases hf
      refine ⟨fun m h1 h2 => mem_cons.2 (.inl ⟨h1, by omega⟩), fun p' hp' => ?_⟩
      rcases mem_cons.1 (hp' p' (by omega) (by omega)) with h1 | ⟨q', hq', h1, h2⟩
      · exact h1.1
      · have := h.2.2.2.1 q' hq'; have := h.2.1; omega
    · obtain ⟨h1, h2⟩ := ih h.tail hf
      refine ⟨fun m h3 h4 => mem_cons.2 (.inr (h1 m h3 h4)), fun p' hp' => ?_⟩
      obtain ⟨q', hq', h3, h4⟩ := mem_run h (by omega) hp'
      rcases List.mem_cons.1 hq' with rfl | hq'
      · omega
      · exact h2 p' fun m h5 h6 => ⟨q', hq', by omega, by omega⟩

theorem findL_none {l : Iv} (h : Ok l) {n : Int} (hn : 0 < n) (hf : findL l n = none) : ∀ p, ¬ rowIn l p n := by
  induction l with
  | nil => intro p hp; exact mem_nil _ (hp p (by omega) (by omega))
  | cons q r ih =>
    simp only [findL] at hf
    split at hf
    · cases hf
    · intro p hp
      obtain ⟨q', hq', h3, h4⟩ := mem_run h (by omega) hp
      rcases List.mem_cons.1 hq' with rfl | hq'
      · omega
      · exact ih h.tail hf p fun m h5 h6 => ⟨q', hq', by omega, by omega⟩

theorem Ok_ext : ∀ {l m : Iv}, Ok l → Ok m → (∀ n, mem l n ↔ mem m n) → l = m
  | [], [], _, _, _ => rfl
  | [], q :: m, _, hm, h => absurd ((h q.1).2 (mem_cons.2 (.inl ⟨by omega, hm.2.1⟩))) (mem_nil _)
  | p :: l, [], hl, _, h => absurd ((h p.1).1 (mem_cons.2 (.inl ⟨by omega, hl.2.1⟩))) (mem_nil _)
  | p :: l, q :: m, hl, hm, h => by
    have first : ∀ {p q : Int × Int} {l m : Iv}, Ok (p :: l) → Ok (q :: m) → (∀ n, mem (p :: l) n → mem (q :: m) n) → q.1 ≤ p.1 ∧ (p.1 ≤ q.1 → p.2 ≤ q.2) := by
      intro p q l m hl hm h
      constructor
      · rcases mem_cons.1 (h p.1 (mem_cons.2 (.inl ⟨by omega, hl.2.1⟩))) with h1 | ⟨r, hr, h1, h2⟩
        · exact h1.1
        · have := hm.2.2.2.1 r hr; have := hm.2.1; omega
      · intro hle
        obtain ⟨r, hr, h1, h2⟩ := mem_run hm (a := p.1) (b := p.2) hl.2.1 fun n h1 h2 => h n (mem_cons.2 (.inl ⟨h1, h2⟩))
        rcases List.mem_cons.1 hr with rfl | hr
        · exact h2
        · have := hm.2.2.2.1 r hr; have := hm.2.1; omega
    have h1 := first hl hm fun n => (h n).1
    have h2 := first hm hl fun n => (h n).2
    have e1 : p.1 = q.1 := by omega
    have e2 : p.2 = q.2 := by have := h1.2 (by omega); have := h2.2 (by omega); omega
    have e : p = q := Prod.ext e1 e2
    subst e
    rw [Ok_ext hl.tail hm.tail]
    intro n
    have hn := h n
    rw [mem_cons, mem_cons] at hn
    constructor
    · rintro ⟨r, hr, h3, h4⟩
      rcases hn.1 (.inr ⟨r, hr, h3, h4⟩) with h5 | h5
      · have := hl.2.2.2.1 r hr; omega
      · exact h5
    · rintro ⟨r, hr, h3, h4⟩
      rcases hn.2 (.inr ⟨r, hr, h3, h4⟩) with h5 | h5
      · have := hm.2.2.2.1 r hr; omega
      · exact h5

theorem cnt_succ {l : Iv} (h : Ok l) {a k : Int} (hk : a ≤ k) : (mem l k → cnt l a (k + 1) = cnt l a k + 1) ∧ (¬ mem l k → cnt l a (k + 1) = cnt l a k) := by
  have h1 := cnt_add (Ok.lts h) hk (show k ≤ k + 1 by omega)
  have h2 := cnt_pos (Ok.lts h) (a := k)
  have h3 := cnt_split h (show k ≤ k + 1 by omega)
  have h4 := cnt_nonneg l k (k + 1)
  constructor
  · intro hm; have := h2.2 hm; omega
  · intro hm
    have : ¬ 0 < cnt l k (k + 1) := fun e => hm (h2.1 e)
    omega

theorem cnt_all : ∀ {l : Iv}, (∀ p ∈ l, p.1 < p.2) → ∀ {a b : Int}, (∀ n, mem l n → a ≤ n ∧ n < b) → cnt l a b = tot l
  | [], _, a, b, _ => rfl
  | p :: r, h, a, b, hin => by
    have hp := h p List.mem_cons_self
    have h1 := hin p.1 (mem_cons.2 (.inl ⟨by omega, hp⟩))
    have h2 := hin (p.2 - 1) (mem_cons.2 (.inl ⟨by omega, by omega⟩))
    have ih := cnt_all (l := r) (fun q hq => h q (List.mem_cons_of_mem _ hq)) (a := a) (b := b) fun n hn => hin n (mem_cons.2 (.inr hn))
    simp only [cnt, tot, cnt1, ih]
    omega

/-! ### A row of flags -/

def flags (n : Nat) (u : Int → Bool) : List Value := (List.range n).map fun i : Nat => .bool (u i)

theorem flags_get {n : Nat} {u : Int → Bool} {i : Nat} (hi : i < n) : (flags n u)[i]? = some (.bool (u i)) := by simp [flags, hi]
theorem flags_getI {n : Nat} {u : Int → Bool} {i : Int} (h0 : 0 ≤ i) (hi : i < n) : (flags n u)[0 + i.toNat]? = some (.bool (u i)) := by
  rw [Nat.zero_add, flags_get (by omega)]
  rw [show ((i.toNat : Nat) : Int) = i by omega]
theorem flags_set {n : Nat} {u : Int → Bool} {i : Int} (h0 : 0 ≤ i) (v : Bool) : (flags n u).set (0 + i.toNat) (.bool v) = flags n fun j => if j = i then v else u j := by
  rw [Nat.zero_add]
  apply List.ext_getElem?
  intro j
  rw [List.getElem?_set]
  by_cases hj : j < n
  · rw [flags_get hj, flags_get hj]
    simp only [flags, List.length_map, List.length_range]
    by_cases e : i.toNat = j
    · rw [if_pos e, if_pos (by omega), if_pos (by omega)]
    · rw [if_neg e, if_neg (by omega)]
  · simp only [flags, List.length_map, List.length_range]
    simp [hj]
    omega
theorem flags_len {n : Nat} {u : Int → Bool} : (flags n u).length = n := by simp [flags]
theorem mkZero_flags (n : Nat) : mkZero #[.bool false] n = ⟨flags n fun _ => false⟩ := by
  apply Array.ext'
  apply List.ext_getElem?
  intro i
  by_cases hi : i < n
  · rw [flags_get hi]; simpa using mkZero_get (v := .bool false) hi
  · rw [List.getElem?_eq_none (by simp [mkZero]; omega), List.getElem?_eq_none (by simp [flags]; omega)]
where
  mkZero_get {v : Value} {n i : Nat} (hi : i < n) : (mkZero #[v] n)[i]? = some v := by
    unfold mkZero
    simp [hi, Nat.mod_one]

/-- Where so many rows are free in a row of flags: the first. -/
def freeRow (u : Int → Bool) (p n : Int) : Prop := ∀ m, p ≤ m → m < p + n → u m = false

def ints (k : IntKind) (l : List Int) : List Value := l.map fun n => .int k n
theorem ints_get {k : IntKind} {l : List Int} {i : Nat} {n : Int} (h : l[i]? = some n) : (ints k l)[i]? = some (.int k n) := by simp [ints, h]

end Go.Sh

set_option linter.all false
set_option maxRecDepth 4000
set_option maxHeartbeats 4000000
namespace Go.Sh

theorem two_sum : True := trivial

/-- What stands between two allocations. -/
structure FirstI (l : Nat → Iv) (u : Int → Bool) (A N : List Int) : Prop where
  l0 : l 0 = [(1536, 3072)]
  m : ∀ n, mem (l 1) n ↔ 1536 ≤ n ∧ n < 3072 ∧ u (n - 1536) = false
  len : A.length = N.length
  row : ∀ (j : Nat) (a n : Int), A[j]? = some a → N[j]? = some n → 0 ≤ n ∧ n ≤ 1600 ∧ 1536 ≤ a ∧ a < 3072 ∧ (0 < n → a + n ≤ 3072 ∧ ∀ m, a ≤ m → m < a + n → u (m - 1536) = true)
  apart : ∀ (i j : Nat) (a n a' n' : Int), i ≠ j → A[i]? = some a → N[i]? = some n → A[j]? = some a' → N[j]? = some n' → 0 < n → 0 < n' → a + n ≤ a' ∨ a' + n' ≤ a

/-- What the search for a row of n free ones comes to. -/
def Found (u : Int → Bool) (n want : Int) : Prop :=
  (want = -1 ∧ ∀ p, 0 ≤ p → p + n ≤ 1536 → ¬ freeRow u p n) ∨ (0 ≤ want ∧ want + n ≤ 1536 ∧ freeRow u want n ∧ ∀ p, 0 ≤ p → p < want → ¬ freeRow u p n)

theorem FirstI.rows {l : Nat → Iv} {u : Int → Bool} {A N : List Int} (h : FirstI l u A N) {p n : Int} (hn : 0 < n) : rowIn (l 1) p n ↔ 1536 ≤ p ∧ p + n ≤ 3072 ∧ freeRow u (p - 1536) n := by
  constructor
  · intro hr
    have h1 := (h.m p).1 (hr p (by omega) (by omega))
    have h2 := (h.m (p + n - 1)).1 (hr _ (by omega) (by omega))
    refine ⟨h1.1, by omega, fun m hm1 hm2 => ?_⟩
    have := (h.m (m + 1536)).1 (hr _ (by omega) (by omega))
    rw [show m + 1536 - 1536 = m by omega] at this
    exact this.2.2
  · rintro ⟨h1, h2, h3⟩ m hm1 hm2
    exact (h.m m).2 ⟨by omega, by omega, h3 _ (by omega) (by omega)⟩

theorem FirstI.found {l : Nat → Iv} {u : Int → Bool} {A N : List Int} (h : FirstI l u A N) (hok : Ok (l 1)) {n want : Int} (hn : 0 < n) (hw : Found u n want) :
    (want = -1 ∧ findL (l 1) n = none) ∨ (0 ≤ want ∧ want + n ≤ 1536 ∧ freeRow u want n ∧ findL (l 1) n = some (1536 + want)) := by
  rcases hw with ⟨h1, h2⟩ | ⟨h1, h2, h3, h4⟩
  · refine .inl ⟨h1, ?_⟩
    cases hf : findL (l 1) n with
    | none => rfl
    | some p =>
      have := (h.rows hn).1 (findL_some hok hn hf).1
      exact absurd this.2.2 (h2 _ (by omega) (by omega))
  · refine .inr ⟨h1, h2, h3, ?_⟩
    have hr : rowIn (l 1) (1536 + want) n := (h.rows hn).2 ⟨by omega, by omega, by rw [show 1536 + want - 1536 = want by omega]; exact h3⟩
    cases hf : findL (l 1) n with
    | none => exact absurd hr (findL_none hok hn hf _)
    | some p =>
      obtain ⟨g1, g2⟩ := findL_some hok hn hf
      have := (h.rows hn).1 g1
      have hle := g2 _ hr
      by_cases e : p - 1536 < want
      · exact absurd this.2.2 (h4 _ (by omega) e)
      · congr 1; omega

/-- What stands between two rounds. -/
def FirstL (E : Env) (w : World) (b g : Nat) (sz : SlV) (st : SlV × SlV × Int × Unit) (w' : World) : Prop :=
  ∃ (i : Nat) (l : Nat → Iv) (u : Int → Bool) (A N : List Int), st.2.2.1 = (i : Int) ∧ A.length ≤ i ∧ i ≤ sz.len ∧ FirstI l u A N ∧
      Sat [Row E.t_uint64 1 st.1 (ints .u64 A), Row E.t_uint64 1 st.2.1 (ints .u64 N), Cells g E.t_bool (flags 1536 u), TreeP E b l, Old w] w'

section
variable {E : Env} (hE : EnvS E) {w : World}
include hE

theorem first_give {gv : SlV} {zg : Nat → Int} (hg : RowA w (.int .i64) gv zg) {b g i : Nat} {K : Bool → World → Prop} (sA' sN' : SlV) (l' : Nat → Iv) (u' : Int → Bool) (A' N' : List Int) (w47 : World) (hA' : A'.length ≤ i + 1) (hI' : FirstI l' u' A' N')
    (H47 : Sat [Row E.t_uint64 1 sA' (ints .u64 A'), Row E.t_uint64 1 sN' (ints .u64 N'), Cells g E.t_bool (flags 1536 u'), TreeP E b l', Old w] w47)
    (next15 : SlV × SlV × Int × Unit → World → Prop) (hnext : ∀ (sA : SlV) (sN : SlV) (l : Nat → Iv) (u : Int → Bool) (A N : List Int) (w' : World), A.length ≤ i + 1 → FirstI l u A N →
      Sat [Row E.t_uint64 1 sA (ints .u64 A), Row E.t_uint64 1 sN (ints .u64 N), Cells g E.t_bool (flags 1536 u), TreeP E b l, Old w] w' → next15 (sA, sN, i64 ((i : Int) + 1), ()) w') :
    JOIN (Bool × Unit) (fun J64 =>
      CND (decide ((i : Int) < ((gv.len : Nat) : Int))) (
        NC gv.base fun p67 =>
        ((0 : Int) ≤ (i : Int) ∧ ((i : Int) : Int) < (gv.len : Nat)) ∧
        ∃ x68 : Int, w47.cell? (p67.add i) = some (.int .i64 x68) ∧
        CND (decide ((x68 : Int) ≥ 0)) (
          NC gv.base fun p69 =>
          ((0 : Int) ≤ (i : Int) ∧ ((i : Int) : Int) < (gv.len : Nat)) ∧
          ∃ x70 : Int, w47.cell? (p69.add i) = some (.int .i64 x70) ∧
          CND (decide ((x70 : Int) < ((sA'.len : Nat) : Int))) (
            NC gv.base fun p71 =>
            ((0 : Int) ≤ (i : Int) ∧ ((i : Int) : Int) < (gv.len : Nat)) ∧
            ∃ x72 : Int, w47.cell? (p71.add i) = some (.int .i64 x72) ∧
            NC sN'.base fun p73 =>
            ((0 : Int) ≤ x72 ∧ (x72 : Int) < (sN'.len : Nat)) ∧
            ∃ x74 : Int, w47.cell? (p73.add (Int.toNat x72)) = some (.int .u64 x74) ∧
            J64 (decide ((x74 : Int) > 0), ()) w47
          ) (
            J64 (false, ()) w47
          )
        ) (
          J64 (false, ()) w47
        )
      ) (
        J64 (false, ()) w47
      )
    ) fun s65 _ w66 =>
      CND (s65.1) (
        NC gv.base fun p75 =>
        ((0 : Int) ≤ (i : Int) ∧ ((i : Int) : Int) < (gv.len : Nat)) ∧
        ∃ x76 : Int, w66.cell? (p75.add i) = some (.int .i64 x76) ∧
        NC sA'.base fun p77 =>
        ((0 : Int) ≤ x76 ∧ (x76 : Int) < (sA'.len : Nat)) ∧
        ∃ x78 : Int, w66.drew.cell? (p77.add (Int.toNat x76)) = some (.int .u64 x78) ∧
        NC sN'.base fun p79 =>
        ((0 : Int) ≤ x76 ∧ (x76 : Int) < (sN'.len : Nat)) ∧
        ∃ x80 : Int, w66.drew.cell? (p79.add (Int.toNat x76)) = some (.int .u64 x80) ∧
        F.radix_Tree_Give E (some ⟨b, 0, none⟩) x78 x80 (fun r81 w82 =>
        CND ((r81 : Int) != 0) (
          K false w82
        ) (
          NC sA'.base fun p83 =>
          ((0 : Int) ≤ x76 ∧ (x76 : Int) < (sA'.len : Nat)) ∧
          ∃ x84 : Int, w82.cell? (p83.add (Int.toNat x76)) = some (.int .u64 x84) ∧
          LOOP (Int × Unit) (x84, ()) w82 fun s85 _ w86 next87 =>
            NC sA'.base fun p88 =>
            ((0 : Int) ≤ x76 ∧ (x76 : Int) < (sA'.len : Nat)) ∧
            ∃ x89 : Int, w86.drew.cell? (p88.add (Int.toNat x76)) = some (.int .u64 x89) ∧
            NC sN'.base fun p90 =>
            ((0 : Int) ≤ x76 ∧ (x76 : Int) < (sN'.len : Nat)) ∧
            ∃ x91 : Int, w86.drew.cell? (p90.add (Int.toNat x76)) = some (.int .u64 x91) ∧
            CND (decide ((s85.1 : Int) < (u64 (x89 + x91)))) (
              ((0 : Int) ≤ (u64 (s85.1 - 1536)) ∧ ((u64 (s85.1 - 1536)) : Int) < ((1536 : Nat) : Int)) ∧
              stCells ((Addr.mk g 0 none).add (Int.toNat (u64 (s85.1 - 1536)))) 0 [.bool false] w86.drew fun w92 =>
              next87 (u64 (s85.1 + 1), ()) w92
            ) (
              NC sN'.base fun p93 =>
              ((0 : Int) ≤ x76 ∧ (x76 : Int) < (sN'.len : Nat)) ∧
              stCells (p93.add (Int.toNat x76)) 0 [.int .u64 0] w86.drew fun w94 =>
              next15 (sA', sN', i64 ((i : Int) + 1), ()) w94
            )
        )
        ) w66.drew
      ) (
        next15 (sA', sN', i64 ((i : Int) + 1), ()) w66
      ) := by
  have hout : next15 (sA', sN', i64 ((i : Int) + 1), ()) w47 := hnext _ _ l' u' A' N' w47 hA' hI' H47
  have he47 := H47.old 4 rfl
  have lenA : A'.length = sA'.len := by have := H47.rowLen; simpa [ints] using this
  have lenN : N'.length = sN'.len := by have := (H47.front 1 rfl).rowLen; simpa [ints] using this
  refine JOIN_in (CND_dec (fun hig => ?_) fun _ j => CND_f rfl hout)
  have hgl : i < gv.len := by omega
  obtain ⟨x1, hx1, hc1, hw1⟩ := hg.cell1 hgl
  obtain ⟨hk0, hk1⟩ := i64_wf hw1
  generalize hKK : zg i = kk at hc1 hk0 hk1
  have ck : ∀ {w'}, Ext Nothing w w' → w'.cell? (x1.add i) = some (.int .i64 kk) := fun he => he.cell hc1 fun f => f
  have hig2 : (0 : Int) ≤ (i : Int) ∧ (i : Int) < (gv.len : Int) := ⟨by omega, by omega⟩
  rw [hx1]
  simp only [NC_some]
  refine ⟨hig2, kk, ck he47, CND_dec (fun hpos => ⟨hig2, kk, ck he47, CND_dec (fun hlen => ⟨hig2, kk, ck he47, ?_⟩) fun _ j => CND_f rfl hout⟩) fun _ j => CND_f rfl hout⟩
  obtain ⟨k, hkk⟩ : ∃ k : Nat, kk = (k : Int) := ⟨kk.toNat, by omega⟩
  subst hkk
  simp only [Int.toNat_natCast]
  have hkA : k < A'.length := by omega
  have hkN : k < N'.length := by have := hI'.len; omega
  obtain ⟨a, ha⟩ : ∃ a, A'[k]? = some a := ⟨_, List.getElem?_eq_getElem hkA⟩
  obtain ⟨m, hm⟩ : ∃ m, N'[k]? = some m := ⟨_, List.getElem?_eq_getElem hkN⟩
  obtain ⟨q1, q2, q3, q4, q5⟩ := hI'.row k a m ha hm
  have ikA : (0 : Int) ≤ (k : Int) ∧ (k : Int) < (sA'.len : Int) := ⟨by omega, by omega⟩
  have ikN : (0 : Int) ≤ (k : Int) ∧ (k : Int) < (sN'.len : Int) := ⟨by omega, by omega⟩
  refine (H47.front 1 rfl).rowCell (ints_get hm) fun pn hpn hcn => ⟨ikN, m, hcn, fun j => CND_dec (fun hmpos => ?_) fun _ => hout⟩
  simp only [hpn, NC_some]
  refine ⟨hig2, k, ck he47, ?_⟩
  simp only [Int.toNat_natCast]
  have H48 := H47.drew
  refine H48.rowCell (ints_get ha) fun pa hpa hca => ⟨ikA, a, hca, ikN, m, (H48.front 1 rfl).own.cell hpn (ints_get hm), ?_⟩
  simp only [hpa, NC_some]
  obtain ⟨G2, hR2, hlG2, st2⟩ := (H48.front 3 rfl).tree
  obtain ⟨q6, q7⟩ := q5 hmpos
  have hok1 : Ok (l' 1) := by rw [← hlG2]; exact (hR2.sets.sets 1 (by decide)).row.ok
  have hlk : lookedR G2.l a m false 31 = 0 := by
    rw [hlG2]
    unfold lookedR
    have c0 : cnt (l' 0) a (a + m) = m := by rw [hI'.l0]; simp only [cnt, cnt1]; omega
    have c1 : cnt (l' 1) a (a + m) = 0 := (cnt_none hok1 (by omega)).2 fun n h1 h2 hn => by
      have := (hI'.m n).1 hn
      rw [q7 n h1 h2] at this
      exact absurd this.2.2 (by decide)
    rw [if_neg (by rw [c0]; omega), if_neg (by rw [c1]; simp)]
  unfold F.radix_Tree_Give
  refine freed_spec hE hR2 (.inr rfl) (by omega) (by omega) q1 (by omega) (fun h => absurd hlk h) fun _ w82 G3 hs3 hl3 => ?_
  rw [hlG2] at hl3
  have H82 : Sat [Row E.t_uint64 1 sA' (ints .u64 A'), Row E.t_uint64 1 sN' (ints .u64 N'), Cells g E.t_bool (flags 1536 u'), TreeP E b G3.l, Old w] w82 := Sat.back 3 (st2 _ _ hs3) (by simp)
  refine CND_f rfl ⟨ikA, a, H82.own.cell hpa (ints_get ha), ?_⟩
  refine LOOP_intro (fun st w' => a ≤ st.1 ∧ st.1 ≤ a + m ∧ Sat [Row E.t_uint64 1 sA' (ints .u64 A'), Row E.t_uint64 1 sN' (ints .u64 N'), Cells g E.t_bool (flags 1536 fun z => if a - 1536 ≤ z ∧ z < st.1 - 1536 then false else u' z), TreeP E b G3.l, Old w] w')
    (fun st _ => (a + m - st.1).toNat) ⟨Int.le_refl _, by first | omega | (simp only; omega), ?_⟩ ?_
  · have : (fun z => if a - 1536 ≤ z ∧ z < a - 1536 then false else u' z) = u' := by funext z; rw [if_neg (by omega)]
    simp only [this]
    exact H82
  rintro ⟨x, v⟩ _ w86 ⟨hx1, hx2, H86⟩
  simp only at hx1 hx2 H86 ⊢
  have H87 := H86.drew
  refine ⟨ikA, a, H87.own.cell hpa (ints_get ha), ikN, m, (H87.front 1 rfl).own.cell hpn (ints_get hm), ?_⟩
  rw [u64_id (n := a + m) (by omega) (by omega)]
  refine CND_dec (fun hlt => ?_) (fun hge => ⟨ikN, ?_⟩)
  · rw [u64_id (n := x - 1536) (by omega) (by omega), u64_id (n := x + 1) (by omega) (by omega)]
    refine ⟨⟨by omega, by omega⟩, st_cell (H87.front 2 rfl) rfl (by rw [flags_len]; omega) fun w92 H92 => ?_⟩
    rw [flags_set (by omega)] at H92
    have H93 : Sat [Row E.t_uint64 1 sA' (ints .u64 A'), Row E.t_uint64 1 sN' (ints .u64 N'), Cells g E.t_bool _, TreeP E b G3.l, Old w] w92 := Sat.back (Ps := [_, _, Cells g E.t_bool _, _, _]) 2 H92 (by simp)
    refine ⟨⟨by first | omega | (simp only; omega), by first | omega | (simp only; omega), ?_⟩, by first | omega | (simp only; omega)⟩
    have : (fun z => if a - 1536 ≤ z ∧ z < x + 1 - 1536 then false else u' z) = fun j => if j = x - 1536 then false else if a - 1536 ≤ j ∧ j < x - 1536 then false else u' j := by
      funext z
      by_cases e : z = x - 1536
      · rw [if_pos (by omega), if_pos e]
      · rw [if_neg e]
        by_cases e2 : a - 1536 ≤ z ∧ z < x - 1536
        · rw [if_pos (by omega), if_pos e2]
        · rw [if_neg (by omega), if_neg e2]
    simp only [this]
    exact H93
  · have hxe : x = a + m := by omega
    subst hxe
    refine st_row (H87.front 1 rfl) rfl (by simp [ints]; omega) hpn fun w94 H94 => ?_
    have hset : (ints .u64 N').set k (.int .u64 0) = ints .u64 (N'.set k 0) := by simp [ints, List.map_set]
    rw [hset] at H94
    have H95 := Sat.back (Ps := [Row E.t_uint64 1 sA' (ints .u64 A'), Row E.t_uint64 1 sN' (ints .u64 N'), _, _, _]) 1 H94 (by simp)
    refine hnext _ _ G3.l _ A' (N'.set k 0) w94 hA' ?_ H95
    have e1 : G3.l 1 = addL (l' 1) a (a + m) := by rw [hl3]; rfl
    have getN : ∀ (j : Nat) (n : Int), (N'.set k 0)[j]? = some n → (j = k ∧ n = 0) ∨ (j ≠ k ∧ N'[j]? = some n) := by
      intro j n h
      rw [List.getElem?_set] at h
      by_cases e : k = j
      · rw [if_pos e, if_pos (by omega)] at h
        cases h
        exact .inl ⟨e.symm, rfl⟩
      · rw [if_neg e] at h
        exact .inr ⟨fun h => e h.symm, h⟩
    refine ⟨by rw [hl3]; exact hI'.l0, fun n => ?_, by simp [hI'.len], fun j a' n hja hjn => ?_, fun i' j a1 n1 a2 n2 hij hi1 hi2 hj1 hj2 hp1 hp2 => ?_⟩
    · rw [e1, mem_addL hok1 (by omega) (by omega) (by omega), hI'.m n]
      by_cases e : a - 1536 ≤ n - 1536 ∧ n - 1536 < a + m - 1536
      · rw [if_pos e]
        constructor
        · rintro (h | h)
          · exact ⟨h.1, h.2.1, rfl⟩
          · exact ⟨by omega, by omega, rfl⟩
        · rintro _; exact .inr ⟨by omega, by omega⟩
      · rw [if_neg e]
        constructor
        · rintro (h | h)
          · exact h
          · omega
        · exact fun h => .inl h
    · rcases getN j n hjn with ⟨e, e2⟩ | ⟨e, e2⟩
      · subst e; subst e2
        rw [ha] at hja; cases hja
        exact ⟨by omega, by omega, q3, q4, fun h => by omega⟩
      · obtain ⟨g1, g2, g3, g4, g5⟩ := hI'.row j a' n hja e2
        refine ⟨g1, g2, g3, g4, fun hp => ⟨(g5 hp).1, fun z hz1 hz2 => ?_⟩⟩
        rw [if_neg]
        · exact (g5 hp).2 z hz1 hz2
        · have := hI'.apart j k a' n a m e hja e2 ha hm hp hmpos
          omega
    · rcases getN i' n1 hi2 with ⟨_, e⟩ | ⟨_, e⟩
      · omega
      · rcases getN j n2 hj2 with ⟨_, e'⟩ | ⟨_, e'⟩
        · omega
        · exact hI'.apart i' j a1 n1 a2 n2 hij hi1 e hj1 e' hp1 hp2

theorem first_spec {sz gv : SlV} {zs zg : Nat → Int} (hs : RowA w (.int .u64) sz zs) (hg : RowA w (.int .i64) gv zg)
    {K : Bool → World → Prop} (hK : ∀ w', Ext Nothing w w' → K true w') : F.mallowlaw9_RadixFirst E sz gv K w := by
  unfold F.mallowlaw9_RadixFirst
  simp only [Nat.mul_one, show Int.toNat 1536 = 1536 from rfl]
  have hdone : ∀ {Ps : List Pr} {w'} (i : Nat), Sat Ps w' → Ps[i]? = some (Old w) → K true w' := fun i H hi => hK _ (H.old i hi)
  refine JOIN_in (CND_dec (fun _ j => CND_t rfl (hK _ (Ext.refl _ _))) fun g1 j => CND_dec (fun _ => hK _ (Ext.refl _ _)) fun g2 => ?_)
  have H0 := Sat.start w
  refine tnew_spec fun w5 b G hm5 hl => ?_
  have H5 := H0.treeNew hm5
  refine JOIN_in (CND_f rfl ?_)
  obtain ⟨G', hR, hlG, st⟩ := H5.tree
  refine grow_spec hE hR (by decide) (by decide) (by decide) (by decide) (fun h => by omega) (fun _ h => by rw [hlG, hl] at h; exact absurd rfl h) fun _ _ w10 G10 hs10 hl10 j => CND_f rfl ?_
  have H10 := st _ _ hs10
  rw [hlG] at hl10
  have hl0 : G10.l 0 = [(1536, 3072)] ∧ G10.l 1 = [(1536, 3072)] := by
    rw [hl10]
    constructor
    · show addL (G.l 0) (3 * 512) ((3 + 3) * 512) = _; rw [hl, addL_nil hE]; decide
    · show addL (G.l 1) (3 * 512) ((3 + 3) * 512) = _; rw [hl, addL_nil hE]; decide
  refine ⟨⟨by decide, by decide, by decide, by decide⟩, ?_⟩
  rw [mkZero_flags]
  refine AL_cells H10 fun g w12 H12 _ => ?_
  have H13 := (H12.nil E.t_uint64 1).nil E.t_uint64 1
  have hI0 : FirstI G10.l (fun _ => false) [] [] := by
    refine ⟨hl0.1, fun n => ?_, rfl, fun j a n h => by simp at h, fun i j a n a' n' _ h => by simp at h⟩
    rw [hl0.2, mem_cons]
    have := mem_nil n
    simp only [this, or_false, and_true]
  refine LOOP_intro (FirstL E w b g sz) (fun st _ => (sz.len - st.2.2.1).toNat)
    ⟨0, _, _, [], [], rfl, Nat.le_refl _, Nat.zero_le _, hI0, H13⟩ ?_
  rintro ⟨sA, sN, i', v⟩ _ w14 ⟨i, l, u, A, N, hi, hAi, hil, hI, H14⟩
  simp only at hi H14 ⊢
  subst hi
  refine CND_dec (fun hlt => ?_) (fun hge => ?_)
  · -- a round
    have hik : i < sz.len := by omega
    obtain ⟨x0, hx0, hc0, hw0⟩ := hs.cell1 hik
    obtain ⟨hn0, hn1⟩ := u64_wf hw0
    generalize hN : zs i = n at hc0 hn0 hn1
    have cn : ∀ {w'}, Ext Nothing w w' → w'.cell? (x0.add i) = some (.int .u64 n) := fun he => he.cell hc0 fun f => f
    rw [hx0]
    simp only [NC_some, Int.toNat_natCast]
    have hii : (0 : Int) ≤ (i : Int) ∧ (i : Int) < (sz.len : Int) := ⟨by omega, by omega⟩
    have he14 := H14.old 4 rfl
    refine JOIN_in ⟨hii, n, cn he14, CND_dec (fun _ j => CND_t rfl (hK _ he14)) fun hge1 => ⟨hii, n, cn he14, fun j => CND_dec (fun _ => hK _ he14) fun hle => ?_⟩⟩
    refine JOIN_intro (fun st w' => w' = w14 ∧ Found u n st.1) ?_ ?_
    · -- the search
      refine LOOP_intro (fun st w' => w' = w14 ∧ 0 ≤ st.2.2.1 ∧ st.2.2.1 ≤ 1536 ∧ ((st.2.1 = -1 ∧ 0 ≤ st.1 ∧ st.1 < n ∧ st.1 ≤ st.2.2.1 ∧ freeRow u (st.2.2.1 - st.1) st.1 ∧ (0 < st.2.2.1 - st.1 → u (st.2.2.1 - st.1 - 1) = true)
            ∧ ∀ p, 0 ≤ p → p + n ≤ st.2.2.1 → ¬ freeRow u p n) ∨ (0 ≤ st.2.1 ∧ Found u n st.2.1))) (fun st _ => (1536 - st.2.2.1).toNat)
        ⟨rfl, by decide, by decide, .inl ⟨rfl, Int.le_refl _, by first | omega | (simp only; omega), Int.le_refl _, fun m h1 h2 => by first | omega | (simp only at h1 h2; omega), fun h => by first | omega | (simp only at h; omega), fun p h1 h2 => by first | omega | (simp only at h2; omega)⟩⟩ ?_
      rintro ⟨run, want, k, v⟩ _ w27 ⟨rfl, hk0, hk1, hst⟩
      simp only at hk0 hk1 hst ⊢
      refine CND_dec (fun hlt => CND_dec (fun hneg => ?_) fun hpos => ?_) fun hge => ?_
      · rcases hst with ⟨h1, h2, h3, h4, h5, h6, h7⟩ | ⟨h1, _⟩
        · have hk : u k = u k := rfl
          refine JOIN_in ⟨⟨hk0, by omega⟩, u k, (H14.front 2 rfl).cell (flags_getI hk0 hlt), ?_⟩
          refine CND_intro (fun hu j => ⟨hii, n, cn he14, ?_⟩) (fun hu j => ⟨hii, n, cn he14, ?_⟩)
          · refine CND_eq (fun e => by first | omega | (simp only at e; omega)) fun _ => ?_
            rw [i64_id (n := k + 1) (by omega) (by omega)]
            refine ⟨⟨rfl, by first | omega | (simp only; omega), by first | omega | (simp only; omega), .inl ⟨h1, by decide, by first | omega | (simp only; omega), by first | omega | (simp only; omega), fun m g1 g2 => by first | omega | (simp only at g1 g2; omega), fun _ => by (try simp only); rw [show k + 1 - 0 - 1 = k by omega]; exact hu, fun p g1 g2 => ?_⟩⟩, by first | omega | (simp only; omega)⟩
            try simp only at g2
            intro hf
            by_cases e : p + n ≤ k
            · exact h7 p g1 e hf
            · have := hf k (by omega) (by omega); rw [hu] at this; cases this
          · rw [u64_id (n := run + 1) (by omega) (by omega)]
            have hrow : freeRow u (k + 1 - (run + 1)) (run + 1) := fun m g1 g2 => by
              by_cases e : m = k
              · subst e; exact hu
              · exact h5 m (by omega) (by omega)
            refine CND_eq (fun e => LET_intro fun want' hw' => ?_) fun hne => ?_
            · try simp only at e
              rw [i64_id (n := k + 1) (by omega) (by omega), i64_id (n := run + 1) (by omega) (by omega), i64_id (by omega) (by omega)] at hw'
              rw [i64_id (n := k + 1) (by omega) (by omega)]
              refine ⟨⟨rfl, by first | omega | (simp only; omega), by first | omega | (simp only; omega), .inr ⟨by first | omega | (simp only; omega), .inr ⟨by first | omega | (simp only; omega), by first | omega | (simp only; omega), ?_, fun p g1 g2 hf => ?_⟩⟩⟩, by first | omega | (simp only; omega)⟩
              · (try simp only); rw [hw', ← e]; exact hrow
              · (try simp only at g2); exact h7 p g1 (by omega) hf
            · try simp only at hne
              rw [i64_id (n := k + 1) (by omega) (by omega)]
              refine ⟨⟨rfl, by first | omega | (simp only; omega), by first | omega | (simp only; omega), .inl ⟨h1, by first | omega | (simp only; omega), by first | omega | (simp only; omega), by first | omega | (simp only; omega), hrow, fun g => ?_, fun p g1 g2 hf => ?_⟩⟩, by first | omega | (simp only; omega)⟩
              · (try simp only at g ⊢); rw [show k + 1 - (run + 1) - 1 = k - run - 1 by omega]; exact h6 (by omega)
              · try simp only at g2
                by_cases e : p + n ≤ k
                · exact h7 p g1 e hf
                · -- a row that ends here would reach back beyond the run
                  have hlt2 : 0 < k - run := by omega
                  have := hf (k - run - 1) (by omega) (by omega)
                  rw [h6 hlt2] at this; cases this
        · omega
      · rcases hst with ⟨h1, _⟩ | ⟨_, h2⟩
        · omega
        · exact ⟨by trivial, h2⟩
      · rcases hst with ⟨h1, h2, h3, h4, h5, h6, h7⟩ | ⟨_, h2⟩
        · exact ⟨by trivial, .inl ⟨h1, fun p g1 g2 => h7 p g1 (by omega)⟩⟩
        · exact ⟨by trivial, h2⟩
    rintro ⟨want, v⟩ _ w25 ⟨rfl, hfd⟩
    try simp only at hfd ⊢
    refine ⟨hii, n, cn he14, ?_⟩
    obtain ⟨G, hR, hlG, st⟩ := (H14.front 3 rfl).tree
    have hok : Ok (l 1) := by rw [← hlG]; exact (hR.sets.sets 1 (by decide)).row.ok
    have hfind := hI.found hok (by omega) hfd
    -- the allocation
    refine alloc_spec hE hR hn0 hn1 (fun h => by omega) (fun _ hnone w41 hw41 => ?_) (fun _ p hsome w41 G41 hs41 hl41 => ?_)
    · have hw : want = -1 := by
        rcases hfind with ⟨h1, _⟩ | ⟨_, _, _, h4⟩
        · exact h1
        · rw [hlG] at hnone; rw [hnone] at h4; cases h4
      subst hw
      refine JOIN_in (CND_f rfl (CND_f rfl (CND_t rfl fun j => CND_f rfl (JOIN_in (CND_f rfl fun j => ?_)))))
      refine first_give hE hg sA sN l u A N w41 (by omega) hI (H14.nothing hw41) (fun s' w' => FirstL E w b g sz s' w' ∧ (sz.len - s'.2.2.1).toNat < (sz.len - (i : Int)).toNat) fun sA sN l u A N w' hA hI H => ⟨⟨i + 1, l, u, A, N, ?_, hA, by omega, hI, H⟩, ?_⟩
      · simp only; rw [i64_id (by omega) (by omega)]; omega
      · simp only; rw [i64_id (by omega) (by omega)]; omega
    · rw [hlG] at hsome hl41
      have hw : 0 ≤ want ∧ want + n ≤ 1536 ∧ freeRow u want n ∧ p = 1536 + want := by
        rcases hfind with ⟨_, h4⟩ | ⟨h1, h2, h3, h4⟩
        · rw [hsome] at h4; cases h4
        · rw [hsome] at h4; cases h4; exact ⟨h1, h2, h3, rfl⟩
      obtain ⟨hw0, hw1, hw2, rfl⟩ := hw
      have H41 : Sat [Row E.t_uint64 1 sA (ints .u64 A), Row E.t_uint64 1 sN (ints .u64 N), Cells g E.t_bool (flags 1536 u), TreeP E b G41.l, Old w] w41 := Sat.back 3 (st _ _ hs41) (by simp)
      refine JOIN_in (CND_f (by simp; omega) (CND_t rfl (CND_f ?_ (CND_f rfl fun j => CND_f rfl (JOIN_in (CND_t rfl ?_))))))
      · rw [u64_id (n := want) (by omega) (by omega), u64_id (by omega) (by omega)]; simp
      refine LOOP_intro (fun st w' => want ≤ st.1 ∧ st.1 ≤ want + n ∧ Sat [Row E.t_uint64 1 sA (ints .u64 A), Row E.t_uint64 1 sN (ints .u64 N), Cells g E.t_bool (flags 1536 fun z => if want ≤ z ∧ z < st.1 then true else u z), TreeP E b G41.l, Old w] w')
        (fun st _ => (want + n - st.1).toNat) ⟨Int.le_refl _, by first | omega | (simp only; omega), ?_⟩ ?_
      · have : (fun z => if want ≤ z ∧ z < want then true else u z) = u := by funext z; rw [if_neg (by omega)]
        simp only [this]
        exact H41
      rintro ⟨x, v⟩ _ w49 ⟨hx1, hx2, H49⟩
      simp only at hx1 hx2 H49 ⊢
      refine ⟨hii, n, cn (H49.old 4 rfl), ?_⟩
      rw [i64_id (n := n) (by omega) (by omega), i64_id (n := want + n) (by omega) (by omega), i64_id (n := x + 1) (by omega) (by omega)]
      refine CND_dec (fun hlt => ⟨⟨by omega, by omega⟩, st_cell (H49.front 2 rfl) rfl (by rw [flags_len]; omega) fun w53 H53 => ?_⟩) (fun hge => ?_)
      · rw [flags_set (by omega)] at H53
        have H54 : Sat [Row E.t_uint64 1 sA (ints .u64 A), Row E.t_uint64 1 sN (ints .u64 N), Cells g E.t_bool _, TreeP E b G41.l, Old w] w53 := Sat.back (Ps := [_, _, Cells g E.t_bool _, _, _]) 2 H53 (by simp)
        refine ⟨⟨by first | omega | (simp only; omega), by first | omega | (simp only; omega), ?_⟩, by first | omega | (simp only; omega)⟩
        have : (fun z => if want ≤ z ∧ z < x + 1 then true else u z) = fun j => if j = x then true else if want ≤ j ∧ j < x then true else u j := by
          funext z
          by_cases e : z = x
          · rw [if_pos (by omega), if_pos e]
          · rw [if_neg e]
            by_cases e2 : want ≤ z ∧ z < x
            · rw [if_pos (by omega), if_pos e2]
            · rw [if_neg (by omega), if_neg e2]
        simp only [this]
        exact H54
      · have hxe : x = want + n := by omega
        subst hxe
        have lenA : A.length = sA.len := by have := H49.rowLen; simpa [ints] using this
        have lenN : N.length = sN.len := by have := (H49.front 1 rfl).rowLen; simpa [ints] using this
        have hNA := hI.len
        refine AL_cells H49 fun b54 w55 H55 _ => ?_
        refine APP_one (news := [.int .u64 (1536 + want)]) H55 rfl rfl (by simp [Value.oneCell']) (by omega) (by omega) fun s56 w57 H57 hl57 => ?_
        refine ⟨hii, n, cn (H57.old 4 rfl), ?_⟩
        refine AL_cells H57 fun b60 w61 H61 _ => ?_
        have H62 := H61.perm (Qs := [Cells b60 E.t_uint64 [.int .u64 n], Row E.t_uint64 1 sN (ints .u64 N), Row E.t_uint64 1 s56 (ints .u64 A ++ [.int .u64 (1536 + want)]), Cells g E.t_bool _, TreeP E b G41.l, Old w]) (.cons _ (.swap _ _ _))
        refine APP_one (news := [.int .u64 n]) H62 rfl rfl (by simp [Value.oneCell']) (by omega) (by omega) fun s62 w63 H63 hl63 => ?_
        have H64 := H63.perm (.swap _ _ _)
        intro j
        refine first_give hE hg s56 s62 G41.l (fun z => if want ≤ z ∧ z < want + n then true else u z) (A ++ [1536 + want]) (N ++ [n]) w63 (by simp; omega) ?_ (by simpa [ints] using H64) (fun s' w' => FirstL E w b g sz s' w' ∧ (sz.len - s'.2.2.1).toNat < (sz.len - (i : Int)).toNat) fun sA sN l u A N w' hA hI H => ⟨⟨i + 1, l, u, A, N, ?_, hA, by omega, hI, H⟩, ?_⟩
        · have e1 : G41.l 1 = cutL (l 1) (1536 + want) (1536 + want + n) := by rw [hl41]; rfl
          have get2 : ∀ (L : List Int) (x : Int) (j : Nat) (y : Int), (L ++ [x])[j]? = some y → (j < L.length ∧ L[j]? = some y) ∨ (j = L.length ∧ y = x) := by
            intro L x j y h
            rcases Nat.lt_trichotomy j L.length with h1 | h1 | h1
            · rw [List.getElem?_append_left h1] at h; exact .inl ⟨h1, h⟩
            · subst h1; simp at h; exact .inr ⟨rfl, h.symm⟩
            · rw [List.getElem?_eq_none (by simp; omega)] at h; cases h
          refine ⟨by rw [hl41]; exact hI.l0, fun m => ?_, by simp [hNA], fun j a m hja hjm => ?_, fun i' j a1 n1 a2 n2 hij hi1 hi2 hj1 hj2 hp1 hp2 => ?_⟩
          · rw [e1, mem_cutL (by omega), hI.m m]
            by_cases e : want ≤ m - 1536 ∧ m - 1536 < want + n
            · rw [if_pos e]
              constructor
              · rintro ⟨_, h2⟩; omega
              · rintro ⟨_, _, h⟩; cases h
            · rw [if_neg e]
              constructor
              · rintro ⟨h, _⟩; exact h
              · exact fun h => ⟨h, by omega⟩
          · rcases get2 A _ j a hja with ⟨h1, h2⟩ | ⟨h1, h2⟩
            · rcases get2 N _ j m hjm with ⟨h3, h4⟩ | ⟨h3, h4⟩
              · obtain ⟨g1, g2, g3, g4, g5⟩ := hI.row j a m h2 h4
                refine ⟨g1, g2, g3, g4, fun hp => ⟨(g5 hp).1, fun z hz1 hz2 => ?_⟩⟩
                by_cases e : want ≤ z - 1536 ∧ z - 1536 < want + n
                · rw [if_pos e]
                · rw [if_neg e]; exact (g5 hp).2 z hz1 hz2
              · omega
            · rcases get2 N _ j m hjm with ⟨h3, h4⟩ | ⟨h3, h4⟩
              · omega
              · subst h2; subst h4
                exact ⟨hn0, by omega, by omega, by omega, fun _ => ⟨by omega, fun z hz1 hz2 => if_pos ⟨by omega, by omega⟩⟩⟩
          · have hfree : ∀ (j : Nat) (a m : Int), A[j]? = some a → N[j]? = some m → 0 < m → a + m ≤ 1536 + want ∨ 1536 + want + n ≤ a := by
              intro j a m h1 h2 hp
              obtain ⟨g1, g2, g3, g4, g5⟩ := hI.row j a m h1 h2
              by_cases e : a + m ≤ 1536 + want ∨ 1536 + want + n ≤ a
              · exact e
              · exfalso
                have k1 := (g5 hp).2 (max a (1536 + want)) (by omega) (by omega)
                have k2 := hw2 (max a (1536 + want) - 1536) (by omega) (by omega)
                rw [k2] at k1; cases k1
            rcases get2 A _ i' a1 hi1 with ⟨h1, h2⟩ | ⟨h1, h2⟩
            · rcases get2 N _ i' n1 hi2 with ⟨h3, h4⟩ | ⟨h3, h4⟩
              · rcases get2 A _ j a2 hj1 with ⟨h5, h6⟩ | ⟨h5, h6⟩
                · rcases get2 N _ j n2 hj2 with ⟨h7, h8⟩ | ⟨h7, h8⟩
                  · exact hI.apart i' j a1 n1 a2 n2 hij h2 h4 h6 h8 hp1 hp2
                  · omega
                · rcases get2 N _ j n2 hj2 with ⟨h7, h8⟩ | ⟨h7, h8⟩
                  · omega
                  · subst h6; subst h8
                    exact hfree i' a1 n1 h2 h4 hp1
              · omega
            · rcases get2 N _ i' n1 hi2 with ⟨h3, h4⟩ | ⟨h3, h4⟩
              · omega
              · rcases get2 A _ j a2 hj1 with ⟨h5, h6⟩ | ⟨h5, h6⟩
                · rcases get2 N _ j n2 hj2 with ⟨h7, h8⟩ | ⟨h7, h8⟩
                  · subst h2; subst h4
                    have := hfree j a2 n2 h6 h8 hp2
                    omega
                  · omega
                · omega
        · simp only; rw [i64_id (by omega) (by omega)]; omega
        · simp only; rw [i64_id (by omega) (by omega)]; omega
  · -- the end: the count of the free ones
    have hok := (H14.front 3 rfl).treeInv.2 1 (by decide)
    have hall : cnt (l 1) 1536 3072 = tot (l 1) := cnt_all (Ok.lts hok) fun n hn => by have := (hI.m n).1 hn; exact ⟨this.1, this.2.1⟩
    refine LOOP_intro (fun st w' => w' = w14 ∧ 0 ≤ st.2.1 ∧ st.2.1 ≤ 1536 ∧ st.1 = cnt (l 1) 1536 (1536 + st.2.1)) (fun st _ => (1536 - st.2.1).toNat) ⟨rfl, by decide, by decide, ?_⟩ ?_
    · have h1 := cnt_split hok (show (1536 : Int) ≤ 1536 by decide)
      have h2 := cnt_nonneg (l 1) 1536 1536
      show 0 = cnt (l 1) 1536 (1536 + 0)
      rw [show (1536 : Int) + 0 = 1536 from rfl]
      omega
    rintro ⟨f, k, v⟩ _ w96 ⟨rfl, hk0, hk1, hf⟩
    simp only at hk0 hk1 hf ⊢
    refine CND_dec (fun hlt => ⟨⟨hk0, by omega⟩, u k, (H14.front 2 rfl).cell (flags_getI hk0 hlt), ?_⟩) (fun hge => ?_)
    · have hs1 := cnt_succ hok (a := 1536) (k := 1536 + k) (by omega)
      have hs2 := cnt_split hok (show (1536 : Int) ≤ 1536 + k by omega)
      have hs3 := cnt_nonneg (l 1) 1536 (1536 + k)
      have hm := hI.m (1536 + k)
      rw [show 1536 + k - 1536 = k by omega] at hm
      rw [show 1536 + k + 1 = 1536 + (k + 1) by omega] at hs1
      rw [i64_id (n := k + 1) (by omega) (by omega)]
      refine CND_not (CND_intro (fun hu => ⟨⟨by trivial, by first | omega | (simp only; omega), by first | omega | (simp only; omega), ?_⟩, by first | omega | (simp only; omega)⟩) (fun hu => ?_))
      · (try simp only)
        rw [hs1.2 (fun h => by have := (hm.1 h).2.2; rw [hu] at this; cases this), hf]
      · rw [u64_id (n := f + 1) (by omega) (by omega)]
        refine ⟨⟨by trivial, by first | omega | (simp only; omega), by first | omega | (simp only; omega), ?_⟩, by first | omega | (simp only; omega)⟩
        (try simp only)
        rw [hs1.1 (hm.2 ⟨by omega, by omega, hu⟩), hf]
    · have hke : k = 1536 := by omega
      subst hke
      obtain ⟨G, hR, hlG, st⟩ := (H14.front 3 rfl).tree
      refine free_spec hR ?_
      rw [hlG, ← hall, hf]
      refine CND_t (by simp) (rawake_spec hE fun w' hw' => hK _ ((H14.nothing hw').old 4 rfl))

end
end Go.Sh

namespace Go.Proofs.Ytbhlnppflnfooaa.radixFirst
open Go.ChangeShapes Go.WideShapes Go.ChangeAt Go.RowKit
set_option linter.unusedVariables false
set_option linter.unusedSimpArgs false

theorem own : ownKnob Try.prog.godebug = none := by kernel_rfl
theorem laidOut : laidOutB Try.prog = true := by kernel_rfl

theorem walk (x : Go.Sh.ArgTs [.sl (.int .u64), .sl (.int .i64)]) (w : World) (h : Go.Sh.argOks w [.sl (.int .u64), .sl (.int .i64)] x) :
    Calls Try.prog 6 ⟨Go.Sh.argVals [.sl (.int .u64), .sl (.int .i64)] x⟩ w fun e w' => e = .returned (.bool true) ∧ Below w.heap.size w w' := by
  obtain ⟨a0, a1, u⟩ := x
  obtain ⟨w0, w1, _⟩ := h
  obtain ⟨z0, w0⟩ := w0
  obtain ⟨z1, w1⟩ := w1
  refine (Go.Sh.fits6 _ w (fun v w' => v = .bool true ∧ Below w.heap.size w w') ?_).2.mono ?_
  · show Go.Sh.F.mallowlaw9_RadixFirst Go.Sh.env a0 a1 (fun r w' => Value.bool r = .bool true ∧ Below w.heap.size w w') w
    exact Go.Sh.first_spec Go.Sh.envS w0 w1 fun w' h => ⟨rfl, h.below (Nat.le_refl _) fun _ f => f.elim⟩
  · rintro e w' ⟨v, rfl, rfl, h⟩; exact ⟨rfl, h⟩

set_option maxRecDepth 100000 in
theorem lifted (os : Os) (started : os.Started) (H : Type) (enc : TypeId × Value → H) :
    ReturnsInHanded {} Try.checked os 6 .any (Rows.radixFirstSpec.pre6 enc Try.prog Try.f6 Rows.radixFirstRow.domain false) (Rows.radixFirstSpec.post enc Try.prog Try.f6 false true false false) := by
  refine returnsInHanded_of_change (C := Try.checked) own started (by kernel_rfl) Try.func6
    (ChangeSpec.witness6 (enc := enc) (C := Try.checked) false ⟨#[], #[.slice none 0 0, .slice none 0 0], []⟩ 8 (by kernel_rfl) (by kernel_rfl) (by kernel_rfl) (by kernel_rfl)) ?_
  intro W base args ds gs before hval0 hW hcnd _
  have hW' := hW
  obtain ⟨p, q, hA, hV, rfl, hfz, hnd⟩ := hW
  obtain ⟨rfl, rfl⟩ := trodVars_none hV
  have hargs := Go.Sh.args_of (P := Try.prog) (shs := [.sl (.int .u64), .sl (.int .i64)]) (by kernel_rfl) (fun j t v ht hv => hval0 j t v (by simpa using ht) (by simpa using hv)) hA
  obtain ⟨x, hx, hok⟩ := Go.Sh.argVals_of hargs
  obtain rfl : args = ⟨Go.Sh.argVals [.sl (.int .u64), .sl (.int .i64)] x⟩ := Array.toList_inj.1 (by simpa using hx)
  have hlen := Go.Sh.trodAll_len hA
  obtain ⟨d0, d1, rfl⟩ : ∃ d0 d1, ds = [d0, d1] := by
    have hl : ds.length = 2 := hlen
    match ds, hl with
    | [d0, d1], _ => exact ⟨d0, d1, rfl⟩
  refine (walk x W hok).mono fun e W' ⟨he, bel⟩ => ?_
  subst he
  exact ⟨_, rfl, _, _, _, [], _, [], hW', trodAll_mk1 (shut_bool Try.underlying4 _), Go.Sh.trodAll_below laidOut bel (by kernel_rfl) hA, rfl, bel.frame _, fun h => by cases h⟩

theorem over : Rows.radixFirstRow.holds Try.pinned (OpenSpec.ofChange Rows.radixFirstSpec) :=
  OpenClaim.holds_of_wide 6 Try.f6 rfl rfl rfl rfl rfl rfl rfl ⟨rfl, rfl, rfl, rfl, rfl⟩ rfl rfl rfl rfl rfl (by kernel_rfl) Try.func6 (by kernel_rfl)
    (of_decide_eq_true (by kernel_rfl)) (by unfold Func.isWrapper; first | (rw [if_pos (by decide +kernel)]; kernel_rfl) | (rw [if_neg (by decide +kernel)]; exact ⟨rfl, rfl⟩))
    (fun os started H enc _ => lifted os started H enc)

/-- ████ THE STATEMENT ████ -/
theorem proved : Rows.RadixFirstSaid := over
#print axioms proved
end Go.Proofs.Ytbhlnppflnfooaa.radixFirst
