/- The law RadixReleases holds: for every input the Go function returns true and leaves its arguments alone. No further condition. -/
import Derived.Test.YtbhlnppflnfooaaM
import Derived.Test.YtbhlnppflnfooaaR
import Derived.Test.YtbhlnppflnfooaaA
import Derived.Test.YtbhlnppflnfooaaT
import Derived.Test.YtbhlnppflnfooaaRows
import Derived.WalkKit
import Derived.ProofKit
import Derived.OpenShut
set_option linter.all false
namespace Go.Sh

def Blk' (s : SlV) : Nat → Prop := fun k => ∃ a, s.base = some a ∧ k = a.block

/-- A resource: what holds of the blocks that it owns. -/
structure Pr where
  holds : (Nat → Prop) → World → Prop
  loc : ∀ {D : Nat → Prop} {w w' : World} {S : Nat → Prop}, holds D w → Ext S w w' → (∀ k, D k → ¬ S k) → holds D w'
  lt : ∀ {D : Nat → Prop} {w : World} {k : Nat}, holds D w → D k → k < w.heap.size

def SatD : List Pr → (Nat → Prop) → World → Prop
  | [], D, _ => ∀ k, ¬ D k
  | P :: Ps, D, w => ∃ D1 D2, P.holds D1 w ∧ SatD Ps D2 w ∧ (∀ k, D1 k → ¬ D2 k) ∧ ∀ k, D k ↔ D1 k ∨ D2 k

def Sat (Ps : List Pr) (w : World) : Prop := ∃ D, SatD Ps D w

theorem SatD.loc : ∀ {Ps : List Pr} {D : Nat → Prop} {w w' : World} {S : Nat → Prop}, SatD Ps D w → Ext S w w' → (∀ k, D k → ¬ S k) → SatD Ps D w'
  | [], _, _, _, _, h, _, _ => h
  | P :: Ps, D, w, w', S, ⟨D1, D2, h1, h2, hd, hD⟩, he, hS => ⟨D1, D2, P.loc h1 he fun k hk => hS k ((hD k).2 (.inl hk)), h2.loc he fun k hk => hS k ((hD k).2 (.inr hk)), hd, hD⟩

theorem SatD.lt : ∀ {Ps : List Pr} {D : Nat → Prop} {w : World} {k : Nat}, SatD Ps D w → D k → k < w.heap.size
  | [], _, _, _, h, hk => (h _ hk).elim
  | P :: Ps, D, w, k, ⟨D1, D2, h1, h2, hd, hD⟩, hk => by
    rcases (hD k).1 hk with h | h
    · exact P.lt h1 h
    · exact h2.lt h

theorem SatD.append : ∀ {Ps Qs : List Pr} {D : Nat → Prop} {w : World}, SatD (Ps ++ Qs) D w ↔ ∃ D1 D2, SatD Ps D1 w ∧ SatD Qs D2 w ∧ (∀ k, D1 k → ¬ D2 k) ∧ ∀ k, D k ↔ D1 k ∨ D2 k
  | [], Qs, D, w => by
    constructor
    · intro h; exact ⟨fun _ => False, D, fun _ f => f, h, fun _ f => f.elim, fun k => by simp⟩
    · rintro ⟨D1, D2, h1, h2, _, hD⟩
      have : D = D2 := by
        funext k
        have := hD k
        simp [h1 k] at this
        exact propext this
      subst this
      exact h2
  | P :: Ps, Qs, D, w => by
    constructor
    · rintro ⟨D1, D2, h1, h2, hd, hD⟩
      obtain ⟨E1, E2, g1, g2, gd, gD⟩ := SatD.append.1 h2
      refine ⟨fun k => D1 k ∨ E1 k, E2, ⟨D1, E1, h1, g1, fun k hk he => hd k hk ((gD k).2 (.inl he)), fun k => Iff.rfl⟩, g2, ?_, ?_⟩
      · rintro k (hk | hk) he
        · exact hd k hk ((gD k).2 (.inr he))
        · exact gd k hk he
      · intro k; rw [hD k, gD k, or_assoc]
    · rintro ⟨D1, D2, ⟨E1, E2, h1, h2, hd, hD⟩, g2, gd, gD⟩
      refine ⟨E1, fun k => E2 k ∨ D2 k, h1, SatD.append.2 ⟨E2, D2, h2, g2, fun k hk => gd k ((hD k).2 (.inr hk)), fun k => Iff.rfl⟩, ?_, ?_⟩
      · rintro k hk (he | he)
        · exact hd k hk he
        · exact gd k ((hD k).2 (.inl hk)) he
      · intro k; rw [gD k, hD k, or_assoc]

theorem SatD.perm {Ps Qs : List Pr} (h : Ps.Perm Qs) : ∀ {D : Nat → Prop} {w : World}, SatD Ps D w → SatD Qs D w := by
  induction h with
  | nil => exact fun h => h
  | cons P _ ih =>
    rintro D w ⟨D1, D2, h1, h2, h3⟩
    exact ⟨D1, D2, h1, ih h2, h3⟩
  | swap P Q l =>
    rintro D w ⟨D1, D2, h1, ⟨D3, D4, h3, h4, hd, hD⟩, gd, gD⟩
    refine ⟨D3, fun k => D1 k ∨ D4 k, h3, ⟨D1, D4, h1, h4, fun k hk he => gd k hk ((hD k).2 (.inr he)), fun k => Iff.rfl⟩, ?_, ?_⟩
    · rintro k hk (he | he)
      · exact gd k he ((hD k).2 (.inl hk))
      · exact hd k hk he
    · intro k; rw [gD k, hD k]
      constructor
      · rintro (h | h | h)
        · exact .inr (.inl h)
        · exact .inl h
        · exact .inr (.inr h)
      · rintro (h | h | h)
        · exact .inr (.inl h)
        · exact .inl h
        · exact .inr (.inr h)
  | trans _ _ ih1 ih2 => exact fun h => ih2 (ih1 h)

theorem Sat.perm {Ps Qs : List Pr} {w : World} (h : Sat Ps w) (hp : Ps.Perm Qs) : Sat Qs w := let ⟨D, h⟩ := h; ⟨D, h.perm hp⟩

theorem perm_front {α : Type} : ∀ {l : List α} {i : Nat} {x : α}, l[i]? = some x → l.Perm (x :: l.eraseIdx i)
  | [], i, x, h => by simp at h
  | y :: l, 0, x, h => by simp at h; subst h; exact .refl _
  | y :: l, i + 1, x, h => by
    have := perm_front (l := l) (i := i) (x := x) (by simpa using h)
    exact (this.cons y).trans (.swap x y _)

theorem perm_back {α : Type} : ∀ {l : List α} {i : Nat} {x : α}, i < l.length → (x :: l.eraseIdx i).Perm (l.set i x)
  | [], i, x, h => by simp at h
  | y :: l, 0, x, h => .refl _
  | y :: l, i + 1, x, h => by
    have := perm_back (l := l) (i := i) (x := x) (by simpa using h)
    exact (List.Perm.swap y x _).trans (this.cons y)

section
variable {Ps F : List Pr} {P P' : Pr} {w w' : World}

/-- The i-th one to the front. -/
theorem Sat.front (i : Nat) (H : Sat Ps w) (hi : Ps[i]? = some P) : Sat (P :: Ps.eraseIdx i) w := H.perm (perm_front hi)
theorem Sat.back (i : Nat) (H : Sat (P' :: Ps.eraseIdx i) w) (hi : i < Ps.length := by simp) : Sat (Ps.set i P') w := H.perm (perm_back hi)

theorem Sat.nothing (H : Sat Ps w) (he : Ext Nothing w w') : Sat Ps w' := let ⟨D, h⟩ := H; ⟨D, h.loc he fun _ _ f => f⟩
theorem Sat.drew (H : Sat Ps w) : Sat Ps w.drew := H.nothing (Ext.drew _ w)

theorem Sat.tail (H : Sat (P :: F) w) : Sat F w := let ⟨_, _, D2, _, h, _⟩ := H; ⟨D2, h⟩
theorem Sat.head (H : Sat (P :: F) w) : ∃ D, P.holds D w := let ⟨_, D1, _, h, _⟩ := H; ⟨D1, h⟩

/-- A step that only changes what the first one owns. -/
theorem Sat.step (H : Sat (P :: F) w) : ∃ D, P.holds D w ∧ ∀ w' D' P', Ext D w w' → P'.holds D' w' → (∀ k, D' k → D k ∨ w.heap.size ≤ k) → Sat (P' :: F) w' := by
  obtain ⟨D, D1, D2, h1, h2, hd, hD⟩ := H
  refine ⟨D1, h1, fun w' D' P' he hP hn => ⟨_, D', D2, hP, h2.loc he fun k hk h => hd k h hk, fun k hk h => ?_, fun k => Iff.rfl⟩⟩
  rcases hn k hk with h' | h'
  · exact hd k h' h
  · have := h2.lt h; omega

/-- A new one. -/
theorem Sat.new (H : Sat F w) {D : Nat → Prop} (he : Ext Nothing w w') (hP : P.holds D w') (hn : ∀ k, D k → w.heap.size ≤ k) : Sat (P :: F) w' := by
  obtain ⟨D2, h2⟩ := H
  refine ⟨_, D, D2, hP, h2.loc he fun _ _ f => f, fun k hk h => ?_, fun k => Iff.rfl⟩
  have h1 := hn k hk
  have := h2.lt h
  omega
end

/-! ### Making resources -/

/-- All that was there is as it was. -/
def Old (w0 : World) : Pr where
  holds D w := (∀ k, D k ↔ k < w0.heap.size) ∧ Ext Nothing w0 w
  loc h he hS := ⟨h.1, h.2.trans he (fun _ _ f => f) fun i hi hs => hS i ((h.1 i).2 hi) hs⟩
  lt h hk := by have h1 := (h.1 _).1 hk; have := h.2.size; omega

theorem Sat.start (w : World) : Sat [Old w] w := ⟨_, fun k => k < w.heap.size, fun _ => False, ⟨fun _ => Iff.rfl, Ext.refl _ _⟩, fun _ f => f, fun _ _ f => f, fun _ => Iff.rfl⟩
theorem Sat.old {Ps : List Pr} {w w0 : World} (i : Nat) (H : Sat Ps w) (hi : Ps[i]? = some (Old w0)) : Ext Nothing w0 w := let ⟨_, h⟩ := (H.front i hi).head; h.2

/-- Several as one. -/
def Star (Qs : List Pr) : Pr where
  holds D w := SatD Qs D w
  loc := SatD.loc
  lt := SatD.lt

def Ex {α : Type} (P : α → Pr) : Pr where
  holds D w := ∃ x, (P x).holds D w
  loc h he hS := let ⟨x, h⟩ := h; ⟨x, (P x).loc h he hS⟩
  lt h hk := let ⟨x, h⟩ := h; (P x).lt h hk

def Where (p : Prop) (P : Pr) : Pr where
  holds D w := p ∧ P.holds D w
  loc h he hS := ⟨h.1, P.loc h.2 he hS⟩
  lt h hk := P.lt h.2 hk

theorem Sat.star {Qs F : List Pr} {w : World} : Sat (Star Qs :: F) w ↔ Sat (Qs ++ F) w := by
  constructor
  · rintro ⟨D, D1, D2, h1, h2, h3⟩; exact ⟨D, SatD.append.2 ⟨D1, D2, h1, h2, h3⟩⟩
  · rintro ⟨D, h⟩; obtain ⟨D1, D2, h1, h2, h3⟩ := SatD.append.1 h; exact ⟨D, D1, D2, h1, h2, h3⟩
theorem Sat.ex {α : Type} {P : α → Pr} {F : List Pr} {w : World} : Sat (Ex P :: F) w ↔ ∃ x, Sat (P x :: F) w := by
  constructor
  · rintro ⟨D, D1, D2, ⟨x, h1⟩, h2, h3⟩; exact ⟨x, D, D1, D2, h1, h2, h3⟩
  · rintro ⟨x, D, D1, D2, h1, h2, h3⟩; exact ⟨D, D1, D2, ⟨x, h1⟩, h2, h3⟩
theorem Sat.where {p : Prop} {P : Pr} {F : List Pr} {w : World} : Sat (Where p P :: F) w ↔ p ∧ Sat (P :: F) w := by
  constructor
  · rintro ⟨D, D1, D2, ⟨x, h1⟩, h2, h3⟩; exact ⟨x, D, D1, D2, h1, h2, h3⟩
  · rintro ⟨x, D, D1, D2, h1, h2, h3⟩; exact ⟨D, D1, D2, ⟨x, h1⟩, h2, h3⟩

/-! ### A whole block -/

def Cells (b t : Nat) (vs : List Value) : Pr where
  holds D w := (∀ k, D k ↔ k = b) ∧ w.heap[b]? = some (.cells ⟨vs⟩ t)
  loc h he hS := ⟨h.1, he.obj h.2 (hS _ ((h.1 _).2 rfl))⟩
  lt h hk := by have := (h.1 _).1 hk; subst this; exact block_lt h.2

section
variable {Ps F : List Pr} {w w' : World} {b t : Nat} {vs : List Value}

theorem Sat.block (H : Sat (Cells b t vs :: F) w) : w.heap[b]? = some (.cells ⟨vs⟩ t) := let ⟨_, h⟩ := H.head; h.2
theorem Sat.cell (H : Sat (Cells b t vs :: F) w) {o m : Nat} {v : Value} (hv : vs[o + m]? = some v) : w.cell? ((Addr.mk b o none).add m) = some v := by
  rw [add_eq, cell_of_block H.block]; simpa using hv
theorem Sat.cell0 (H : Sat (Cells b t vs :: F) w) {o : Nat} {v : Value} (hv : vs[o]? = some v) : w.cell? (Addr.mk b o none) = some v := by
  rw [cell_of_block H.block]; simpa using hv

theorem AL_cells (H : Sat F w) {K : Nat → World → Prop} (hK : ∀ b w', Sat (Cells b t vs :: F) w' → Ext Nothing w w' → K b w') : AL (.cells ⟨vs⟩ t) w K :=
  AL_intro fun w' hb hs he => hK _ _ (H.new (P := Cells w.heap.size t vs) (D := fun k => k = w.heap.size) he ⟨fun _ => Iff.rfl, hb⟩ fun k hk => by omega) he

theorem Sat.stored (H : Sat (Cells b t vs :: F) w) {o : Nat} (v : Value) : Sat (Cells b t (vs.set o v) :: F) (w.setCell ⟨b, o, none⟩ v) := by
  obtain ⟨D, h, hs⟩ := H.step
  refine hs _ D _ ((Ext.setCell w ⟨b, o, none⟩ v).mono fun i _ hi => (h.1 i).2 hi) ⟨h.1, ?_⟩ fun k hk => .inl hk
  rw [cell_stored_block h.2]
  simp

theorem st_cell (H : Sat (Cells b t vs :: F) w) {o m : Nat} {v : Value} (ho : v.oneCell' = true) (hl : o + m < vs.length) {K : World → Prop} (hK : ∀ w', Sat (Cells b t (vs.set (o + m) v) :: F) w' → K w') :
    stCells ((Addr.mk b o none).add m) 0 [v] w K := by
  have hb := H.block
  simp only [stCells, add_zero, add_eq]
  refine ⟨⟨⟨_, (by rw [cell_of_block hb]; exact Array.getElem?_eq_getElem (by simpa using hl))⟩, by simp [World.frozen?, hb], ho⟩, hK _ (H.stored v)⟩
end

theorem st_all {F : List Pr} {w : World} {b t : Nat} {vs news : List Value} (H : Sat (Cells b t vs :: F) w) (hl : news.length = vs.length) (ho : ∀ v ∈ news, v.oneCell' = true) {K : World → Prop}
    (hK : ∀ w', Sat (Cells b t news :: F) w' → K w') : stCells (Addr.mk b 0 none) 0 news w K := by
  obtain ⟨D, h, hs⟩ := H.step
  refine st_block news b 0 0 _ w K h.2 (by simp; omega) ho fun w' he hsz hb => hK w' (hs w' D _ (he.mono fun i _ hi => (h.1 i).2 hi) ⟨h.1, ?_⟩ fun k hk => .inl hk)
  rw [hb]
  have : List.drop news.length vs = [] := List.drop_eq_nil_iff.2 (by omega)
  simp [this]

/-! ### A row of one's own -/

def Row (t z : Nat) (s : SlV) (vs : List Value) : Pr where
  holds D w := (∀ k, D k ↔ Blk' s k) ∧ Own w 0 t z s vs
  loc h he hS := ⟨h.1, h.2.ext he fun b hb => hS _ ((h.1 _).2 ⟨_, hb, rfl⟩)⟩
  lt h hk := by obtain ⟨a, ha, rfl⟩ := (h.1 _).1 hk; exact (h.2.lt ha).2.1

section
variable {Ps F : List Pr} {w w' : World} {t z : Nat} {s : SlV} {vs : List Value}

theorem Sat.own (H : Sat (Row t z s vs :: F) w) : Own w 0 t z s vs := let ⟨_, h⟩ := H.head; h.2
theorem Sat.rowLen (H : Sat (Row t z s vs :: F) w) : vs.length = s.len * z := H.own.len

theorem Own.base_of {w : World} {B t z : Nat} {s : SlV} {vs : List Value} (h : Own w B t z s vs) (hl : 0 < s.len) : ∃ b, s.base = some ⟨b, 0, none⟩ := by
  rcases h.row with ⟨h1, h2⟩ | ⟨b, cs, h1, _⟩
  · have := h.cap; omega
  · exact ⟨b, h1⟩

theorem Own.cell {w : World} {B t z : Nat} {s : SlV} {vs : List Value} (h : Own w B t z s vs) {a : Addr} (ha : s.base = some a) {j : Nat} {v : Value} (hv : vs[j]? = some v) : w.cell? (a.add j) = some v := by
  have := h.rowAt
  rw [ha] at this
  exact this.2 j v hv

theorem Sat.rowCell (H : Sat (Row t z s vs :: F) w) {j : Nat} {v : Value} (hv : vs[j]? = some v) {K : Addr → Prop} (hK : ∀ a, s.base = some a → w.cell? (a.add j) = some v → K a) : NC s.base K := by
  have ho := H.own
  have hj : j < vs.length := (List.getElem?_eq_some_iff.1 hv).1
  have hl : 0 < s.len := by
    rw [ho.len] at hj
    rcases Nat.eq_zero_or_pos s.len with h | h
    · rw [h] at hj; omega
    · exact h
  obtain ⟨b, hb⟩ := ho.base_of hl
  rw [hb]
  exact hK _ hb (ho.cell hb hv)

theorem Sat.nil (H : Sat F w) (t z : Nat) : Sat (Row t z ⟨none, 0, 0⟩ [] :: F) w :=
  H.new (P := Row t z ⟨none, 0, 0⟩ []) (D := Blk' ⟨none, 0, 0⟩) (Ext.refl _ _) ⟨fun _ => Iff.rfl, Own.nil w 0 t z⟩ fun k hk => by obtain ⟨a, ha, _⟩ := hk; cases ha

/-- Appending to a row of one's own. -/
theorem APP_row {bytes : Nat} {zs : Array Value} {x : SlV} {K : SlV → World → Prop} {news : List Value} (H : Sat (Row t z s vs :: F) w)
    (hz : zs.size = z) (hrow : rowAt w x.base (x.len * z) news) (hnl : news.length = x.len * z) (ho : ∀ v ∈ news, v.oneCell' = true)
    (hb : (s.len + x.len) * bytes ≤ 140737488355328) (h63 : s.len + x.len ≤ 9223372036854775807)
    (hK : ∀ s' w', Sat (Row t z s' (vs ++ news) :: F) w' → s'.len = s.len + x.len → K s' w') : APP t z bytes zs s x w K := by
  obtain ⟨D, h, hs⟩ := H.step
  refine APP_own hz h.2 hrow hnl ho (Nat.zero_le _) hb h63 fun s' w' hown hlen hext hbase => hK s' w' ?_ hlen
  refine hs w' (Blk' s') _ (hext.mono fun i _ hi => (h.1 i).2 hi) ⟨fun _ => Iff.rfl, hown⟩ ?_
  rintro k ⟨a, ha, rfl⟩
  rcases hbase with e | ⟨b, e, hb⟩
  · exact .inl ((h.1 _).2 ⟨a, by rw [← e]; exact ha, rfl⟩)
  · rw [e] at ha; cases ha; exact .inr hb

/-- One that was put into a cell of its own for it. -/
theorem APP_one {bytes : Nat} {zs : Array Value} {K : SlV → World → Prop} {news : List Value} {b : Nat} (H : Sat (Cells b t news :: Row t z s vs :: F) w)
    (hz : zs.size = z) (hnl : news.length = z) (ho : ∀ v ∈ news, v.oneCell' = true)
    (hb : (s.len + 1) * bytes ≤ 140737488355328) (h63 : s.len + 1 ≤ 9223372036854775807)
    (hK : ∀ s' w', Sat (Row t z s' (vs ++ news) :: F) w' → s'.len = s.len + 1 → K s' w') : APP t z bytes zs s ⟨some (Addr.mk b 0 none), 1, 1⟩ w K := by
  have hbl := H.block
  refine APP_row H.tail hz (x := ⟨some (Addr.mk b 0 none), 1, 1⟩) ⟨by simpa using hnl, fun j v hj => ?_⟩ (by simpa using hnl) ho hb h63 hK
  exact H.cell (by simpa using hj)

/-- A whole row of one's own, read. -/
theorem Sat.rowAll (H : Sat (Row t z s vs :: F) w) : rowAt w s.base (s.len * z) vs := H.own.rowAt

/-- Storing into a row of one's own. -/
theorem st_row (H : Sat (Row t z s vs :: F) w) {j : Nat} {v : Value} (ho : v.oneCell' = true) (hj : j < vs.length) {a : Addr} (ha : s.base = some a) {K : World → Prop}
    (hK : ∀ w', Sat (Row t z s (vs.set j v) :: F) w' → K w') : stCells (a.add j) 0 [v] w K := by
  obtain ⟨D, h, hs⟩ := H.step
  have hown := h.2
  rcases hown.row with ⟨h1, _⟩ | ⟨b, cs, h1, h2, h3, h4, h5⟩
  · rw [h1] at ha; cases ha
  · rw [h1] at ha
    cases ha
    have hl := hown.len
    have hjc : j < cs.size := by
      have : s.len * z ≤ s.cap * z := Nat.mul_le_mul_right _ hown.cap
      omega
    simp only [stCells, add_zero, add_eq, Nat.zero_add]
    refine ⟨⟨⟨_, (by rw [cell_of_block h3]; exact Array.getElem?_eq_getElem hjc)⟩, by simp [World.frozen?, h3], ho⟩, hK _ ?_⟩
    refine hs _ D _ ((Ext.setCell w ⟨b, j, none⟩ v).mono fun i _ hi => (h.1 i).2 ⟨_, h1, hi⟩) ⟨h.1, ?_⟩ fun k hk => .inl hk
    refine ⟨by simpa using hl, hown.cap, hown.top, .inr ⟨b, _, h1, h2, cell_stored_block h3, by simpa using h4, ?_⟩⟩
    rw [Array.toList_setIfInBounds, List.take_set, h5]
end

/-! ### Short circuits -/

/-- What follows a join, at once in each branch. -/
theorem JOIN_in {σ : Type} {first : (σ → World → Prop) → Prop} {rest : σ → (Nat → Value) → World → Prop} (h : first fun s w => ∀ j, rest s j w) : JOIN σ first rest :=
  ⟨_, h, fun s j w h => h j⟩
@[simp] theorem CND_true {T E : Prop} : CND true T E ↔ T := Iff.rfl
@[simp] theorem CND_false {T E : Prop} : CND false T E ↔ E := Iff.rfl
theorem CND_t {b : Bool} {T E : Prop} (hb : b = true) (h : T) : CND b T E := by subst hb; exact h
theorem CND_f {b : Bool} {T E : Prop} (hb : b = false) (h : E) : CND b T E := by subst hb; exact h
theorem CND_eq {a b : Int} {T E : Prop} (h1 : a = b → T) (h2 : a ≠ b → E) : CND (a == b) T E := by
  by_cases h : a = b
  · rw [show (a == b) = true from by simpa using h]; exact h1 h
  · rw [show (a == b) = false from by simpa using h]; exact h2 h
theorem CND_ne {a b : Int} {T E : Prop} (h1 : a ≠ b → T) (h2 : a = b → E) : CND (a != b) T E := by
  by_cases h : a = b
  · rw [show (a != b) = false from by simpa using h]; exact h2 h
  · rw [show (a != b) = true from by simpa using h]; exact h1 h
theorem CND_not {b : Bool} {T E : Prop} (h : CND b E T) : CND (!b) T E := by cases b <;> exact h

end Go.Sh

set_option linter.all false
set_option maxRecDepth 4000
namespace Go.Sh

/-- A tree with these four lists. -/
def TreeP (E : Env) (b : Nat) (l : Nat → Iv) : Pr where
  holds D w := ∃ G, TreeR E w b G ∧ G.l = l ∧ ∀ k, D k ↔ TOwns b G k
  loc h he hS := let ⟨G, h1, h2, h3⟩ := h; ⟨G, h1.ext he fun k hk => hS k ((h3 k).2 hk), h2, h3⟩
  lt h hk := let ⟨G, h1, h2, h3⟩ := h; h1.owns_lt ((h3 _).1 hk)

theorem Sat.tree {E : Env} {b : Nat} {l : Nat → Iv} {F : List Pr} {w : World} (H : Sat (TreeP E b l :: F) w) :
    ∃ G, TreeR E w b G ∧ G.l = l ∧ ∀ w' G', TStep E b w G w' G' → Sat (TreeP E b G'.l :: F) w' := by
  obtain ⟨D, ⟨G, h1, h2, h3⟩, hs⟩ := H.step
  refine ⟨G, h1, h2, fun w' G' st => hs w' (TOwns b G') _ (st.ext.mono fun i _ hi => (h3 i).2 hi) ⟨G', st.rep, rfl, fun _ => Iff.rfl⟩ fun k hk => ?_⟩
  rcases st.owns k hk with h | h
  · exact .inl ((h3 k).2 h)
  · exact .inr h

theorem Sat.treeNew {E : Env} {b : Nat} {F : List Pr} {w w' : World} {G : TreeG} (H : Sat F w) (h : TMade E w w' b G) : Sat (TreeP E b G.l :: F) w' :=
  H.new (P := TreeP E b G.l) (D := TOwns b G) h.ext ⟨G, h.rep, rfl, fun _ => Iff.rfl⟩ h.young

theorem Sat.treeInv {E : Env} {b : Nat} {l : Nat → Iv} {F : List Pr} {w : World} (H : Sat (TreeP E b l :: F) w) : TInv l ∧ ∀ i, i < 4 → Ok (l i) := by
  obtain ⟨G, h1, rfl, _⟩ := H.tree
  exact ⟨h1.inv, fun i hi => (h1.sets.sets i hi).row.ok⟩

/-! ### Stretches are told by what is in them -/

theorem mem_run {l : Iv} (h : Ok l) : ∀ {a b : Int}, a < b → (∀ n, a ≤ n → n < b → mem l n) → ∃ q ∈ l, q.1 ≤ a ∧ b ≤ q.2 := by
  induction l with
  | nil => intro a b hab hm; exact absurd (hm a (Int.le_refl _) hab) (mem_nil _)
  | cons p r ih =>
    intro a b hab hm
    by_cases h1 : p.1 ≤ a ∧ a < p.2
    · by_cases h2 : b ≤ p.2
      · exact ⟨p, List.mem_cons_self, h1.1, h2⟩
      · have hq := hm p.2 (by omega) (by omega)
        rcases mem_cons.1 hq with h3 | ⟨q, hq, h3, h4⟩
        · omega
        · have := h.2.2.2.1 q hq; omega
    · have hlt : ∀ n, a ≤ n → n < b → mem r n := by
        intro n hn1 hn2
        rcases mem_cons.1 (hm n hn1 hn2) with h3 | h3
        · exfalso
          have ha := hm a (Int.le_refl _) hab
          rcases mem_cons.1 ha with h4 | ⟨q, hq, h4, h5⟩
          · exact h1 h4
          · have := h.2.2.2.1 q hq; omega
        · exact h3
      obtain ⟨q, hq, h3⟩ := ih h.tail hab hlt
      exact ⟨q, List.mem_cons_of_mem _ hq, h3⟩

/-- [p, p + n) is a row of members. -/
def rowIn (l : Iv) (p n : Int) : Prop := ∀ m, p ≤ m → m < p + n → mem l m

theorem findL_some {l : Iv} (h : Ok l) {n p : Int} (hn : 0 < n) (hf : findL l n = some p) : rowIn l p n ∧ ∀ p', rowIn l p' n → p ≤ p' := by
  induction l with
  | nil => cases hf
  | cons q r ih =>
    simp only [findL] at hf
    split at hf
    · cases hf
      refine ⟨fun m h1 h2 => mem_cons.2 (.inl ⟨h1, by omega⟩), fun p' hp' => ?_⟩
      rcases mem_cons.1 (hp' p' (by omega) (by omega)) with h1 | ⟨q', hq', h1, h2⟩
      · exact h1.1
      · have := h.2.2.2.1 q' hq'; have := h.2.1; omega
    · obtain ⟨h1, h2⟩ := ih h.tail hf
      refine ⟨fun m h3 h4 => mem_cons.2 (.inr (h1 m h3 h4)), fun p' hp' => ?_⟩
      obtain ⟨q', hq', h3, h4⟩ := mem_run h (by omega) hp'
      rcases List.mem_cons.1 hq' with rfl | hq'
      · omega
      · exact h2 p' fun m h5 h6 => ⟨q', hq', by omega, by omega⟩

theorem findL_none {l : Iv} (h : Ok l) {n : Int} (hn : 0 < n) (hf : findL l n = none) : ∀ p, ¬ rowIn l p n := by
  induction l with
  | nil => intro p hp; exact mem_nil _ (hp p (by omega) (by omega))
  | cons q r ih =>
    simp only [findL] at hf
    split at hf
    · cases hf
    · intro p hp
      obtain ⟨q', hq', h3, h4⟩ := mem_run h (by omega) hp
      rcases List.mem_cons.1 hq' with rfl | hq'
      · omega
      · exact ih h.tail hf p fun m h5 h6 => ⟨q', hq', by omega, by omega⟩

theorem Ok_ext : ∀ {l m : Iv}, Ok l → Ok m → (∀ n, mem l n ↔ mem m n) → l = m
  | [], [], _, _, _ => rfl
  | [], q :: m, _, hm, h => absurd ((h q.1).2 (mem_cons.2 (.inl ⟨by omega, hm.2.1⟩))) (mem_nil _)
  | p :: l, [], hl, _, h => absurd ((h p.1).1 (mem_cons.2 (.inl ⟨by omega, hl.2.1⟩))) (mem_nil _)
  | p :: l, q :: m, hl, hm, h => by
    have first : ∀ {p q : Int × Int} {l m : Iv}, Ok (p :: l) → Ok (q :: m) → (∀ n, mem (p :: l) n → mem (q :: m) n) → q.1 ≤ p.1 ∧ (p.1 ≤ q.1 → p.2 ≤ q.2) := by
      intro p q l m hl hm h
      constructor
      · rcases mem_cons.1 (h p.1 (mem_cons.2 (.inl ⟨by omega, hl.2.1⟩))) with h1 | ⟨r, hr, h1, h2⟩
        · exact h1.1
        · have := hm.2.2.2.1 r hr; have := hm.2.1; omega
      · intro hle
        obtain ⟨r, hr, h1, h2⟩ := mem_run hm (a := p.1) (b := p.2) hl.2.1 fun n h1 h2 => h n (mem_cons.2 (.inl ⟨h1, h2⟩))
        rcases List.mem_cons.1 hr with rfl | hr
        · exact h2
        · have := hm.2.2.2.1 r hr; have := hm.2.1; omega
    have h1 := first hl hm fun n => (h n).1
    have h2 := first hm hl fun n => (h n).2
    have e1 : p.1 = q.1 := by omega
    have e2 : p.2 = q.2 := by have := h1.2 (by omega); have := h2.2 (by omega); omega
    have e : p = q := Prod.ext e1 e2
    subst e
    rw [Ok_ext hl.tail hm.tail]
    intro n
    have hn := h n
    rw [mem_cons, mem_cons] at hn
    constructor
    · rintro ⟨r, hr, h3, h4⟩
      rcases hn.1 (.inr ⟨r, hr, h3, h4⟩) with h5 | h5
      · have := hl.2.2.2.1 r hr; omega
      · exact h5
    · rintro ⟨r, hr, h3, h4⟩
      rcases hn.2 (.inr ⟨r, hr, h3, h4⟩) with h5 | h5
      · have := hm.2.2.2.1 r hr; omega
      · exact h5

theorem cnt_succ {l : Iv} (h : Ok l) {a k : Int} (hk : a ≤ k) : (mem l k → cnt l a (k + 1) = cnt l a k + 1) ∧ (¬ mem l k → cnt l a (k + 1) = cnt l a k) := by
  have h1 := cnt_add (Ok.lts h) hk (show k ≤ k + 1 by omega)
  have h2 := cnt_pos (Ok.lts h) (a := k)
  have h3 := cnt_split h (show k ≤ k + 1 by omega)
  have h4 := cnt_nonneg l k (k + 1)
  constructor
  · intro hm; have := h2.2 hm; omega
  · intro hm
    have : ¬ 0 < cnt l k (k + 1) := fun e => hm (h2.1 e)
    omega

theorem cnt_all : ∀ {l : Iv}, (∀ p ∈ l, p.1 < p.2) → ∀ {a b : Int}, (∀ n, mem l n → a ≤ n ∧ n < b) → cnt l a b = tot l
  | [], _, a, b, _ => rfl
  | p :: r, h, a, b, hin => by
    have hp := h p List.mem_cons_self
    have h1 := hin p.1 (mem_cons.2 (.inl ⟨by omega, hp⟩))
    have h2 := hin (p.2 - 1) (mem_cons.2 (.inl ⟨by omega, by omega⟩))
    have ih := cnt_all (l := r) (fun q hq => h q (List.mem_cons_of_mem _ hq)) (a := a) (b := b) fun n hn => hin n (mem_cons.2 (.inr hn))
    simp only [cnt, tot, cnt1, ih]
    omega

/-! ### A row of flags -/

def flags (n : Nat) (u : Int → Bool) : List Value := (List.range n).map fun i : Nat => .bool (u i)

theorem flags_get {n : Nat} {u : Int → Bool} {i : Nat} (hi : i < n) : (flags n u)[i]? = some (.bool (u i)) := by simp [flags, hi]
theorem flags_getI {n : Nat} {u : Int → Bool} {i : Int} (h0 : 0 ≤ i) (hi : i < n) : (flags n u)[0 + i.toNat]? = some (.bool (u i)) := by
  rw [Nat.zero_add, flags_get (by omega)]
  rw [show ((i.toNat : Nat) : Int) = i by omega]
theorem flags_set {n : Nat} {u : Int → Bool} {i : Int} (h0 : 0 ≤ i) (v : Bool) : (flags n u).set (0 + i.toNat) (.bool v) = flags n fun j => if j = i then v else u j := by
  rw [Nat.zero_add]
  apply List.ext_getElem?
  intro j
  rw [List.getElem?_set]
  by_cases hj : j < n
  · rw [flags_get hj, flags_get hj]
    simp only [flags, List.length_map, List.length_range]
    by_cases e : i.toNat = j
    · rw [if_pos e, if_pos (by omega), if_pos (by omega)]
    · rw [if_neg e, if_neg (by omega)]
  · simp only [flags, List.length_map, List.length_range]
    simp [hj]
    omega
theorem flags_len {n : Nat} {u : Int → Bool} : (flags n u).length = n := by simp [flags]
theorem mkZero_flags (n : Nat) : mkZero #[.bool false] n = ⟨flags n fun _ => false⟩ := by
  apply Array.ext'
  apply List.ext_getElem?
  intro i
  by_cases hi : i < n
  · rw [flags_get hi]; simpa using mkZero_get (v := .bool false) hi
  · rw [List.getElem?_eq_none (by simp [mkZero]; omega), List.getElem?_eq_none (by simp [flags]; omega)]
where
  mkZero_get {v : Value} {n i : Nat} (hi : i < n) : (mkZero #[v] n)[i]? = some v := by
    unfold mkZero
    simp [hi, Nat.mod_one]

/-- Where so many rows are free in a row of flags: the first. -/
def freeRow (u : Int → Bool) (p n : Int) : Prop := ∀ m, p ≤ m → m < p + n → u m = false

def ints (k : IntKind) (l : List Int) : List Value := l.map fun n => .int k n
theorem ints_get {k : IntKind} {l : List Int} {i : Nat} {n : Int} (h : l[i]? = some n) : (ints k l)[i]? = some (.int k n) := by simp [ints, h]

end Go.Sh

set_option linter.all false
set_option maxRecDepth 4000
set_option maxHeartbeats 1000000
namespace Go.Sh

section
variable {E : Env} (hE : EnvS E) {w : World} {b : Nat} {G : TreeG}
include hE

theorem scav_spec (h : TreeR E w b G) {n : Int} (hn0 : 0 ≤ n) (hn : n < 18446744073709551616) {K : Int → Int → World → Prop}
    (hk1 : G.l 3 = [] ∨ n = 0 → K 0 0 w)
    (hk2 : n ≠ 0 → ∀ q r p k, G.l 3 = r ++ [q] → k = min (q.2 - max q.1 ((q.2 - 1) / 512 * 512)) n → p = q.2 - k → 0 < k → q.1 ≤ p → ∀ w' G', TStep E b w G w' G' →
      G'.l = Sh.upd (Sh.upd G.l 3 (cutL (G.l 3) p (p + k))) 2 (addL (G.l 2) p (p + k)) → K p k w') :
    F.radix_Tree_Scavenge E (some ⟨b, 0, none⟩) n K w := by
  unfold F.radix_Tree_Scavenge F.stretch_Set_All
  simp only [NC_some, add_eq, Nat.zero_add]
  have hr : RowOf E w ⟨b, 6, none⟩ (G.s 3) (G.l 3) := (h.sets.sets 3 (by decide)).row
  have hlen := hr.len
  have hsm := hr.small
  have hbig : big = 4398046511104 := rfl
  refine ⟨G.s 3, hr.c0, JOIN_in (CND_eq (fun e => ?_) fun e => ?_)⟩
  · refine fun j => CND_t rfl (hk1 (.inl (List.eq_nil_of_length_eq_zero (by omega))))
  · refine fun j => CND_eq (fun e2 => hk1 (.inr e2)) fun e2 => ?_
    obtain ⟨r, q, hrq⟩ : ∃ r q, G.l 3 = r ++ [q] := by
      rcases List.eq_nil_or_concat (G.l 3) with h | ⟨r, q, h⟩
      · rw [h] at hlen; simp at hlen; omega
      · exact ⟨r, q, by simpa using h⟩
    have hi : (G.l 3)[r.length]? = some q := by rw [hrq]; simp
    have hll : (G.l 3).length = r.length + 1 := by rw [hrq]; simp
    have ei : i64 (((G.s 3).len : Int) - 1) = (r.length : Int) := by rw [i64_id (by omega) (by omega)]; omega
    obtain ⟨bb, hb, c1, c2⟩ := hr.own.cells2 hi
    have hq := hr.ok.get hi
    have hqt := h.inv.top (q.2 - 1) (h.inv.free _ ((h.inv.idle _).1 ⟨q, List.mem_of_getElem? hi, by omega, by omega⟩).1)
    rw [ei, hb]
    simp only [NC_some, add_eq, Nat.zero_add, Int.toNat_natCast, Nat.add_zero]
    refine ⟨⟨by omega, by omega⟩, q.1, c1, q.2, c2, ?_⟩
    refine AL_intro fun w11 hb11 hsz11 he11 => ?_
    refine st_block [.int .u64 q.1, .int .u64 q.2] w.heap.size 0 0 _ w11 _ hb11 (Nat.le_refl _) (by simp [Value.oneCell']) fun w12 he12 hsz12 hb12 => ?_
    have hb12' : w12.heap[w.heap.size]? = some (.cells ⟨[.int .u64 q.1, .int .u64 q.2]⟩ E.t_stretch_One) := hb12
    have hw12 : Ext Nothing w w12 := he11.trans he12 (fun _ _ f => f) fun i hi e => by have : i = w.heap.size := e; omega
    have d1 : w12.cell? ⟨w.heap.size, 0, none⟩ = some (.int .u64 q.1) := by rw [cell_of_block hb12']; rfl
    have d2 : w12.cell? ⟨w.heap.size, 1, none⟩ = some (.int .u64 q.2) := by rw [cell_of_block hb12']; rfl
    refine ⟨q.1, d1, q.2, d2, by decide, LET_intro fun fr hfr => ⟨q.2, d2, LET_intro fun k hk => ⟨q.2, d2, ?_⟩⟩⟩
    have hfr2 : fr = max q.1 ((q.2 - 1) / 512 * 512) := by
      rw [hfr, maxI_eq, u64_id (n := q.2 - 1) (by omega) (by omega), Int.tdiv_eq_ediv_of_nonneg (by omega), u64_id (n := (q.2 - 1) / 512) (by omega) (by omega), u64_id (by omega) (by omega)]
    have hkk : k = min (q.2 - max q.1 ((q.2 - 1) / 512 * 512)) n := by
      rw [hk, minI_eq, hfr2, u64_id (by omega) (by omega)]
    have hk0 : 0 < k := by omega
    have hkq : q.1 ≤ q.2 - k := by omega
    rw [u64_id (n := q.2 - k) (by omega) (by omega), u64_id (n := q.2 - k + k) (by omega) (by omega)]
    have m0 : TMid E b w G w12 G.s G.l := TMid.start h hw12
    refine cut_spec hE (m0.sets.sets 3 (by decide)) (by omega) (by omega) (by omega) fun w20 s3 hs3 hu3 hf3 => ?_
    have m1 := m0.upd (by decide : 3 < 4) hs3 hu3 hf3
    have hi2 := m1.sets.sets 2 (by decide)
    rw [upd_ne _ _ (by decide), upd_ne _ _ (by decide)] at hi2
    refine add_spec hE hi2 (by omega) (by omega) (by omega) fun w22 s2 hs2 hu2 hf2 => ?_
    have m2 := m1.upd (by decide : 2 < 4) hs2 hu2 (by rw [upd_ne _ _ (by decide)]; exact hf2)
    have hok : ∀ i, i < 4 → Ok (G.l i) := fun i hi => (h.sets.sets i hi).row.ok
    have hidl : ∀ m, q.2 - k ≤ m → m < q.2 - k + k → mem (G.l 3) m := fun m h1 h2 => ⟨q, List.mem_of_getElem? hi, by omega, by omega⟩
    have l1 : Sh.upd (Sh.upd G.l 3 (cutL (G.l 3) (q.2 - k) (q.2 - k + k))) 2 (addL (G.l 2) (q.2 - k) (q.2 - k + k)) 1 = G.l 1 := by rw [upd_ne _ _ (by decide), upd_ne _ _ (by decide)]
    have l2 : Sh.upd (Sh.upd G.l 3 (cutL (G.l 3) (q.2 - k) (q.2 - k + k))) 2 (addL (G.l 2) (q.2 - k) (q.2 - k + k)) 2 = addL (G.l 2) (q.2 - k) (q.2 - k + k) := by rw [upd_same]
    have l3 : Sh.upd (Sh.upd G.l 3 (cutL (G.l 3) (q.2 - k) (q.2 - k + k))) 2 (addL (G.l 2) (q.2 - k) (q.2 - k + k)) 3 = cutL (G.l 3) (q.2 - k) (q.2 - k + k) := by rw [upd_ne _ _ (by decide), upd_same]
    have ma : ∀ m, mem (addL (G.l 2) (q.2 - k) (q.2 - k + k)) m ↔ mem (G.l 2) m ∨ (q.2 - k ≤ m ∧ m < q.2 - k + k) := fun m => mem_addL (hok 2 (by decide)) (by omega) (by omega) (by omega) m
    refine hk2 e2 q r _ k hrq hkk rfl hk0 hkq w22 _ (m2.keep h l1 ⟨?_, ?_, ?_, ?_⟩) rfl
    · intro m; rw [upd_ne _ _ (by decide), upd_ne _ _ (by decide)]; exact h.inv.top m
    · intro m; rw [l1, upd_ne _ _ (by decide), upd_ne _ _ (by decide)]; exact h.inv.free m
    · intro m
      rw [l1, l2, ma]
      rintro (hh | hh)
      · exact h.inv.rel m hh
      · exact ((h.inv.idle m).1 (hidl m hh.1 hh.2)).1
    · intro m
      rw [l1, l2, l3, ma, mem_cutL (by omega), h.inv.idle m]
      constructor
      · rintro ⟨⟨g1, g2⟩, g3⟩
        exact ⟨g1, fun hh => hh.elim g2 g3⟩
      · rintro ⟨g1, g2⟩
        exact ⟨⟨g1, fun hh => g2 (.inl hh)⟩, fun hh => g2 (.inr hh)⟩

end
end Go.Sh

set_option linter.all false
set_option maxRecDepth 4000
set_option maxHeartbeats 4000000
namespace Go.Sh

/-- What is allocated can be given back. -/
theorem looked_back {E : Env} {w : World} {b : Nat} {G : TreeG} (hE : EnvS E) (h : TreeR E w b G) {n p : Int} (hn : 0 < n) (hf : findL (G.l 1) n = some p) {l' : Nat → Iv} (h0 : l' 0 = G.l 0) (h1 : l' 1 = cutL (G.l 1) p (p + n)) (e : Int) :
    lookedR l' p n false e = 0 ∧ 0 ≤ p ∧ p + n ≤ 34359738368 := by
  obtain ⟨hz, hp0, hp1⟩ := looked_find h hn hf
  obtain ⟨k1, k2, k3, k4, k5⟩ := looked_zero (by decide) hz
  have hok := (h.sets.sets 1 (by decide)).row.ok
  have hc : cnt (l' 1) p (p + n) = 0 := by
    rw [h1]
    exact (cnt_none (Ok_cutL hok (by omega)) (by omega)).2 fun m h1 h2 hm => ((mem_cutL (by omega)).1 hm).2 ⟨h1, h2⟩
  refine ⟨?_, hp0, by omega⟩
  unfold lookedR
  rw [if_neg (by rw [h0, k4]; omega), if_neg (by rw [hc]; simp)]

theorem addL_cutL {l : Iv} (h : Ok l) {p n : Int} (hn : 0 < n) (hr : rowIn l p n) : addL (cutL l p (p + n)) p (p + n) = l := by
  have hok := Ok_cutL h (a := p) (b := p + n) (by omega)
  obtain ⟨q, hq, h1, h2⟩ := mem_run h (a := p) (b := p + n) (by omega) hr
  have hb := h.mem hq
  have h3 := addL_spec hok (a := p) (b := p + n) (by omega) (by omega) (by omega)
  refine Ok_ext h3.1 h fun m => ?_
  rw [mem_addL hok (by omega) (by omega) (by omega), mem_cutL (by omega)]
  constructor
  · rintro (⟨h, _⟩ | h)
    · exact h
    · exact hr m h.1 h.2
  · intro h
    by_cases e : p ≤ m ∧ m < p + n
    · exact .inr e
    · exact .inl ⟨h, e⟩

section
variable {E : Env} (hE : EnvS E) {w : World}
include hE

theorem undo_spec {sz : SlV} {zs : Nat → Int} {n : Int} (hs : RowA w (.int .u64) sz zs) (hnw : 0 ≤ n ∧ n < 18446744073709551616)
    {K : Bool → World → Prop} (hK : ∀ w', Ext Nothing w w' → K true w') : F.mallowlaw9_RadixUndo E sz n K w := by
  unfold F.mallowlaw9_RadixUndo
  simp only [Nat.mul_one]
  refine JOIN_in (CND_dec (fun _ j => CND_t rfl (hK _ (Ext.refl _ _))) fun g1 => CND_dec (fun _ j => CND_t rfl (hK _ (Ext.refl _ _))) fun g2 j => CND_dec (fun _ => hK _ (Ext.refl _ _)) fun g3 => ?_)
  have H0 := Sat.start w
  refine tnew_spec fun w5 b G hm5 hl => ?_
  have H5 := H0.treeNew hm5
  refine JOIN_in (CND_f rfl ?_)
  obtain ⟨G', hR, hlG, st⟩ := H5.tree
  refine grow_spec hE hR (by decide) (by decide) (by decide) (by decide) (fun h => by omega) (fun _ h => by rw [hlG, hl] at h; exact absurd rfl h) fun _ _ w10 G10 hs10 hl10 j => CND_f rfl ?_
  have H10 := st _ _ hs10
  have hl0 : G10.l 2 = G10.l 1 := by
    rw [hl10]
    show addL (G'.l 2) _ _ = addL (G'.l 1) _ _
    rw [hlG, hl, hl]
  refine LOOP_intro (fun st w' => ∃ (i : Nat) (l : Nat → Iv), st.1 = (i : Int) ∧ i ≤ sz.len ∧ l 2 = l 1 ∧ Sat [TreeP E b l, Old w] w') (fun st _ => (sz.len - st.1).toNat) ⟨0, _, rfl, Nat.zero_le _, hl0, H10⟩ ?_
  rintro ⟨i', v⟩ _ w12 ⟨i, l, hi, hil, hl2, H12⟩
  simp only at hi ⊢
  subst hi
  have he12 := H12.old 1 rfl
  refine CND_dec (fun hlt => ?_) (fun hge => ?_)
  · have hik : i < sz.len := by omega
    obtain ⟨x0, hx0, hc0, hw0⟩ := hs.cell1 hik
    obtain ⟨hn0, hn1⟩ := u64_wf hw0
    generalize hN : zs i = m at hc0 hn0 hn1
    have cn : ∀ {w'}, Ext Nothing w w' → w'.cell? (x0.add i) = some (.int .u64 m) := fun he => he.cell hc0 fun f => f
    rw [hx0]
    simp only [NC_some, Int.toNat_natCast]
    have hii : (0 : Int) ≤ (i : Int) ∧ (i : Int) < (sz.len : Int) := ⟨by omega, by omega⟩
    have enext : i64 ((i : Int) + 1) = ((i + 1 : Nat) : Int) := by rw [i64_id (by omega) (by omega)]; omega
    refine JOIN_in ⟨hii, m, cn he12, CND_dec (fun _ j => CND_t rfl (hK _ he12)) fun hge1 => ⟨hii, m, cn he12, fun j => CND_dec (fun _ => hK _ he12) fun hle => ⟨hii, m, cn he12, ?_⟩⟩⟩
    obtain ⟨G, hR, hlG, st⟩ := H12.tree
    refine alloc_spec hE hR hn0 hn1 (fun h => by omega) (fun _ hnone w26 hw26 => ?_) (fun _ p hsome w26 G26 hs26 hl26 => ?_)
    · refine JOIN_in (CND_f rfl fun j => CND_f rfl ⟨⟨i + 1, l, enext, by omega, hl2, H12.nothing hw26⟩, ?_⟩)
      simp only [enext]; omega
    · have H26 := st _ _ hs26
      have e2 : G26.l 2 = G26.l 1 := by rw [hl26]; show cutL (G.l 2) _ _ = cutL (G.l 1) _ _; rw [hlG, hl2]
      refine JOIN_in (CND_t rfl ⟨by decide, CND_eq (fun _ => ⟨hii, m, cn (H26.old 1 rfl), ?_⟩) fun _ j => CND_f rfl ⟨⟨i + 1, _, enext, by omega, e2, H26⟩, by simp only [enext]; omega⟩⟩)
      obtain ⟨G2, hR2, hlG2, st2⟩ := H26.tree
      obtain ⟨hlk, hp0, hp1⟩ := looked_back hE hR (by omega) hsome (l' := G2.l) (by rw [hlG2, hl26]; rfl) (by rw [hlG2, hl26]; rfl) 31
      unfold F.radix_Tree_Back
      simp only [NC_some, add_eq, Nat.zero_add]
      refine freed_spec hE hR2 (.inl rfl) hp0 (by omega) hn0 hn1 (fun h => absurd hlk h) fun _ w33 G33 hs33 hl33 j => CND_f rfl ⟨⟨i + 1, _, enext, by omega, ?_, st2 _ _ hs33⟩, by simp only [enext]; omega⟩
      rw [hl33]
      show addL (G2.l 2) _ _ = addL (G2.l 1) _ _
      rw [hlG2, e2]
  · obtain ⟨G, hR, hlG, st⟩ := H12.tree
    refine free_spec hR (released_spec hR ?_)
    rw [hlG]
    refine tsum_spec hE hR (by decide) (by decide) (by decide) (by decide) (fun h => absurd h (by decide)) fun _ w42 G42 x hx hs42 hl42 => ?_
    have H42 := st _ _ hs42
    refine AL_cells H42 fun b43 w44 H44 _ => st_all H44 (by rfl) (by simp [Value.oneCell']) fun w45 H45 => ?_
    obtain ⟨G2, hR2, hlG2, st2⟩ := (H45.front 1 rfl).tree
    refine find_spec hR2 hnw.1 fun w48 hw48 => ?_
    have n0 : n ≠ 0 := by omega
    rw [if_neg n0]
    have H48 := H45.nothing hw48
    obtain ⟨G3, hR3, hlG3, st3⟩ := (H48.front 1 rfl).tree
    have e23 : G3.l = G2.l := by rw [hlG3, hlG2]
    have e1 : G2.l = l := by rw [hlG2, hl42, hlG]
    refine alloc_spec hE hR3 hnw.1 hnw.2 (fun h => absurd h n0) (fun _ hnone w52 hw52 => ?_) (fun _ p hsome w52 G52 hs52 hl52 => ?_)
    · rw [← e23, hnone]
      refine CND_f rfl (CND_t rfl (CND_t rfl (rawake_spec hE fun w' hw' => hK _ (((H48.nothing hw52).nothing hw').old 2 rfl))))
    · rw [← e23, hsome]
      refine CND_f rfl (CND_f rfl ?_)
      have H52 : Sat [Cells b43 E.t_api_Sum _, TreeP E b G52.l, Old w] w52 := Sat.back (Ps := [_, _, _]) 1 (st3 _ _ hs52)
      have hok1 : Ok (l 1) := by rw [← e1, ← e23]; exact (hR3.sets.sets 1 (by decide)).row.ok
      have hrow : rowIn (l 1) p n := by have := (findL_some (by rw [e23, e1]; exact hok1) (by omega) hsome).1; rw [e23, e1] at this; exact this
      have hc2 : cnt (G3.l 2) p (p + n) = n := by
        rw [e23, e1, hl2]
        have := (cnt_full hok1 (a := p) (b := p + n) (by omega)).2 hrow
        omega
      obtain ⟨G4, hR4, hlG4, st4⟩ := (H52.front 1 rfl).tree
      obtain ⟨hlk, hp0, hp1⟩ := looked_back hE hR3 (by omega) hsome (l' := G4.l) (by rw [hlG4, hl52]; rfl) (by rw [hlG4, hl52]; rfl) 31
      refine JOIN_in (CND_f (by simp) (CND_f (by rw [hc2]; simp) ?_))
      unfold F.radix_Tree_Back
      simp only [NC_some, add_eq, Nat.zero_add]
      refine freed_spec hE hR4 (.inl rfl) hp0 (by omega) hnw.1 hnw.2 (fun h => absurd hlk h) fun _ w57 G57 hs57 hl57 j => CND_f rfl ?_
      have H57 : Sat [Cells b43 E.t_api_Sum _, TreeP E b G57.l, Old w] w57 := Sat.back (Ps := [_, _, _]) 1 (st4 _ _ hs57)
      have f1 : G57.l 1 = l 1 := by
        rw [hl57]; show addL (G4.l 1) _ _ = _
        rw [hlG4, hl52]; show addL (cutL (G3.l 1) _ _) _ _ = _
        rw [e23, e1]; exact addL_cutL hok1 (by omega) hrow
      have f2 : G57.l 2 = l 1 := by
        rw [hl57]; show addL (G4.l 2) _ _ = _
        rw [hlG4, hl52]; show addL (cutL (G3.l 2) _ _) _ _ = _
        rw [e23, e1, hl2]; exact addL_cutL hok1 (by omega) hrow
      obtain ⟨G5, hR5, hlG5, st5⟩ := (H57.front 1 rfl).tree
      refine tsum_spec hE hR5 (by decide) (by decide) (by decide) (by decide) (fun h => absurd h (by decide)) fun _ w64 G64 y hy hs64 hl64 => ?_
      have hxy : y = x := by rw [hy, hx, hlG5, f1, hlG]
      subst hxy
      have H64 : Sat [Cells b43 E.t_api_Sum _, TreeP E b G64.l, Old w] w64 := Sat.back (Ps := [_, _, _]) 1 (st5 _ _ hs64)
      refine AL_cells H64 fun b65 w66 H66 _ => st_all H66 (by rfl) (by simp [Value.oneCell']) fun w67 H67 => ?_
      obtain ⟨G6, hR6, hlG6, st6⟩ := (H67.front 2 rfl).tree
      have g1 : G6.l = G57.l := by rw [hlG6, hl64, hlG5]
      refine find_spec hR6 hnw.1 fun w70 hw70 => ?_
      rw [if_neg n0, g1, f1, ← e1, ← e23, hsome]
      have H70 := H67.nothing hw70
      refine ⟨_, (H70.front 1 rfl).cell0 rfl, _, (H70.front 1 rfl).cell0 rfl, _, (H70.front 1 rfl).cell0 rfl, _, H70.cell0 rfl, _, H70.cell0 rfl, _, H70.cell0 rfl, CND_t (by simp) (CND_t (by simp) (CND_t rfl ?_))⟩
      obtain ⟨G7, hR7, hlG7, st7⟩ := (H70.front 2 rfl).tree
      have g2 : G7.l = G57.l := by rw [hlG7, hl64, hlG5]
      refine free_spec hR7 (CND_t (by rw [g2, f1, e23, e1]; simp) (released_spec hR7 (CND_t (by rw [g2, f2, e23, e1, hl2]; simp) ?_)))
      have hlk7 : lookedR G7.l p n false 31 = 31 := by
        have hz := (looked_find hR3 (by omega) hsome).1
        obtain ⟨k1, k2, k3, k4, k5⟩ := looked_zero (by decide) hz
        unfold lookedR
        have c0 : G7.l 0 = G3.l 0 := by rw [g2, hl57]; show G4.l 0 = _; rw [hlG4, hl52]; rfl
        have c1 : cnt (G7.l 1) p (p + n) = n := by
          rw [g2, f1]
          have := (cnt_full hok1 (a := p) (b := p + n) (by omega)).2 hrow
          omega
        rw [if_neg (by rw [c0, k4]; omega), if_pos (by rw [c1]; simpa using n0)]
      refine freed_spec hE hR7 (.inl rfl) hp0 (by omega) hnw.1 hnw.2 (fun h w82 hw82 => ?_) fun h => by rw [hlk7] at h; cases h
      rw [hlk7]
      refine CND_t rfl (rawake_spec hE fun w' hw' => hK _ (((H70.nothing hw82).nothing hw').old 3 rfl))

end
end Go.Sh

set_option linter.all false
set_option maxRecDepth 4000
set_option maxHeartbeats 4000000
namespace Go.Sh

section
variable {E : Env} (hE : EnvS E) {w : World}
include hE

theorem releases_spec {sz : SlV} {zs : Nat → Int} {each n : Int} (hs : RowA w (.int .u64) sz zs) (hew : 0 ≤ each ∧ each < 18446744073709551616) (hnw : 0 ≤ n ∧ n < 18446744073709551616)
    {K : Bool → World → Prop} (hK : ∀ w', Ext Nothing w w' → K true w') : F.mallowlaw9_RadixReleases E sz each n K w := by
  unfold F.mallowlaw9_RadixReleases
  simp only [Nat.mul_one]
  have h00 : K true w := hK _ (Ext.refl _ _)
  refine JOIN_in (CND_dec (fun _ j => CND_t rfl h00) fun g1 => CND_dec (fun _ j => CND_t rfl h00) fun g2 => CND_dec (fun _ j => CND_t rfl h00) fun g3 => CND_dec (fun _ j => CND_t rfl h00) fun g4 j => CND_dec (fun _ => h00) fun g5 => ?_)
  have H0 := Sat.start w
  refine tnew_spec fun w5 b G hm5 hl => ?_
  have H5 := H0.treeNew hm5
  refine JOIN_in (CND_f rfl ?_)
  obtain ⟨G', hR, hlG, st⟩ := H5.tree
  refine grow_spec hE hR (by decide) (by decide) (by decide) (by decide) (fun h => by omega) (fun _ h => by rw [hlG, hl] at h; exact absurd rfl h) fun _ _ w10 G10 hs10 hl10 j => CND_f rfl ?_
  have H10 := st _ _ hs10
  have H11 := H10.nil E.t_uint64 1
  refine LOOP_intro (fun st w' => ∃ (i : Nat) (l : Nat → Iv) (A : List Value), st.2.1 = (i : Int) ∧ i ≤ sz.len ∧ A.length ≤ i ∧ Sat [Row E.t_uint64 1 st.1 A, TreeP E b l, Old w] w') (fun st _ => (sz.len - st.2.1).toNat) ⟨0, _, [], rfl, Nat.zero_le _, Nat.le_refl _, H11⟩ ?_
  rintro ⟨sA, i', v⟩ _ w12 ⟨i, l, A, hi, hil, hAi, H12⟩
  simp only at hi H12 ⊢
  subst hi
  have he12 := H12.old 2 rfl
  refine CND_dec (fun hlt => ?_) (fun hge => ?_)
  · have hik : i < sz.len := by omega
    obtain ⟨x0, hx0, hc0, hw0⟩ := hs.cell1 hik
    obtain ⟨hn0, hn1⟩ := u64_wf hw0
    generalize hN : zs i = m at hc0 hn0 hn1
    have cn : ∀ {w'}, Ext Nothing w w' → w'.cell? (x0.add i) = some (.int .u64 m) := fun he => he.cell hc0 fun f => f
    rw [hx0]
    simp only [NC_some, Int.toNat_natCast]
    have hii : (0 : Int) ≤ (i : Int) ∧ (i : Int) < (sz.len : Int) := ⟨by omega, by omega⟩
    have enext : i64 ((i : Int) + 1) = ((i + 1 : Nat) : Int) := by rw [i64_id (by omega) (by omega)]; omega
    refine JOIN_in ⟨hii, m, cn he12, CND_dec (fun _ j => CND_t rfl (hK _ he12)) fun hge1 => ⟨hii, m, cn he12, fun j => CND_dec (fun _ => hK _ he12) fun hle => ⟨hii, m, cn he12, ?_⟩⟩⟩
    obtain ⟨G, hR, hlG, st⟩ := (H12.front 1 rfl).tree
    refine alloc_spec hE hR hn0 hn1 (fun h => by omega) (fun _ hnone w26 hw26 => ?_) (fun _ p hsome w26 G26 hs26 hl26 => ?_)
    · refine CND_f rfl ⟨⟨i + 1, l, A, enext, by omega, by omega, H12.nothing hw26⟩, ?_⟩
      simp only [enext]; omega
    · have H26 : Sat [Row E.t_uint64 1 sA A, TreeP E b G26.l, Old w] w26 := Sat.back (Ps := [_, _, _]) 1 (st _ _ hs26)
      have hlen := H26.rowLen
      refine CND_t rfl (AL_cells H26 fun b27 w28 H28 _ => APP_one (news := [.int .u64 p]) H28 rfl rfl (by simp [Value.oneCell']) (by omega) (by omega) fun s29 w30 H30 hl30 => ?_)
      refine JOIN_in ⟨by decide, CND_eq (fun _ => ⟨hii, m, cn (H30.old 2 rfl), ?_⟩) fun _ j => CND_f rfl ⟨⟨i + 1, _, _, enext, by omega, by simp; omega, H30⟩, by simp only [enext]; omega⟩⟩
      obtain ⟨G2, hR2, hlG2, st2⟩ := (H30.front 1 rfl).tree
      obtain ⟨hlk, hp0, hp1⟩ := looked_back hE hR (by omega) hsome (l' := G2.l) (by rw [hlG2, hl26]; rfl) (by rw [hlG2, hl26]; rfl) 31
      unfold F.radix_Tree_Give
      simp only [NC_some, add_eq, Nat.zero_add]
      refine freed_spec hE hR2 (.inr rfl) hp0 (by omega) hn0 hn1 (fun h => absurd hlk h) fun _ w33 G33 hs33 hl33 j => CND_f rfl ⟨⟨i + 1, _, _, enext, by omega, by simp; omega, Sat.back (Ps := [_, _, _]) 1 (st2 _ _ hs33)⟩, by simp only [enext]; omega⟩
  · have H13 := H12.tail
    have hinv := H13.treeInv
    refine LOOP_intro (fun st w' => ∃ (l : Nat → Iv), 0 ≤ st.1 ∧ st.1 ≤ 1099511627776 ∧ (∀ m, mem (l 3) m → m < st.1) ∧ Sat [TreeP E b l, Old w] w') (fun st _ => st.1.toNat)
      ⟨l, by decide, by decide, fun m hm => by have := hinv.1.top m (hinv.1.free m ((hinv.1.idle m).1 hm).1); show m < 1099511627776; omega, H13⟩ ?_
    rintro ⟨last, v⟩ _ w39 ⟨l, hl0, hl1, hlast, H39⟩
    simp only at hl0 hl1 hlast ⊢
    obtain ⟨hinv, hoks⟩ := H39.treeInv
    obtain ⟨G, hR, hlG, st⟩ := H39.tree
    refine released_spec hR ?_
    refine scav_spec hE hR hew.1 hew.2 (fun hno => ?_) fun hne q r p k hrq hk hp hk0 hqp w45 G45 hs45 hl45 => ?_
    · have h3 : l 3 = [] := by
        rcases hno with h | h
        · rw [← hlG]; exact h
        · omega
      have h12 : l 2 = l 1 := Ok_ext (hoks 2 (by decide)) (hoks 1 (by decide)) fun m => ⟨hinv.rel m, fun hm => by
        by_cases e : mem (l 2) m
        · exact e
        · have := (hinv.idle m).2 ⟨hm, e⟩
          rw [h3] at this
          exact absurd this (mem_nil _)⟩
      refine CND_t rfl (released_spec hR (free_spec hR (CND_f (by rw [hlG, h12]; simp) ?_)))
      refine alloc_spec hE hR hnw.1 hnw.2 (fun h => by omega) (fun _ hnone w53 hw53 => ?_) (fun _ p hsome w53 G53 hs53 hl53 => ?_)
      · refine JOIN_in (CND_f rfl fun j => CND_f rfl (rawake_spec hE fun w' hw' => hK _ (((H39.nothing hw53).nothing hw').old 1 rfl)))
      · have H53 := st _ _ hs53
        have hok1 := hoks 1 (by decide)
        have hrow : rowIn (l 1) p n := by have := (findL_some (by rw [hlG]; exact hok1) (by omega) hsome).1; rw [hlG] at this; exact this
        have hc2 : cnt (G.l 2) p (p + n) = n := by
          rw [hlG, h12]
          have := (cnt_full hok1 (a := p) (b := p + n) (by omega)).2 hrow
          omega
        obtain ⟨G4, hR4, hlG4, st4⟩ := H53.tree
        obtain ⟨hlk, hp0, hp1⟩ := looked_back hE hR (by omega) hsome (l' := G4.l) (by rw [hlG4, hl53]; rfl) (by rw [hlG4, hl53]; rfl) 31
        refine JOIN_in (CND_t rfl (CND_f (by rw [hc2]; simp) ?_))
        unfold F.radix_Tree_Back
        simp only [NC_some, add_eq, Nat.zero_add]
        refine freed_spec hE hR4 (.inl rfl) hp0 (by omega) hnw.1 hnw.2 (fun h => absurd hlk h) fun _ w57 G57 hs57 hl57 => CND_f rfl ?_
        have H57 := st4 _ _ hs57
        refine released_spec hs57.rep (free_spec hs57.rep fun j => CND_f ?_ (rawake_spec hE fun w' hw' => hK _ ((H57.nothing hw').old 1 rfl)))
        have : G57.l 2 = G57.l 1 := by
          rw [hl57]; show addL (G4.l 2) _ _ = addL (G4.l 1) _ _
          rw [hlG4, hl53]; show addL (cutL (G.l 2) _ _) _ _ = addL (cutL (G.l 1) _ _) _ _
          rw [hlG, h12]
        rw [this]; simp
    · have H45 := st _ _ hs45
      rw [hlG] at hrq hl45
      have hok3 := hoks 3 (by decide)
      have hq3 : q ∈ l 3 := by rw [hrq]; simp
      have hqb := hok3.mem hq3
      have hql := hlast (q.2 - 1) ⟨q, hq3, by omega, by omega⟩
      have hidl : ∀ m, p ≤ m → m < p + k → mem (l 3) m := fun m h1 h2 => ⟨q, hq3, by omega, by omega⟩
      refine CND_f (by simp; omega) (JOIN_in (CND_dec (fun h => by omega) fun _ => ?_))
      rw [u64_id (n := p + k) (by omega) (by omega)]
      refine CND_dec (fun h => by omega) fun _ => released_spec hs45.rep ?_
      have hok2 := hoks 2 (by decide)
      have e2 : G45.l 2 = addL (l 2) p (p + k) := by rw [hl45]; rfl
      have ht : tot (G45.l 2) = tot (l 2) + k := by
        have h1 := (addL_spec hok2 (a := p) (b := p + k) (by omega) (by omega) (by omega)).2.2
        have h2 : cnt (l 2) p (p + k) = 0 := (cnt_none hok2 (by omega)).2 fun m h3 h4 hm => ((hinv.idle m).1 (hidl m h3 h4)).2 hm
        rw [e2, h1, h2]; omega
      have hok2' : Ok (G45.l 2) := (hs45.rep.sets.sets 2 (by decide)).row.ok
      have hmx := tot_max hok2'
      have hnn := tot_nonneg hok2
      refine fun j => CND_f (by rw [hlG, u64_id (by omega) (by omega), ht]; simp) ?_
      refine LOOP_intro (fun st w' => p ≤ st.1 ∧ st.1 ≤ p + k ∧ Sat [TreeP E b G45.l, Old w] w') (fun st _ => (p + k - st.1).toNat) ⟨Int.le_refl _, by show p ≤ p + k; omega, H45⟩ ?_
      rintro ⟨x, v⟩ _ w71 ⟨hx1, hx2, H71⟩
      simp only at hx1 hx2 ⊢
      refine CND_dec (fun hlt => ?_) (fun hge => ⟨⟨G45.l, by show 0 ≤ p; omega, by show p ≤ 1099511627776; omega, fun m hm => ?_, H71⟩, by show p.toNat < last.toNat; omega⟩)
      · obtain ⟨G7, hR7, hlG7, st7⟩ := H71.tree
        refine state_spec hE hR7 (by omega) fun w76 r0 r1 r2 h0 h1 h2 hw76 => ?_
        have hm3 := (hinv.idle x).1 (hidl x hx1 hlt)
        have b0 : r0 = true := h0.2 (by rw [hlG7, hl45]; exact hinv.free x hm3.1)
        have b1 : r1 = true := h1.2 (by rw [hlG7, hl45]; exact hm3.1)
        have b2 : r2 = true := h2.2 (by rw [hlG7, e2, mem_addL hok2 (by omega) (by omega) (by omega)]; exact .inr ⟨hx1, hlt⟩)
        subst b0; subst b1; subst b2
        rw [u64_id (n := x + 1) (by omega) (by omega)]
        exact JOIN_in (CND_f rfl (CND_f rfl fun j => CND_f rfl ⟨⟨by show p ≤ x + 1; omega, by show x + 1 ≤ p + k; omega, H71.nothing hw76⟩, by show (p + k - (x + 1)).toNat < _; omega⟩))
      · have e3 : G45.l 3 = cutL (l 3) p (p + k) := by rw [hl45]; rfl
        rw [e3, mem_cutL (by omega)] at hm
        have := hm.2
        by_cases e : m < p
        · exact e
        · exfalso
          obtain ⟨q', hq', g1, g2⟩ := hm.1
          rw [hrq, List.mem_append, List.mem_singleton] at hq'
          rcases hq' with hq' | rfl
          · rw [hrq, Ok_append] at hok3
            have := hok3.2.2 q' hq' q (by simp)
            omega
          · omega

end
end Go.Sh

namespace Go.Proofs.Ytbhlnppflnfooaa.radixReleases
open Go.ChangeShapes Go.WideShapes Go.ChangeAt Go.RowKit
set_option linter.unusedVariables false
set_option linter.unusedSimpArgs false

theorem own : ownKnob Try.prog.godebug = none := by kernel_rfl
theorem laidOut : laidOutB Try.prog = true := by kernel_rfl

theorem walk (x : Go.Sh.ArgTs [.sl (.int .u64), .int .u64, .int .u64]) (w : World) (h : Go.Sh.argOks w [.sl (.int .u64), .int .u64, .int .u64] x) :
    Calls Try.prog 8 ⟨Go.Sh.argVals [.sl (.int .u64), .int .u64, .int .u64] x⟩ w fun e w' => e = .returned (.bool true) ∧ Below w.heap.size w w' := by
  obtain ⟨a0, a1, a2, u⟩ := x
  obtain ⟨w0, w1, w2, _⟩ := h
  obtain ⟨z0, w0⟩ := w0
  refine (Go.Sh.fits8 _ w (fun v w' => v = .bool true ∧ Below w.heap.size w w') ?_).2.mono ?_
  · show Go.Sh.F.mallowlaw9_RadixReleases Go.Sh.env a0 a1 a2 (fun r w' => Value.bool r = .bool true ∧ Below w.heap.size w w') w
    exact Go.Sh.releases_spec Go.Sh.envS w0 (Go.Sh.u64_wf w1) (Go.Sh.u64_wf w2) fun w' h => ⟨rfl, h.below (Nat.le_refl _) fun _ f => f.elim⟩
  · rintro e w' ⟨v, rfl, rfl, h⟩; exact ⟨rfl, h⟩

set_option maxRecDepth 100000 in
theorem lifted (os : Os) (started : os.Started) (H : Type) (enc : TypeId × Value → H) :
    ReturnsInHanded {} Try.checked os 8 .any (Rows.radixReleasesSpec.pre6 enc Try.prog Try.f8 Rows.radixReleasesRow.domain false) (Rows.radixReleasesSpec.post enc Try.prog Try.f8 false true false false) := by
  refine returnsInHanded_of_change (C := Try.checked) own started (by kernel_rfl) Try.func8
    (ChangeSpec.witness6 (enc := enc) (C := Try.checked) false ⟨#[], #[.slice none 0 0, .int .u64 0, .int .u64 0], []⟩ 8 (by kernel_rfl) (by kernel_rfl) (by kernel_rfl) (by kernel_rfl)) ?_
  intro W base args ds gs before hval0 hW hcnd _
  have hW' := hW
  obtain ⟨p, q, hA, hV, rfl, hfz, hnd⟩ := hW
  obtain ⟨rfl, rfl⟩ := trodVars_none hV
  have hargs := Go.Sh.args_of (P := Try.prog) (shs := [.sl (.int .u64), .int .u64, .int .u64]) (by kernel_rfl) (fun j t v ht hv => hval0 j t v (by simpa using ht) (by simpa using hv)) hA
  obtain ⟨x, hx, hok⟩ := Go.Sh.argVals_of hargs
  obtain rfl : args = ⟨Go.Sh.argVals [.sl (.int .u64), .int .u64, .int .u64] x⟩ := Array.toList_inj.1 (by simpa using hx)
  have hlen := Go.Sh.trodAll_len hA
  obtain ⟨d0, d1, d2, rfl⟩ : ∃ d0 d1 d2, ds = [d0, d1, d2] := by
    have hl : ds.length = 3 := hlen
    match ds, hl with
    | [d0, d1, d2], _ => exact ⟨d0, d1, d2, rfl⟩
  refine (walk x W hok).mono fun e W' ⟨he, bel⟩ => ?_
  subst he
  exact ⟨_, rfl, _, _, _, [], _, [], hW', trodAll_mk1 (shut_bool Try.underlying4 _), Go.Sh.trodAll_below laidOut bel (by kernel_rfl) hA, rfl, bel.frame _, fun h => by cases h⟩

theorem over : Rows.radixReleasesRow.holds Try.pinned (OpenSpec.ofChange Rows.radixReleasesSpec) :=
  OpenClaim.holds_of_wide 8 Try.f8 rfl rfl rfl rfl rfl rfl rfl ⟨rfl, rfl, rfl, rfl, rfl⟩ rfl rfl rfl rfl rfl (by kernel_rfl) Try.func8 (by kernel_rfl)
    (of_decide_eq_true (by kernel_rfl)) (by unfold Func.isWrapper; first | (rw [if_pos (by decide +kernel)]; kernel_rfl) | (rw [if_neg (by decide +kernel)]; exact ⟨rfl, rfl⟩))
    (fun os started H enc _ => lifted os started H enc)

/-- ████ THE STATEMENT ████ -/
theorem proved : Rows.RadixReleasesSaid := over
#print axioms proved
end Go.Proofs.Ytbhlnppflnfooaa.radixReleases
