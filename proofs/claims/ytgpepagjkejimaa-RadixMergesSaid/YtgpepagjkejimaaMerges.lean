/- The law RadixMerges holds: for every input the Go function returns true and leaves its arguments alone. No further condition. -/
import Derived.Test.YtgpepagjkejimaaMgR
import Derived.Test.YtgpepagjkejimaaMgT
import Derived.Test.YtgpepagjkejimaaMgA
import Derived.Test.YtgpepagjkejimaaRows
import Derived.WalkKit
import Derived.ProofKit
import Derived.OpenShut
set_option linter.all false
set_option maxRecDepth 4000
namespace Go.Sh

structure IsSum (l : Iv) (fr to s m e : Int) : Prop where
  s0 : 0 ≤ s
  s1 : s ≤ to - fr
  s2 : rowIn l fr s
  s3 : s = to - fr ∨ ¬ mem l (fr + s)
  e0 : 0 ≤ e
  e1 : e ≤ to - fr
  e2 : rowIn l (to - e) e
  e3 : e = to - fr ∨ ¬ mem l (to - e - 1)
  m0 : 0 ≤ m
  m1 : ∃ p, fr ≤ p ∧ p + m ≤ to ∧ rowIn l p m
  m2 : ∀ p n, fr ≤ p → p + n ≤ to → rowIn l p n → n ≤ m

section
variable {l : Iv} {fr md to s m e s' m' e' : Int}

theorem IsSum.uniq (h : IsSum l fr to s m e) (h' : IsSum l fr to s' m' e') : s = s' ∧ m = m' ∧ e = e' := by
  have := h.s0; have := h.s1; have := h'.s0; have := h'.s1; have := h.e0; have := h.e1; have := h'.e0; have := h'.e1
  refine ⟨?_, ?_, ?_⟩
  · rcases Int.lt_trichotomy s s' with g | g | g
    · rcases h.s3 with g2 | g2
      · omega
      · exact absurd (h'.s2 (fr + s) (by omega) (by omega)) g2
    · exact g
    · rcases h'.s3 with g2 | g2
      · omega
      · exact absurd (h.s2 (fr + s') (by omega) (by omega)) g2
  · obtain ⟨p, p1, p2, p3⟩ := h.m1
    obtain ⟨q, q1, q2, q3⟩ := h'.m1
    have := h'.m2 p m p1 p2 p3
    have := h.m2 q m' q1 q2 q3
    omega
  · rcases Int.lt_trichotomy e e' with g | g | g
    · rcases h.e3 with g2 | g2
      · omega
      · exact absurd (h'.e2 (to - e - 1) (by omega) (by omega)) g2
    · exact g
    · rcases h'.e3 with g2 | g2
      · omega
      · exact absurd (h.e2 (to - e' - 1) (by omega) (by omega)) g2

theorem IsSum.right (h : IsSum l fr to s m e) : (s = to - fr ∧ m = to - fr ∧ e = to - fr) ∨ (m < to - fr ∧ s ≤ m ∧ e ≤ m ∧ s + e < to - fr) := by
  have := h.s0; have := h.s1; have := h.e0; have := h.e1
  obtain ⟨p, p1, p2, p3⟩ := h.m1
  have hs := h.m2 fr s (by omega) (by omega) h.s2
  have he := h.m2 (to - e) e (by omega) (by omega) h.e2
  by_cases g : m = to - fr
  · left
    have : p = fr := by omega
    subst this
    refine ⟨?_, g, ?_⟩
    · rcases h.s3 with g2 | g2
      · exact g2
      · by_cases g3 : s = to - p
        · exact g3
        · exact absurd (p3 (p + s) (by omega) (by omega)) g2
    · rcases h.e3 with g2 | g2
      · exact g2
      · by_cases g3 : e = to - p
        · exact g3
        · exact absurd (p3 (to - e - 1) (by omega) (by omega)) g2
  · refine .inr ⟨by omega, hs, he, ?_⟩
    refine Classical.byContradiction fun g2 => ?_
    have := h.m2 fr (to - fr) (by omega) (by omega) fun x x1 x2 => by
      by_cases g3 : x < fr + s
      · exact h.s2 x x1 g3
      · exact h.e2 x (by omega) (by omega)
    omega

theorem IsSum.join (h : IsSum l fr md s m e) (h' : IsSum l md to s' m' e') :
    IsSum l fr to (if s = md - fr then s + s' else s) (max (max m m') (e + s')) (if s' = to - md then e + (to - md) else e') := by
  have := h.s0; have := h.s1; have := h'.s0; have := h'.s1; have := h.e0; have := h.e1; have := h'.e0; have := h'.e1; have := h.m0; have := h'.m0
  obtain ⟨p, p1, p2, p3⟩ := h.m1
  obtain ⟨q, q1, q2, q3⟩ := h'.m1
  refine ⟨?_, ?_, ?_, ?_, ?_, ?_, ?_, ?_, by omega, ?_, ?_⟩
  · split <;> omega
  · split <;> omega
  · split
    · intro x x1 x2
      by_cases g : x < fr + s
      · exact h.s2 x x1 g
      · exact h'.s2 x (by omega) (by omega)
    · exact h.s2
  · split
    · rcases h'.s3 with g | g
      · left; omega
      · right; intro g2; exact g (by rwa [show md + s' = fr + (s + s') by omega])
    · rcases h.s3 with g | g
      · omega
      · exact .inr g
  · split <;> omega
  · split <;> omega
  · split
    · intro x x1 x2
      by_cases g : x < md
      · exact h.e2 x (by omega) (by omega)
      · exact h'.s2 x (by omega) (by omega)
    · exact h'.e2
  · split
    · rcases h.e3 with g | g
      · left; omega
      · right; intro g2; exact g (by rwa [show md - e - 1 = to - (e + (to - md)) - 1 by omega])
    · rename_i g0
      rcases h'.e3 with g | g
      · exfalso
        rcases h'.s3 with g2 | g2
        · exact g0 g2
        · exact g2 (h'.e2 _ (by omega) (by omega))
      · exact .inr g
  · by_cases g1 : m' ≤ m
    · by_cases g2 : e + s' ≤ m
      · exact ⟨p, by omega, by omega, fun x x1 x2 => p3 x x1 (by omega)⟩
      · exact ⟨md - e, by omega, by omega, fun x x1 x2 => by
          by_cases g : x < md
          · exact h.e2 x (by omega) (by omega)
          · exact h'.s2 x (by omega) (by omega)⟩
    · by_cases g2 : e + s' ≤ m'
      · exact ⟨q, by omega, by omega, fun x x1 x2 => q3 x x1 (by omega)⟩
      · exact ⟨md - e, by omega, by omega, fun x x1 x2 => by
          by_cases g : x < md
          · exact h.e2 x (by omega) (by omega)
          · exact h'.s2 x (by omega) (by omega)⟩
  · intro x n x1 x2 x3
    by_cases g1 : x + n ≤ md
    · have := h.m2 x n x1 g1 x3; omega
    · by_cases g2 : md ≤ x
      · have := h'.m2 x n g2 x2 x3; omega
      · have a1 : md - x ≤ e := Classical.byContradiction fun g => by
          rcases h.e3 with g3 | g3
          · omega
          · exact g3 (x3 _ (by omega) (by omega))
        have a2 : x + n - md ≤ s' := Classical.byContradiction fun g => by
          rcases h'.s3 with g3 | g3
          · omega
          · exact g3 (x3 _ (by omega) (by omega))
        omega

theorem IsSum.nil (l : Iv) (fr : Int) : IsSum l fr fr 0 0 0 :=
  ⟨by omega, by omega, fun x h1 h2 => by omega, .inl (by omega), by omega, by omega, fun x h1 h2 => by omega, .inl (by omega), by omega, ⟨fr, by omega, by omega, fun x h1 h2 => by omega⟩, fun p n h1 h2 _ => by omega⟩

/-! ### What the code computes is one -/

theorem mem_withinL {l : Iv} {a b : Int} {x : Int} : mem (withinL l a b) x ↔ mem l x ∧ a ≤ x ∧ x < b := by
  induction l with
  | nil => exact ⟨fun h => absurd h (mem_nil x), fun h => absurd h.1 (mem_nil x)⟩
  | cons p r ih =>
    simp only [withinL]
    rw [mem_append, ih, mem_cons]
    have : mem (within1 p a b) x ↔ (p.1 ≤ x ∧ x < p.2) ∧ a ≤ x ∧ x < b := by
      unfold within1
      split
      · exact ⟨fun h => absurd h (mem_nil x), fun h => by omega⟩
      · rw [mem_cons]
        exact ⟨fun h => h.elim (fun h => by simp only at h; omega) fun h => absurd h (mem_nil x), fun h => .inl (by simp only; omega)⟩
    rw [this]
    constructor
    · rintro (⟨h1, h2⟩ | ⟨h1, h2⟩)
      · exact ⟨.inl h1, h2⟩
      · exact ⟨.inr h1, h2⟩
    · rintro ⟨h1 | h1, h2⟩
      · exact .inl ⟨h1, h2⟩
      · exact .inr ⟨h1, h2⟩

theorem Ok_withinL {l : Iv} (h : Ok l) {a b : Int} (hab : a < b) : Ok (withinL l a b) := by
  induction l with
  | nil => exact h
  | cons p r ih =>
    refine Ok_append.2 ⟨?_, ih h.tail, ?_⟩
    · unfold within1
      split
      · trivial
      · have := h.1; have := h.2.1; have := h.2.2.1
        exact ⟨by simp only; omega, by simp only; omega, by simp only; omega, fun q hq => (by cases hq), trivial⟩
    · intro q hq q' hq'
      have hp : q.2 ≤ p.2 := by
        unfold within1 at hq
        split at hq
        · cases hq
        · rw [List.mem_singleton] at hq; subst hq; simp only; omega
      have : p.2 < q'.1 := by
        have hr := h.2.2.2.1
        clear ih hq hp
        induction r with
        | nil => cases hq'
        | cons z r ih2 =>
          rcases List.mem_append.1 hq' with g | g
          · unfold within1 at g
            split at g
            · cases g
            · rw [List.mem_singleton] at g; subst g
              have := hr z List.mem_cons_self
              simp only; omega
          · exact ih2 ⟨h.1, h.2.1, h.2.2.1, fun q hq => hr q (List.mem_cons_of_mem _ hq), h.tail.tail⟩ g fun q hq => hr q (List.mem_cons_of_mem _ hq)
      omega

theorem Ok_one {W : Iv} (h : Ok W) {p q : Int × Int} (hp : p ∈ W) (hq : q ∈ W) {x : Int} (h1 : p.1 ≤ x) (h2 : x < p.2) (h3 : q.1 ≤ x) (h4 : x < q.2) : p = q := by
  obtain ⟨i, hi⟩ := List.getElem?_of_mem hp
  obtain ⟨j, hj⟩ := List.getElem?_of_mem hq
  rcases Nat.lt_trichotomy i j with g | g | g
  · have := h.lt g hi hj; omega
  · subst g; rw [hi] at hj; cases hj; rfl
  · have := h.lt g hj hi; omega

theorem sum_fold (fr to : Int) : ∀ (W : Iv) (a : Int × Int × Int),
    (((W.foldl (sumStep fr to) a).1 = a.1 ∧ ∀ p ∈ W, p.1 ≠ fr) ∨ ∃ p ∈ W, p.1 = fr ∧ (W.foldl (sumStep fr to) a).1 = p.2 - p.1) ∧
    (((W.foldl (sumStep fr to) a).2.1 = a.2.1 ∨ ∃ p ∈ W, (W.foldl (sumStep fr to) a).2.1 = p.2 - p.1) ∧ a.2.1 ≤ (W.foldl (sumStep fr to) a).2.1 ∧ ∀ p ∈ W, p.2 - p.1 ≤ (W.foldl (sumStep fr to) a).2.1) ∧
    (((W.foldl (sumStep fr to) a).2.2 = a.2.2 ∧ ∀ p ∈ W, p.2 ≠ to) ∨ ∃ p ∈ W, p.2 = to ∧ (W.foldl (sumStep fr to) a).2.2 = p.2 - p.1)
  | [], a => ⟨.inl ⟨rfl, fun p hp => (by cases hp)⟩, ⟨.inl rfl, Int.le_refl _, fun p hp => (by cases hp)⟩, .inl ⟨rfl, fun p hp => (by cases hp)⟩⟩
  | q :: r, a => by
    obtain ⟨h1, ⟨h2, h3, h4⟩, h5⟩ := sum_fold fr to r (sumStep fr to a q)
    simp only [List.foldl_cons]
    generalize r.foldl (sumStep fr to) (sumStep fr to a q) = z at *
    have e1 : (sumStep fr to a q).1 = if q.1 = fr then q.2 - q.1 else a.1 := rfl
    have e2 : (sumStep fr to a q).2.1 = max a.2.1 (q.2 - q.1) := rfl
    have e3 : (sumStep fr to a q).2.2 = if q.2 = to then q.2 - q.1 else a.2.2 := rfl
    rw [e1] at h1; rw [e2] at h2 h3; rw [e3] at h5
    refine ⟨?_, ⟨?_, by omega, ?_⟩, ?_⟩
    · rcases h1 with ⟨g1, g2⟩ | ⟨p, hp, g1, g2⟩
      · split at g1
        · exact .inr ⟨q, List.mem_cons_self, by assumption, g1⟩
        · refine .inl ⟨g1, fun p hp => ?_⟩
          rcases List.mem_cons.1 hp with rfl | hp
          · assumption
          · exact g2 p hp
      · exact .inr ⟨p, List.mem_cons_of_mem _ hp, g1, g2⟩
    · rcases h2 with g | ⟨p, hp, g⟩
      · by_cases g2 : q.2 - q.1 ≤ a.2.1
        · left; omega
        · right; exact ⟨q, List.mem_cons_self, by omega⟩
      · exact .inr ⟨p, List.mem_cons_of_mem _ hp, g⟩
    · intro p hp
      rcases List.mem_cons.1 hp with rfl | hp
      · omega
      · exact h4 p hp
    · rcases h5 with ⟨g1, g2⟩ | ⟨p, hp, g1, g2⟩
      · split at g1
        · exact .inr ⟨q, List.mem_cons_self, by assumption, g1⟩
        · refine .inl ⟨g1, fun p hp => ?_⟩
          rcases List.mem_cons.1 hp with rfl | hp
          · assumption
          · exact g2 p hp
      · exact .inr ⟨p, List.mem_cons_of_mem _ hp, g1, g2⟩

theorem isSum_sumOf {l : Iv} (h : Ok l) {fr to : Int} (hft : fr < to) : IsSum l fr to (sumOf l fr to).1 (sumOf l fr to).2.1 (sumOf l fr to).2.2 := by
  have hW := Ok_withinL h hft
  have hin := withinL_in h hft
  have hm : ∀ x, mem (withinL l fr to) x ↔ mem l x ∧ fr ≤ x ∧ x < to := fun x => mem_withinL
  obtain ⟨h1, ⟨h2, h3, h4⟩, h5⟩ := sum_fold fr to (withinL l fr to) (0, 0, 0)
  unfold sumOf
  generalize (withinL l fr to).foldl (sumStep fr to) (0, 0, 0) = z at *
  generalize withinL l fr to = W at *
  have hmem : ∀ p ∈ W, rowIn l p.1 (p.2 - p.1) := fun p hp x x1 x2 => ((hm x).1 ⟨p, hp, x1, by omega⟩).1
  have hend : ∀ p ∈ W, p.2 < to → ¬ mem l p.2 := fun p hp hlt hh => by
    have := hin p hp
    obtain ⟨q, hq, q1, q2⟩ := mem_run hW (a := p.1) (b := p.2 + 1) (by omega) fun x x1 x2 => (hm x).2 ⟨by
      by_cases g : x = p.2
      · subst g; exact hh
      · exact hmem p hp x x1 (by omega), by omega, by omega⟩
    have := Ok_one hW hp hq (x := p.1) (by omega) (by omega) (by omega) (by omega)
    subst this; omega
  have hstart : ∀ p ∈ W, fr < p.1 → ¬ mem l (p.1 - 1) := fun p hp hlt hh => by
    have := hin p hp
    obtain ⟨q, hq, q1, q2⟩ := mem_run hW (a := p.1 - 1) (b := p.2) (by omega) fun x x1 x2 => (hm x).2 ⟨by
      by_cases g : x = p.1 - 1
      · subst g; exact hh
      · exact hmem p hp x (by omega) (by omega), by omega, by omega⟩
    have := Ok_one hW hp hq (x := p.1) (by omega) (by omega) (by omega) (by omega)
    subst this; omega
  have hs : (0 ≤ z.1 ∧ z.1 ≤ to - fr ∧ rowIn l fr z.1 ∧ (z.1 = to - fr ∨ ¬ mem l (fr + z.1))) := by
    rcases h1 with ⟨g1, g2⟩ | ⟨p, hp, g1, g2⟩
    · have g1 : z.1 = 0 := g1
      rw [g1]
      refine ⟨by omega, by omega, fun x x1 x2 => by omega, .inr fun hh => ?_⟩
      obtain ⟨q, hq, q1, q2⟩ := (hm fr).2 ⟨by rwa [Int.add_zero] at hh, by omega, hft⟩
      exact g2 q hq (by have := hin q hq; omega)
    · have := hin p hp
      rw [g2]
      refine ⟨by omega, by omega, g1 ▸ hmem p hp, ?_⟩
      by_cases g : p.2 = to
      · left; omega
      · right
        rw [show fr + (p.2 - p.1) = p.2 by omega]
        exact hend p hp (by omega)
  have he : (0 ≤ z.2.2 ∧ z.2.2 ≤ to - fr ∧ rowIn l (to - z.2.2) z.2.2 ∧ (z.2.2 = to - fr ∨ ¬ mem l (to - z.2.2 - 1))) := by
    rcases h5 with ⟨g1, g2⟩ | ⟨p, hp, g1, g2⟩
    · have g1 : z.2.2 = 0 := g1
      rw [g1]
      refine ⟨by omega, by omega, fun x x1 x2 => by omega, .inr fun hh => ?_⟩
      obtain ⟨q, hq, q1, q2⟩ := (hm (to - 1)).2 ⟨by rwa [Int.sub_zero] at hh, by omega, by omega⟩
      exact g2 q hq (by have := hin q hq; omega)
    · have := hin p hp
      rw [g2]
      refine ⟨by omega, by omega, by rw [show to - (p.2 - p.1) = p.1 by omega]; exact hmem p hp, ?_⟩
      by_cases g : p.1 = fr
      · left; omega
      · right
        rw [show to - (p.2 - p.1) - 1 = p.1 - 1 by omega]
        exact hstart p hp (by omega)
  refine ⟨hs.1, hs.2.1, hs.2.2.1, hs.2.2.2, he.1, he.2.1, he.2.2.1, he.2.2.2, h3, ?_, ?_⟩
  · rcases h2 with g | ⟨p, hp, g⟩
    · have g : z.2.1 = 0 := g
      rw [g]
      exact ⟨fr, by omega, by omega, fun x x1 x2 => by omega⟩
    · have := hin p hp
      rw [g]
      exact ⟨p.1, by omega, by omega, hmem p hp⟩
  · intro p n p1 p2 p3
    by_cases g : n ≤ 0
    · have : (0 : Int) ≤ z.2.1 := h3
      omega
    · obtain ⟨q, hq, q1, q2⟩ := mem_run hW (a := p) (b := p + n) (by omega) fun x x1 x2 => (hm x).2 ⟨p3 x x1 x2, by omega, by omega⟩
      have := h4 q hq
      omega

end
end Go.Sh

set_option linter.all false
set_option maxRecDepth 4000
set_option maxHeartbeats 1000000
namespace Go.Sh

def sum3 (x : Int × Int × Int) : List Value := [.int .i64 x.1, .int .i64 x.2.1, .int .i64 x.2.2]
def sums (L : List (Int × Int × Int)) : List Value := L.flatMap sum3

theorem sums_len (L : List (Int × Int × Int)) : (sums L).length = L.length * 3 := by
  induction L with
  | nil => rfl
  | cons x r ih =>
    have : sums (x :: r) = sum3 x ++ sums r := rfl
    rw [this, List.length_append, ih, List.length_cons]
    have : (sum3 x).length = 3 := rfl
    omega

theorem sums_get : ∀ (L : List (Int × Int × Int)) {k : Nat} {x : Int × Int × Int}, L[k]? = some x → ∀ j, j < 3 → (sums L)[k * 3 + j]? = (sum3 x)[j]?
  | y :: r, 0, x, h, j, hj => by
    have h : y = x := Option.some.inj h
    subst h
    have : sums (y :: r) = sum3 y ++ sums r := rfl
    rw [this, List.getElem?_append_left (by simp only [sum3, List.length_cons, List.length_nil]; omega), Nat.zero_mul, Nat.zero_add]
  | y :: r, k + 1, x, h, j, hj => by
    have : sums (y :: r) = sum3 y ++ sums r := rfl
    rw [this, List.getElem?_append_right (by simp only [sum3, List.length_cons, List.length_nil]; omega)]
    have e : (k + 1) * 3 + j - (sum3 y).length = k * 3 + j := by simp only [sum3, List.length_cons, List.length_nil]; omega
    rw [e]
    exact sums_get r h j hj

theorem st_three {Z : List Pr} {w : World} {b t : Nat} {vs : List Value} {k : IntKind} {x y z : Int} (H : Sat (Cells b t vs :: Z) w) (hl : vs.length = 3) {K : World → Prop}
    (hK : ∀ w', Sat (Cells b t [.int k x, .int k y, .int k z] :: Z) w' → K w') : stCells (Addr.mk b 0 none) 0 [.int k x, .int k y, .int k z] w K :=
  st_all (news := [.int k x, .int k y, .int k z]) H hl.symm (by intro v hv; simp at hv; rcases hv with rfl | rfl | rfl <;> rfl) hK

/-- Summaries of rows one behind the other. -/
def Beside (l : Iv) (fr P : Int) (L : List (Int × Int × Int)) : Prop :=
  ∀ (k : Nat) x, L[k]? = some x → IsSum l (fr + k * P) (fr + k * P + P) x.1 x.2.1 x.2.2

section
variable {E : Env} {w : World} {Z : List Pr}

theorem right_spec (H : Sat Z w) {s m e P : Int} (hP : P ≤ 2097152) {l : Iv} {fr : Int} (h : IsSum l fr (fr + P) s m e) {K : Bool → World → Prop} (hK : ∀ w', Sat Z w' → K true w') : F.pack_right E s m e P K w := by
  unfold F.pack_right
  refine AL_cells H fun b w2 H2 he2 => ?_
  refine ⟨s, H2.cell rfl, m, H2.cell rfl, e, H2.cell rfl, ?_⟩
  have hr := h.right
  have := h.s0; have := h.e0; have := h.m0; have := h.s1; have := h.e1
  rw [show fr + P - fr = P by omega] at *
  refine CND_intro (fun _ => hK _ H2.tail) fun hn => ?_
  have hn : ¬ (s = P ∧ m = P ∧ e = P) := fun g => by
    obtain ⟨g1, g2, g3⟩ := g
    subst g1; subst g2; subst g3
    simp at hn
  obtain ⟨g1, g2, g3, g4⟩ := hr.resolve_left hn
  refine ⟨s, H2.cell0 rfl, CND_t (decide_eq_true (by omega)) ⟨e, H2.cell rfl, CND_t (decide_eq_true (by omega)) ⟨m, H2.cell rfl, CND_t (decide_eq_true g1) ⟨s, H2.cell0 rfl, m, H2.cell rfl, CND_t (decide_eq_true g2)
    ⟨e, H2.cell rfl, m, H2.cell rfl, CND_t (decide_eq_true g3) ⟨s, H2.cell0 rfl, e, H2.cell rfl, ?_⟩⟩⟩⟩⟩⟩
  rw [i64_id (by omega) (by omega), decide_eq_true g4]
  exact hK _ H2.tail

variable {a : SlV} {L : List (Int × Int × Int)} {l : Iv} {fr P : Int}

theorem rights_spec (H : Sat (Row E.t_api_Sum 3 a (sums L) :: Z) w) (h1 : 1 ≤ P) (hP : P ≤ 2097152) (hL : L.length ≤ 64) (hb : Beside l fr P L) {K : Bool → World → Prop}
    (hK : ∀ w', Sat (Row E.t_api_Sum 3 a (sums L) :: Z) w' → K true w') : F.pack_rights E a P K w := by
  unfold F.pack_rights
  have hlen : a.len = L.length := by have := H.rowLen; rw [sums_len] at this; omega
  refine JOIN_in (CND_f (decide_eq_false (by omega)) (CND_f (decide_eq_false (by omega)) ?_))
  intro j
  refine CND_f (decide_eq_false (by omega)) ?_
  refine LOOP_intro (fun st w' => ∃ k : Nat, st.1 = (k : Int) ∧ k ≤ L.length ∧ Sat (Row E.t_api_Sum 3 a (sums L) :: Z) w') (fun st _ => (L.length - st.1).toNat) ⟨0, rfl, Nat.zero_le _, H⟩ ?_
  rintro ⟨i, u⟩ _ w5 ⟨k, hk, hk2, H5⟩
  simp only at hk ⊢
  subst hk
  refine CND_dec (fun hlt => ?_) fun hge => hK _ H5
  have hl : k < L.length := by omega
  have hg := List.getElem?_eq_getElem hl
  have hbk := hb k _ hg
  generalize L[k] = x at hg hbk
  refine H5.rowCell (j := k * 3) (v := .int .i64 x.1) (by simpa [sum3] using sums_get L hg 0 (by decide)) fun p hp c0 => ⟨⟨by omega, by omega⟩, ?_⟩
  have hown := H5.own
  have c1 := hown.cell hp (j := k * 3 + 1) (v := .int .i64 x.2.1) (by rw [sums_get L hg 1 (by decide)]; rfl)
  have c2 := hown.cell hp (j := k * 3 + 2) (v := .int .i64 x.2.2) (by rw [sums_get L hg 2 (by decide)]; rfl)
  simp only [Int.toNat_natCast]
  rw [add_add, add_add, add_add]
  refine ⟨x.1, c0, x.2.1, c1, x.2.2, c2, ?_⟩
  refine AL_cells H5 fun b w12 H12 he12 => ?_
  refine st_three H12 rfl fun w13 H13 => ?_
  refine ⟨x.1, H13.cell rfl, x.2.1, H13.cell rfl, x.2.2, H13.cell rfl, ?_⟩
  refine right_spec H13.tail hP hbk fun w18 H18 => ?_
  refine CND_f rfl ?_
  rw [i64_id (by omega) (by omega)]
  exact ⟨⟨k + 1, by omega, by omega, H18⟩, by omega⟩

theorem merge_spec (H : Sat (Row E.t_api_Sum 3 a (sums L) :: Z) w) (h1 : 1 ≤ P) (hP : P ≤ 2097152) (hL : L.length ≤ 64) (hb : Beside l fr P L) {K : Int → Int → Int → Int → World → Prop}
    (hK : ∀ s m e w', IsSum l fr (fr + L.length * P) s m e → Sat (Row E.t_api_Sum 3 a (sums L) :: Z) w' → K s m e 0 w') : F.pack_Merge E a P K w := by
  unfold F.pack_Merge
  have hlen : a.len = L.length := by have := H.rowLen; rw [sums_len] at this; omega
  refine AL_cells H fun b1 w2 H2 he2 => ?_
  refine rights_spec (H2.front 1 rfl) h1 hP hL hb fun w4 H4 => ?_
  refine CND_f rfl ?_
  refine AL_cells H4 fun b9 w10 H10 he10 => ?_
  refine LOOP_intro (fun st w' => ∃ (k : Nat) (s m e : Int), st.1 = (k : Int) ∧ k ≤ L.length ∧ IsSum l fr (fr + k * P) s m e ∧
      Sat (Cells b9 E.t_api_Sum [.int .i64 s, .int .i64 m, .int .i64 e] :: Row E.t_api_Sum 3 a (sums L) :: Cells b1 E.t_api_Sum [.int .i64 0, .int .i64 0, .int .i64 0] :: Z) w') (fun st _ => (L.length - st.1).toNat)
    ⟨0, 0, 0, 0, rfl, Nat.zero_le _, by simpa using IsSum.nil l fr, H10⟩ ?_
  rintro ⟨i, u⟩ _ w12 ⟨k, s, m, e, hk, hk2, hI, H12⟩
  simp only at hk ⊢
  subst hk
  refine CND_dec (fun hlt => ?_) fun hge => ?_
  · have hl : k < L.length := by omega
    have hg := List.getElem?_eq_getElem hl
    have hbk := hb k _ hg
    generalize L[k] = x at hg hbk
    have hown := (H12.front 1 rfl).own
    refine (H12.front 1 rfl).rowCell (j := k * 3) (v := .int .i64 x.1) (by simpa [sum3] using sums_get L hg 0 (by decide)) fun p hp c0 => ⟨⟨by omega, by omega⟩, ?_⟩
    have c1 := hown.cell hp (j := k * 3 + 1) (v := .int .i64 x.2.1) (by rw [sums_get L hg 1 (by decide)]; rfl)
    have c2 := hown.cell hp (j := k * 3 + 2) (v := .int .i64 x.2.2) (by rw [sums_get L hg 2 (by decide)]; rfl)
    simp only [Int.toNat_natCast]
    rw [add_add, add_add, add_add]
    refine ⟨x.1, c0, x.2.1, c1, x.2.2, c2, ?_⟩
    refine AL_cells H12 fun b18 w19 H19 he19 => ?_
    refine st_three H19 rfl fun w20 H20 => ?_
    have hkP : (k : Int) * P ≤ 64 * 2097152 := by
      have h1 : (k : Int) * P ≤ 64 * P := Int.mul_le_mul_of_nonneg_right (by omega) (by omega)
      omega
    have hkP0 : 0 ≤ (k : Int) * P := Int.mul_nonneg (by omega) (by omega)
    have := hI.s0; have := hI.s1; have := hI.e0; have := hI.e1; have := hI.m0; have := hbk.s0; have := hbk.s1; have := hbk.e0; have := hbk.e1
    have hj := hI.join hbk
    rw [show fr + k * P - fr = k * P by omega, show fr + k * P + P - (fr + k * P) = P by omega] at hj
    have ek : (((k + 1 : Nat) : Int)) * P = k * P + P := by rw [Int.natCast_add, Int.add_mul]; simp
    have H21 := H20.front 1 rfl
    have fin : ∀ (s' : Int), s' = (if s = k * P then s + x.1 else s) → ∀ w23, Sat (Cells b9 E.t_api_Sum [.int .i64 s', .int .i64 m, .int .i64 e] :: Cells b18 E.t_api_Sum [.int .i64 x.1, .int .i64 x.2.1, .int .i64 x.2.2] :: Row E.t_api_Sum 3 a (sums L) :: Cells b1 E.t_api_Sum [.int .i64 0, .int .i64 0, .int .i64 0] :: Z) w23 →
        ∀ (next : Int × Unit → World → Prop), (∀ (s m e : Int) w', IsSum l fr (fr + ((k + 1 : Nat) : Int) * P) s m e → Sat (Cells b9 E.t_api_Sum [.int .i64 s, .int .i64 m, .int .i64 e] :: Row E.t_api_Sum 3 a (sums L) :: Cells b1 E.t_api_Sum [.int .i64 0, .int .i64 0, .int .i64 0] :: Z) w' → next (i64 ((k : Int) + 1), ()) w') →
        (∃ x28 : Int, w23.cell? ((Addr.mk b9 0 none).add 1) = some (.int .i64 x28) ∧
          ∃ x29 : Int, w23.cell? ((Addr.mk b18 0 none).add 1) = some (.int .i64 x29) ∧
          ∃ x30 : Int, w23.cell? ((Addr.mk b9 0 none).add 2) = some (.int .i64 x30) ∧
          ∃ x31 : Int, w23.cell? (Addr.mk b18 0 none) = some (.int .i64 x31) ∧
          stCells ((Addr.mk b9 0 none).add 1) 0 [.int .i64 (maxI (maxI x28 x29) (i64 (x30 + x31)))] w23 fun w32 =>
          ∃ x33 : Int, w32.cell? (Addr.mk b18 0 none) = some (.int .i64 x33) ∧
          CND ((x33 : Int) == P) (
            ∃ x34 : Int, w32.cell? ((Addr.mk b9 0 none).add 2) = some (.int .i64 x34) ∧
            stCells ((Addr.mk b9 0 none).add 2) 0 [.int .i64 (i64 (x34 + P))] w32 fun w35 =>
            next (i64 ((k : Int) + 1), ()) w35
          ) (
            ∃ x36 : Int, w32.cell? ((Addr.mk b18 0 none).add 2) = some (.int .i64 x36) ∧
            stCells ((Addr.mk b9 0 none).add 2) 0 [.int .i64 x36] w32 fun w37 =>
            next (i64 ((k : Int) + 1), ()) w37
          )) := by
      intro s' hs' w23 H23 next hn
      refine ⟨m, H23.cell rfl, x.2.1, (H23.front 1 rfl).cell rfl, e, H23.cell rfl, x.1, (H23.front 1 rfl).cell0 rfl, ?_⟩
      rw [i64_id (n := e + x.1) (by omega) (by omega), maxI_eq, maxI_eq]
      refine st_cell H23 rfl (by simp) fun w32 H32 => ?_
      simp only [List.set, Nat.zero_add] at H32
      refine ⟨x.1, (H32.front 1 rfl).cell0 rfl, CND_eq (fun e1 => ⟨e, H32.cell rfl, ?_⟩) fun e1 => ⟨x.2.2, (H32.front 1 rfl).cell rfl, ?_⟩⟩
      · rw [i64_id (n := e + P) (by omega) (by omega)]
        refine st_cell H32 rfl (by simp) fun w35 H35 => ?_
        simp only [List.set, Nat.zero_add] at H35
        refine hn _ _ _ _ ?_ ((H35.front 1 rfl).tail)
        rw [if_pos e1, ← hs', ] at hj
        rw [ek, ← Int.add_assoc]; exact hj
      · refine st_cell H32 rfl (by simp) fun w35 H35 => ?_
        simp only [List.set, Nat.zero_add] at H35
        refine hn _ _ _ _ ?_ ((H35.front 1 rfl).tail)
        rw [if_neg e1, ← hs', ] at hj
        rw [ek, ← Int.add_assoc]; exact hj
    have hfin : ∀ (s m e : Int) w', IsSum l fr (fr + ((k + 1 : Nat) : Int) * P) s m e → Sat (Cells b9 E.t_api_Sum [.int .i64 s, .int .i64 m, .int .i64 e] :: Row E.t_api_Sum 3 a (sums L) :: Cells b1 E.t_api_Sum [.int .i64 0, .int .i64 0, .int .i64 0] :: Z) w' →
        (∃ (k' : Nat) (s m e : Int), i64 ((k : Int) + 1) = (k' : Int) ∧ k' ≤ L.length ∧ IsSum l fr (fr + k' * P) s m e ∧
      Sat (Cells b9 E.t_api_Sum [.int .i64 s, .int .i64 m, .int .i64 e] :: Row E.t_api_Sum 3 a (sums L) :: Cells b1 E.t_api_Sum [.int .i64 0, .int .i64 0, .int .i64 0] :: Z) w') ∧ (L.length - i64 ((k : Int) + 1)).toNat < (L.length - (k : Int)).toNat := by
      intro s m e w' h1 h2
      rw [i64_id (n := (k : Int) + 1) (by omega) (by omega)]
      exact ⟨⟨k + 1, s, m, e, by omega, by omega, h1, h2⟩, by omega⟩
    refine JOIN_in ⟨s, H21.cell0 rfl, ?_⟩
    rw [i64_id (n := (k : Int) * P) (by omega) (by omega)]
    refine CND_eq (fun e1 => ⟨s, H21.cell0 rfl, x.1, H20.cell0 rfl, ?_⟩) fun e1 j => ?_
    · rw [i64_id (n := s + x.1) (by omega) (by omega)]
      refine st_cell0 H21 rfl (by simp) fun w27 H27 j => ?_
      simp only [List.set] at H27
      exact fin (s + x.1) (by rw [if_pos e1]) _ H27 (fun st w' => (∃ (k' : Nat) (s m e : Int), st.1 = (k' : Int) ∧ k' ≤ L.length ∧ IsSum l fr (fr + k' * P) s m e ∧ Sat (Cells b9 E.t_api_Sum [.int .i64 s, .int .i64 m, .int .i64 e] :: Row E.t_api_Sum 3 a (sums L) :: Cells b1 E.t_api_Sum [.int .i64 0, .int .i64 0, .int .i64 0] :: Z) w') ∧ (L.length - st.1).toNat < (L.length - (k : Int)).toNat) hfin
    · exact fin s (by rw [if_neg e1]) _ H21 (fun st w' => (∃ (k' : Nat) (s m e : Int), st.1 = (k' : Int) ∧ k' ≤ L.length ∧ IsSum l fr (fr + k' * P) s m e ∧ Sat (Cells b9 E.t_api_Sum [.int .i64 s, .int .i64 m, .int .i64 e] :: Row E.t_api_Sum 3 a (sums L) :: Cells b1 E.t_api_Sum [.int .i64 0, .int .i64 0, .int .i64 0] :: Z) w') ∧ (L.length - st.1).toNat < (L.length - (k : Int)).toNat) hfin
  · have : k = L.length := by omega
    subst this
    refine ⟨s, H12.cell rfl, m, H12.cell rfl, e, H12.cell rfl, ?_⟩
    refine st_three (H12.front 2 rfl) rfl fun w41 H41 => ?_
    refine ⟨s, H41.cell rfl, m, H41.cell rfl, e, H41.cell rfl, ?_⟩
    exact hK _ _ _ _ hI H41.tail.tail
end
end Go.Sh

set_option linter.all false
set_option maxRecDepth 4000
set_option maxHeartbeats 2000000
namespace Go.Sh

theorem pgs {lv x : Int} (h0 : 0 ≤ lv) (h1 : lv ≤ 2) (hx : 0 ≤ x) (hx2 : x < 67108864) : ∃ n, Int.fdiv x (2 ^ (min (Int.toNat (i64 (3 * (i64 (3 - lv))))) (IntKind.bits .u64))) = n ∧
    0 ≤ n ∧ n < 34359738368 / pg lv ∧ 8 * n + 7 < 34359738368 / pg (lv + 1) ∧ pg lv = 8 * pg (lv + 1) ∧ 512 ≤ pg (lv + 1) ∧ pg (lv + 1) ≤ 32768 ∧ n ≤ x := by
  have : lv = 0 ∨ lv = 1 ∨ lv = 2 := by omega
  have e2 : IntKind.bits .u64 = 64 := rfl
  refine ⟨_, rfl, ?_⟩
  rw [Int.fdiv_eq_ediv_of_nonneg _ (by exact Int.pow_nonneg (by decide))]
  rcases this with rfl | rfl | rfl
  · have e1 : Int.toNat (i64 (3 * (i64 (3 - 0)))) = 9 := by decide
    have p0 : pg 0 = 262144 := by decide
    have p1 : pg (0 + 1) = 32768 := by decide
    rw [e1, p0, p1, e2]
    simp only [show min 9 64 = 9 by decide, show (2 : Int) ^ 9 = 512 by decide]
    omega
  · have e1 : Int.toNat (i64 (3 * (i64 (3 - 1)))) = 6 := by decide
    have p0 : pg 1 = 32768 := by decide
    have p1 : pg (1 + 1) = 4096 := by decide
    rw [e1, p0, p1, e2]
    simp only [show min 6 64 = 6 by decide, show (2 : Int) ^ 6 = 64 by decide]
    omega
  · have e1 : Int.toNat (i64 (3 * (i64 (3 - 2)))) = 3 := by decide
    have p0 : pg 2 = 4096 := by decide
    have p1 : pg (2 + 1) = 512 := by decide
    rw [e1, p0, p1, e2]
    simp only [show min 3 64 = 3 by decide, show (2 : Int) ^ 3 = 8 by decide]
    omega

section
variable {E : Env} (hE : EnvS E) {w : World}
include hE

theorem tsum_sat {b : Nat} {l : Nat → Iv} {Z : List Pr} {w : World} (H : Sat (TreeP E b l :: Z) w) {lv i : Int} (hl0 : 0 ≤ lv) (hl1 : lv < 4) (hi0 : 0 ≤ i) (hi : i < 34359738368 / pg lv) {K : Int → Int → Int → Int → World → Prop}
    (hK : ∀ s m e w', IsSum (l 1) (i * pg lv) (i * pg lv + pg lv) s m e → Sat (TreeP E b l :: Z) w' → K s m e 0 w') : F.radix_Tree_Sum E (some ⟨b, 0, none⟩) lv i K w := by
  obtain ⟨G, hR, hlG, st⟩ := H.tree
  have hok := (hR.sets.sets 1 (by decide)).row.ok
  have hp := pg_pos (lv := lv) hl0 hl1
  have hb : 34359738368 / pg lv ≤ 34359738368 := Int.ediv_le_self _ (by decide)
  refine tsum_spec hE hR (by omega) (by omega) hi0 (by omega) (fun h => by omega) fun _ w' G' x hx hs hl => ?_
  have := isSum_sumOf hok (fr := i * pg lv) (to := i * pg lv + pg lv) (by omega)
  rw [← hx, hlG] at this
  have H' := st _ _ hs
  rw [hl, hlG] at H'
  exact hK _ _ _ _ this H'

theorem merges_spec {a0 a1 : SlV} {z0 z1 : Nat → Int} {lv : Int} (h0 : RowA w (.int .u64) a0 z0) (h1 : RowA w (.int .u64) a1 z1)
    {K : Bool → World → Prop} (hK : ∀ w', Ext Nothing w w' → K true w') : F.mallowlaw9_RadixMerges E a0 a1 lv K w := by
  unfold F.mallowlaw9_RadixMerges
  simp only [Nat.mul_one]
  have fin : ∀ {w'}, Ext Nothing w w' → ∀ j : Nat → Value, CND (true, ()).1 (K true w') (K true w') := fun he j => hK _ he
  refine JOIN_in (CND_dec (fun _ j => CND_t rfl (hK _ (Ext.refl _ _))) fun g1 => CND_dec (fun _ j => CND_t rfl (hK _ (Ext.refl _ _))) fun g2 => CND_dec (fun _ j => CND_t rfl (hK _ (Ext.refl _ _))) fun g3 j => CND_dec (fun _ => hK _ (Ext.refl _ _)) fun g4 => ?_)
  have H0 := Sat.start w
  refine tnew_spec fun w5 b G hm5 hl => ?_
  have H5 := H0.treeNew hm5
  refine CND_f rfl ?_
  refine LOOP_intro (fun st w' => ∃ (i : Nat) (l : Nat → Iv), st.1 = (i : Int) ∧ i ≤ a0.len ∧ Sat [TreeP E b l, Old w] w') (fun st _ => (a0.len - st.1).toNat) ⟨0, _, rfl, Nat.zero_le _, H5⟩ ?_
  rintro ⟨i', v⟩ _ w7 ⟨i, l, hi, hil, H7⟩
  simp only at hi ⊢
  subst hi
  refine CND_dec (fun hlt => ?_) (fun hge => ?_)
  · obtain ⟨x0, hx0, hc0, hw0⟩ := h0.cell1 (show i < a0.len by omega)
    obtain ⟨hn0, hn1⟩ := u64_wf hw0
    rw [hx0]
    simp only [NC_some, Int.toNat_natCast]
    have enext : i64 ((i : Int) + 1) = ((i + 1 : Nat) : Int) := by rw [i64_id (by omega) (by omega)]; omega
    refine ⟨⟨by omega, by omega⟩, z0 i, (H7.old 1 rfl).cell hc0 fun f => f, ?_⟩
    rw [enext]
    obtain ⟨G, hR, hlG, st⟩ := H7.tree
    exact grow_spec hE hR hn0 hn1 (by decide) (by decide) (fun _ => ⟨⟨i + 1, l, rfl, by omega, H7⟩, by omega⟩) (fun _ _ w' hw' => ⟨⟨i + 1, l, rfl, by omega, H7.nothing hw'⟩, by omega⟩)
      fun _ _ w' G' hs _ => ⟨⟨i + 1, _, rfl, by omega, st _ _ hs⟩, by omega⟩
  refine LOOP_intro (fun st w' => ∃ (i : Nat) (l : Nat → Iv), st.1 = (i : Int) ∧ i ≤ a1.len ∧ Sat [TreeP E b l, Old w] w') (fun st _ => (a1.len - st.1).toNat) ⟨0, _, rfl, Nat.zero_le _, H7⟩ ?_
  clear hge hil H7
  rintro ⟨i', v⟩ _ w14 ⟨i, l, hi, hil, H14⟩
  simp only at hi ⊢
  subst hi
  have he14 := H14.old 1 rfl
  refine CND_dec (fun hlt => ?_) (fun hge => ?_)
  · obtain ⟨x0, hx0, hc0, hw0⟩ := h1.cell1 (show i < a1.len by omega)
    obtain ⟨hn0, hn1⟩ := u64_wf hw0
    rw [hx0]
    simp only [NC_some, Int.toNat_natCast]
    have enext : i64 ((i : Int) + 1) = ((i + 1 : Nat) : Int) := by rw [i64_id (by omega) (by omega)]; omega
    have hii : (0 : Int) ≤ (i : Int) ∧ (i : Int) < (a1.len : Int) := ⟨by omega, by omega⟩
    have hc := he14.cell hc0 fun f => f
    rw [enext]
    refine JOIN_in ⟨hii, z1 i, hc, CND_dec (fun _ j => CND_t rfl (hK _ he14)) fun _ => ⟨hii, z1 i, hc, fun j => CND_dec (fun _ => hK _ he14) fun _ => ⟨hii, z1 i, hc, ?_⟩⟩⟩
    obtain ⟨G, hR, hlG, st⟩ := H14.tree
    exact alloc_spec hE hR hn0 hn1 (fun _ => ⟨⟨i + 1, l, rfl, by omega, H14⟩, by omega⟩) (fun _ _ w' hw' => ⟨⟨i + 1, l, rfl, by omega, H14.nothing hw'⟩, by omega⟩)
      fun _ p _ w' G' hs _ => ⟨⟨i + 1, _, rfl, by omega, st _ _ hs⟩, by omega⟩
  have elv : i64 (lv + 1) = lv + 1 := i64_id (by omega) (by omega)
  rw [elv]
  refine LOOP_intro (fun st w' => lv + 1 ≤ st.2.1 ∧ st.2.1 ≤ 3 ∧ st.1 = pg st.2.1 ∧ w' = w14) (fun st _ => st.2.1.toNat) ⟨by show lv + 1 ≤ 3; omega, by show (3 : Int) ≤ 3; omega, by show (512 : Int) = pg 3; decide, rfl⟩ ?_
  rintro ⟨P, k, v⟩ _ w30 ⟨hk1, hk2, hP, rfl⟩
  simp only at hk1 hk2 hP ⊢
  subst hP
  refine CND_dec (fun hlt => ?_) (fun hge => ?_)
  · have ek : i64 (k - 1) = k - 1 := i64_id (by omega) (by omega)
    rw [ek]
    refine ⟨⟨by omega, by omega, ?_, by trivial⟩, by omega⟩
    have : k = 1 ∨ k = 2 ∨ k = 3 := by omega
    rcases this with rfl | rfl | rfl <;> decide
  have ek : k = lv + 1 := by omega
  subst ek
  clear hk1 hk2 hge
  refine LOOP_intro (fun st w' => ∃ (i : Nat), st.1 = (i : Int) ∧ i ≤ a0.len ∧ Sat [TreeP E b l, Old w] w') (fun st _ => (a0.len - st.1).toNat) ⟨0, rfl, Nat.zero_le _, H14⟩ ?_
  rintro ⟨i', v⟩ _ w33 ⟨i, hi, hil, H33⟩
  simp only at hi ⊢
  subst hi
  refine CND_dec (fun hlt => ?_) (fun hge => rawake_spec hE fun w' hw' => hK _ ((H33.nothing hw').old 1 rfl))
  obtain ⟨x0, hx0, hc0, hw0⟩ := h0.cell1 (show i < a0.len by omega)
  obtain ⟨hn0, hn1⟩ := u64_wf hw0
  rw [hx0]
  simp only [NC_some, Int.toNat_natCast]
  have enext : i64 ((i : Int) + 1) = ((i + 1 : Nat) : Int) := by rw [i64_id (by omega) (by omega)]; omega
  rw [enext]
  have hii : (0 : Int) ≤ (i : Int) ∧ (i : Int) < (a0.len : Int) := ⟨by omega, by omega⟩
  have hc := (H33.old 1 rfl).cell hc0 fun f => f
  refine ⟨hii, z0 i, hc, CND_dec (fun _ => ⟨⟨i + 1, rfl, by omega, H33⟩, by omega⟩) fun hx => ⟨hii, z0 i, hc, by rw [i64_id (by rw [i64_id] <;> omega) (by rw [i64_id] <;> omega), i64_id (by omega) (by omega)]; omega, ?_⟩⟩
  obtain ⟨n, hn, n0, n1, n2, n3, n4, n5, n6⟩ := pgs (lv := lv) (x := z0 i) (by omega) (by omega) hn0 (by omega)
  rw [hn]
  refine LET_intro fun n' hn' => ?_
  subst hn'
  refine tsum_sat hE H33 (by omega) (by omega) n0 n1 fun s m e w44 hS H44 => ?_
  refine AL_cells H44 fun b45 w46 H46 _ => ?_
  refine st_three H46 rfl fun w47 H47 => ?_
  refine LOOP_intro (fun st w' => ∃ (k : Nat) (L : List (Int × Int × Int)), st.2.1 = (k : Int) ∧ k ≤ 8 ∧ L.length = k ∧ Beside (l 1) (n' * pg lv) (pg (lv + 1)) L ∧
      Sat [Row E.t_api_Sum 3 st.1 (sums L), TreeP E b l, Cells b45 E.t_api_Sum [.int .i64 s, .int .i64 m, .int .i64 e], Old w] w') (fun st _ => (8 - st.2.1).toNat)
    ⟨0, [], rfl, by decide, rfl, fun k x h => (by cases h), (H47.front 1 rfl).nil _ _⟩ ?_
  rintro ⟨sl, k', v⟩ _ w49 ⟨k, L, hk, hk8, hL, hB, H49⟩
  simp only at hk H49 ⊢
  subst hk
  refine CND_dec (fun hlt => ?_) (fun hge => ?_)
  · have e1 : u64 (8 * n') = 8 * n' := u64_id (by omega) (by omega)
    rw [e1, u64_id (n := 8 * n' + k) (by omega) (by omega), u64_id (n := (k : Int) + 1) (by omega) (by omega)]
    refine tsum_sat hE (H49.front 1 rfl) (by omega) (by omega) (by omega) (by omega) fun s2 m2 e2 w55 hS2 H55 => ?_
    refine AL_cells H55 fun b56 w57 H57 _ => ?_
    refine st_three H57 rfl fun w58 H58 => CND_ne (fun h => absurd rfl h) fun _ => ?_
    refine ⟨_, H58.cell rfl, _, H58.cell rfl, _, H58.cell rfl, ?_⟩
    refine AL_cells H58 fun b62 w63 H63 _ => ?_
    have hlen := (H63.front2 2 rfl).tail.rowLen
    rw [sums_len] at hlen
    refine APP_one (news := sum3 (s2, m2, e2)) (H63.front2 2 rfl) rfl rfl (by intro v hv; simp [sum3] at hv; rcases hv with rfl | rfl | rfl <;> rfl) (by omega) (by omega) fun s64 w65 H65 _ => ?_
    have H65 : Sat [Row E.t_api_Sum 3 s64 (sums L ++ sum3 (s2, m2, e2)), Cells b56 E.t_api_Sum _, TreeP E b l, Cells b45 E.t_api_Sum [.int .i64 s, .int .i64 m, .int .i64 e], Old w] w65 := H65
    refine ⟨⟨k + 1, L ++ [(s2, m2, e2)], by omega, by omega, by simp [hL], ?_, ?_⟩, by omega⟩
    · intro j x hj
      rw [List.getElem?_append] at hj
      split at hj
      · exact hB j x hj
      · have : j = L.length := by
          have := (List.getElem?_eq_some_iff.1 hj).1
          simp at this; omega
        subst this
        rw [Nat.sub_self] at hj
        cases hj
        rw [hL]
        have e : (8 * n' + (k : Int)) * pg (lv + 1) = n' * pg lv + k * pg (lv + 1) := by
          rw [n3, Int.add_mul, Int.mul_comm 8 n', Int.mul_assoc]
        rw [e] at hS2
        exact hS2
    · have e : sums (L ++ [(s2, m2, e2)]) = sums L ++ sum3 (s2, m2, e2) := by simp [sums]
      rw [e]
      exact ((H65.front 1 rfl).tail)
  · have hk : k = 8 := by omega
    subst hk
    refine merge_spec H49 (by omega) (by omega) (by omega) hB fun s2 m2 e2 w70 hS2 H70 => ?_
    rw [hL] at hS2
    refine AL_cells H70 fun b71 w72 H72 _ => ?_
    refine st_three H72 rfl fun w73 H73 => ?_
    have e : n' * pg lv + ((8 : Nat) : Int) * pg (lv + 1) = n' * pg lv + pg lv := by rw [n3]; omega
    rw [e] at hS2
    obtain ⟨rfl, rfl, rfl⟩ := hS.uniq hS2
    have c := H73.front 3 rfl
    refine JOIN_in (CND_ne (fun h => absurd rfl h) fun _ => CND_ne (fun h => absurd rfl h) fun _ => ⟨_, c.cell rfl, _, c.cell rfl, _, c.cell rfl, _, H73.cell rfl, _, H73.cell rfl, _, H73.cell rfl, fun j => CND_f (by simp) ?_⟩)
    exact ⟨⟨i + 1, rfl, by omega, (H73.tail.tail.front 1 rfl).tail⟩, by omega⟩

end
end Go.Sh

namespace Go.Proofs.Ytgpepagjkejimaa.radixMerges
open Go.ChangeShapes Go.WideShapes Go.ChangeAt Go.RowKit
set_option linter.unusedVariables false
set_option linter.unusedSimpArgs false

theorem own : ownKnob Try.prog.godebug = none := by kernel_rfl
theorem laidOut : laidOutB Try.prog = true := by kernel_rfl

theorem walk (x : Go.Sh.ArgTs [.sl (.int .u64), .sl (.int .u64), .int .i64]) (w : World) (h : Go.Sh.argOks w [.sl (.int .u64), .sl (.int .u64), .int .i64] x) :
    Calls Try.prog 3 ⟨Go.Sh.argVals [.sl (.int .u64), .sl (.int .u64), .int .i64] x⟩ w fun e w' => e = .returned (.bool true) ∧ Below w.heap.size w w' := by
  obtain ⟨a0, a1, a2, u⟩ := x
  obtain ⟨w0, w1, w2, _⟩ := h
  obtain ⟨z0, w0⟩ := w0
  obtain ⟨z1, w1⟩ := w1
  refine (Go.Sh.fits3 _ w (fun v w' => v = .bool true ∧ Below w.heap.size w w') Go.Sh.noP ?_).2.mono ?_
  · show Go.Sh.F.mallowlaw9_RadixMerges Go.Sh.env a0 a1 a2 (fun r w' => Value.bool r = .bool true ∧ Below w.heap.size w w') w
    exact Go.Sh.merges_spec Go.Sh.envS w0 w1 fun w' h => ⟨rfl, h.below (Nat.le_refl _) fun _ f => f.elim⟩
  · intro e w' hE
    obtain ⟨v, rfl, rfl, h⟩ := hE.val
    exact ⟨rfl, h⟩

set_option maxRecDepth 100000 in
theorem lifted (os : Os) (started : os.Started) (H : Type) (enc : TypeId × Value → H) :
    ReturnsInHanded {} Try.checked os 3 .any (Rows.radixMergesSpec.pre6 enc Try.prog Try.f3 Rows.radixMergesRow.domain false) (Rows.radixMergesSpec.post enc Try.prog Try.f3 false true false false) := by
  refine returnsInHanded_of_change (C := Try.checked) own started (by kernel_rfl) Try.func3
    (ChangeSpec.witness6 (enc := enc) (C := Try.checked) false ⟨#[], #[.slice none 0 0, .slice none 0 0, .int .i64 0], []⟩ 8 (by kernel_rfl) (by kernel_rfl) (by kernel_rfl) (by kernel_rfl)) ?_
  intro W base args ds gs before hval0 hW hcnd _
  have hW' := hW
  obtain ⟨p, q, hA, hV, rfl, hfz, hnd⟩ := hW
  obtain ⟨rfl, rfl⟩ := trodVars_none hV
  have hargs := Go.Sh.args_of (P := Try.prog) (shs := [.sl (.int .u64), .sl (.int .u64), .int .i64]) (by kernel_rfl) (fun j t v ht hv => hval0 j t v (by simpa using ht) (by simpa using hv)) hA
  obtain ⟨x, hx, hok⟩ := Go.Sh.argVals_of hargs
  obtain rfl : args = ⟨Go.Sh.argVals [.sl (.int .u64), .sl (.int .u64), .int .i64] x⟩ := Array.toList_inj.1 (by simpa using hx)
  have hlen := Go.Sh.trodAll_len hA
  obtain ⟨d0, d1, d2, rfl⟩ : ∃ d0 d1 d2, ds = [d0, d1, d2] := by
    have hl : ds.length = 3 := hlen
    match ds, hl with
    | [d0, d1, d2], _ => exact ⟨d0, d1, d2, rfl⟩
  refine (walk x W hok).mono fun e W' ⟨he, bel⟩ => ?_
  subst he
  exact ⟨_, rfl, _, _, _, [], _, [], hW', trodAll_mk1 (shut_bool Try.underlying4 _), Go.Sh.trodAll_below laidOut bel (by kernel_rfl) hA, rfl, bel.frame _, fun h => by cases h⟩

theorem over : Rows.radixMergesRow.holds Try.pinned (OpenSpec.ofChange Rows.radixMergesSpec) :=
  OpenClaim.holds_of_wide 3 Try.f3 rfl rfl rfl rfl rfl rfl rfl ⟨rfl, rfl, rfl, rfl, rfl⟩ rfl rfl rfl rfl rfl (by kernel_rfl) Try.func3 (by kernel_rfl)
    (of_decide_eq_true (by kernel_rfl)) (by unfold Func.isWrapper; first | (rw [if_pos (by decide +kernel)]; kernel_rfl) | (rw [if_neg (by decide +kernel)]; exact ⟨rfl, rfl⟩))
    (fun os started H enc _ => lifted os started H enc)

/-- ████ THE STATEMENT ████ -/
theorem proved : Rows.RadixMergesSaid := over
#print axioms proved
end Go.Proofs.Ytgpepagjkejimaa.radixMerges
