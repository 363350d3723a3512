/- The law CachePlays holds (its card: math/bits' table as the program's text lays it): for every input the Go function returns true and leaves its arguments alone. No further condition. -/
import Derived.Test.YtnmbkhckcjkopaaDoorR
import Derived.Test.YtnmbkhckcjkopaaDoorA
import Derived.Test.YtnmbkhckcjkopaaDoorT
import Derived.Test.YtnmbkhckcjkopaaDoorCards
import Derived.Test.YtnmbkhckcjkopaaDoorTie
import Derived.WalkKit
import Derived.ProofKit
import Derived.OpenShut
import Derived.Deep.DeepHandedRow
import Derived.Lib.LaidTab
set_option linter.all false
set_option maxRecDepth 4000
namespace Go.Sh

structure IsSum (l : Iv) (fr to s m e : Int) : Prop where
  s0 : 0 ≤ s
  s1 : s ≤ to - fr
  s2 : rowIn l fr s
  s3 : s = to - fr ∨ ¬ mem l (fr + s)
  e0 : 0 ≤ e
  e1 : e ≤ to - fr
  e2 : rowIn l (to - e) e
  e3 : e = to - fr ∨ ¬ mem l (to - e - 1)
  m0 : 0 ≤ m
  m1 : ∃ p, fr ≤ p ∧ p + m ≤ to ∧ rowIn l p m
  m2 : ∀ p n, fr ≤ p → p + n ≤ to → rowIn l p n → n ≤ m

section
variable {l : Iv} {fr md to s m e s' m' e' : Int}

theorem IsSum.uniq (h : IsSum l fr to s m e) (h' : IsSum l fr to s' m' e') : s = s' ∧ m = m' ∧ e = e' := by
  have := h.s0; have := h.s1; have := h'.s0; have := h'.s1; have := h.e0; have := h.e1; have := h'.e0; have := h'.e1
  refine ⟨?_, ?_, ?_⟩
  · rcases Int.lt_trichotomy s s' with g | g | g
    · rcases h.s3 with g2 | g2
      · omega
      · exact absurd (h'.s2 (fr + s) (by omega) (by omega)) g2
    · exact g
    · rcases h'.s3 with g2 | g2
      · omega
      · exact absurd (h.s2 (fr + s') (by omega) (by omega)) g2
  · obtain ⟨p, p1, p2, p3⟩ := h.m1
    obtain ⟨q, q1, q2, q3⟩ := h'.m1
    have := h'.m2 p m p1 p2 p3
    have := h.m2 q m' q1 q2 q3
    omega
  · rcases Int.lt_trichotomy e e' with g | g | g
    · rcases h.e3 with g2 | g2
      · omega
      · exact absurd (h'.e2 (to - e - 1) (by omega) (by omega)) g2
    · exact g
    · rcases h'.e3 with g2 | g2
      · omega
      · exact absurd (h.e2 (to - e' - 1) (by omega) (by omega)) g2

theorem IsSum.right (h : IsSum l fr to s m e) : (s = to - fr ∧ m = to - fr ∧ e = to - fr) ∨ (m < to - fr ∧ s ≤ m ∧ e ≤ m ∧ s + e < to - fr) := by
  have := h.s0; have := h.s1; have := h.e0; have := h.e1
  obtain ⟨p, p1, p2, p3⟩ := h.m1
  have hs := h.m2 fr s (by omega) (by omega) h.s2
  have he := h.m2 (to - e) e (by omega) (by omega) h.e2
  by_cases g : m = to - fr
  · left
    have : p = fr := by omega
    subst this
    refine ⟨?_, g, ?_⟩
    · rcases h.s3 with g2 | g2
      · exact g2
      · by_cases g3 : s = to - p
        · exact g3
        · exact absurd (p3 (p + s) (by omega) (by omega)) g2
    · rcases h.e3 with g2 | g2
      · exact g2
      · by_cases g3 : e = to - p
        · exact g3
        · exact absurd (p3 (to - e - 1) (by omega) (by omega)) g2
  · refine .inr ⟨by omega, hs, he, ?_⟩
    refine Classical.byContradiction fun g2 => ?_
    have := h.m2 fr (to - fr) (by omega) (by omega) fun x x1 x2 => by
      by_cases g3 : x < fr + s
      · exact h.s2 x x1 g3
      · exact h.e2 x (by omega) (by omega)
    omega

theorem IsSum.join (h : IsSum l fr md s m e) (h' : IsSum l md to s' m' e') :
    IsSum l fr to (if s = md - fr then s + s' else s) (max (max m m') (e + s')) (if s' = to - md then e + (to - md) else e') := by
  have := h.s0; have := h.s1; have := h'.s0; have := h'.s1; have := h.e0; have := h.e1; have := h'.e0; have := h'.e1; have := h.m0; have := h'.m0
  obtain ⟨p, p1, p2, p3⟩ := h.m1
  obtain ⟨q, q1, q2, q3⟩ := h'.m1
  refine ⟨?_, ?_, ?_, ?_, ?_, ?_, ?_, ?_, by omega, ?_, ?_⟩
  · split <;> omega
  · split <;> omega
  · split
    · intro x x1 x2
      by_cases g : x < fr + s
      · exact h.s2 x x1 g
      · exact h'.s2 x (by omega) (by omega)
    · exact h.s2
  · split
    · rcases h'.s3 with g | g
      · left; omega
      · right; intro g2; exact g (by rwa [show md + s' = fr + (s + s') by omega])
    · rcases h.s3 with g | g
      · omega
      · exact .inr g
  · split <;> omega
  · split <;> omega
  · split
    · intro x x1 x2
      by_cases g : x < md
      · exact h.e2 x (by omega) (by omega)
      · exact h'.s2 x (by omega) (by omega)
    · exact h'.e2
  · split
    · rcases h.e3 with g | g
      · left; omega
      · right; intro g2; exact g (by rwa [show md - e - 1 = to - (e + (to - md)) - 1 by omega])
    · rename_i g0
      rcases h'.e3 with g | g
      · exfalso
        rcases h'.s3 with g2 | g2
        · exact g0 g2
        · exact g2 (h'.e2 _ (by omega) (by omega))
      · exact .inr g
  · by_cases g1 : m' ≤ m
    · by_cases g2 : e + s' ≤ m
      · exact ⟨p, by omega, by omega, fun x x1 x2 => p3 x x1 (by omega)⟩
      · exact ⟨md - e, by omega, by omega, fun x x1 x2 => by
          by_cases g : x < md
          · exact h.e2 x (by omega) (by omega)
          · exact h'.s2 x (by omega) (by omega)⟩
    · by_cases g2 : e + s' ≤ m'
      · exact ⟨q, by omega, by omega, fun x x1 x2 => q3 x x1 (by omega)⟩
      · exact ⟨md - e, by omega, by omega, fun x x1 x2 => by
          by_cases g : x < md
          · exact h.e2 x (by omega) (by omega)
          · exact h'.s2 x (by omega) (by omega)⟩
  · intro x n x1 x2 x3
    by_cases g1 : x + n ≤ md
    · have := h.m2 x n x1 g1 x3; omega
    · by_cases g2 : md ≤ x
      · have := h'.m2 x n g2 x2 x3; omega
      · have a1 : md - x ≤ e := Classical.byContradiction fun g => by
          rcases h.e3 with g3 | g3
          · omega
          · exact g3 (x3 _ (by omega) (by omega))
        have a2 : x + n - md ≤ s' := Classical.byContradiction fun g => by
          rcases h'.s3 with g3 | g3
          · omega
          · exact g3 (x3 _ (by omega) (by omega))
        omega

theorem IsSum.nil (l : Iv) (fr : Int) : IsSum l fr fr 0 0 0 :=
  ⟨by omega, by omega, fun x h1 h2 => by omega, .inl (by omega), by omega, by omega, fun x h1 h2 => by omega, .inl (by omega), by omega, ⟨fr, by omega, by omega, fun x h1 h2 => by omega⟩, fun p n h1 h2 _ => by omega⟩

/-! ### What the code computes is one -/

theorem mem_withinL {l : Iv} {a b : Int} {x : Int} : mem (withinL l a b) x ↔ mem l x ∧ a ≤ x ∧ x < b := by
  induction l with
  | nil => exact ⟨fun h => absurd h (mem_nil x), fun h => absurd h.1 (mem_nil x)⟩
  | cons p r ih =>
    simp only [withinL]
    rw [mem_append, ih, mem_cons]
    have : mem (within1 p a b) x ↔ (p.1 ≤ x ∧ x < p.2) ∧ a ≤ x ∧ x < b := by
      unfold within1
      split
      · exact ⟨fun h => absurd h (mem_nil x), fun h => by omega⟩
      · rw [mem_cons]
        exact ⟨fun h => h.elim (fun h => by simp only at h; omega) fun h => absurd h (mem_nil x), fun h => .inl (by simp only; omega)⟩
    rw [this]
    constructor
    · rintro (⟨h1, h2⟩ | ⟨h1, h2⟩)
      · exact ⟨.inl h1, h2⟩
      · exact ⟨.inr h1, h2⟩
    · rintro ⟨h1 | h1, h2⟩
      · exact .inl ⟨h1, h2⟩
      · exact .inr ⟨h1, h2⟩

theorem Ok_withinL {l : Iv} (h : Ok l) {a b : Int} (hab : a < b) : Ok (withinL l a b) := by
  induction l with
  | nil => exact h
  | cons p r ih =>
    refine Ok_append.2 ⟨?_, ih h.tail, ?_⟩
    · unfold within1
      split
      · trivial
      · have := h.1; have := h.2.1; have := h.2.2.1
        exact ⟨by simp only; omega, by simp only; omega, by simp only; omega, fun q hq => (by cases hq), trivial⟩
    · intro q hq q' hq'
      have hp : q.2 ≤ p.2 := by
        unfold within1 at hq
        split at hq
        · cases hq
        · rw [List.mem_singleton] at hq; subst hq; simp only; omega
      have : p.2 < q'.1 := by
        have hr := h.2.2.2.1
        clear ih hq hp
        induction r with
        | nil => cases hq'
        | cons z r ih2 =>
          rcases List.mem_append.1 hq' with g | g
          · unfold within1 at g
            split at g
            · cases g
            · rw [List.mem_singleton] at g; subst g
              have := hr z List.mem_cons_self
              simp only; omega
          · exact ih2 ⟨h.1, h.2.1, h.2.2.1, fun q hq => hr q (List.mem_cons_of_mem _ hq), h.tail.tail⟩ g fun q hq => hr q (List.mem_cons_of_mem _ hq)
      omega

theorem Ok_one {W : Iv} (h : Ok W) {p q : Int × Int} (hp : p ∈ W) (hq : q ∈ W) {x : Int} (h1 : p.1 ≤ x) (h2 : x < p.2) (h3 : q.1 ≤ x) (h4 : x < q.2) : p = q := by
  obtain ⟨i, hi⟩ := List.getElem?_of_mem hp
  obtain ⟨j, hj⟩ := List.getElem?_of_mem hq
  rcases Nat.lt_trichotomy i j with g | g | g
  · have := h.lt g hi hj; omega
  · subst g; rw [hi] at hj; cases hj; rfl
  · have := h.lt g hj hi; omega

theorem sum_fold (fr to : Int) : ∀ (W : Iv) (a : Int × Int × Int),
    (((W.foldl (sumStep fr to) a).1 = a.1 ∧ ∀ p ∈ W, p.1 ≠ fr) ∨ ∃ p ∈ W, p.1 = fr ∧ (W.foldl (sumStep fr to) a).1 = p.2 - p.1) ∧
    (((W.foldl (sumStep fr to) a).2.1 = a.2.1 ∨ ∃ p ∈ W, (W.foldl (sumStep fr to) a).2.1 = p.2 - p.1) ∧ a.2.1 ≤ (W.foldl (sumStep fr to) a).2.1 ∧ ∀ p ∈ W, p.2 - p.1 ≤ (W.foldl (sumStep fr to) a).2.1) ∧
    (((W.foldl (sumStep fr to) a).2.2 = a.2.2 ∧ ∀ p ∈ W, p.2 ≠ to) ∨ ∃ p ∈ W, p.2 = to ∧ (W.foldl (sumStep fr to) a).2.2 = p.2 - p.1)
  | [], a => ⟨.inl ⟨rfl, fun p hp => (by cases hp)⟩, ⟨.inl rfl, Int.le_refl _, fun p hp => (by cases hp)⟩, .inl ⟨rfl, fun p hp => (by cases hp)⟩⟩
  | q :: r, a => by
    obtain ⟨h1, ⟨h2, h3, h4⟩, h5⟩ := sum_fold fr to r (sumStep fr to a q)
    simp only [List.foldl_cons]
    generalize r.foldl (sumStep fr to) (sumStep fr to a q) = z at *
    have e1 : (sumStep fr to a q).1 = if q.1 = fr then q.2 - q.1 else a.1 := rfl
    have e2 : (sumStep fr to a q).2.1 = max a.2.1 (q.2 - q.1) := rfl
    have e3 : (sumStep fr to a q).2.2 = if q.2 = to then q.2 - q.1 else a.2.2 := rfl
    rw [e1] at h1; rw [e2] at h2 h3; rw [e3] at h5
    refine ⟨?_, ⟨?_, by omega, ?_⟩, ?_⟩
    · rcases h1 with ⟨g1, g2⟩ | ⟨p, hp, g1, g2⟩
      · split at g1
        · exact .inr ⟨q, List.mem_cons_self, by assumption, g1⟩
        · refine .inl ⟨g1, fun p hp => ?_⟩
          rcases List.mem_cons.1 hp with rfl | hp
          · assumption
          · exact g2 p hp
      · exact .inr ⟨p, List.mem_cons_of_mem _ hp, g1, g2⟩
    · rcases h2 with g | ⟨p, hp, g⟩
      · by_cases g2 : q.2 - q.1 ≤ a.2.1
        · left; omega
        · right; exact ⟨q, List.mem_cons_self, by omega⟩
      · exact .inr ⟨p, List.mem_cons_of_mem _ hp, g⟩
    · intro p hp
      rcases List.mem_cons.1 hp with rfl | hp
      · omega
      · exact h4 p hp
    · rcases h5 with ⟨g1, g2⟩ | ⟨p, hp, g1, g2⟩
      · split at g1
        · exact .inr ⟨q, List.mem_cons_self, by assumption, g1⟩
        · refine .inl ⟨g1, fun p hp => ?_⟩
          rcases List.mem_cons.1 hp with rfl | hp
          · assumption
          · exact g2 p hp
      · exact .inr ⟨p, List.mem_cons_of_mem _ hp, g1, g2⟩

theorem isSum_sumOf {l : Iv} (h : Ok l) {fr to : Int} (hft : fr < to) : IsSum l fr to (sumOf l fr to).1 (sumOf l fr to).2.1 (sumOf l fr to).2.2 := by
  have hW := Ok_withinL h hft
  have hin := withinL_in h hft
  have hm : ∀ x, mem (withinL l fr to) x ↔ mem l x ∧ fr ≤ x ∧ x < to := fun x => mem_withinL
  obtain ⟨h1, ⟨h2, h3, h4⟩, h5⟩ := sum_fold fr to (withinL l fr to) (0, 0, 0)
  unfold sumOf
  generalize (withinL l fr to).foldl (sumStep fr to) (0, 0, 0) = z at *
  generalize withinL l fr to = W at *
  have hmem : ∀ p ∈ W, rowIn l p.1 (p.2 - p.1) := fun p hp x x1 x2 => ((hm x).1 ⟨p, hp, x1, by omega⟩).1
  have hend : ∀ p ∈ W, p.2 < to → ¬ mem l p.2 := fun p hp hlt hh => by
    have := hin p hp
    obtain ⟨q, hq, q1, q2⟩ := mem_run hW (a := p.1) (b := p.2 + 1) (by omega) fun x x1 x2 => (hm x).2 ⟨by
      by_cases g : x = p.2
      · subst g; exact hh
      · exact hmem p hp x x1 (by omega), by omega, by omega⟩
    have := Ok_one hW hp hq (x := p.1) (by omega) (by omega) (by omega) (by omega)
    subst this; omega
  have hstart : ∀ p ∈ W, fr < p.1 → ¬ mem l (p.1 - 1) := fun p hp hlt hh => by
    have := hin p hp
    obtain ⟨q, hq, q1, q2⟩ := mem_run hW (a := p.1 - 1) (b := p.2) (by omega) fun x x1 x2 => (hm x).2 ⟨by
      by_cases g : x = p.1 - 1
      · subst g; exact hh
      · exact hmem p hp x (by omega) (by omega), by omega, by omega⟩
    have := Ok_one hW hp hq (x := p.1) (by omega) (by omega) (by omega) (by omega)
    subst this; omega
  have hs : (0 ≤ z.1 ∧ z.1 ≤ to - fr ∧ rowIn l fr z.1 ∧ (z.1 = to - fr ∨ ¬ mem l (fr + z.1))) := by
    rcases h1 with ⟨g1, g2⟩ | ⟨p, hp, g1, g2⟩
    · have g1 : z.1 = 0 := g1
      rw [g1]
      refine ⟨by omega, by omega, fun x x1 x2 => by omega, .inr fun hh => ?_⟩
      obtain ⟨q, hq, q1, q2⟩ := (hm fr).2 ⟨by rwa [Int.add_zero] at hh, by omega, hft⟩
      exact g2 q hq (by have := hin q hq; omega)
    · have := hin p hp
      rw [g2]
      refine ⟨by omega, by omega, g1 ▸ hmem p hp, ?_⟩
      by_cases g : p.2 = to
      · left; omega
      · right
        rw [show fr + (p.2 - p.1) = p.2 by omega]
        exact hend p hp (by omega)
  have he : (0 ≤ z.2.2 ∧ z.2.2 ≤ to - fr ∧ rowIn l (to - z.2.2) z.2.2 ∧ (z.2.2 = to - fr ∨ ¬ mem l (to - z.2.2 - 1))) := by
    rcases h5 with ⟨g1, g2⟩ | ⟨p, hp, g1, g2⟩
    · have g1 : z.2.2 = 0 := g1
      rw [g1]
      refine ⟨by omega, by omega, fun x x1 x2 => by omega, .inr fun hh => ?_⟩
      obtain ⟨q, hq, q1, q2⟩ := (hm (to - 1)).2 ⟨by rwa [Int.sub_zero] at hh, by omega, by omega⟩
      exact g2 q hq (by have := hin q hq; omega)
    · have := hin p hp
      rw [g2]
      refine ⟨by omega, by omega, by rw [show to - (p.2 - p.1) = p.1 by omega]; exact hmem p hp, ?_⟩
      by_cases g : p.1 = fr
      · left; omega
      · right
        rw [show to - (p.2 - p.1) - 1 = p.1 - 1 by omega]
        exact hstart p hp (by omega)
  refine ⟨hs.1, hs.2.1, hs.2.2.1, hs.2.2.2, he.1, he.2.1, he.2.2.1, he.2.2.2, h3, ?_, ?_⟩
  · rcases h2 with g | ⟨p, hp, g⟩
    · have g : z.2.1 = 0 := g
      rw [g]
      exact ⟨fr, by omega, by omega, fun x x1 x2 => by omega⟩
    · have := hin p hp
      rw [g]
      exact ⟨p.1, by omega, by omega, hmem p hp⟩
  · intro p n p1 p2 p3
    by_cases g : n ≤ 0
    · have : (0 : Int) ≤ z.2.1 := h3
      omega
    · obtain ⟨q, hq, q1, q2⟩ := mem_run hW (a := p) (b := p + n) (by omega) fun x x1 x2 => (hm x).2 ⟨p3 x x1 x2, by omega, by omega⟩
      have := h4 q hq
      omega

end
end Go.Sh

set_option linter.all false
set_option maxRecDepth 4000
set_option maxHeartbeats 1000000
namespace Go.Sh

/-- A window of truths in a block. -/
def Win (vs : List Value) (o : Nat) (u : Int → Bool) : Prop := o + 512 ≤ vs.length ∧ ∀ k : Int, 0 ≤ k → k < 512 → vs[o + k.toNat]? = some (.bool (u k))

section
variable {E : Env} {w : World} {Z : List Pr} {b t o : Nat} {vs : List Value} {u : Int → Bool}

theorem rright_spec {i n : Int} (hi : -9223372036854775808 ≤ i) (hi2 : i < 9223372036854775808) {K : Bool → World → Prop}
    (hk1 : 0 ≤ i → 0 ≤ n → i + n ≤ 512 → K true w) (hk0 : ¬ (0 ≤ i ∧ 0 ≤ n ∧ i + n ≤ 512) → K false w) : F.mallowref6_Right E i n K w := by
  unfold F.mallowref6_Right
  refine CND_dec (fun h1 => CND_dec (fun h2 => CND_dec (fun h3 => ?_) fun h3 => hk0 (by omega)) fun h2 => hk0 (by omega)) fun h1 => hk0 (by omega)
  rw [i64_id (by omega) (by omega)]
  by_cases g : n ≤ 512 - i
  · rw [decide_eq_true g]; exact hk1 h1 h2 (by omega)
  · rw [decide_eq_false g]; exact hk0 (by omega)

theorem rput_spec (H : Sat (Cells b t vs :: Z) w) (hl : o + 512 ≤ vs.length) {i n : Int} (h0 : 0 ≤ i) (h1 : 0 ≤ n) (h2 : i + n ≤ 512) (x : Bool) {K : Int → World → Prop}
    (hK : ∀ w' vs', vs'.length = vs.length → (∀ j, vs'[j]? = if o + i.toNat ≤ j ∧ j < o + (i + n).toNat then some (.bool x) else vs[j]?) → Sat (Cells b t vs' :: Z) w' → K 0 w') :
    F.mallowref6_Row_Put E (some ⟨b, o, none⟩) i n x K w := by
  unfold F.mallowref6_Row_Put
  refine rright_spec (by omega) (by omega) (fun _ _ _ => CND_f rfl ?_) fun h => absurd ⟨h0, h1, h2⟩ h
  simp only [NC_some, Nat.mul_one]
  rw [i64_id (n := i + n) (by omega) (by omega)]
  refine LOOP_intro (fun st w' => i ≤ st.1 ∧ st.1 ≤ i + n ∧ ∃ vs', vs'.length = vs.length ∧ (∀ j, vs'[j]? = if o + i.toNat ≤ j ∧ j < o + st.1.toNat then some (.bool x) else vs[j]?) ∧ Sat (Cells b t vs' :: Z) w') (fun st _ => (i + n - st.1).toNat)
    ⟨Int.le_refl _, by show i ≤ i + n; omega, vs, rfl, fun j => by dsimp only; rw [if_neg (by omega)], H⟩ ?_
  rintro ⟨k, v⟩ _ w4 ⟨k0, k1, vs', hl', hv, H4⟩
  simp only at k0 k1 hv ⊢
  refine CND_dec (fun hlt => ⟨⟨by omega, by omega⟩, ?_⟩) fun hge => ?_
  · rw [i64_id (n := k + 1) (by omega) (by omega)]
    refine st_cell H4 rfl (by omega) fun w7 H7 => ⟨⟨by omega, by omega, _, by simpa using hl', fun j => ?_, H7⟩, by omega⟩
    rw [List.getElem?_set, hv]
    by_cases e : o + k.toNat = j
    · rw [if_pos e, if_pos (by omega), if_pos (by omega)]
    · rw [if_neg e]
      by_cases g : o + i.toNat ≤ j ∧ j < o + k.toNat
      · rw [if_pos g, if_pos (by omega)]
      · rw [if_neg g, if_neg (by omega)]
  · have e : k = i + n := by omega
    subst e
    exact hK _ _ hl' hv H4

theorem rcount_spec (H : Sat (Cells b t vs :: Z) w) (hu : Win vs o u) {K : Int → World → Prop} (hK : K (cu u 512) w) : F.mallowref6_Row_Count E (some ⟨b, o, none⟩) 0 512 K w := by
  unfold F.mallowref6_Row_Count
  refine rright_spec (by omega) (by omega) (fun _ _ _ => CND_f rfl ?_) fun h => absurd ⟨by omega, by omega, by omega⟩ h
  simp only [NC_some, Nat.mul_one]
  rw [i64_id (n := 0 + 512) (by omega) (by omega)]
  refine LOOP_intro (fun st w' => ∃ k : Nat, st.2.1 = (k : Int) ∧ k ≤ 512 ∧ st.1 = cu u k ∧ w' = w) (fun st _ => (512 - st.2.1).toNat) ⟨0, rfl, by decide, rfl, rfl⟩ ?_
  rintro ⟨c, i, v⟩ _ w4 ⟨k, hk, hk2, hc, rfl⟩
  simp only at hk hc ⊢
  subst hk; subst hc
  have hb := cu_bnd u k
  refine CND_dec (fun hlt => ?_) fun hge => ?_
  · have hg := hu.2 k (by omega) (by omega)
    refine ⟨⟨by omega, by omega⟩, u k, H.cell hg, ?_⟩
    rw [i64_id (n := cu u k + 1) (by omega) (by omega), i64_id (n := (k : Int) + 1) (by omega) (by omega)]
    refine CND_intro (fun e => ⟨⟨k + 1, by omega, by omega, ?_, by trivial⟩, by omega⟩) fun e => ⟨⟨k + 1, by omega, by omega, ?_, by trivial⟩, by omega⟩
    · simp [cu, e]
    · simp [cu, e]
  · have : k = 512 := by omega
    subst this
    exact hK

theorem rlast_spec (H : Sat (Cells b t vs :: Z) w) (hu : Win vs o u) {n : Int} (hn0 : -9223372036854775808 ≤ n) (hn : n < 9223372036854775808) {K : Int → Int → World → Prop}
    (hk0 : n < 1 ∨ (∀ k, 0 ≤ k → k < 512 → u k = true) → K 0 0 w)
    (hk1 : 1 ≤ n → ∀ e i, 0 ≤ i → i ≤ e → e < 512 → (∀ k, e < k → k < 512 → u k = true) → (∀ k, i ≤ k → k ≤ e → u k = false) → e - i + 1 ≤ n → (e - i + 1 = n ∨ i = 0 ∨ u (i - 1) = true) → K i (e - i + 1) w) :
    F.mallowref6_Row_Last E (some ⟨b, o, none⟩) n 512 K w := by
  unfold F.mallowref6_Row_Last
  simp only [NC_some, Nat.mul_one]
  refine JOIN_in (CND_f (by decide) fun j => ?_)
  refine JOIN_in (CND_f (by decide) fun j => CND_dec (fun h => hk0 (.inl h)) fun h1 => ?_)
  rw [i64_id (n := 512 - 1) (by omega) (by omega)]
  refine JOIN_intro (fun st w' => w' = w ∧ -1 ≤ st.1 ∧ st.1 < 512 ∧ (∀ k, st.1 < k → k < 512 → u k = true) ∧ (0 ≤ st.1 → u st.1 = false)) ?_ ?_
  · refine LOOP_intro (fun st w' => w' = w ∧ -1 ≤ st.1 ∧ st.1 < 512 ∧ (∀ k, st.1 < k → k < 512 → u k = true)) (fun st _ => (st.1 + 1).toNat) ⟨rfl, by decide, by decide, fun k h1 h2 => by simp only at h1; omega⟩ ?_
    rintro ⟨e, v⟩ _ w4 ⟨rfl, e0, e1, he⟩
    simp only at e0 e1 he ⊢
    refine CND_dec (fun hge => ⟨⟨by omega, by omega⟩, u e, H.cell (hu.2 e hge e1), CND_intro (fun g => ?_) fun g => ⟨by trivial, e0, e1, he, fun _ => g⟩⟩) fun hlt => ⟨by trivial, e0, e1, he, fun h => absurd h hlt⟩
    rw [i64_id (n := e - 1) (by omega) (by omega)]
    refine ⟨⟨by trivial, by omega, by omega, fun k h1 h2 => ?_⟩, by omega⟩
    by_cases e2 : k = e
    · rw [e2]; exact g
    · exact he k (by omega) h2
  · rintro ⟨e, v⟩ _ w4 ⟨rfl, e0, e1, he, hf⟩
    simp only at e0 e1 he hf ⊢
    refine CND_dec (fun hlt => hk0 (.inr fun k h1 h2 => he k (by omega) h2)) fun hge => ?_
    refine LOOP_intro (fun st w' => w' = w4 ∧ 0 ≤ st.1 ∧ st.1 ≤ e ∧ (∀ k, st.1 ≤ k → k ≤ e → u k = false) ∧ e - st.1 + 1 ≤ n) (fun st _ => st.1.toNat) ⟨rfl, by show 0 ≤ e; omega, Int.le_refl _, fun k h1 h2 => by
      have : k = e := by simp only at h1; omega
      rw [this]; exact hf (by omega), by show e - e + 1 ≤ n; omega⟩ ?_
    rintro ⟨i, v⟩ _ w5 ⟨rfl, i0, i1, hi, hle⟩
    simp only at i0 i1 hi hle ⊢
    rw [i64_id (n := e - i) (by omega) (by omega), i64_id (n := e - i + 1) (by omega) (by omega), i64_id (n := i - 1) (by omega) (by omega)]
    refine CND_dec (fun hpos => ⟨⟨by omega, by omega⟩, u (i - 1), H.cell (hu.2 (i - 1) (by omega) (by omega)), CND_intro (fun g => CND_dec (fun hlt => ?_) fun hge2 => LET_intro fun x hx => ?_) fun g => LET_intro fun x hx => ?_⟩) fun hz => LET_intro fun x hx => ?_
    · have g : u (i - 1) = false := by simpa using g
      refine ⟨⟨by trivial, by omega, by omega, fun k h1 h2 => ?_, by omega⟩, by omega⟩
      by_cases e2 : k = i - 1
      · rw [e2]; exact g
      · exact hi k (by omega) h2
    · subst hx; exact hk1 (by omega) e i i0 i1 e1 he hi hle (.inl (by omega))
    · subst hx
      have g : u (i - 1) = true := by simpa using g
      exact hk1 (by omega) e i i0 i1 e1 he hi hle (.inr (.inr g))
    · subst hx; exact hk1 (by omega) e i i0 i1 e1 he hi hle (.inr (.inl (by omega)))

end
end Go.Sh

set_option linter.all false
set_option maxRecDepth 4000
set_option maxHeartbeats 1000000
namespace Go.Sh

def sum3 (x : Int × Int × Int) : List Value := [.int .i64 x.1, .int .i64 x.2.1, .int .i64 x.2.2]
def sums (L : List (Int × Int × Int)) : List Value := L.flatMap sum3

theorem sums_len (L : List (Int × Int × Int)) : (sums L).length = L.length * 3 := by
  induction L with
  | nil => rfl
  | cons x r ih =>
    have : sums (x :: r) = sum3 x ++ sums r := rfl
    rw [this, List.length_append, ih, List.length_cons]
    have : (sum3 x).length = 3 := rfl
    omega

theorem sums_get : ∀ (L : List (Int × Int × Int)) {k : Nat} {x : Int × Int × Int}, L[k]? = some x → ∀ j, j < 3 → (sums L)[k * 3 + j]? = (sum3 x)[j]?
  | y :: r, 0, x, h, j, hj => by
    have h : y = x := Option.some.inj h
    subst h
    have : sums (y :: r) = sum3 y ++ sums r := rfl
    rw [this, List.getElem?_append_left (by simp only [sum3, List.length_cons, List.length_nil]; omega), Nat.zero_mul, Nat.zero_add]
  | y :: r, k + 1, x, h, j, hj => by
    have : sums (y :: r) = sum3 y ++ sums r := rfl
    rw [this, List.getElem?_append_right (by simp only [sum3, List.length_cons, List.length_nil]; omega)]
    have e : (k + 1) * 3 + j - (sum3 y).length = k * 3 + j := by simp only [sum3, List.length_cons, List.length_nil]; omega
    rw [e]
    exact sums_get r h j hj

theorem st_three {Z : List Pr} {w : World} {b t : Nat} {vs : List Value} {k : IntKind} {x y z : Int} (H : Sat (Cells b t vs :: Z) w) (hl : vs.length = 3) {K : World → Prop}
    (hK : ∀ w', Sat (Cells b t [.int k x, .int k y, .int k z] :: Z) w' → K w') : stCells (Addr.mk b 0 none) 0 [.int k x, .int k y, .int k z] w K :=
  st_all (news := [.int k x, .int k y, .int k z]) H hl.symm (by intro v hv; simp at hv; rcases hv with rfl | rfl | rfl <;> rfl) hK

/-- Summaries of rows one behind the other. -/
def Beside (l : Iv) (fr P : Int) (L : List (Int × Int × Int)) : Prop :=
  ∀ (k : Nat) x, L[k]? = some x → IsSum l (fr + k * P) (fr + k * P + P) x.1 x.2.1 x.2.2
end Go.Sh

set_option linter.all false
set_option maxRecDepth 4000
set_option maxHeartbeats 1000000
namespace Go.Sh

abbrev CL := List (Int × Nat)

def parts (L : CL) : List Value := L.flatMap fun c => [.int .u64 c.1, .pointer (some ⟨c.2, 0, none⟩)]

theorem parts_len (L : CL) : (parts L).length = L.length * 2 := by
  induction L with
  | nil => rfl
  | cons x r ih => show (parts r).length + 1 + 1 = _; rw [ih, List.length_cons]; omega
theorem parts_app (L M : CL) : parts (L ++ M) = parts L ++ parts M := by simp [parts]
theorem parts_get : ∀ (L : CL) {k : Nat} {x : Int × Nat}, L[k]? = some x → (parts L)[k * 2]? = some (.int .u64 x.1) ∧ (parts L)[k * 2 + 1]? = some (.pointer (some ⟨x.2, 0, none⟩))
  | y :: r, 0, x, h => by have h : y = x := Option.some.inj h; subst h; exact ⟨rfl, rfl⟩
  | y :: r, k + 1, x, h => by
    have := parts_get r h
    have e : parts (y :: r) = .int .u64 y.1 :: .pointer (some ⟨y.2, 0, none⟩) :: parts r := rfl
    rw [e, show (k + 1) * 2 = k * 2 + 1 + 1 by omega]
    exact this
theorem parts_one (L : CL) : ∀ v ∈ parts L, v.oneCell' = true := by
  intro v hv
  simp only [parts, List.mem_flatMap] at hv
  obtain ⟨c, _, hc⟩ := hv
  simp at hc
  rcases hc with rfl | rfl <;> rfl
theorem parts_take : ∀ (L : CL) (k : Nat), (parts L).take (k * 2) = parts (L.take k)
  | [], k => by simp [parts]
  | y :: r, 0 => by simp [parts]
  | y :: r, k + 1 => by
    have e : parts (y :: r) = .int .u64 y.1 :: .pointer (some ⟨y.2, 0, none⟩) :: parts r := rfl
    rw [e, show (k + 1) * 2 = k * 2 + 1 + 1 by omega, List.take_succ_cons, List.take_succ_cons, parts_take r k]
    rfl
theorem parts_drop : ∀ (L : CL) (k : Nat), (parts L).drop (k * 2) = parts (L.drop k)
  | [], k => by simp [parts]
  | y :: r, 0 => by simp
  | y :: r, k + 1 => by
    have e : parts (y :: r) = .int .u64 y.1 :: .pointer (some ⟨y.2, 0, none⟩) :: parts r := rfl
    rw [e, show (k + 1) * 2 = k * 2 + 1 + 1 by omega, List.drop_succ_cons, List.drop_succ_cons, parts_drop r k]
    rfl

/-- Where a chunk is, or would be. -/
def posC : CL → Int → Nat
  | [], _ => 0
  | c :: r, n => if c.1 < n then posC r n + 1 else 0

def SortedC (L : CL) : Prop := L.Pairwise fun a b => a.1 < b.1

theorem posC_le : ∀ (L : CL) (n : Int), posC L n ≤ L.length
  | [], _ => Nat.le_refl _
  | c :: r, n => by simp only [posC]; split; exact Nat.succ_le_succ (posC_le r n); exact Nat.zero_le _
theorem posC_before : ∀ {L : CL} {n : Int} {j : Nat} {c : Int × Nat}, L[j]? = some c → j < posC L n → c.1 < n
  | c :: r, n, 0, x, h, hj => by
    have h : c = x := Option.some.inj h
    subst h
    simp only [posC] at hj; split at hj
    · assumption
    · omega
  | c :: r, n, j + 1, x, h, hj => by
    simp only [posC] at hj; split at hj
    · exact posC_before (L := r) h (by omega)
    · omega
theorem posC_at : ∀ {L : CL} {n : Int} {c : Int × Nat}, L[posC L n]? = some c → n ≤ c.1
  | c :: r, n, x, h => by
    simp only [posC] at h; split at h
    · exact posC_at (L := r) h
    · have h : c = x := Option.some.inj h
      subst h; omega
theorem posC_after {L : CL} (hs : SortedC L) {n : Int} {j : Nat} {c : Int × Nat} (h : L[j]? = some c) (hj : posC L n ≤ j) : n ≤ c.1 := by
  have hl := (List.getElem?_eq_some_iff.1 h).1
  have hg := List.getElem?_eq_getElem (show posC L n < L.length by omega)
  have h1 := posC_at hg
  rcases Nat.lt_or_eq_of_le hj with h2 | h2
  · have := List.pairwise_iff_getElem.1 hs (posC L n) j (by omega) hl h2
    rw [(List.getElem?_eq_some_iff.1 h).2] at this
    omega
  · subst h2; exact posC_at h
theorem posC_has {L : CL} (hs : SortedC L) {n : Int} {c : Int × Nat} (hc : c ∈ L) (hn : c.1 = n) : L[posC L n]? = some c := by
  obtain ⟨j, hj⟩ := List.mem_iff_getElem?.1 hc
  rcases Nat.lt_or_ge j (posC L n) with h | h
  · have := posC_before hj h; omega
  · have hl := (List.getElem?_eq_some_iff.1 hj).1
    rcases Nat.lt_or_eq_of_le h with h2 | h2
    · have hg := List.getElem?_eq_getElem (show posC L n < L.length by omega)
      have := posC_at hg
      have h3 := List.pairwise_iff_getElem.1 hs (posC L n) j (by omega) hl h2
      rw [(List.getElem?_eq_some_iff.1 hj).2] at h3
      omega
    · rw [h2]; exact hj

/-- One chunk. -/
def ckP (E : Env) (U G : Int → Bool) (c : Int × Nat) : Pr := Cells c.2 E.t_mallowref8_Chunk (flags 512 (fun k => U (c.1 * 512 + k)) ++ flags 512 (fun k => G (c.1 * 512 + k)))

structure RInv (l : Nat → Iv) (L : CL) (U G : Int → Bool) : Prop where
  srt : SortedC L
  rng : ∀ c ∈ L, 0 ≤ c.1 ∧ c.1 < 67108864
  ok0 : Ok (l 0)
  ok1 : Ok (l 1)
  ok2 : Ok (l 2)
  l0 : ∀ p, mem (l 0) p ↔ ∃ c ∈ L, c.1 = p / 512
  l1 : ∀ p, mem (l 1) p ↔ mem (l 0) p ∧ U p = false
  l2 : ∀ p, mem (l 2) p ↔ mem (l 0) p ∧ G p = true

def rres (E : Env) (r : Nat) (s : SlV) (L : CL) (U G : Int → Bool) : List Pr := [Cells r E.t_mallowref9_Tree [.slice s.base s.len s.cap], Row E.t_mallowref9_Part 2 s (parts L), Many (ckP E U G) L]

def RTree (E : Env) (r : Nat) (l : Nat → Iv) : Pr := Ex fun x : SlV × CL × (Int → Bool) × (Int → Bool) => Where (RInv l x.2.1 x.2.2.1 x.2.2.2) (Star (rres E r x.1 x.2.1 x.2.2.1 x.2.2.2))

theorem Sat.rtree {E : Env} {r : Nat} {l : Nat → Iv} {Z : List Pr} {w : World} : Sat (RTree E r l :: Z) w ↔ ∃ s L U G, RInv l L U G ∧ Sat (rres E r s L U G ++ Z) w := by
  unfold RTree
  rw [Sat.ex]
  constructor
  · rintro ⟨x, h⟩; obtain ⟨h1, h2⟩ := Sat.where.1 h; exact ⟨_, _, _, _, h1, Sat.star.1 h2⟩
  · rintro ⟨s, L, U, G, h1, h2⟩; exact ⟨(s, L, U, G), Sat.where.2 ⟨h1, Sat.star.2 h2⟩⟩

theorem sorted_len {L : CL} (hs : SortedC L) (hr : ∀ c ∈ L, 0 ≤ c.1 ∧ c.1 < 67108864) : L.length ≤ 67108864 := by
  have key : ∀ (L : CL) (B : Int), SortedC L → (∀ c ∈ L, B ≤ c.1 ∧ c.1 < 67108864) → B ≤ 67108864 → (L.length : Int) ≤ 67108864 - B := by
    intro L
    induction L with
    | nil => intro B _ _ h; show (0 : Int) ≤ _; omega
    | cons x r ih =>
      intro B hs hr hB
      have h1 := hr x (by simp)
      have hp := List.pairwise_cons.1 hs
      have := ih (x.1 + 1) hp.2 (fun c hc => ⟨by have := hp.1 c hc; omega, (hr c (by simp [hc])).2⟩) (by omega)
      rw [List.length_cons]; omega
  have := key L 0 hs hr (by decide)
  omega

section
variable {E : Env} {w : World} {Z : List Pr} {r : Nat} {s : SlV} {L : CL} {U G : Int → Bool} {l : Nat → Iv}

theorem rres_len (H : Sat (rres E r s L U G ++ Z) w) : s.len = L.length := by
  have := (H.front 1 rfl).rowLen
  rw [parts_len] at this; omega

theorem rres_hdr (H : Sat (rres E r s L U G ++ Z) w) : w.cell? (Addr.mk r 0 none) = some (.slice s.base s.len s.cap) := H.cell0 rfl

/-- The two words of a chunk. -/
theorem rres_get (H : Sat (rres E r s L U G ++ Z) w) {k : Nat} {x : Int × Nat} (hk : L[k]? = some x) : ∃ a, s.base = some a ∧ k < s.len ∧ w.cell? (a.add (k * 2)) = some (.int .u64 x.1) ∧ w.cell? ((a.add (k * 2)).add 1) = some (.pointer (some ⟨x.2, 0, none⟩)) := by
  have h1 := H.front 1 rfl
  have hown := h1.own
  obtain ⟨g1, g2⟩ := parts_get L hk
  have hlen := rres_len H
  have hl := (List.getElem?_eq_some_iff.1 hk).1
  obtain ⟨b, hb⟩ := hown.base_of (by omega)
  refine ⟨_, hb, by omega, hown.cell hb g1, ?_⟩
  rw [add_add]; exact hown.cell hb g2

theorem rres_chunk (H : Sat (rres E r s L U G ++ Z) w) {k : Nat} {x : Int × Nat} (hk : L[k]? = some x) :
    Sat (ckP E U G x :: Many (ckP E U G) (L.eraseIdx k) :: Cells r E.t_mallowref9_Tree [.slice s.base s.len s.cap] :: Row E.t_mallowref9_Part 2 s (parts L) :: Z) w :=
  (H.front 2 rfl).manyGet hk

theorem ck_win0 (x : Int × Nat) : Win (flags 512 (fun k => U (x.1 * 512 + k)) ++ flags 512 (fun k => G (x.1 * 512 + k))) 0 fun k => U (x.1 * 512 + k) := by
  refine ⟨by simp [flags_len], fun k h0 h1 => ?_⟩
  rw [List.getElem?_append_left (by rw [flags_len]; omega)]
  exact flags_getI (n := 512) (u := fun k => U (x.1 * 512 + k)) h0 h1
theorem ck_win1 (x : Int × Nat) : Win (flags 512 (fun k => U (x.1 * 512 + k)) ++ flags 512 (fun k => G (x.1 * 512 + k))) 512 fun k => G (x.1 * 512 + k) := by
  refine ⟨by simp [flags_len], fun k h0 h1 => ?_⟩
  rw [List.getElem?_append_right (by rw [flags_len]; omega), flags_len, show 512 + k.toNat - 512 = 0 + k.toNat by omega]
  exact flags_getI (n := 512) (u := fun k => G (x.1 * 512 + k)) h0 h1

theorem rres_used (H : Sat (rres E r s L U G ++ Z) w) {k : Nat} {x : Int × Nat} (hk : L[k]? = some x) {i : Int} (h0 : 0 ≤ i) (h1 : i < 512) : w.cell? ((Addr.mk x.2 0 none).add i.toNat) = some (.bool (U (x.1 * 512 + i))) :=
  (rres_chunk H hk).cell ((ck_win0 x).2 i h0 h1)
theorem rres_gone (H : Sat (rres E r s L U G ++ Z) w) {k : Nat} {x : Int × Nat} (hk : L[k]? = some x) {i : Int} (h0 : 0 ≤ i) (h1 : i < 512) : w.cell? (((Addr.mk x.2 0 none).add 512).add i.toNat) = some (.bool (G (x.1 * 512 + i))) := by
  rw [add_eq, Nat.zero_add]
  exact (rres_chunk H hk).cell (o := 512) ((ck_win1 x).2 i h0 h1)

theorem rfind_spec (H : Sat (rres E r s L U G ++ Z) w) {n : Int} {K : Int → Bool → World → Prop}
    (hK : ∀ w' ok, (ok = true ↔ ∃ c, L[posC L n]? = some c ∧ c.1 = n) → Sat (rres E r s L U G ++ Z) w' → K (posC L n) ok w') : F.mallowref9_Tree_find E (some ⟨r, 0, none⟩) n K w := by
  unfold F.mallowref9_Tree_find
  simp only [NC_some]
  have hlen := rres_len H
  have h63 : L.length < 9223372036854775808 := by have := (H.front 1 rfl).own; have := this.cap; have := (H.front 1 rfl).own.top; omega
  refine JOIN_intro (fun st w' => w' = w ∧ st.1 = (posC L n : Nat)) ?_ ?_
  · refine LOOP_intro (fun st w' => w' = w ∧ ∃ k : Nat, st.1 = (k : Int) ∧ k ≤ L.length ∧ posC L n = posC (L.drop k) n + k) (fun st _ => (L.length - st.1).toNat) ⟨rfl, 0, rfl, Nat.zero_le _, rfl⟩ ?_
    rintro ⟨i, v⟩ _ w5 ⟨rfl, k, hk, hkl, hp⟩
    dsimp only at hk ⊢
    subst hk
    refine ⟨s, rres_hdr H, CND_dec (fun hlt => ⟨s, rres_hdr H, ?_⟩) fun hge => ⟨rfl, ?_⟩⟩
    · have hl : k < L.length := by omega
      have hg := List.getElem?_eq_getElem hl
      have hd := drop_get hg
      rw [hd] at hp
      obtain ⟨a, ha, _, c1, _⟩ := rres_get H hg
      generalize L[k] = x at hg c1 hp
      rw [ha]
      simp only [NC_some, Int.toNat_natCast]
      rw [i64_id (n := (k : Int) + 1) (by omega) (by omega)]
      refine ⟨⟨by omega, by omega⟩, _, c1, CND_dec (fun h => ⟨⟨by trivial, k + 1, by omega, by omega, ?_⟩, by omega⟩) fun h => ⟨by trivial, ?_⟩⟩
      · rw [hp]; simp only [posC]; rw [if_pos h]; omega
      · rw [hp]; simp only [posC]; rw [if_neg h]; omega
    · have : k = L.length := by omega
      subst this
      rw [hp, List.drop_length]; show _ = (((0 : Nat) + L.length : Nat) : Int); omega
  · rintro ⟨i, v⟩ _ w3 ⟨rfl, hi⟩
    dsimp only at hi ⊢
    subst hi
    have Hd := H.drew
    have hple := posC_le L n
    refine ⟨s, rres_hdr Hd, CND_dec (fun hlt => ⟨s, rres_hdr Hd, ?_⟩) fun hge => hK _ _ ?_ Hd⟩
    · have hg := List.getElem?_eq_getElem (show posC L n < L.length by omega)
      obtain ⟨a, ha, _, c1, _⟩ := rres_get Hd hg
      generalize L[posC L n] = x at hg c1
      rw [ha]
      simp only [NC_some, Int.toNat_natCast]
      refine ⟨⟨by omega, by omega⟩, _, c1, hK _ _ ?_ Hd⟩
      rw [beq_iff_eq]
      exact ⟨fun h => ⟨x, hg, h⟩, fun ⟨c, h1, h2⟩ => by rw [hg] at h1; cases h1; exact h2⟩
    · rw [List.getElem?_eq_none (by omega)]
      exact ⟨fun h => (by cases h), fun ⟨c, h1, _⟩ => (by cases h1)⟩

theorem rstate_spec (hI : RInv l L U G) (H : Sat (rres E r s L U G ++ Z) w) {p : Int} (hp : 0 ≤ p) (hp2 : p < 18446744073709551616) {K : Bool → Bool → Bool → World → Prop}
    (hK : ∀ w' r0 r1 r2, (r0 = true ↔ mem (l 0) p) → (r1 = true ↔ mem (l 1) p) → (r2 = true ↔ mem (l 2) p) → Sat (rres E r s L U G ++ Z) w' → K r0 r1 r2 w') : F.mallowref9_Tree_State E (some ⟨r, 0, none⟩) p K w := by
  unfold F.mallowref9_Tree_State
  rw [Int.tdiv_eq_ediv_of_nonneg hp, Int.tmod_eq_emod_of_nonneg hp, u64_id (n := p / 512) (by omega) (by omega)]
  refine ⟨by decide, rfind_spec H fun w3 ok hok H3 => CND_intro (fun e => ?_) fun e => ?_⟩
  · have hno : ¬ mem (l 0) p := fun hm => by
      obtain ⟨c, hc, hc2⟩ := (hI.l0 p).1 hm
      have : ok = true := hok.2 ⟨c, posC_has hI.srt hc hc2, hc2⟩
      rw [this] at e; cases e
    exact hK _ _ _ _ ⟨fun h => (by cases h), fun h => absurd h hno⟩ ⟨fun h => (by cases h), fun h => absurd ((hI.l1 p).1 h).1 hno⟩ ⟨fun h => (by cases h), fun h => absurd ((hI.l2 p).1 h).1 hno⟩ H3
  · have hok1 : ok = true := by simpa using e
    obtain ⟨c, hc, hc2⟩ := hok.1 hok1
    have hm : mem (l 0) p := (hI.l0 p).2 ⟨c, List.mem_of_getElem? hc, hc2⟩
    obtain ⟨a, ha, hlt, c1, c2⟩ := rres_get H3 hc
    have Hd := H3.drew
    have hU := rres_used Hd hc (i := p % 512) (by omega) (by omega)
    have hG := rres_gone Hd hc (i := p % 512) (by omega) (by omega)
    have e2 : c.1 * 512 + p % 512 = p := by omega
    rw [e2] at hU hG
    simp only [NC_some]
    refine ⟨s, rres_hdr H3, ?_⟩
    rw [ha]
    simp only [NC_some, Int.toNat_natCast, Nat.mul_one]
    refine ⟨⟨by omega, by omega⟩, _, c2, by decide, ?_⟩
    simp only [NC_some]
    refine ⟨⟨by omega, by omega⟩, _, hU, by decide, ⟨by omega, by omega⟩, _, hG, hK _ _ _ _ ⟨fun _ => hm, fun _ => rfl⟩ ?_ ?_ Hd⟩
    · rw [hI.l1 p]
      cases g : U p
      · simp [hm]
      · simp
    · rw [hI.l2 p]; simp [hm]

theorem rlies_spec (hI : RInv l L U G) (H : Sat (rres E r s L U G ++ Z) w) {x n : Int} (hx : 0 ≤ x) (hx2 : x < 18446744073709551616) (hn : 0 ≤ n) (hn2 : n < 18446744073709551616) {K : Bool → World → Prop}
    (hK : ∀ w' ok, (ok = true ↔ ¬ (n = 0 ∨ 34359738368 ≤ x ∨ 34359738368 - x < n ∨ cnt (l 0) x (x + n) ≠ n)) → Sat (rres E r s L U G ++ Z) w' → K ok w') : F.mallowref9_Tree_lies E (some ⟨r, 0, none⟩) x n K w := by
  unfold F.mallowref9_Tree_lies
  have h0 : ∀ {w'} (b : Bool), b = false → (n = 0 ∨ 34359738368 ≤ x ∨ 34359738368 - x < n ∨ cnt (l 0) x (x + n) ≠ n) → Sat (rres E r s L U G ++ Z) w' → K b w' := fun b hb h H' => hK _ _ ⟨fun e => (by rw [hb] at e; cases e), fun g => absurd h g⟩ H'
  refine JOIN_in (CND_eq (fun e j => CND_t rfl (h0 _ rfl (.inl e) H)) fun e1 => CND_dec (fun e j => CND_t rfl (h0 _ rfl (.inr (.inl e)) H)) fun e2 => ?_)
  rw [u64_id (n := 34359738368 - x) (by omega) (by omega)]
  refine fun j => CND_dec (fun e => h0 _ rfl (.inr (.inr (.inl e))) H) fun e3 => ⟨by decide, ?_⟩
  rw [Int.tdiv_eq_ediv_of_nonneg hx, u64_id (n := x / 512) (by omega) (by omega), u64_id (n := x + n) (by omega) (by omega), u64_id (n := x + n - 1) (by omega) (by omega), Int.tdiv_eq_ediv_of_nonneg (a := x + n - 1) (by omega), u64_id (n := (x + n - 1) / 512) (by omega) (by omega)]
  refine rfind_spec H fun w6 ok hok H6 => ⟨by decide, ?_⟩
  clear hok
  have hlen := rres_len H
  have hll := sorted_len hI.srt hI.rng
  have hple := posC_le L (x / 512)
  have hfull2 : (∀ p, x ≤ p → p < x + n → mem (l 0) p) → cnt (l 0) x (x + n) = n := fun h => by
    have := (cnt_full hI.ok0 (a := x) (b := x + n) (by omega)).2 h
    omega
  have hcin : ∀ c, x / 512 ≤ c → c ≤ (x + n - 1) / 512 → cnt (l 0) x (x + n) = n → c ∈ L.map (·.1) := fun c h1 h2 e => by
    obtain ⟨mm, mm1, mm2, mm3⟩ : ∃ m, x ≤ m ∧ m < x + n ∧ m / 512 = c := ⟨max x (c * 512), by omega, by omega, by omega⟩
    obtain ⟨y, hy, hy2⟩ := (hI.l0 mm).1 ((cnt_full hI.ok0 (a := x) (b := x + n) (by omega)).1 (by omega) mm mm1 mm2)
    exact List.mem_map.2 ⟨y, hy, by omega⟩
  simp only [NC_some]
  refine LOOP_intro (fun st w' => w' = w6 ∧ x / 512 ≤ st.2.1 ∧ st.2.1 ≤ (x + n - 1) / 512 + 1 ∧ (st.1 = (posC L (x / 512) : Nat) + (st.2.1 - x / 512)) ∧ st.1 ≤ L.length ∧ ∀ m, x / 512 ≤ m → m < st.2.1 → ∃ c, L[(posC L (x / 512) + (m - x / 512).toNat)]? = some c ∧ c.1 = m)
    (fun st _ => ((x + n - 1) / 512 + 1 - st.2.1).toNat) ⟨rfl, Int.le_refl _, by dsimp only; omega, by dsimp only; omega, by dsimp only; omega, fun m h1 h2 => by dsimp only at h2; omega⟩ ?_
  rintro ⟨at_, c, v⟩ _ w8 ⟨rfl, c0, c1, hat, hal, hall⟩
  dsimp only at c0 c1 hat hal hall ⊢
  refine ⟨by decide, CND_dec (fun hle => ?_) fun hgt => ?_⟩
  · have hcin := hcin c c0 hle
    refine JOIN_in ⟨s, rres_hdr H6, CND_dec (fun hge j => CND_t rfl (h0 _ rfl (.inr (.inr (.inr fun e => ?_))) H6)) fun hlt => ⟨s, rres_hdr H6, ?_⟩⟩
    · obtain ⟨y, hy, hy2⟩ := List.mem_map.1 (hcin e)
      obtain ⟨j, hj⟩ := List.mem_iff_getElem?.1 hy
      have hjl := (List.getElem?_eq_some_iff.1 hj).1
      by_cases g : j < posC L (x / 512)
      · have := posC_before hj g; omega
      · obtain ⟨z, hz, hz2⟩ := hall (x / 512 + (j - posC L (x / 512) : Nat)) (by omega) (by omega)
        rw [show posC L (x / 512) + (x / 512 + ((j - posC L (x / 512) : Nat) : Int) - x / 512).toNat = j by omega, hj] at hz
        cases hz
        omega
    · have hg := List.getElem?_eq_getElem (show at_.toNat < L.length by omega)
      obtain ⟨a, ha, hlt2, d1, _⟩ := rres_get H6 hg
      generalize L[at_.toNat] = y at hg d1
      rw [ha]
      simp only [NC_some]
      refine ⟨⟨by omega, by omega⟩, _, d1, fun j => CND_ne (fun hne => h0 _ rfl (.inr (.inr (.inr fun e => ?_))) H6) fun heq => ?_⟩
      · obtain ⟨y', hy, hy2⟩ := List.mem_map.1 (hcin e)
        have hc := posC_has hI.srt hy hy2
        have : at_.toNat = posC L c := by
          rcases Nat.lt_trichotomy at_.toNat (posC L c) with g | g | g
          · exfalso
            have g1 := posC_before hg g
            by_cases g2 : c = x / 512
            · subst g2; omega
            · obtain ⟨z, hz, hz2⟩ := hall (c - 1) (by omega) (by omega)
              have g3 : posC L (x / 512) + (c - 1 - x / 512).toNat < at_.toNat := by omega
              have := List.pairwise_iff_getElem.1 hI.srt _ _ (by omega) (by omega) g3
              rw [(List.getElem?_eq_some_iff.1 hz).2, (List.getElem?_eq_some_iff.1 hg).2] at this
              omega
          · exact g
          · exfalso
            by_cases g2 : c = x / 512
            · subst g2; omega
            · obtain ⟨z, hz, hz2⟩ := hall (c - 1) (by omega) (by omega)
              have := posC_after hI.srt hz (n := c) (by omega)
              omega
        rw [this, hc] at hg
        cases hg
        exact hne hy2
      · rw [i64_id (n := at_ + 1) (by omega) (by omega), u64_id (n := c + 1) (by omega) (by omega)]
        refine ⟨⟨by trivial, by omega, by omega, by omega, by omega, fun m h1 h2 => ?_⟩, by omega⟩
        by_cases e : m = c
        · subst e
          refine ⟨y, ?_, heq⟩
          rw [show posC L (x / 512) + (m - x / 512).toNat = at_.toNat by omega]; exact hg
        · exact hall m h1 (by omega)
  · refine hK _ _ ⟨fun _ => ?_, fun _ => rfl⟩ H6
    have : cnt (l 0) x (x + n) = n := by
      refine hfull2 fun m h1 h2 => (hI.l0 m).2 ?_
      obtain ⟨z, hz, hz2⟩ := hall (m / 512) (by omega) (by omega)
      exact ⟨z, List.mem_of_getElem? hz, hz2⟩
    omega

theorem rcnt_spec (hI : RInv l L U G) (H : Sat (rres E r s L U G ++ Z) w) {x n : Int} (hx : 0 ≤ x) (hn : 0 ≤ n) (hxn : x + n ≤ 34359738368) {K : Int → Int → World → Prop}
    (hK : ∀ w', Sat (rres E r s L U G ++ Z) w' → K (n - cnt (l 1) x (x + n)) (cnt (l 2) x (x + n)) w') : F.mallowref9_Tree_count E (some ⟨r, 0, none⟩) x n K w := by
  unfold F.mallowref9_Tree_count
  rw [u64_id (n := x + n) (by omega) (by omega)]
  have z0 : ∀ {m : Iv}, Ok m → cnt m x x = 0 := fun h => (cnt_none h (Int.le_refl _)).2 fun k h1 h2 => by omega
  refine LOOP_intro (fun st w' => x ≤ st.2.2.1 ∧ st.2.2.1 ≤ x + n ∧ st.1 = st.2.2.1 - x - cnt (l 1) x st.2.2.1 ∧ st.2.1 = cnt (l 2) x st.2.2.1 ∧ Sat (rres E r s L U G ++ Z) w') (fun st _ => (x + n - st.2.2.1).toNat)
    ⟨Int.le_refl _, by show x ≤ x + n; omega, by dsimp only; rw [z0 hI.ok1]; omega, by dsimp only; rw [z0 hI.ok2], H⟩ ?_
  rintro ⟨a, g, p, v⟩ _ w2 ⟨p0, p1, ha, hg, H2⟩
  dsimp only at p0 p1 ha hg ⊢
  subst ha; subst hg
  have b1 := cnt_nonneg (l 1) x p
  have b2 := cnt_nonneg (l 2) x p
  have b3 := cnt_split hI.ok1 (a := x) (b := p) (by omega)
  have b4 := cnt_split hI.ok2 (a := x) (b := p) (by omega)
  refine CND_dec (fun hlt => rstate_spec hI H2 (by omega) (by omega) fun w7 r0 r1 r2 _ hr1 hr2 H7 => ?_) fun hge => ?_
  · have s1 := cnt_succ hI.ok1 (a := x) (k := p) p0
    have s2 := cnt_succ hI.ok2 (a := x) (k := p) p0
    rw [u64_id (n := p + 1) (by omega) (by omega), u64_id (n := cnt (l 2) x p + 1) (by omega) (by omega), u64_id (n := p - x - cnt (l 1) x p + 1) (by omega) (by omega)]
    refine JOIN_in (CND_intro (fun e j => CND_intro (fun e2 => ?_) fun e2 => ?_) fun e j => CND_intro (fun e2 => ?_) fun e2 => ?_)
    all_goals dsimp only
    · have h1 := s1.2 fun h => by rw [hr1.2 h] at e; cases e
      have h2 := s2.1 (hr2.1 e2)
      exact ⟨⟨by omega, by omega, by omega, by omega, H7⟩, by omega⟩
    · have h1 := s1.2 fun h => by rw [hr1.2 h] at e; cases e
      have h2 := s2.2 fun h => by rw [hr2.2 h] at e2; cases e2
      exact ⟨⟨by omega, by omega, by omega, by omega, H7⟩, by omega⟩
    · have h1 := s1.1 (hr1.1 (by simpa using e))
      have h2 := s2.1 (hr2.1 e2)
      exact ⟨⟨by omega, by omega, by omega, by omega, H7⟩, by omega⟩
    · have h1 := s1.1 (hr1.1 (by simpa using e))
      have h2 := s2.2 fun h => by rw [hr2.2 h] at e2; cases e2
      exact ⟨⟨by omega, by omega, by omega, by omega, H7⟩, by omega⟩
  · have : p = x + n := by omega
    subst this
    rw [show x + n - x - cnt (l 1) x (x + n) = n - cnt (l 1) x (x + n) by omega]
    exact hK _ H2

/-- A page of a chunk is set. -/
theorem ck_set {x : Int × Nat} {U' G' : Int → Bool} {i : Int} (h0 : 0 ≤ i) (h1 : i < 512) (a g : Bool) :
    ((flags 512 (fun k => U (x.1 * 512 + k)) ++ flags 512 (fun k => G (x.1 * 512 + k))).set (0 + i.toNat) (.bool a)).set (512 + i.toNat) (.bool g) =
      flags 512 (fun k => if x.1 * 512 + k = x.1 * 512 + i then a else U (x.1 * 512 + k)) ++ flags 512 (fun k => if x.1 * 512 + k = x.1 * 512 + i then g else G (x.1 * 512 + k)) := by
  rw [List.set_append_left _ _ (by rw [flags_len]; omega), List.set_append_right _ _ (by simp only [List.length_set, flags_len]; omega)]
  rw [show 512 + i.toNat - ((flags 512 fun k => U (x.1 * 512 + k)).set (0 + i.toNat) (.bool a)).length = 0 + i.toNat by simp only [List.length_set, flags_len]; omega]
  rw [flags_set h0, flags_set h0]
  have e : ∀ (f : Int → Bool) (v : Bool), (flags 512 fun j => if j = i then v else f j) = flags 512 fun k => if x.1 * 512 + k = x.1 * 512 + i then v else f k := fun f v => flags_congr fun k _ _ => by
    by_cases e : k = i
    · rw [if_pos e, if_pos (by omega)]
    · rw [if_neg e, if_neg (by omega)]
  rw [e, e]

theorem rput9_spec (hI : RInv l L U G) (H : Sat (rres E r s L U G ++ Z) w) {x n : Int} (hx : 0 ≤ x) (hn : 0 ≤ n) (hxn : x + n ≤ 34359738368) (hin : ∀ p, x ≤ p → p < x + n → mem (l 0) p) (a g : Bool) {K : World → Prop}
    (hK : ∀ w', Sat (rres E r s L (fun p => if x ≤ p ∧ p < x + n then a else U p) (fun p => if x ≤ p ∧ p < x + n then g else G p) ++ Z) w' → K w') : F.mallowref9_Tree_put E (some ⟨r, 0, none⟩) x n a g K w := by
  unfold F.mallowref9_Tree_put
  rw [u64_id (n := x + n) (by omega) (by omega)]
  refine LOOP_intro (fun st w' => x ≤ st.1 ∧ st.1 ≤ x + n ∧ Sat (rres E r s L (fun p => if x ≤ p ∧ p < st.1 then a else U p) (fun p => if x ≤ p ∧ p < st.1 then g else G p) ++ Z) w') (fun st _ => (x + n - st.1).toNat) ⟨Int.le_refl _, by show x ≤ x + n; omega, ?_⟩ ?_
  · have e : ∀ (f : Int → Bool) (v : Bool), (fun p => if x ≤ p ∧ p < x then v else f p) = f := fun f v => by funext p; rw [if_neg (by omega)]
    dsimp only; rw [e, e]; exact H
  rintro ⟨p, v⟩ _ w2 ⟨p0, p1, H2⟩
  dsimp only at p0 p1 H2 ⊢
  refine CND_dec (fun hlt => ⟨by decide, ?_⟩) fun hge => ?_
  · rw [Int.tdiv_eq_ediv_of_nonneg (by omega), Int.tmod_eq_emod_of_nonneg (by omega), u64_id (n := p / 512) (by omega) (by omega), u64_id (n := p + 1) (by omega) (by omega)]
    refine rfind_spec H2 fun w6 ok hok H6 => ?_
    obtain ⟨c, hcm, hc2⟩ := (hI.l0 p).1 (hin p p0 hlt)
    have hc := posC_has hI.srt hcm hc2
    obtain ⟨aa, ha, hl1, c1, c2⟩ := rres_get H6 hc
    simp only [NC_some]
    refine ⟨s, rres_hdr H6, ?_⟩
    rw [ha]
    simp only [NC_some, Int.toNat_natCast, Nat.mul_one]
    refine ⟨⟨by omega, by omega⟩, _, c2, by decide, ?_⟩
    simp only [NC_some]
    refine ⟨⟨by omega, by omega⟩, ?_⟩
    have hlen : ∀ (A B : Int → Bool), (flags 512 A ++ flags 512 B).length = 1024 := fun A B => by rw [List.length_append, flags_len, flags_len]
    refine st_cell (rres_chunk H6 hc) rfl (by rw [hlen]; omega) fun w12 H12 => ?_
    have hown := (H12.front 3 rfl).own
    refine ⟨s, (H12.front 2 rfl).cell0 rfl, ?_⟩
    rw [ha]
    simp only [NC_some]
    refine ⟨⟨by omega, by omega⟩, some ⟨c.2, 0, none⟩, ?_, by decide, ?_⟩
    · rw [add_add]; exact hown.cell ha (parts_get L hc).2
    simp only [NC_some]
    refine ⟨⟨by omega, by omega⟩, ?_⟩
    rw [add_eq c.2 0 512, Nat.zero_add]
    refine st_cell H12 (o := 512) rfl (by rw [List.length_set, hlen]; omega) fun w18 H18 => ⟨⟨by omega, by omega, ?_⟩, by omega⟩
    have e18 := ck_set (x := c) (U := fun q => if x ≤ q ∧ q < p then a else U q) (G := fun q => if x ≤ q ∧ q < p then g else G q) (U' := U) (G' := G) (i := p % 512) (by omega) (by omega) a g
    have e2 : c.1 * 512 + p % 512 = p := by omega
    rw [e2] at e18
    rw [e18] at H18
    have eqf : ∀ (f : Int → Bool) (v : Bool), (fun q => if q = p then v else if x ≤ q ∧ q < p then v else f q) = fun q => if x ≤ q ∧ q < p + 1 then v else f q := fun f v => by
      funext q
      by_cases e : q = p
      · rw [if_pos e, if_pos (by omega)]
      · rw [if_neg e]
        by_cases e3 : x ≤ q ∧ q < p
        · rw [if_pos e3, if_pos (by omega)]
        · rw [if_neg e3, if_neg (by omega)]
    have hnew : Sat (ckP E (fun q => if x ≤ q ∧ q < p + 1 then a else U q) (fun q => if x ≤ q ∧ q < p + 1 then g else G q) c ::
        Many (ckP E (fun q => if x ≤ q ∧ q < p + 1 then a else U q) (fun q => if x ≤ q ∧ q < p + 1 then g else G q)) (L.eraseIdx (posC L (p / 512))) :: Cells r E.t_mallowref9_Tree [.slice s.base s.len s.cap] :: Row E.t_mallowref9_Part 2 s (parts L) :: Z) w18 := by
      have em : Many (ckP E (fun q => if x ≤ q ∧ q < p + 1 then a else U q) (fun q => if x ≤ q ∧ q < p + 1 then g else G q)) (L.eraseIdx (posC L (p / 512))) = Many (ckP E (fun q => if x ≤ q ∧ q < p then a else U q) (fun q => if x ≤ q ∧ q < p then g else G q)) (L.eraseIdx (posC L (p / 512))) := by
        refine Many.congr fun y hy => ?_
        obtain ⟨j, hj⟩ := List.mem_iff_getElem?.1 hy
        have hne : y.1 ≠ p / 512 := by
          intro e
          rw [List.getElem?_eraseIdx] at hj
          have hpos := posC_has hI.srt (c := y) (n := p / 512) (by split at hj <;> exact List.mem_of_getElem? hj) e
          split at hj
          · rename_i hjl
            have := posC_before hj hjl
            omega
          · rename_i hjl
            have h2 := (List.getElem?_eq_some_iff.1 hj)
            obtain ⟨h3, h4⟩ := h2
            have := List.pairwise_iff_getElem.1 hI.srt (posC L (p / 512)) (j + 1) (by omega) h3 (by omega)
            rw [h4, (List.getElem?_eq_some_iff.1 hpos).2] at this
            omega
        unfold ckP
        congr 2 <;> refine flags_congr fun k k0 k1 => ?_ <;> dsimp only
        · have : ¬ (y.1 * 512 + k = p) := by omega
          by_cases e3 : x ≤ y.1 * 512 + k ∧ y.1 * 512 + k < p
          · rw [if_pos e3, if_pos (by omega)]
          · rw [if_neg e3, if_neg (by omega)]
        · have : ¬ (y.1 * 512 + k = p) := by omega
          by_cases e3 : x ≤ y.1 * 512 + k ∧ y.1 * 512 + k < p
          · rw [if_pos e3, if_pos (by omega)]
          · rw [if_neg e3, if_neg (by omega)]
      rw [em]
      unfold ckP
      have f1 : (fun k => if x ≤ c.1 * 512 + k ∧ c.1 * 512 + k < p + 1 then a else U (c.1 * 512 + k)) = fun k => if c.1 * 512 + k = p then a else if x ≤ c.1 * 512 + k ∧ c.1 * 512 + k < p then a else U (c.1 * 512 + k) := by
        funext k; exact (congrFun (eqf U a) (c.1 * 512 + k)).symm
      have f2 : (fun k => if x ≤ c.1 * 512 + k ∧ c.1 * 512 + k < p + 1 then g else G (c.1 * 512 + k)) = fun k => if c.1 * 512 + k = p then g else if x ≤ c.1 * 512 + k ∧ c.1 * 512 + k < p then g else G (c.1 * 512 + k) := by
        funext k; exact (congrFun (eqf G g) (c.1 * 512 + k)).symm
      rw [f1, f2]
      exact H18
    exact (hnew.manyBack hc).perm (List.Perm.trans (.swap _ _ _) (.cons _ (.swap _ _ _)))
  · have : p = x + n := by omega
    subst this
    exact hK _ H2
end
end Go.Sh

set_option linter.all false
set_option maxRecDepth 4000
set_option maxHeartbeats 1000000
namespace Go.Sh

theorem RInv.congr {l l' : Nat → Iv} {L : CL} {U G : Int → Bool} (h : RInv l L U G) (h0 : l' 0 = l 0) (h1 : l' 1 = l 1) (h2 : l' 2 = l 2) : RInv l' L U G :=
  ⟨h.srt, h.rng, by rw [h0]; exact h.ok0, by rw [h1]; exact h.ok1, by rw [h2]; exact h.ok2, by rw [h0]; exact h.l0, by rw [h0, h1]; exact h.l1, by rw [h0, h2]; exact h.l2⟩

theorem Sat.rcongr {E : Env} {r : Nat} {l l' : Nat → Iv} {Z : List Pr} {w : World} (H : Sat (RTree E r l :: Z) w) (h0 : l' 0 = l 0) (h1 : l' 1 = l 1) (h2 : l' 2 = l 2) : Sat (RTree E r l' :: Z) w := by
  obtain ⟨s, L, U, G, hI, H⟩ := Sat.rtree.1 H
  exact Sat.rtree.2 ⟨s, L, U, G, hI.congr h0 h1 h2, H⟩

theorem lies_iff {l : Nat → Iv} {x n : Int} : ¬ (n = 0 ∨ 34359738368 ≤ x ∨ 34359738368 - x < n ∨ cnt (l 0) x (x + n) ≠ n) ↔ n ≠ 0 ∧ x < 34359738368 ∧ x + n ≤ 34359738368 ∧ cnt (l 0) x (x + n) = n := by
  constructor
  · intro h
    refine ⟨fun e => h (.inl e), ?_, ?_, Classical.byContradiction fun e => h (.inr (.inr (.inr e)))⟩
    · exact Classical.byContradiction fun e => h (.inr (.inl (by omega)))
    · exact Classical.byContradiction fun e => h (.inr (.inr (.inl (by omega))))
  · rintro ⟨h1, h2, h3, h4⟩ h
    rcases h with h | h | h | h <;> omega

section
variable {E : Env} {w : World} {Z : List Pr} {r : Nat} {l : Nat → Iv}

theorem rtake_spec (H : Sat (RTree E r l :: Z) w) {x n : Int} (hx : 0 ≤ x) (hx2 : x < 18446744073709551616) (hn : 0 ≤ n) (hn2 : n < 18446744073709551616) {K : Int → Int → World → Prop}
    (hk1 : lookedR l x n true 32 ≠ 0 → ∀ w', Sat (RTree E r l :: Z) w' → K 0 (lookedR l x n true 32) w')
    (hk2 : lookedR l x n true 32 = 0 → ∀ w', (∀ l', l' 0 = l 0 → l' 1 = cutL (l 1) x (x + n) → l' 2 = cutL (l 2) x (x + n) → Sat (RTree E r l' :: Z) w') → K (cnt (l 2) x (x + n)) 0 w') :
    F.mallowref9_Tree_Take E (some ⟨r, 0, none⟩) x n K w := by
  obtain ⟨s, L, U, G, hI, H⟩ := Sat.rtree.1 H
  have back : ∀ {w'}, Sat (rres E r s L U G ++ Z) w' → Sat (RTree E r l :: Z) w' := fun h => Sat.rtree.2 ⟨s, L, U, G, hI, h⟩
  unfold F.mallowref9_Tree_Take
  refine rlies_spec hI H hx hx2 hn hn2 fun w2 ok hok H2 => ?_
  refine CND_intro (fun e => ?_) fun e => ?_
  · have hb : n = 0 ∨ 34359738368 ≤ x ∨ 34359738368 - x < n ∨ cnt (l 0) x (x + n) ≠ n := Classical.byContradiction fun g => by
      rw [hok.2 g] at e; cases e
    have e10 : lookedR l x n true 32 = 10 := by unfold lookedR; rw [if_pos hb]
    have := hk1 (by rw [e10]; decide) w2 (back H2)
    rwa [e10] at this
  · have hg := hok.1 (by simpa using e)
    clear hok
    obtain ⟨g1, g2, g3, g4⟩ := lies_iff.1 hg
    have hin := (cnt_full hI.ok0 (a := x) (b := x + n) (by omega)).1 (by omega)
    have c1 := cnt_split hI.ok1 (a := x) (b := x + n) (by omega)
    refine rcnt_spec hI H2 hx hn (by omega) fun w5 H5 => CND_dec (fun h => ?_) fun h => ?_
    · have e32 : lookedR l x n true 32 = 32 := by unfold lookedR; rw [if_neg hg, if_pos (by rw [if_pos rfl]; omega)]
      have := hk1 (by rw [e32]; decide) w5 (back H5)
      rwa [e32] at this
    · have e0 : lookedR l x n true 32 = 0 := by unfold lookedR; rw [if_neg hg, if_neg (by rw [if_pos rfl]; omega)]
      refine rput9_spec hI H5 hx hn (by omega) hin true false fun w6 H6 => hk2 e0 w6 fun l' h0 h1 h2 => Sat.rtree.2 ⟨s, L, _, _, ⟨hI.srt, hI.rng, by rw [h0]; exact hI.ok0, by rw [h1]; exact Ok_cutL hI.ok1 (by omega), by rw [h2]; exact Ok_cutL hI.ok2 (by omega), by rw [h0]; exact hI.l0, fun p => ?_, fun p => ?_⟩, H6⟩
      · rw [h0, h1, mem_cutL (by omega), hI.l1]
        by_cases e : x ≤ p ∧ p < x + n
        · rw [if_pos e]; simp [e]
        · rw [if_neg e]; simp [e]
      · rw [h0, h2, mem_cutL (by omega), hI.l2]
        by_cases e : x ≤ p ∧ p < x + n
        · rw [if_pos e]; simp [e]
        · rw [if_neg e]; simp [e]

theorem rgive_spec (H : Sat (RTree E r l :: Z) w) (hrel : ∀ p, mem (l 2) p → mem (l 1) p) {x n : Int} {gone : Bool} (hx : 0 ≤ x) (hx2 : x < 18446744073709551616) (hn : 0 ≤ n) (hn2 : n < 18446744073709551616) {K : Int → World → Prop}
    (hk1 : lookedR l x n false 31 ≠ 0 → ∀ w', Sat (RTree E r l :: Z) w' → K (lookedR l x n false 31) w')
    (hk2 : lookedR l x n false 31 = 0 → ∀ w', (∀ l', l' 0 = l 0 → l' 1 = addL (l 1) x (x + n) → l' 2 = (if gone then addL (l 2) x (x + n) else l 2) → Sat (RTree E r l' :: Z) w') → K 0 w') :
    F.mallowref9_Tree_Give E (some ⟨r, 0, none⟩) x n gone K w := by
  obtain ⟨s, L, U, G, hI, H⟩ := Sat.rtree.1 H
  have back : ∀ {w'}, Sat (rres E r s L U G ++ Z) w' → Sat (RTree E r l :: Z) w' := fun h => Sat.rtree.2 ⟨s, L, U, G, hI, h⟩
  unfold F.mallowref9_Tree_Give
  refine rlies_spec hI H hx hx2 hn hn2 fun w2 ok hok H2 => ?_
  refine CND_intro (fun e => ?_) fun e => ?_
  · have hb : n = 0 ∨ 34359738368 ≤ x ∨ 34359738368 - x < n ∨ cnt (l 0) x (x + n) ≠ n := Classical.byContradiction fun g => by
      rw [hok.2 g] at e; cases e
    have e10 : lookedR l x n false 31 = 10 := by unfold lookedR; rw [if_pos hb]
    have := hk1 (by rw [e10]; decide) w2 (back H2)
    rwa [e10] at this
  · have hg := hok.1 (by simpa using e)
    clear hok
    obtain ⟨g1, g2, g3, g4⟩ := lies_iff.1 hg
    have hin := (cnt_full hI.ok0 (a := x) (b := x + n) (by omega)).1 (by omega)
    have c1 := cnt_nonneg (l 1) x (x + n)
    refine rcnt_spec hI H2 hx hn (by omega) fun w5 H5 => CND_dec (fun h => ?_) fun h => ?_
    · have e31 : lookedR l x n false 31 = 31 := by unfold lookedR; rw [if_neg hg, if_pos (by rw [if_neg (by decide)]; omega)]
      have := hk1 (by rw [e31]; decide) w5 (back H5)
      rwa [e31] at this
    · have c0 : cnt (l 1) x (x + n) = 0 := by omega
      have e0 : lookedR l x n false 31 = 0 := by unfold lookedR; rw [if_neg hg, if_neg (by rw [if_neg (by decide)]; omega)]
      have hno := (cnt_none hI.ok1 (a := x) (b := x + n) (by omega)).1 c0
      have a1 := addL_spec hI.ok1 (a := x) (b := x + n) (by omega) hx (by omega)
      have a2 := addL_spec hI.ok2 (a := x) (b := x + n) (by omega) hx (by omega)
      refine rput9_spec hI H5 hx hn (by omega) hin false gone fun w6 H6 => hk2 e0 w6 fun l' h0 h1 h2 => Sat.rtree.2 ⟨s, L, _, _, ⟨hI.srt, hI.rng, by rw [h0]; exact hI.ok0, by rw [h1]; exact a1.1, ?_, by rw [h0]; exact hI.l0, fun p => ?_, fun p => ?_⟩, H6⟩
      · rw [h2]; cases gone
        · exact hI.ok2
        · exact a2.1
      · rw [h0, h1, a1.2.1, hI.l1]
        by_cases e : x ≤ p ∧ p < x + n
        · rw [if_pos e]; simp [e, hin p e.1 e.2]
        · rw [if_neg e]; simp [e]
      · rw [h0, h2]
        by_cases e : x ≤ p ∧ p < x + n
        · rw [if_pos e]
          have hnr : ¬ mem (l 2) p := fun h => hno p e.1 e.2 (hrel p h)
          cases gone
          · simp [hnr]
          · rw [if_pos rfl, a2.2.1]; simp [e, hin p e.1 e.2]
        · rw [if_neg e]
          cases gone
          · rw [if_neg (by decide)]; exact hI.l2 p
          · rw [if_pos rfl, a2.2.1, hI.l2]; simp [e]

/-- The search has come to a page, with so many free ones right ahead of it. -/
def Came (l : Iv) (n cur run : Int) : Prop := 0 ≤ run ∧ run < n ∧ rowIn l (cur - run) run ∧ ∀ p, rowIn l p n → cur - run ≤ p

theorem Came.used {l : Iv} {n cur run : Int} (h : Came l n cur run) (hno : ¬ mem l cur) : Came l n (cur + 1) 0 := by
  obtain ⟨h1, h2, h3, h4⟩ := h
  refine ⟨by omega, by omega, fun m a b => by omega, fun p hp => Classical.byContradiction fun g => hno (hp cur (by omega) ?_)⟩
  have := h4 p hp; omega
theorem Came.free {l : Iv} {n cur run : Int} (h : Came l n cur run) (hm : mem l cur) : rowIn l (cur + 1 - (run + 1)) (run + 1) ∧ ∀ p, rowIn l p n → cur + 1 - (run + 1) ≤ p := by
  obtain ⟨h1, h2, h3, h4⟩ := h
  refine ⟨fun m a b => ?_, fun p hp => by have := h4 p hp; omega⟩
  by_cases e : m = cur
  · rw [e]; exact hm
  · exact h3 m (by omega) (by omega)
theorem Came.jump {l : Iv} {n cur run cur' : Int} (h : Came l n cur run) (hc : cur ≤ cur') (hno : ∀ m, cur ≤ m → m < cur' → ¬ mem l m) (hlt : cur < cur') : Came l n cur' 0 := by
  obtain ⟨h1, h2, h3, h4⟩ := h
  refine ⟨by omega, by omega, fun m a b => by omega, fun p hp => Classical.byContradiction fun g => ?_⟩
  have := h4 p hp
  by_cases e : cur ≤ p
  · exact hno p e (by omega) (hp p (by omega) (by omega))
  · exact hno cur (by omega) hlt (hp cur (by omega) (by omega))

theorem rFind_spec (H : Sat (RTree E r l :: Z) w) {n : Int} (hn : 0 ≤ n) (hn2 : n < 18446744073709551616) {K : Int → Bool → World → Prop}
    (hK : ∀ w', Sat (RTree E r l :: Z) w' → K ((if n = 0 then none else findL (l 1) n).getD 0) (if n = 0 then none else findL (l 1) n).isSome w') : F.mallowref9_Tree_Find E (some ⟨r, 0, none⟩) n K w := by
  obtain ⟨s, L, U, G, hI, H⟩ := Sat.rtree.1 H
  have hK' : K ((if n = 0 then none else findL (l 1) n).getD 0) (if n = 0 then none else findL (l 1) n).isSome w := hK w (Sat.rtree.2 ⟨s, L, U, G, hI, H⟩)
  clear hK
  unfold F.mallowref9_Tree_Find
  simp only [NC_some, Nat.mul_one]
  have hlen := rres_len H
  have hll := sorted_len hI.srt hI.rng
  have hmU : ∀ c ∈ L, ∀ k, 0 ≤ k → k < 512 → (mem (l 1) (c.1 * 512 + k) ↔ U (c.1 * 512 + k) = false) := fun c hc k h0 h1 => by
    rw [hI.l1]
    exact ⟨fun h => h.2, fun h => ⟨(hI.l0 _).2 ⟨c, hc, by omega⟩, h⟩⟩
  have hgap : ∀ (i : Nat) c, L[i]? = some c → ∀ B : Int, (∀ j c', j < i → L[j]? = some c' → (c'.1 + 1) * 512 ≤ B) → ∀ m, B ≤ m → m < c.1 * 512 → ¬ mem (l 1) m := fun i c hc B hB m h1 h2 hm => by
    obtain ⟨y, hy, hy2⟩ := (hI.l0 m).1 ((hI.l1 m).1 hm).1
    obtain ⟨j, hj⟩ := List.mem_iff_getElem?.1 hy
    by_cases g : j < i
    · have := hB j y g hj; omega
    · have h3 : c.1 ≤ y.1 := by
        rcases Nat.lt_or_eq_of_le (Nat.le_of_not_lt g) with g2 | g2
        · have := List.pairwise_iff_getElem.1 hI.srt i j (List.getElem?_eq_some_iff.1 hc).1 (List.getElem?_eq_some_iff.1 hj).1 g2
          rw [(List.getElem?_eq_some_iff.1 hc).2, (List.getElem?_eq_some_iff.1 hj).2] at this
          omega
        · subst g2; rw [hc] at hj; cases hj; exact Int.le_refl _
      omega
  refine LOOP_intro (fun st w' => w' = w ∧ ∃ i : Nat, st.2.2.1 = (i : Int) ∧ i ≤ L.length ∧ ((i = 0 ∧ st.1 = 0) ∨ (0 < i ∧ (∃ c, L[i - 1]? = some c ∧ c.1 = st.2.1) ∧ 0 < n ∧ Came (l 1) n ((st.2.1 + 1) * 512) st.1))) (fun st _ => (L.length - st.2.2.1).toNat) ⟨rfl, 0, rfl, Nat.zero_le _, .inl ⟨rfl, rfl⟩⟩ ?_
  rintro ⟨run, last, i', v⟩ _ w2 ⟨rfl, i, hi, hil, hc⟩
  dsimp only at hi hc ⊢
  subst hi
  refine ⟨s, rres_hdr H, CND_dec (fun hlt => CND_dec (fun hpos => ?_) fun hnp => ?_) fun hge => ?_⟩
  · have hl : i < L.length := by omega
    have hg := List.getElem?_eq_getElem hl
    obtain ⟨a, ha, hls, c1, c2⟩ := rres_get H hg
    generalize L[i] = x at hg c1 c2
    have hxm := List.mem_of_getElem? hg
    have hxr := hI.rng x hxm
    have hbef : ∀ (B : Int), (i = 0 ∨ ∃ c, L[i - 1]? = some c ∧ (c.1 + 1) * 512 ≤ B) → ∀ j c', j < i → L[j]? = some c' → (c'.1 + 1) * 512 ≤ B := fun B hB j c' hj hc' => by
      rcases hB with h | ⟨c, hc1, hc3⟩
      · omega
      · by_cases e : j = i - 1
        · subst e; rw [hc1] at hc'; cases hc'; exact hc3
        · have := List.pairwise_iff_getElem.1 hI.srt j (i - 1) (List.getElem?_eq_some_iff.1 hc').1 (List.getElem?_eq_some_iff.1 hc1).1 (by omega)
          rw [(List.getElem?_eq_some_iff.1 hc').2, (List.getElem?_eq_some_iff.1 hc1).2] at this
          omega
    rw [i64_id (n := (i : Int) + 1) (by omega) (by omega)]
    have hii : (0 : Int) ≤ (i : Int) ∧ (i : Int) < (s.len : Int) := ⟨by omega, by omega⟩
    -- the run at the chunk's first page
    refine JOIN_st (fun st w' => w' = w2 ∧ Came (l 1) n (x.1 * 512) st.1) ?_ ?_
    · have hzero : i = 0 → Came (l 1) n (x.1 * 512) 0 := fun e => ⟨by omega, by omega, fun m a b => by omega, fun p hp => Classical.byContradiction fun g => by
        have h1 := hp p (by omega) (by omega)
        have h2 := mem_pos hI.ok1 h1
        exact hgap i x hg 0 (hbef 0 (.inl e)) p h2 (by omega) h1⟩
      refine JOIN_in (CND_dec (fun hip => ⟨s, rres_hdr H, ?_⟩) fun hi0 j => CND_f rfl ?_)
      · rw [ha]
        simp only [NC_some, Int.toNat_natCast]
        refine ⟨hii, _, c1, fun j => ?_⟩
        rcases hc with ⟨h, _⟩ | ⟨_, ⟨c, hc1, hc3⟩, _, hcm⟩
        · omega
        have hcr := hI.rng c (List.mem_of_getElem? hc1)
        rw [u64_id (n := last + 1) (by omega) (by omega)]
        have hord : last + 1 ≤ x.1 := by
          have := List.pairwise_iff_getElem.1 hI.srt (i - 1) i (by omega) hl (by omega)
          rw [(List.getElem?_eq_some_iff.1 hc1).2, (List.getElem?_eq_some_iff.1 hg).2] at this
          omega
        refine CND_ne (fun hne => ⟨by trivial, ?_⟩) fun heq => ⟨by trivial, ?_⟩
        · exact hcm.jump (by omega) (hgap i x hg _ (hbef _ (.inr ⟨c, hc1, by omega⟩))) (by omega)
        · rw [heq]; exact hcm
      · have e : i = 0 := by omega
        refine ⟨rfl, ?_⟩
        rcases hc with ⟨_, h⟩ | ⟨h, _⟩
        · rw [h]; exact hzero e
        · omega
    · rintro ⟨run1, v⟩ _ w8 ⟨rfl, hcm⟩
      dsimp only at hcm ⊢
      refine ⟨s, rres_hdr H, ?_⟩
      rw [ha]
      simp only [NC_some, Int.toNat_natCast]
      refine ⟨hii, _, c1, ?_⟩
      refine LOOP_intro (fun st w' => w' = w8 ∧ 0 ≤ st.2.1 ∧ st.2.1 ≤ 512 ∧ Came (l 1) n (x.1 * 512 + st.2.1) st.1) (fun st _ => (512 - st.2.1).toNat) ⟨rfl, by dsimp only; omega, by dsimp only; omega, by rw [show x.1 * 512 + (0 : Int) = x.1 * 512 by omega]; exact hcm⟩ ?_
      rintro ⟨run2, k, v⟩ _ w21 ⟨rfl, k0, k1, hcm2⟩
      dsimp only at k0 k1 hcm2 ⊢
      refine CND_dec (fun hlt2 => ?_) fun hge2 => ?_
      · have hU := rres_used H hg (i := k) k0 hlt2
        rw [u64_id (n := k + 1) (by omega) (by omega)]
        have hrun := hcm2.2.1
        have hrun0 := hcm2.1
        refine JOIN_in ⟨s, rres_hdr H, ?_⟩
        rw [ha]
        simp only [NC_some]
        refine ⟨hii, _, c2, ?_⟩
        simp only [NC_some]
        refine ⟨⟨k0, hlt2⟩, _, hU, CND_intro (fun hu j => ?_) fun hu j => ?_⟩
        · refine CND_eq (fun e => by omega) fun _ => ⟨⟨by trivial, by omega, by omega, ?_⟩, by omega⟩
          have := hcm2.used (fun h => by rw [(hmU x hxm k k0 hlt2).1 h] at hu; cases hu)
          rw [show x.1 * 512 + (k + 1) = x.1 * 512 + k + 1 by omega]; exact this
        · have hfr := hcm2.free ((hmU x hxm k k0 hlt2).2 hu)
          rw [u64_id (n := run2 + 1) (by omega) (by omega)]
          refine CND_eq (fun e => ⟨s, rres_hdr H, ?_⟩) fun hne => ⟨⟨by trivial, by omega, by omega, ?_⟩, by omega⟩
          · rw [ha]
            simp only [NC_some]
            rw [e] at hfr
            refine ⟨hii, _, c1, LET_intro fun t ht => ?_⟩
            have hp0 : 0 ≤ x.1 * 512 + k + 1 - n := mem_pos hI.ok1 (hfr.1 _ (Int.le_refl _) (by omega))
            rw [u64_id (n := x.1 * 512) (by omega) (by omega), u64_id (n := x.1 * 512 + k) (by omega) (by omega), u64_id (n := x.1 * 512 + k + 1) (by omega) (by omega), u64_id (n := x.1 * 512 + k + 1 - n) (by omega) (by omega)] at ht
            have hf : findL (l 1) n = some t := by
              cases hf : findL (l 1) n with
              | none => exact absurd hfr.1 (findL_none hI.ok1 hpos hf _)
              | some q =>
                obtain ⟨g1, g2⟩ := findL_some hI.ok1 hpos hf
                have h1 := g2 _ hfr.1
                have h2 := hfr.2 q g1
                congr 1; omega
            rw [if_neg (by omega), hf] at hK'
            exact hK'
          · rw [show x.1 * 512 + (k + 1) = x.1 * 512 + k + 1 by omega]
            exact ⟨by omega, by omega, hfr.1, hfr.2⟩
      · have e : k = 512 := by omega
        subst e
        refine ⟨⟨by trivial, i + 1, by omega, by omega, .inr ⟨by omega, ⟨x, by simpa using hg, by trivial⟩, hpos, ?_⟩⟩, by omega⟩
        rw [show (x.1 + 1) * 512 = x.1 * 512 + 512 by omega]; exact hcm2
  · have e : n = 0 := by omega
    rw [if_pos e] at hK'
    exact hK'
  · have e : i = L.length := by omega
    by_cases en : n = 0
    · rw [if_pos en] at hK'; exact hK'
    · rw [if_neg en] at hK'
      have hf : findL (l 1) n = none := by
        cases hf : findL (l 1) n with
        | none => rfl
        | some q =>
          exfalso
          obtain ⟨g1, _⟩ := findL_some hI.ok1 (by omega) hf
          have h1 := g1 (q + n - 1) (by omega) (by omega)
          obtain ⟨y, hy, hy2⟩ := (hI.l0 _).1 ((hI.l1 _).1 h1).1
          obtain ⟨j, hj⟩ := List.mem_iff_getElem?.1 hy
          have hjl := (List.getElem?_eq_some_iff.1 hj).1
          rcases hc with ⟨h, _⟩ | ⟨_, ⟨c, hc1, hc3⟩, _, hcm⟩
          · omega
          · have h5 := hcm.2.2.2 q g1
            have h6 := hcm.2.1
            have h7 : y.1 ≤ c.1 := by
              by_cases e2 : j = i - 1
              · subst e2; rw [hc1] at hj; cases hj; exact Int.le_refl _
              · have := List.pairwise_iff_getElem.1 hI.srt j (i - 1) hjl (List.getElem?_eq_some_iff.1 hc1).1 (by omega)
                rw [(List.getElem?_eq_some_iff.1 hj).2, (List.getElem?_eq_some_iff.1 hc1).2] at this
                omega
            omega
      rw [hf] at hK'
      exact hK'

theorem ralloc_spec (H : Sat (RTree E r l :: Z) w) {n : Int} (hn : 0 ≤ n) (hn2 : n < 18446744073709551616) (hlk : ∀ p, n ≠ 0 → findL (l 1) n = some p → lookedR l p n true 32 = 0 ∧ 0 ≤ p ∧ p + n ≤ 34359738368) {K : Int → Int → Int → World → Prop}
    (hk0 : n = 0 → K 0 0 1 w) (hk1 : n ≠ 0 → findL (l 1) n = none → ∀ w', Sat (RTree E r l :: Z) w' → K 0 0 30 w')
    (hk2 : n ≠ 0 → ∀ p, findL (l 1) n = some p → ∀ w', (∀ l', l' 0 = l 0 → l' 1 = cutL (l 1) p (p + n) → l' 2 = cutL (l 2) p (p + n) → Sat (RTree E r l' :: Z) w') → K p (cnt (l 2) p (p + n)) 0 w') :
    F.mallowref9_Tree_Alloc E (some ⟨r, 0, none⟩) n K w := by
  unfold F.mallowref9_Tree_Alloc
  refine CND_eq hk0 fun hne => rFind_spec H hn hn2 fun w3 H3 => ?_
  rw [if_neg hne]
  cases hf : findL (l 1) n with
  | none => exact CND_t rfl (hk1 hne hf w3 H3)
  | some p =>
    obtain ⟨h1, h2, h3⟩ := hlk p hne hf
    refine CND_f rfl (rtake_spec H3 h2 (by show p < _; omega) hn hn2 (fun h => absurd h1 h) fun _ w' h => hk2 hne p hf w' h)

end
end Go.Sh

set_option linter.all false
set_option maxRecDepth 4000
set_option maxHeartbeats 1000000
namespace Go.Sh

theorem replicate_flags (n : Nat) (b : Bool) : List.replicate n (Value.bool b) = flags n fun _ => b := by
  apply List.ext_getElem?
  intro i
  rw [List.getElem?_replicate]
  by_cases h : i < n
  · rw [if_pos h, flags_get h]
  · rw [if_neg h, List.getElem?_eq_none (by rw [flags_len]; omega)]

section
variable {E : Env} {w : World} {Z : List Pr} {r : Nat} {l : Nat → Iv}

theorem Sat.rtreeNil {b : Nat} (H : Sat (Cells b E.t_mallowref9_Tree [.slice none 0 0] :: Z) w) (hl : ∀ i, l i = []) : Sat (RTree E b l :: Z) w := by
  have nm : ∀ i p, ¬ mem (l i) p := fun i p => by rw [hl]; exact mem_nil p
  refine Sat.rtree.2 ⟨⟨none, 0, 0⟩, [], fun _ => false, fun _ => false, ⟨List.Pairwise.nil, fun c hc => (by cases hc), by rw [hl]; trivial, by rw [hl]; trivial, by rw [hl]; trivial, fun p => ?_, fun p => ?_, fun p => ?_⟩, ?_⟩
  · exact ⟨fun h => absurd h (nm 0 p), fun ⟨c, hc, _⟩ => (by cases hc)⟩
  · exact ⟨fun h => absurd h (nm 1 p), fun h => absurd h.1 (nm 0 p)⟩
  · exact ⟨fun h => absurd h (nm 2 p), fun h => absurd h.1 (nm 0 p)⟩
  · have h1 := (H.nil E.t_mallowref9_Part 2)
    have h2 := h1.manyNil (ckP E (fun _ => false) fun _ => false)
    exact h2.perm (List.Perm.trans (.swap _ _ _) (List.Perm.trans (.cons _ (.swap _ _ _)) (.swap _ _ _)))

theorem ref8new_spec (H : Sat Z w) {c : Int} {U G : Int → Bool} (hU : ∀ k, 0 ≤ k → k < 512 → U (c * 512 + k) = false) (hG : ∀ k, 0 ≤ k → k < 512 → G (c * 512 + k) = true) {K : Option Addr → World → Prop}
    (hK : ∀ b w', Sat (ckP E U G (c, b) :: Z) w' → K (some ⟨b, 0, none⟩) w') : F.mallowref8_New E K w := by
  unfold F.mallowref8_New
  have e1 : (Array.replicate 1024 (Value.bool false)) = ⟨List.replicate 1024 (.bool false)⟩ := by apply Array.ext'; simp only [Array.toList_replicate]
  rw [e1]
  generalize hrep : List.replicate 1024 (Value.bool false) = rep
  have hl : rep.length = 1024 := by rw [← hrep]; exact List.length_replicate
  refine AL_cells H fun b w2 H2 _ => ?_
  rw [add_eq, Nat.zero_add]
  refine rput_spec H2 (o := 512) (by omega) (by decide) (by decide) (by decide) true fun w4 vs hvl hv H4 => hK b w4 ?_
  have e : vs = flags 512 (fun k => U ((c, b).1 * 512 + k)) ++ flags 512 (fun k => G ((c, b).1 * 512 + k)) := by
    apply List.ext_getElem?
    intro j
    rw [hv j]
    have h512 : (0 + 512 : Int).toNat = 512 := rfl
    have h0 : (0 : Int).toNat = 0 := rfl
    rw [h512, h0]
    by_cases g1 : j < 512
    · rw [if_neg (by omega), List.getElem?_append_left (by rw [flags_len]; omega), flags_get g1, ← hrep, List.getElem?_replicate, if_pos (by omega)]
      have := hU j (by omega) (by omega)
      dsimp only; rw [this]
    · by_cases g2 : j < 1024
      · rw [if_pos (by omega), List.getElem?_append_right (by rw [flags_len]; omega), flags_len, flags_get (by omega)]
        have := hG ((j - 512 : Nat) : Int) (by omega) (by omega)
        dsimp only; rw [this]
      · rw [if_neg (by omega), List.getElem?_eq_none (by omega), List.getElem?_eq_none (by rw [List.length_append, flags_len, flags_len]; omega)]
  rw [e] at H4
  exact H4

theorem rgrow_spec (H : Sat (RTree E r l :: Z) w) {c n : Int} (hc : 0 ≤ c) (hc2 : c < 18446744073709551616) (hn : 0 ≤ n) (hn2 : n < 18446744073709551616) {K : Int → World → Prop}
    (hk1 : (n = 0 ∨ 262144 < n ∨ 67108864 < c ∨ 67108864 - c < n) → K 1 w)
    (hk2 : ¬ (n = 0 ∨ 262144 < n ∨ 67108864 < c ∨ 67108864 - c < n) → cnt (l 0) (c * 512) ((c + n) * 512) ≠ 0 → ∀ w', Sat (RTree E r l :: Z) w' → K 34 w')
    (hk3 : ¬ (n = 0 ∨ 262144 < n ∨ 67108864 < c ∨ 67108864 - c < n) → cnt (l 0) (c * 512) ((c + n) * 512) = 0 → ∀ w', (∀ l', (∀ i, i < 3 → l' i = addL (l i) (c * 512) ((c + n) * 512)) → Sat (RTree E r l' :: Z) w') → K 0 w') :
    F.mallowref9_Tree_Grow E (some ⟨r, 0, none⟩) c n K w := by
  obtain ⟨s, L, U, G, hI, H⟩ := Sat.rtree.1 H
  have back : ∀ {w'}, Sat (rres E r s L U G ++ Z) w' → Sat (RTree E r l :: Z) w' := fun h => Sat.rtree.2 ⟨s, L, U, G, hI, h⟩
  unfold F.mallowref9_Tree_Grow
  refine JOIN_in (CND_eq (fun e j => CND_t rfl (hk1 (.inl e))) fun e1 => CND_dec (fun e j => CND_t rfl (hk1 (.inr (.inl e)))) fun e2 => CND_dec (fun e j => CND_t rfl (hk1 (.inr (.inr (.inl e))))) fun e3 => ?_)
  rw [u64_id (n := 67108864 - c) (by omega) (by omega)]
  refine fun j => CND_dec (fun e => hk1 (.inr (.inr (.inr e)))) fun e4 => ?_
  have hbad : ¬ (n = 0 ∨ 262144 < n ∨ 67108864 < c ∨ 67108864 - c < n) := by omega
  have hk2 := hk2 hbad
  have hk3 := hk3 hbad
  clear hk1
  have hll := sorted_len hI.srt hI.rng
  have hlen := rres_len H
  refine rfind_spec H fun w6 ok hok H6 => ?_
  clear hok
  have hple := posC_le L c
  have hc0 : cnt (l 0) (c * 512) ((c + n) * 512) = 0 ↔ ∀ y ∈ L, ¬ (c ≤ y.1 ∧ y.1 < c + n) := by
    rw [cnt_none hI.ok0 (by omega)]
    constructor
    · intro h y hy ⟨h1, h2⟩
      exact h (y.1 * 512) (by omega) (by omega) ((hI.l0 _).2 ⟨y, hy, by omega⟩)
    · intro h m h1 h2 hm
      obtain ⟨y, hy, hy2⟩ := (hI.l0 m).1 hm
      exact h y hy ⟨by omega, by omega⟩
  simp only [NC_some]
  refine JOIN_st (fun st w' => w' = w6 ∧ (st.1 = false → ∀ y, L[posC L c]? = some y → c + n ≤ y.1) ∧ (st.1 = true → cnt (l 0) (c * 512) ((c + n) * 512) ≠ 0)) ?_ ?_
  · refine ⟨s, rres_hdr H6, CND_dec (fun hlt => ⟨s, rres_hdr H6, ?_⟩) fun hge => ⟨rfl, fun _ y hy => ?_, fun e => by cases e⟩⟩
    · have hg := List.getElem?_eq_getElem (show posC L c < L.length by omega)
      obtain ⟨a, ha, hls, c1, _⟩ := rres_get H6 hg
      generalize L[posC L c] = x at hg c1
      rw [ha]
      simp only [NC_some, Int.toNat_natCast]
      rw [u64_id (n := c + n) (by omega) (by omega)]
      refine ⟨⟨by omega, by omega⟩, _, c1, by trivial, fun e y hy => ?_, fun e => ?_⟩
      · rw [hg] at hy; cases hy
        have := of_decide_eq_false e; omega
      · have h1 := of_decide_eq_true e
        have h2 := posC_at hg
        exact fun h => hc0.1 h x (List.mem_of_getElem? hg) ⟨h2, h1⟩
    · have := (List.getElem?_eq_some_iff.1 hy).1; omega
  rintro ⟨bt, v⟩ _ w9 ⟨rfl, hb0, hb1⟩
  dsimp only at hb0 hb1 ⊢
  refine CND_intro (fun e => hk2 (hb1 e) w9 (back H6)) fun e => ?_
  have hnext := hb0 e
  clear hb0 hb1
  have hfree : ∀ y ∈ L, ¬ (c ≤ y.1 ∧ y.1 < c + n) := by
    intro y hy ⟨h1, h2⟩
    obtain ⟨j, hj⟩ := List.mem_iff_getElem?.1 hy
    have hjl := (List.getElem?_eq_some_iff.1 hj).1
    by_cases g : j < posC L c
    · have := posC_before hj g; omega
    · have hg := List.getElem?_eq_getElem (show posC L c < L.length by omega)
      have h3 := hnext _ hg
      rcases Nat.lt_or_eq_of_le (Nat.le_of_not_lt g) with g2 | g2
      · have := List.pairwise_iff_getElem.1 hI.srt (posC L c) j (by omega) hjl g2
        rw [(List.getElem?_eq_some_iff.1 hj).2] at this
        omega
      · subst g2; rw [hj] at hg; rw [← Option.some.inj hg] at h3; omega
  have hcz := hc0.2 hfree
  clear hk2 hc0
  -- the pages of the new chunks
  generalize hU' : (fun p : Int => if c * 512 ≤ p ∧ p < (c + n) * 512 then false else U p) = U'
  generalize hG' : (fun p : Int => if c * 512 ≤ p ∧ p < (c + n) * 512 then true else G p) = G'
  have hUn : ∀ d k, c ≤ d → d < c + n → 0 ≤ k → k < 512 → U' (d * 512 + k) = false ∧ G' (d * 512 + k) = true := fun d k h1 h2 h3 h4 => by
    rw [← hU', ← hG']; dsimp only; rw [if_pos (by omega), if_pos (by omega)]; exact ⟨rfl, rfl⟩
  have hUo : ∀ y ∈ L, ckP E U G y = ckP E U' G' y := fun y hy => by
    have hno := hfree y hy
    unfold ckP
    congr 2
    · refine flags_congr fun k h0 h1 => ?_
      rw [← hU']; dsimp only; rw [if_neg (by omega)]
    · refine flags_congr fun k h0 h1 => ?_
      rw [← hG']; dsimp only; rw [if_neg (by omega)]
  have H6' : Sat (Many (ckP E U' G') L :: Cells r E.t_mallowref9_Tree [.slice s.base s.len s.cap] :: Row E.t_mallowref9_Part 2 s (parts L) :: Z) w9 := by
    rw [← Many.congr hUo]; exact H6.front 2 rfl
  refine AL_rows (n := 0) (z := 2) H6' rfl (by decide) fun b16 w17 H17 => ?_
  have hrowL := (H17.front 3 rfl).rowAll
  have hlp : (parts L).length = s.len * 2 := by rw [parts_len, hlen]
  refine ⟨s, (H17.front 2 rfl).cell0 rfl, ⟨by omega, by have := (H17.front 3 rfl).own.cap; omega⟩, ?_⟩
  rw [slB_zero, Int.toNat_natCast]
  have htk : rowAt w17 s.base (posC L c * 2) (parts (L.take (posC L c))) := by
    have := rowAt_take hrowL (m := posC L c * 2) (by omega) hlp
    rwa [parts_take] at this
  refine APP_row (x := ⟨s.base, posC L c, s.cap⟩) (news := parts (L.take (posC L c))) H17 rfl htk (by rw [parts_len, List.length_take]; show min (posC L c) L.length * 2 = posC L c * 2; rw [Nat.min_eq_left hple]) (parts_one _) (by dsimp only; omega) (by dsimp only; omega) fun s20 w21 H21 hs20 => ?_
  rw [List.nil_append] at H21
  have hs20 : s20.len = posC L c := by rw [hs20]; show 0 + posC L c = _; omega
  refine LOOP_intro (fun st w' => ∃ (k : Nat) (M : CL), st.2.1 = (k : Int) ∧ (k : Int) ≤ n ∧ M.length = k ∧ (∀ (j : Nat) y, M[j]? = some y → y.1 = c + j) ∧ st.1.len = posC L c + k ∧
      Sat (Row E.t_mallowref9_Part 2 st.1 (parts (L.take (posC L c) ++ M)) :: Many (ckP E U' G') M :: Many (ckP E U' G') L :: Cells r E.t_mallowref9_Tree [.slice s.base s.len s.cap] :: Row E.t_mallowref9_Part 2 s (parts L) :: Z) w') (fun st _ => (n - st.2.1).toNat)
    ⟨0, [], rfl, by show (0 : Int) ≤ n; omega, rfl, fun j y h => (by cases h), hs20, by rw [List.append_nil]; exact (H21.manyNil (ckP E U' G')).perm (.swap _ _ _)⟩ ?_
  rintro ⟨s22, k', v⟩ _ w23 ⟨k, M, hk, hkn, hM, hMc, hs22, H23⟩
  dsimp only at hk hs22 H23 ⊢
  subst hk
  refine CND_dec (fun hlt => ?_) fun hge => ?_
  · refine ref8new_spec H23 (c := c + k) (U := U') (G := G') (fun i h0 h1 => (hUn (c + k) i (by omega) (by omega) h0 h1).1) (fun i h0 h1 => (hUn (c + k) i (by omega) (by omega) h0 h1).2) fun b w26 H26 => ?_
    rw [u64_id (n := c + (k : Int)) (by omega) (by omega), u64_id (n := (k : Int) + 1) (by omega) (by omega)]
    refine AL_cells H26 fun b27 w28 H28 _ => ?_
    refine APP_one (news := [.int .u64 (c + k), .pointer (some ⟨b, 0, none⟩)]) (H28.front2 1 rfl) rfl rfl (by simp [Value.oneCell']) (by omega) (by omega) fun s29 w30 H30 hs29 => ?_
    have ep : parts (L.take (posC L c) ++ M) ++ [Value.int .u64 (c + k), .pointer (some ⟨b, 0, none⟩)] = parts (L.take (posC L c) ++ (M ++ [(c + (k : Int), b)])) := by
      rw [← List.append_assoc, parts_app (L.take (posC L c) ++ M)]; rfl
    rw [ep] at H30
    refine ⟨⟨k + 1, M ++ [(c + (k : Int), b)], by omega, by omega, by simp [hM], fun j y hj => ?_, by omega, ?_⟩, by omega⟩
    · rw [List.getElem?_append] at hj
      split at hj
      · exact hMc j y hj
      · rename_i hj2
        have : j = M.length := by
          have := (List.getElem?_eq_some_iff.1 hj).1
          simp at this; omega
        subst this
        rw [Nat.sub_self] at hj
        cases hj
        show c + (k : Int) = c + (M.length : Nat)
        rw [hM]
    · have h1 : Sat (ckP E U' G' (c + (k : Int), b) :: Many (ckP E U' G') M :: Row E.t_mallowref9_Part 2 s29 (parts (L.take (posC L c) ++ (M ++ [(c + (k : Int), b)]))) :: Many (ckP E U' G') L :: Cells r E.t_mallowref9_Tree [.slice s.base s.len s.cap] :: Row E.t_mallowref9_Part 2 s (parts L) :: Z) w30 :=
        H30.perm (List.Perm.trans (.swap _ _ _) (.cons _ (.swap _ _ _)))
      exact h1.manySnoc.perm (.swap _ _ _)
  · have hkn' : (k : Int) = n := by omega
    have hrowL2 := (H23.front 4 rfl).rowAll
    refine ⟨s, (H23.front 3 rfl).cell0 rfl, ⟨by omega, by omega⟩, ?_⟩
    have hcap := (H23.front 4 rfl).own.cap
    have hdr : rowAt w23 (slB s.base s.cap (posC L c) 2) ((s.len - posC L c) * 2) (parts (L.drop (posC L c))) := by
      have := rowAt_drop (z := 2) hrowL2 rfl (k := posC L c) (by omega) hcap hlp
      rwa [parts_drop] at this
    refine APP_row (x := ⟨slB s.base s.cap (posC L c) 2, s.len - posC L c, s.cap - posC L c⟩) (news := parts (L.drop (posC L c))) H23 rfl hdr (by rw [parts_len, List.length_drop]; show _ = (s.len - posC L c) * 2; rw [hlen]) (parts_one _) (by dsimp only; omega) (by dsimp only; omega) fun s33 w34 H34 hs33 => ?_
    rw [← parts_app] at H34
    have H35 := (H34.front 3 rfl)
    refine st_cell0 H35 (o := 0) rfl (by simp) fun w36 H36 => hk3 hcz w36 fun l' hl' => ?_
    simp only [List.set] at H36
    generalize hN : L.take (posC L c) ++ M ++ L.drop (posC L c) = N at H36
    have hNp : (M ++ L).Perm N := by
      rw [← hN, List.append_assoc]
      have h1 : (M ++ L).Perm (M ++ (L.take (posC L c) ++ L.drop (posC L c))) := by rw [List.take_append_drop]
      refine h1.trans ?_
      rw [← List.append_assoc, ← List.append_assoc]
      exact List.perm_append_comm.append_right _
    have hNm : ∀ y, y ∈ N ↔ y ∈ M ∨ y ∈ L := fun y => by rw [← hNp.mem_iff, List.mem_append]
    have hMr : ∀ y ∈ M, c ≤ y.1 ∧ y.1 < c + n := fun y hy => by
      obtain ⟨j, hj⟩ := List.mem_iff_getElem?.1 hy
      have := (List.getElem?_eq_some_iff.1 hj).1
      have := hMc j y hj
      omega
    have a0 := addL_spec hI.ok0 (a := c * 512) (b := (c + n) * 512) (by omega) (by omega) (by omega)
    have a1 := addL_spec hI.ok1 (a := c * 512) (b := (c + n) * 512) (by omega) (by omega) (by omega)
    have a2 := addL_spec hI.ok2 (a := c * 512) (b := (c + n) * 512) (by omega) (by omega) (by omega)
    rw [← hl' 0 (by decide)] at a0
    rw [← hl' 1 (by decide)] at a1
    rw [← hl' 2 (by decide)] at a2
    refine Sat.rtree.2 ⟨s33, N, U', G', ⟨?_, fun y hy => ?_, a0.1, a1.1, a2.1, fun p => ?_, fun p => ?_, fun p => ?_⟩, ?_⟩
    · rw [← hN]
      unfold SortedC
      rw [List.append_assoc, List.pairwise_append, List.pairwise_append]
      refine ⟨hI.srt.sublist (List.take_sublist _ _), ⟨?_, hI.srt.sublist (List.drop_sublist _ _), ?_⟩, ?_⟩
      · rw [List.pairwise_iff_getElem]
        intro i j hi hj hij
        have h1 := hMc i _ (List.getElem?_eq_getElem hi)
        have h2 := hMc j _ (List.getElem?_eq_getElem hj)
        omega
      · intro a ha d hd
        have := hMr a ha
        obtain ⟨j, hj⟩ := List.mem_iff_getElem?.1 hd
        rw [List.getElem?_drop] at hj
        have h2 := posC_after hI.srt hj (n := c) (by omega)
        have h3 := hfree d (List.mem_of_getElem? hj)
        omega
      · intro a ha d hd
        obtain ⟨j, hj⟩ := List.mem_iff_getElem?.1 ha
        rw [List.getElem?_take] at hj
        split at hj
        · rename_i hj2
          have h1 := posC_before hj hj2
          rcases List.mem_append.1 hd with hd | hd
          · have := hMr d hd; omega
          · obtain ⟨i, hi⟩ := List.mem_iff_getElem?.1 hd
            rw [List.getElem?_drop] at hi
            have h2 := posC_after hI.srt hi (n := c) (by omega)
            omega
        · cases hj
    · rcases (hNm y).1 hy with h | h
      · have := hMr y h; omega
      · exact hI.rng y h
    · rw [a0.2.1, hI.l0]
      constructor
      · rintro (⟨y, hy, hy2⟩ | ⟨h1, h2⟩)
        · exact ⟨y, (hNm y).2 (.inr hy), hy2⟩
        · have hg := List.getElem?_eq_getElem (l := M) (i := (p / 512 - c).toNat) (by omega)
          exact ⟨_, (hNm _).2 (.inl (List.mem_of_getElem? hg)), by rw [hMc _ _ hg]; omega⟩
      · rintro ⟨y, hy, hy2⟩
        rcases (hNm y).1 hy with h | h
        · have := hMr y h; exact .inr (by omega)
        · exact .inl ⟨y, h, hy2⟩
    · rw [a1.2.1, a0.2.1, hI.l1, ← hU']
      dsimp only
      by_cases e : c * 512 ≤ p ∧ p < (c + n) * 512
      · rw [if_pos e]; simp [e]
      · rw [if_neg e]; simp [e]
    · rw [a2.2.1, a0.2.1, hI.l2, ← hG']
      dsimp only
      by_cases e : c * 512 ≤ p ∧ p < (c + n) * 512
      · rw [if_pos e]; simp [e]
      · rw [if_neg e]; simp [e]
    · have h1 : Sat (Many (ckP E U' G') M :: Many (ckP E U' G') L :: Cells r E.t_mallowref9_Tree [.slice s33.base s33.len s33.cap] :: Row E.t_mallowref9_Part 2 s33 (parts N) :: Row E.t_mallowref9_Part 2 s (parts L) :: Z) w36 :=
        H36.perm (List.Perm.trans (List.Perm.trans (.cons _ (.swap _ _ _)) (.swap _ _ _)) (.cons _ (List.Perm.trans (.cons _ (.swap _ _ _)) (.swap _ _ _))))
      have h2 := (Sat.manyApp.2 h1).manyPerm hNp
      exact (h2.front 3 rfl).tail.perm (List.Perm.trans (.swap _ _ _) (.cons _ (.swap _ _ _)))

end
end Go.Sh

set_option linter.all false
set_option maxRecDepth 4000
set_option maxHeartbeats 1000000
namespace Go.Sh

section
variable {E : Env} {w : World} {Z : List Pr} {r : Nat} {l : Nat → Iv}

/-- A chunk releases. -/
theorem cscav_spec {U G : Int → Bool} {c : Int × Nat} (H : Sat (ckP E U G c :: Z) w) {n : Int} (hn : 0 ≤ n) (hn2 : n ≤ 512) {K : Int → Int → World → Prop}
    (hk0 : n < 1 ∨ (∀ k, 0 ≤ k → k < 512 → (U (c.1 * 512 + k) || G (c.1 * 512 + k)) = true) → ∀ w', Sat (ckP E U G c :: Z) w' → K 0 0 w')
    (hk1 : 1 ≤ n → ∀ e i, 0 ≤ i → i ≤ e → e < 512 → (∀ k, e < k → k < 512 → (U (c.1 * 512 + k) || G (c.1 * 512 + k)) = true) → (∀ k, i ≤ k → k ≤ e → (U (c.1 * 512 + k) || G (c.1 * 512 + k)) = false) → e - i + 1 ≤ n →
      (e - i + 1 = n ∨ i = 0 ∨ (U (c.1 * 512 + (i - 1)) || G (c.1 * 512 + (i - 1))) = true) → ∀ w', Sat (ckP E U (fun p => if c.1 * 512 + i ≤ p ∧ p ≤ c.1 * 512 + e then true else G p) c :: Z) w' → K i (e - i + 1) w') :
    F.mallowref8_Chunk_Scavenge E (some ⟨c.2, 0, none⟩) n K w := by
  unfold F.mallowref8_Chunk_Scavenge
  simp only [NC_some, Nat.mul_one]
  have e1 : (Array.replicate 512 (Value.bool false)) = ⟨flags 512 fun _ => false⟩ := by apply Array.ext'; simp only [Array.toList_replicate]; exact replicate_flags 512 false
  rw [e1]
  refine AL_cells H fun b1 w2 H2 _ => ?_
  have hwin : ∀ (v : Int → Bool), Win (flags 512 v) 0 v := fun v => ⟨by rw [flags_len]; omega, fun k h0 h1 => flags_getI (n := 512) h0 h1⟩
  refine LOOP_intro (fun st w' => 0 ≤ st.1 ∧ st.1 ≤ 512 ∧ Sat (Cells b1 E.t_mallowref6_Row (flags 512 fun k => if k < st.1 then (U (c.1 * 512 + k) || G (c.1 * 512 + k)) else false) :: ckP E U G c :: Z) w') (fun st _ => (512 - st.1).toNat) ⟨by decide, by decide, ?_⟩ ?_
  · have : (flags 512 fun k => if k < (0 : Int) then (U (c.1 * 512 + k) || G (c.1 * 512 + k)) else false) = flags 512 fun _ => false := flags_congr fun k h0 _ => by rw [if_neg (by omega)]
    dsimp only; rw [this]; exact H2
  rintro ⟨i, v⟩ _ w4 ⟨i0, i1, H4⟩
  dsimp only at i0 i1 H4 ⊢
  refine CND_dec (fun hlt => ?_) fun hge => ?_
  · have hU := (H4.front 1 rfl).cell ((ck_win0 (U := U) (G := G) c).2 i i0 hlt)
    have hG := (H4.front 1 rfl).cell (o := 512) ((ck_win1 (U := U) (G := G) c).2 i i0 hlt)
    have hG' : w4.cell? (((Addr.mk c.2 0 none).add 512).add i.toNat) = some (.bool (G (c.1 * 512 + i))) := by rw [add_eq c.2 0 512, Nat.zero_add]; exact hG
    rw [i64_id (n := i + 1) (by omega) (by omega)]
    have hstep : ∀ w', Sat (Cells b1 E.t_mallowref6_Row ((flags 512 fun k => if k < i then (U (c.1 * 512 + k) || G (c.1 * 512 + k)) else false).set (0 + i.toNat) (.bool (U (c.1 * 512 + i) || G (c.1 * 512 + i)))) :: ckP E U G c :: Z) w' →
        (0 ≤ i + 1 ∧ i + 1 ≤ 512 ∧ Sat (Cells b1 E.t_mallowref6_Row (flags 512 fun k => if k < i + 1 then (U (c.1 * 512 + k) || G (c.1 * 512 + k)) else false) :: ckP E U G c :: Z) w') ∧ (512 - (i + 1)).toNat < (512 - i).toNat := fun w' h => by
      refine ⟨⟨by omega, by omega, ?_⟩, by omega⟩
      rw [flags_set i0] at h
      have : (flags 512 fun k => if k < i + 1 then (U (c.1 * 512 + k) || G (c.1 * 512 + k)) else false) = flags 512 fun j => if j = i then (U (c.1 * 512 + i) || G (c.1 * 512 + i)) else if j < i then (U (c.1 * 512 + j) || G (c.1 * 512 + j)) else false := flags_congr fun k _ _ => by
        by_cases e : k = i
        · rw [if_pos e, if_pos (by omega), e]
        · rw [if_neg e]
          by_cases e2 : k < i
          · rw [if_pos e2, if_pos (by omega)]
          · rw [if_neg e2, if_neg (by omega)]
      rw [this]; exact h
    refine ⟨⟨i0, hlt⟩, _, hU, CND_intro (fun e => ⟨⟨i0, hlt⟩, st_cell H4 rfl (by rw [flags_len]; omega) fun w8 H8 => hstep w8 ?_⟩) fun e => ⟨⟨i0, hlt⟩, _, hG', ⟨i0, hlt⟩, st_cell H4 rfl (by rw [flags_len]; omega) fun w11 H11 => hstep w11 ?_⟩⟩
    · have e' : U (c.1 * 512 + i) = true := e
      rw [e', Bool.true_or]; exact H8
    · have e' : U (c.1 * 512 + i) = false := e
      rw [e', Bool.false_or]; exact H11
  · have e512 : i = 512 := by omega
    subst e512
    have ef : (flags 512 fun k => if k < (512 : Int) then (U (c.1 * 512 + k) || G (c.1 * 512 + k)) else false) = flags 512 fun k => (U (c.1 * 512 + k) || G (c.1 * 512 + k)) := flags_congr fun k _ h => by rw [if_pos (by omega)]
    rw [ef] at H4
    have hG1 : ∀ {w'}, Sat (Cells b1 E.t_mallowref6_Row (flags 512 fun k => (U (c.1 * 512 + k) || G (c.1 * 512 + k))) :: ckP E U G c :: Z) w' → Sat (ckP E U G c :: Z) w' := fun h => h.tail
    have hlen : ∀ (A B : Int → Bool), (flags 512 A ++ flags 512 B).length = 1024 := fun A B => by rw [List.length_append, flags_len, flags_len]
    refine rlast_spec H4 (hwin _) (by omega) (by omega) (fun hor => ?_) fun hn1 e i h0 h1 h2 h3 h4 h5 h6 => ?_
    · rw [add_eq c.2 0 512, Nat.zero_add]
      refine rput_spec (hG1 H4) (o := 512) (by rw [hlen]; omega) (by omega) (by omega) (by omega) true fun w17 vs' hl hv H17 => hk0 hor w17 ?_
      have : vs' = flags 512 (fun k => U (c.1 * 512 + k)) ++ flags 512 (fun k => G (c.1 * 512 + k)) := by
        apply List.ext_getElem?
        intro j
        rw [hv j, if_neg (by omega)]
      rw [this] at H17
      exact H17
    · rw [add_eq c.2 0 512, Nat.zero_add]
      refine rput_spec (hG1 H4) (o := 512) (by rw [hlen]; omega) (by omega) (by omega) (by omega) true fun w17 vs' hl hv H17 => hk1 hn1 e i h0 h1 h2 h3 h4 h5 h6 w17 ?_
      have : vs' = flags 512 (fun k => U (c.1 * 512 + k)) ++ flags 512 (fun k => if c.1 * 512 + i ≤ c.1 * 512 + k ∧ c.1 * 512 + k ≤ c.1 * 512 + e then true else G (c.1 * 512 + k)) := by
        apply List.ext_getElem?
        intro j
        rw [hv j]
        by_cases g1 : j < 512
        · rw [if_neg (by omega), List.getElem?_append_left (by rw [flags_len]; omega), List.getElem?_append_left (by rw [flags_len]; omega)]
        · by_cases g2 : j < 1024
          · rw [List.getElem?_append_right (by rw [flags_len]; omega), List.getElem?_append_right (by rw [flags_len]; omega), flags_len, flags_get (by omega), flags_get (by omega)]
            by_cases g3 : 512 + i.toNat ≤ j ∧ j < 512 + (i + (e - i + 1)).toNat
            · rw [if_pos g3, if_pos (by omega)]
            · rw [if_neg g3, if_neg (by omega)]
          · rw [if_neg (by omega), List.getElem?_eq_none (by rw [hlen]; omega), List.getElem?_eq_none (by rw [hlen]; omega)]
      rw [this] at H17
      exact H17

theorem rscav_spec (H : Sat (RTree E r l :: Z) w) (hT : TInv l) (hok3 : Ok (l 3)) {n : Int} (hn : 0 ≤ n) (hn2 : n < 18446744073709551616) {K : Int → Int → World → Prop}
    (hk1 : l 3 = [] ∨ n = 0 → ∀ w', Sat (RTree E r l :: Z) w' → K 0 0 w')
    (hk2 : n ≠ 0 → ∀ q m, l 3 = m ++ [q] → ∀ p k, k = min (q.2 - max q.1 ((q.2 - 1) / 512 * 512)) n → p = q.2 - k → ∀ w', (∀ l', l' 0 = l 0 → l' 1 = l 1 → l' 2 = addL (l 2) p (p + k) → Sat (RTree E r l' :: Z) w') → K p k w') :
    F.mallowref9_Tree_Scavenge E (some ⟨r, 0, none⟩) n K w := by
  obtain ⟨s, L, U, G, hI, H⟩ := Sat.rtree.1 H
  have back : ∀ {w'}, Sat (rres E r s L U G ++ Z) w' → Sat (RTree E r l :: Z) w' := fun h => Sat.rtree.2 ⟨s, L, U, G, hI, h⟩
  unfold F.mallowref9_Tree_Scavenge
  simp only [NC_some]
  have hll := sorted_len hI.srt hI.rng
  have hlen := rres_len H
  have hidle : ∀ c ∈ L, ∀ k, 0 ≤ k → k < 512 → (mem (l 3) (c.1 * 512 + k) ↔ (U (c.1 * 512 + k) || G (c.1 * 512 + k)) = false) := fun c hc k h0 h1 => by
    have hm : mem (l 0) (c.1 * 512 + k) := (hI.l0 _).2 ⟨c, hc, by omega⟩
    rw [hT.idle, hI.l1, hI.l2, Bool.or_eq_false_iff]
    simp [hm]
  have hin3 : ∀ p, mem (l 3) p → ∃ c ∈ L, c.1 = p / 512 := fun p hp => (hI.l0 p).1 ((hI.l1 p).1 ((hT.idle p).1 hp).1).1
  refine JOIN_st (fun st w' => w' = w ∧ st.1 = min n 512) ?_ ?_
  · exact CND_dec (fun h => ⟨rfl, by dsimp only; omega⟩) fun h => ⟨rfl, by dsimp only; omega⟩
  rintro ⟨mo, v⟩ _ w3 ⟨rfl, hmo⟩
  dsimp only at hmo ⊢
  subst hmo
  refine ⟨s, rres_hdr H, LET_intro fun i0 hi0 => ?_⟩
  rw [i64_id (n := (s.len : Int) - 1) (by omega) (by omega)] at hi0
  rw [i64_id (n := min n 512) (by omega) (by omega)]
  refine LOOP_intro (fun st w' => -1 ≤ st.1 ∧ st.1 < L.length ∧ (n = 0 ∨ ∀ (j : Nat) c, st.1 < (j : Int) → L[j]? = some c → ∀ k, 0 ≤ k → k < 512 → ¬ mem (l 3) (c.1 * 512 + k)) ∧ Sat (rres E r s L U G ++ Z) w') (fun st _ => (st.1 + 1).toNat)
    ⟨by dsimp only; omega, by dsimp only; omega, .inr fun j c hj hc => by have := (List.getElem?_eq_some_iff.1 hc).1; dsimp only at hj; omega, H⟩ ?_
  rintro ⟨i, v⟩ _ w8 ⟨i1, i2, hno, H8⟩
  dsimp only at i1 i2 hno ⊢
  refine CND_dec (fun hge => ⟨s, rres_hdr H8, ?_⟩) fun hlt => ?_
  · have hg := List.getElem?_eq_getElem (show i.toNat < L.length by omega)
    obtain ⟨a, ha, hls, c1, c2⟩ := rres_get H8 hg
    generalize L[i.toNat] = c at hg c1 c2
    have hcm := List.mem_of_getElem? hg
    have hcr := hI.rng c hcm
    rw [ha]
    simp only [NC_some]
    have hii : (0 : Int) ≤ i ∧ i < (s.len : Int) := ⟨hge, by omega⟩
    refine ⟨hii, _, c2, ?_⟩
    refine cscav_spec (rres_chunk H8 hg) (by omega) (by omega) (fun hor w16 H16 => ?_) fun hn1 e i' h0 h1 h2 h3 h4 h5 h6 w16 H16 => ?_
    · refine CND_f (by decide) ?_
      rw [i64_id (n := i - 1) (by omega) (by omega)]
      refine ⟨⟨by omega, by omega, ?_, ?_⟩, by omega⟩
      · rcases hno with h | h
        · exact .inl h
        rcases hor with h' | h'
        · left; omega
        · right
          intro j c' hj hc' k k0 k1 hm
          by_cases ej : (j : Int) = i
          · have : j = i.toNat := by omega
            subst this
            rw [hg] at hc'; cases hc'
            have := h' k k0 k1
            rw [(hidle c hcm k k0 k1).1 hm] at this
            cases this
          · exact h j c' (by omega) hc' k k0 k1 hm
      · have h7 := H16.manyBack hg
        exact h7.perm (List.Perm.trans (.swap _ _ _) (.cons _ (.swap _ _ _)))
    · have hn0 : n ≠ 0 := by omega
      have hno' : ∀ (j : Nat) c, i < (j : Int) → L[j]? = some c → ∀ k, 0 ≤ k → k < 512 → ¬ mem (l 3) (c.1 * 512 + k) := hno.resolve_left hn0
      refine CND_t (decide_eq_true (by omega)) ?_
      have hown := (H16.front 3 rfl).own
      refine ⟨s, (H16.front 2 rfl).cell0 rfl, ?_⟩
      rw [ha]
      simp only [NC_some]
      refine ⟨hii, _, hown.cell ha (parts_get L hg).1, LET_intro fun t ht => ?_⟩
      rw [u64_id (n := c.1 * 512) (by omega) (by omega), u64_id (n := i') (by omega) (by omega), u64_id (n := c.1 * 512 + i') (by omega) (by omega)] at ht
      rw [u64_id (n := e - i' + 1) (by omega) (by omega)]
      -- the last idle page
      have hme : mem (l 3) (c.1 * 512 + e) := (hidle c hcm e (by omega) h2).2 (h4 e h1 (Int.le_refl _))
      have hmi : ∀ k, i' ≤ k → k ≤ e → mem (l 3) (c.1 * 512 + k) := fun k k0 k1 => (hidle c hcm k (by omega) (by omega)).2 (h4 k k0 k1)
      have htop : ∀ p, mem (l 3) p → p ≤ c.1 * 512 + e := fun p hp => by
        obtain ⟨y, hy, hy2⟩ := hin3 p hp
        obtain ⟨j, hj⟩ := List.mem_iff_getElem?.1 hy
        rcases Int.lt_trichotomy (j : Int) i with g | g | g
        · have := List.pairwise_iff_getElem.1 hI.srt j i.toNat (List.getElem?_eq_some_iff.1 hj).1 (List.getElem?_eq_some_iff.1 hg).1 (by omega)
          rw [(List.getElem?_eq_some_iff.1 hj).2, (List.getElem?_eq_some_iff.1 hg).2] at this
          omega
        · have : j = i.toNat := by omega
          subst this
          rw [hg] at hj; cases hj
          refine Classical.byContradiction fun g2 => ?_
          have h7 := (hidle c hcm (p - c.1 * 512) (by omega) (by omega)).1 (by rwa [show c.1 * 512 + (p - c.1 * 512) = p by omega])
          rw [h3 (p - c.1 * 512) (by omega) (by omega)] at h7
          cases h7
        · have h7 := hno' j y g hj (p - y.1 * 512) (by omega) (by omega)
          rw [show y.1 * 512 + (p - y.1 * 512) = p by omega] at h7
          exact absurd hp h7
      obtain ⟨m, q, hmq⟩ : ∃ m q, l 3 = m ++ [q] := by
        rcases List.eq_nil_or_concat (l 3) with h | ⟨m, q, h⟩
        · rw [h] at hme; exact absurd hme (mem_nil _)
        · exact ⟨m, q, by rw [h, List.concat_eq_append]⟩
      have hokq : Ok (m ++ [q]) := by rw [← hmq]; exact hok3
      obtain ⟨_, hokq1, hmlt⟩ := Ok_append.1 hokq
      have hq1 := hokq1.mem List.mem_cons_self
      have hqm : ∀ p, q.1 ≤ p → p < q.2 → mem (l 3) p := fun p a b => by rw [hmq, mem_append]; exact .inr (mem_cons.2 (.inl ⟨a, b⟩))
      have hq2 : q.2 = c.1 * 512 + e + 1 := by
        have g1 := htop (q.2 - 1) (hqm _ (by omega) (by omega))
        rw [hmq, mem_append] at hme
        rcases hme with ⟨y, hy, hy1, hy2⟩ | hme
        · have := hmlt y hy q (by simp); omega
        · rcases mem_cons.1 hme with h | h
          · omega
          · exact absurd h (mem_nil _)
      have hrun : q.1 ≤ c.1 * 512 + i' := by
        obtain ⟨y, hy, hy1, hy2⟩ := mem_run hok3 (a := c.1 * 512 + i') (b := c.1 * 512 + e + 1) (by omega) fun p a b => by
          have := hmi (p - c.1 * 512) (by omega) (by omega)
          rwa [show c.1 * 512 + (p - c.1 * 512) = p by omega] at this
        rw [hmq, List.mem_append] at hy
        rcases hy with hy | hy
        · have := hmlt y hy q (by simp); omega
        · rw [List.mem_singleton] at hy; subst hy; exact hy1
      have hdiv : (q.2 - 1) / 512 * 512 = c.1 * 512 := by omega
      have hk : e - i' + 1 = min (q.2 - max q.1 ((q.2 - 1) / 512 * 512)) n := by
        rw [hdiv]
        rcases h6 with h | h | h
        · by_cases g : n ≤ 512
          · omega
          · omega
        · omega
        · by_cases g : i' = 0
          · omega
          · have : ¬ mem (l 3) (c.1 * 512 + (i' - 1)) := fun hm => by
              rw [(hidle c hcm (i' - 1) (by omega) (by omega)).1 hm] at h; cases h
            have h8 : ¬ (q.1 ≤ c.1 * 512 + (i' - 1)) := fun g => this (hqm _ g (by omega))
            omega
      have hin2 : ∀ p, c.1 * 512 + i' ≤ p → p ≤ c.1 * 512 + e → mem (l 3) p := fun p a b => by
        have := hmi (p - c.1 * 512) (by omega) (by omega)
        rwa [show c.1 * 512 + (p - c.1 * 512) = p by omega] at this
      subst ht
      refine hk2 hn0 q m hmq (c.1 * 512 + i') (e - i' + 1) hk (by omega) w16 fun l' l0 l1 l2 => ?_
      have a2 := addL_spec hI.ok2 (a := c.1 * 512 + i') (b := c.1 * 512 + i' + (e - i' + 1)) (by omega) (by omega) (by omega)
      rw [← l2] at a2
      refine Sat.rtree.2 ⟨s, L, U, fun p => if c.1 * 512 + i' ≤ p ∧ p ≤ c.1 * 512 + e then true else G p, ⟨hI.srt, hI.rng, by rw [l0]; exact hI.ok0, by rw [l1]; exact hI.ok1, a2.1, by rw [l0]; exact hI.l0, by rw [l0, l1]; exact hI.l1, fun p => ?_⟩, ?_⟩
      · rw [a2.2.1, hI.l2, l0]
        by_cases g : c.1 * 512 + i' ≤ p ∧ p ≤ c.1 * 512 + e
        · rw [if_pos g]
          have := (hI.l1 p).1 ((hT.idle p).1 (hin2 p g.1 g.2)).1
          simp [this.1]; omega
        · rw [if_neg g]
          constructor
          · rintro (h | h)
            · exact h
            · omega
          · exact fun h => .inl h
      · have em : Many (ckP E U G) (L.eraseIdx i.toNat) = Many (ckP E U fun p => if c.1 * 512 + i' ≤ p ∧ p ≤ c.1 * 512 + e then true else G p) (L.eraseIdx i.toNat) := by
          refine Many.congr fun y hy => ?_
          have hne : y.1 ≠ c.1 := by
            intro e
            obtain ⟨j, hj⟩ := List.mem_iff_getElem?.1 hy
            rw [List.getElem?_eraseIdx] at hj
            have hil := (List.getElem?_eq_some_iff.1 hg).1
            split at hj
            · rename_i hjl
              have := List.pairwise_iff_getElem.1 hI.srt j i.toNat (by omega) hil hjl
              rw [(List.getElem?_eq_some_iff.1 hj).2, (List.getElem?_eq_some_iff.1 hg).2] at this
              omega
            · rename_i hjl
              obtain ⟨h3, h4⟩ := List.getElem?_eq_some_iff.1 hj
              have := List.pairwise_iff_getElem.1 hI.srt i.toNat (j + 1) hil h3 (by omega)
              rw [h4, (List.getElem?_eq_some_iff.1 hg).2] at this
              omega
          unfold ckP
          congr 2
          refine flags_congr fun k k0 k1 => ?_
          dsimp only
          rw [if_neg (by omega)]
        rw [em] at H16
        exact (H16.manyBack hg).perm (List.Perm.trans (.swap _ _ _) (.cons _ (.swap _ _ _)))
  · refine hk1 ?_ w8 (back H8)
    rcases hno with h | h
    · exact .inr h
    · left
      cases h3 : l 3 with
      | nil => rfl
      | cons y t =>
        exfalso
        have hy := hok3.mem (p := y) (by rw [h3]; simp)
        have hm : mem (l 3) y.1 := ⟨y, by rw [h3]; simp, Int.le_refl _, hy.2.1⟩
        obtain ⟨c, hc, hc2⟩ := hin3 _ hm
        obtain ⟨j, hj⟩ := List.mem_iff_getElem?.1 hc
        have := h j c (by omega) hj (y.1 - c.1 * 512) (by omega) (by omega)
        rw [show c.1 * 512 + (y.1 - c.1 * 512) = y.1 by omega] at this
        exact this hm

end
end Go.Sh

set_option linter.all false
set_option maxRecDepth 4000
set_option maxHeartbeats 1000000
namespace Go.Sh

section
variable {E : Env} {w : World} {Z : List Pr} {r : Nat} {l : Nat → Iv}

/-- What has been counted ahead of a chunk, and what has behind it. -/
theorem gap_sum {L : CL} (hs : SortedC L) {m : Iv} (hm : Ok m) (hin : ∀ p, mem m p → ∃ c ∈ L, c.1 = p / 512) {i : Nat} {c : Int × Nat} (hc : L[i]? = some c) (hc0 : 0 ≤ c.1) {B : Int} (hB0 : 0 ≤ B) (hB : B ≤ c.1 * 512)
    (hbef : ∀ (j : Nat) c', j < i → L[j]? = some c' → (c'.1 + 1) * 512 ≤ B) : cnt m 0 ((c.1 + 1) * 512) = cnt m 0 B + cnt m (c.1 * 512) (c.1 * 512 + 512) := by
  rw [cnt_add (Ok.lts hm) (a := 0) (m := B) (b := (c.1 + 1) * 512) hB0 (by omega), cnt_add (Ok.lts hm) (a := B) (m := c.1 * 512) (b := (c.1 + 1) * 512) hB (by omega)]
  have : cnt m B (c.1 * 512) = 0 := (cnt_none hm hB).2 fun p h1 h2 hp => by
    obtain ⟨y, hy, hy2⟩ := hin p hp
    obtain ⟨j, hj⟩ := List.mem_iff_getElem?.1 hy
    rcases Nat.lt_trichotomy j i with g | g | g
    · have := hbef j y g hj; omega
    · subst g; rw [hc] at hj; have := Option.some.inj hj; subst this; omega
    · have := List.pairwise_iff_getElem.1 hs i j (List.getElem?_eq_some_iff.1 hc).1 (List.getElem?_eq_some_iff.1 hj).1 g
      rw [(List.getElem?_eq_some_iff.1 hc).2, (List.getElem?_eq_some_iff.1 hj).2] at this
      omega
  rw [this, show (c.1 + 1) * 512 = c.1 * 512 + 512 by omega]
  omega

theorem all_sum {L : CL} (hs : SortedC L) {m : Iv} (hm : Ok m) (hin : ∀ p, mem m p → ∃ c ∈ L, c.1 = p / 512) {B : Int} (hB : ∀ c ∈ L, (c.1 + 1) * 512 ≤ B) : cnt m 0 B = tot m :=
  cnt_all (Ok.lts hm) fun p hp => by
    obtain ⟨y, hy, hy2⟩ := hin p hp
    have := hB y hy
    exact ⟨mem_pos hm hp, by omega⟩

theorem rcount_loop {L : CL} {U G : Int → Bool} {s : SlV} (hI : RInv l L U G) (H : Sat (rres E r s L U G ++ Z) w) {m : Iv} (hm : Ok m) (hm0 : ∀ p, mem m p → mem (l 0) p) (F0 : Option Addr → (Int → World → Prop) → World → Prop)
    (hF : ∀ (i : Nat) c, L[i]? = some c → ∀ K, K (cnt m (c.1 * 512) (c.1 * 512 + 512)) w → F0 (some ⟨c.2, 0, none⟩) K w) {K : Int → World → Prop} (hK : K (tot m) w) :
    LOOP (Int × Int × Unit) (0, 0, ()) w fun s1 _ w2 next3 =>
      NC (some (Addr.mk r 0 none)) fun p4 =>
      ∃ x5 : SlV, w2.cell? p4 = some (.slice x5.base x5.len x5.cap) ∧
      CND (decide ((s1.2.1 : Int) < ((x5.len : Nat) : Int))) (
        NC (some (Addr.mk r 0 none)) fun p6 =>
        ∃ x7 : SlV, w2.cell? p6 = some (.slice x7.base x7.len x7.cap) ∧
        NC x7.base fun p8 =>
        ((0 : Int) ≤ s1.2.1 ∧ (s1.2.1 : Int) < (x7.len : Nat)) ∧
        ∃ x9 : (Option Addr), w2.cell? ((p8.add (Int.toNat s1.2.1 * 2)).add 1) = some (.pointer x9) ∧
        F0 x9 (fun r10 w11 =>
        next3 (i64 (s1.1 + r10), i64 (s1.2.1 + 1), ()) w11
        ) w2
      ) (
        K (u64 (s1.1)) w2
      ) := by
  have hll := sorted_len hI.srt hI.rng
  have hlen := rres_len H
  have hin : ∀ p, mem m p → ∃ c ∈ L, c.1 = p / 512 := fun p hp => (hI.l0 p).1 (hm0 p hp)
  simp only [NC_some]
  have hcb : ∀ {B : Int}, 0 ≤ B → 0 ≤ cnt m 0 B ∧ cnt m 0 B ≤ B := fun h => ⟨cnt_nonneg _ _ _, by have := cnt_split hm h; omega⟩
  refine LOOP_intro (fun st w' => w' = w ∧ ∃ (i : Nat) (B : Int), st.2.1 = (i : Int) ∧ i ≤ L.length ∧ 0 ≤ B ∧ B ≤ 34359738368 ∧ st.1 = cnt m 0 B ∧ (∀ (j : Nat) c', j < i → L[j]? = some c' → (c'.1 + 1) * 512 ≤ B) ∧ (∀ (j : Nat) c', i ≤ j → L[j]? = some c' → B ≤ c'.1 * 512)) (fun st _ => (L.length - st.2.1).toNat)
    ⟨rfl, 0, 0, rfl, Nat.zero_le _, by decide, by decide, ?_, fun j c' h => by omega, fun j c' _ h => by have := hI.rng c' (List.mem_of_getElem? h); omega⟩ ?_
  · exact ((cnt_none hm (Int.le_refl _)).2 fun k h1 h2 => by omega).symm
  rintro ⟨n, i', v⟩ _ w2 ⟨rfl, i, B, hi, hil, hB0, hB1, hn, hbef, haft⟩
  dsimp only at hi hn ⊢
  subst hi; subst hn
  have hbB := hcb hB0
  refine ⟨s, rres_hdr H, CND_dec (fun hlt => ⟨s, rres_hdr H, ?_⟩) fun hge => ?_⟩
  · have hg := List.getElem?_eq_getElem (show i < L.length by omega)
    obtain ⟨a, ha, hls, c1, c2⟩ := rres_get H hg
    generalize L[i] = c at hg c1 c2
    have hcr := hI.rng c (List.mem_of_getElem? hg)
    rw [ha]
    simp only [NC_some, Int.toNat_natCast]
    refine ⟨⟨by omega, by omega⟩, _, c2, hF i c hg _ ?_⟩
    have hgs := gap_sum hI.srt hm hin hg hcr.1 hB0 (haft i c (Nat.le_refl _) hg) hbef
    have hb2 := hcb (B := (c.1 + 1) * 512) (by omega)
    rw [i64_id (n := (i : Int) + 1) (by omega) (by omega), ← hgs, i64_id (by omega) (by omega)]
    refine ⟨⟨by trivial, i + 1, (c.1 + 1) * 512, by omega, by omega, by omega, by omega, by trivial, fun j c' hj hc' => ?_, fun j c' hj hc' => ?_⟩, by omega⟩
    · by_cases e : j = i
      · subst e; rw [hg] at hc'; have := Option.some.inj hc'; subst this; omega
      · have := List.pairwise_iff_getElem.1 hI.srt j i (List.getElem?_eq_some_iff.1 hc').1 (List.getElem?_eq_some_iff.1 hg).1 (by omega)
        rw [(List.getElem?_eq_some_iff.1 hc').2, (List.getElem?_eq_some_iff.1 hg).2] at this
        omega
    · have := List.pairwise_iff_getElem.1 hI.srt i j (List.getElem?_eq_some_iff.1 hg).1 (List.getElem?_eq_some_iff.1 hc').1 (by omega)
      rw [(List.getElem?_eq_some_iff.1 hc').2, (List.getElem?_eq_some_iff.1 hg).2] at this
      omega
  · rw [u64_id (by omega) (by omega), all_sum hI.srt hm hin fun c hc => by
      obtain ⟨j, hj⟩ := List.mem_iff_getElem?.1 hc
      have := (List.getElem?_eq_some_iff.1 hj).1
      exact hbef j c (by omega) hj]
    exact hK

theorem rfree_spec (H : Sat (RTree E r l :: Z) w) {K : Int → World → Prop} (hK : K (tot (l 1)) w) : F.mallowref9_Tree_Free E (some ⟨r, 0, none⟩) K w := by
  obtain ⟨s, L, U, G, hI, H⟩ := Sat.rtree.1 H
  unfold F.mallowref9_Tree_Free
  refine rcount_loop hI H hI.ok1 (fun p hp => ((hI.l1 p).1 hp).1) (F.mallowref8_Chunk_Free E) (fun i c hc K hK => ?_) hK
  unfold F.mallowref8_Chunk_Free
  simp only [NC_some]
  refine rcount_spec (rres_chunk H hc) (ck_win0 c) ?_
  have hcm := List.mem_of_getElem? hc
  rw [cu_not hI.ok1 (fr := c.1 * 512) fun k h0 h1 => by
    rw [hI.l1]
    have : mem (l 0) (c.1 * 512 + k) := (hI.l0 _).2 ⟨c, hcm, by omega⟩
    cases U (c.1 * 512 + k) <;> simp [this]]
  have := cnt_nonneg (l 1) (c.1 * 512) (c.1 * 512 + 512)
  have h2 := cnt_split hI.ok1 (a := c.1 * 512) (b := c.1 * 512 + 512) (by omega)
  have e : c.1 * 512 + ((512 : Nat) : Int) = c.1 * 512 + 512 := by omega
  rw [e, i64_id (by omega) (by omega)]
  rw [show 512 - (((512 : Nat) : Int) - cnt (l 1) (c.1 * 512) (c.1 * 512 + 512)) = cnt (l 1) (c.1 * 512) (c.1 * 512 + 512) by omega]
  exact hK

theorem rreleased_spec (H : Sat (RTree E r l :: Z) w) {K : Int → World → Prop} (hK : K (tot (l 2)) w) : F.mallowref9_Tree_Released E (some ⟨r, 0, none⟩) K w := by
  obtain ⟨s, L, U, G, hI, H⟩ := Sat.rtree.1 H
  unfold F.mallowref9_Tree_Released
  refine rcount_loop hI H hI.ok2 (fun p hp => ((hI.l2 p).1 hp).1) (F.mallowref8_Chunk_Released E) (fun i c hc K hK => ?_) hK
  unfold F.mallowref8_Chunk_Released
  simp only [NC_some]
  rw [add_eq, Nat.zero_add]
  refine rcount_spec (rres_chunk H hc) (ck_win1 c) ?_
  have hcm := List.mem_of_getElem? hc
  rw [cu_mem hI.ok2 (fr := c.1 * 512) fun k h0 h1 => by
    rw [hI.l2]
    have : mem (l 0) (c.1 * 512 + k) := (hI.l0 _).2 ⟨c, hcm, by omega⟩
    simp [this]]
  exact hK

theorem rFirst_spec (H : Sat (RTree E r l :: Z) w) {K : Int → Bool → World → Prop} (hK : ∀ w', Sat (RTree E r l :: Z) w' → K ((findL (l 1) 1).getD 0) (findL (l 1) 1).isSome w') : F.mallowref9_Tree_First E (some ⟨r, 0, none⟩) K w := by
  unfold F.mallowref9_Tree_First
  exact rFind_spec H (by decide) (by decide) fun w' h => hK w' h

end
end Go.Sh

set_option linter.all false
set_option maxRecDepth 4000
set_option maxHeartbeats 2000000
namespace Go.Sh

/-! ### The document's tree, told by its pages -/

def RTV (E : Env) (r : Nat) (V : TV) : Pr := Ex fun l : Nat → Iv => Where (LV l V ∧ ∀ i, i < 4 → Ok (l i)) (RTree E r l)

section
variable {E : Env} {w : World} {Z : List Pr} {r t : Nat} {V : TV} {l : Nat → Iv}

theorem Sat.rtv : Sat (RTV E r V :: Z) w ↔ ∃ l, (LV l V ∧ ∀ i, i < 4 → Ok (l i)) ∧ Sat (RTree E r l :: Z) w := by
  unfold RTV
  rw [Sat.ex]
  constructor
  · rintro ⟨l, h⟩; exact ⟨l, Sat.where.1 h⟩
  · rintro ⟨l, h⟩; exact ⟨l, Sat.where.2 h⟩

theorem LV.congr {l l' : Nat → Iv} (h : LV l V) (h0 : l' 0 = l 0) (h1 : l' 1 = l 1) (h2 : l' 2 = l 2) : LV l' V := ⟨by rw [h0]; exact h.i, by rw [h1]; exact h.f, by rw [h2]; exact h.r⟩

theorem rtv_of (h : LV l V) (hok : ∀ i, i < 3 → Ok (l i)) (H : ∀ l', l' 0 = l 0 → l' 1 = l 1 → l' 2 = l 2 → Sat (RTree E r l' :: Z) w) : Sat (RTV E r V :: Z) w := by
  refine Sat.rtv.2 ⟨fun i => if i < 3 then l i else [], ⟨h.congr rfl rfl rfl, fun i hi => ?_⟩, H _ rfl rfl rfl⟩
  by_cases g : i < 3
  · show Ok (if i < 3 then l i else []); rw [if_pos g]; exact hok i g
  · show Ok (if i < 3 then l i else []); rw [if_neg g]; trivial

theorem pair_get (H : Sat (TreeV E t V :: RTV E r V :: Z) w) : ∃ l, LV l V ∧ TInv l ∧ (∀ i, i < 4 → Ok (l i)) ∧ Sat (TreeP E t l :: RTree E r l :: Z) w := by
  obtain ⟨l, h, H1⟩ := Sat.treeV.1 H
  have ht := H1.treeInv
  obtain ⟨l', ⟨h', hok'⟩, H2⟩ := Sat.rtv.1 (H1.perm (.swap _ _ _))
  have e0 : l 0 = l' 0 := Ok_ext (ht.2 0 (by decide)) (hok' 0 (by decide)) fun n => by rw [h.i, h'.i]
  have e1 : l 1 = l' 1 := Ok_ext (ht.2 1 (by decide)) (hok' 1 (by decide)) fun n => by rw [h.f, h'.f]
  have e2 : l 2 = l' 2 := Ok_ext (ht.2 2 (by decide)) (hok' 2 (by decide)) fun n => by rw [h.r, h'.r]
  exact ⟨l, h, ht.1, ht.2, (H2.rcongr e0 e1 e2).perm (.swap _ _ _)⟩

theorem pair_put (h : LV l V) (hok : ∀ i, i < 3 → Ok (l i)) (H : Sat (TreeP E t l :: Z) w) (H2 : ∀ l', l' 0 = l 0 → l' 1 = l 1 → l' 2 = l 2 → Sat (RTree E r l' :: TreeP E t l :: Z) w) : Sat (TreeV E t V :: RTV E r V :: Z) w := by
  have h1 : Sat (RTV E r V :: TreeP E t l :: Z) w := rtv_of h hok H2
  exact Sat.treeV.2 ⟨l, h, h1.perm (.swap _ _ _)⟩

/-- What the tree's pages say, of the document's. -/
theorem rvstate_spec (H : Sat (RTV E r V :: Z) w) {p : Int} (hp : 0 ≤ p) (hp2 : p < 18446744073709551616) {K : Bool → Bool → Bool → World → Prop} (hK : ∀ w', Sat (RTV E r V :: Z) w' → K (V.inn p) (V.fr p) (V.rl p) w') :
    F.mallowref9_Tree_State E (some ⟨r, 0, none⟩) p K w := by
  obtain ⟨l, hl, H⟩ := Sat.rtv.1 H
  obtain ⟨s, L, U, G, hI, H⟩ := Sat.rtree.1 H
  refine rstate_spec hI H hp hp2 fun w' r0 r1 r2 h0 h1 h2 H' => ?_
  have e0 : r0 = V.inn p := Bool.eq_iff_iff.2 (h0.trans (hl.1.i p))
  have e1 : r1 = V.fr p := Bool.eq_iff_iff.2 (h1.trans (hl.1.f p))
  have e2 : r2 = V.rl p := Bool.eq_iff_iff.2 (h2.trans (hl.1.r p))
  rw [e0, e1, e2]
  exact hK w' (Sat.rtv.2 ⟨l, hl, Sat.rtree.2 ⟨s, L, U, G, hI, H'⟩⟩)

theorem rvfree_spec (H : Sat (RTV E r V :: Z) w) {K : Int → World → Prop} (hK : K (NT V.fr) w) : F.mallowref9_Tree_Free E (some ⟨r, 0, none⟩) K w := by
  obtain ⟨l, hl, H⟩ := Sat.rtv.1 H
  refine rfree_spec H ?_
  rw [← NT_eq (hl.2 1 (by decide)) hl.1.f]; exact hK
theorem rvreleased_spec (H : Sat (RTV E r V :: Z) w) {K : Int → World → Prop} (hK : K (NT V.rl) w) : F.mallowref9_Tree_Released E (some ⟨r, 0, none⟩) K w := by
  obtain ⟨l, hl, H⟩ := Sat.rtv.1 H
  refine rreleased_spec H ?_
  rw [← NT_eq (hl.2 2 (by decide)) hl.1.r]; exact hK

theorem rvfirst_spec (H : Sat (RTV E r V :: Z) w) (hlim : ∀ p, V.fr p = true → 0 ≤ p ∧ p < 34359738368) {K : Int → Bool → World → Prop} (hk0 : (∀ p, V.fr p = false) → ∀ w', Sat (RTV E r V :: Z) w' → K 0 false w')
    (hk1 : ∀ p, firstB V 1 p → ∀ w', Sat (RTV E r V :: Z) w' → K p true w') : F.mallowref9_Tree_First E (some ⟨r, 0, none⟩) K w := by
  obtain ⟨l, hl, H⟩ := Sat.rtv.1 H
  refine rFirst_spec H fun w' H' => ?_
  have HV := Sat.rtv.2 ⟨l, hl, H'⟩
  cases hf : findL (l 1) 1 with
  | none =>
    refine hk0 (fun p => ?_) w' HV
    cases g : V.fr p with
    | false => rfl
    | true => exact absurd ((rowIn_iff hl.1).2 fun m a c => by rw [show m = p by omega]; exact g) (findL_none (hl.2 1 (by decide)) (by decide) hf p)
  | some p =>
    obtain ⟨h1, h2⟩ := findL_some (hl.2 1 (by decide)) (by decide) hf
    have h1' := (rowIn_iff hl.1).1 h1
    have := hlim p (h1' p (Int.le_refl _) (by omega))
    exact hk1 p ⟨this.1, by omega, h1', fun p' hp' => h2 p' ((rowIn_iff hl.1).2 hp')⟩ w' HV

theorem rvtake1_spec (H : Sat (RTV E r V :: Z) w) {p : Int} (hp : 0 ≤ p) (hp2 : p < 34359738368) (hi : V.inn p = true) (hf : V.fr p = true) {K : Int → Int → World → Prop} (hK : ∀ x y w', Sat (RTV E r (V.take p 1) :: Z) w' → K x y w') :
    F.mallowref9_Tree_Take E (some ⟨r, 0, none⟩) p 1 K w := by
  obtain ⟨l, ⟨hl, hok⟩, H⟩ := Sat.rtv.1 H
  have hr : inRow V p 1 := ⟨by decide, by omega, fun m a b => by rw [show m = p by omega]; exact hi⟩
  have h0 : lookedR l p 1 true 32 = 0 := (lookV hl hok hp (by decide) true (e := 32) (by decide)).2.2.1 hr rfl fun m a b => by rw [show m = p by omega]; exact hf
  refine rtake_spec H hp (by omega) (by decide) (by decide) (fun h => absurd h0 h) fun _ w' H' => hK _ _ w' (rtv_of (l := Sh.takeT l p 1) (hl.takeT (by decide)) (fun i hi => ?_) fun l' e0 e1 e2 => H' l' e0 e1 e2)
  have h3 : i = 0 ∨ i = 1 ∨ i = 2 := by omega
  rcases h3 with rfl | rfl | rfl
  · exact hok 0 (by decide)
  · exact Ok_cutL (hok 1 (by decide)) (by omega)
  · exact Ok_cutL (hok 2 (by decide)) (by omega)

theorem rvgive1_spec (H : Sat (RTV E r V :: Z) w) (hrf : ∀ p, V.rl p = true → V.fr p = true) {p : Int} {g : Bool} (hp : 0 ≤ p) (hp2 : p < 34359738368) (hi : V.inn p = true) (hf : V.fr p = false) {K : Int → World → Prop}
    (hK : ∀ w', Sat (RTV E r (if g then V.back p 1 else V.give p 1) :: Z) w' → K 0 w') :
    F.mallowref9_Tree_Give E (some ⟨r, 0, none⟩) p 1 g K w := by
  obtain ⟨l, ⟨hl, hok⟩, H⟩ := Sat.rtv.1 H
  have hr : inRow V p 1 := ⟨by decide, by omega, fun m a b => by rw [show m = p by omega]; exact hi⟩
  have h0 : lookedR l p 1 false 31 = 0 := (lookV hl hok hp (by decide) false (e := 31) (by decide)).2.2.2.2 hr rfl fun m a b => by rw [show m = p by omega]; exact hf
  have hg := hl.giveT hok hp (n := 1) (by decide) (by omega)
  refine rgive_spec H (fun q hq => (hl.f q).2 (hrf q ((hl.r q).1 hq))) hp (by omega) (by decide) (by decide) (fun h => absurd h0 h) fun _ w' H' => hK w' ?_
  have o1 := (addL_spec (hok 1 (by decide)) (a := p) (b := p + 1) (by omega) hp (by omega)).1
  have o2 := (addL_spec (hok 2 (by decide)) (a := p) (b := p + 1) (by omega) hp (by omega)).1
  cases g
  · refine rtv_of (l := Sh.giveT l 3 p 1) hg.1 (fun i hi => ?_) fun l' e0 e1 e2 => H' l' e0 e1 e2
    have h3 : i = 0 ∨ i = 1 ∨ i = 2 := by omega
    rcases h3 with rfl | rfl | rfl
    · exact hok 0 (by decide)
    · exact o1
    · exact hok 2 (by decide)
  · refine rtv_of (l := Sh.giveT l 2 p 1) hg.2 (fun i hi => ?_) fun l' e0 e1 e2 => H' l' e0 e1 e2
    have h3 : i = 0 ∨ i = 1 ∨ i = 2 := by omega
    rcases h3 with rfl | rfl | rfl
    · exact hok 0 (by decide)
    · exact o1
    · exact o2
end

/-! ### The document's cache -/

def qcells (B : Int) (u g : Int → Bool) : List Value := .int .u64 B :: (flags 64 u ++ flags 64 g)

structure QInv (S : CS) (B : Int) (u g : Int → Bool) : Prop where
  b0 : 0 ≤ B
  b1 : B + 64 ≤ 34359738368
  bs : ¬ S.empty → B = S.base
  hs : ∀ i : Nat, i < 64 → u i = S.has i
  rl : ∀ i : Nat, i < 64 → S.rel i = (S.has i && g i)
  hz : ∀ i : Nat, 64 ≤ i → S.has i = false

def RCP (E : Env) (q : Nat) (S : CS) : Pr := Ex fun x : Int × (Int → Bool) × (Int → Bool) => Where (QInv S x.1 x.2.1 x.2.2) (Cells q E.t_mallowref10_Cache (qcells x.1 x.2.1 x.2.2))

section
variable {E : Env} {w : World} {Z : List Pr} {r t q c b ty : Nat} {V : TV} {S : CS} {B : Int} {u g : Int → Bool}

theorem Sat.rcp : Sat (RCP E q S :: Z) w ↔ ∃ B u g, QInv S B u g ∧ Sat (Cells q E.t_mallowref10_Cache (qcells B u g) :: Z) w := by
  unfold RCP
  rw [Sat.ex]
  constructor
  · rintro ⟨⟨B, u, g⟩, h⟩; exact ⟨B, u, g, Sat.where.1 h⟩
  · rintro ⟨B, u, g, h⟩; exact ⟨⟨B, u, g⟩, Sat.where.2 h⟩

theorem qget1 {i : Int} (h0 : 0 ≤ i) (h1 : i < 64) : (qcells B u g)[1 + i.toNat]? = some (.bool (u i)) := by
  show (Value.int .u64 B :: (flags 64 u ++ flags 64 g))[1 + i.toNat]? = _
  rw [Nat.add_comm, List.getElem?_cons_succ, List.getElem?_append_left (by rw [flags_len]; omega)]
  have := flags_getI (n := 64) (u := u) h0 (by omega)
  rwa [Nat.zero_add] at this
theorem qget2 {i : Int} (h0 : 0 ≤ i) (h1 : i < 64) : (qcells B u g)[65 + i.toNat]? = some (.bool (g i)) := by
  show (Value.int .u64 B :: (flags 64 u ++ flags 64 g))[65 + i.toNat]? = _
  rw [show 65 + i.toNat = (64 + i.toNat) + 1 by omega, List.getElem?_cons_succ, List.getElem?_append_right (by rw [flags_len]; omega), flags_len, show 64 + i.toNat - 64 = i.toNat by omega]
  have := flags_getI (n := 64) (u := g) h0 (by omega)
  rwa [Nat.zero_add] at this
theorem qset1 {i : Int} (h0 : 0 ≤ i) (h1 : i < 64) (x : Bool) : (qcells B u g).set (1 + i.toNat) (.bool x) = qcells B (fun j => if j = i then x else u j) g := by
  unfold qcells
  rw [Nat.add_comm, List.set_cons_succ, List.set_append_left _ _ (by rw [flags_len]; omega)]
  have := flags_set (n := 64) (u := u) h0 x
  rw [Nat.zero_add] at this
  rw [this]
theorem qset2 {i : Int} (h0 : 0 ≤ i) (h1 : i < 64) (x : Bool) : (qcells B u g).set (65 + i.toNat) (.bool x) = qcells B u (fun j => if j = i then x else g j) := by
  unfold qcells
  rw [show 65 + i.toNat = (64 + i.toNat) + 1 by omega, List.set_cons_succ, List.set_append_right _ _ (by rw [flags_len]; omega), flags_len, show 64 + i.toNat - 64 = i.toNat by omega]
  have := flags_set (n := 64) (u := g) h0 x
  rw [Nat.zero_add] at this
  rw [this]
theorem qlen : (qcells B u g).length = 129 := by simp [qcells, flags_len]

theorem qhas (H : Sat (Cells q ty (qcells B u g) :: Z) w) {i : Int} (h0 : 0 ≤ i) (h1 : i < 64) : w.cell? (((Addr.mk q 0 none).add 1).add (i.toNat * 1)) = some (.bool (u i)) := by
  rw [add_add, Nat.mul_one]
  exact H.cell (o := 0) (m := 1 + i.toNat) (by rw [Nat.zero_add]; exact qget1 h0 h1)
theorem qgone (H : Sat (Cells q ty (qcells B u g) :: Z) w) {i : Int} (h0 : 0 ≤ i) (h1 : i < 64) : w.cell? (((Addr.mk q 0 none).add 65).add (i.toNat * 1)) = some (.bool (g i)) := by
  rw [add_add, Nat.mul_one]
  exact H.cell (o := 0) (m := 65 + i.toNat) (by rw [Nat.zero_add]; exact qget2 h0 h1)
theorem qst1 (H : Sat (Cells q ty (qcells B u g) :: Z) w) {i : Int} (h0 : 0 ≤ i) (h1 : i < 64) {x : Bool} {K : World → Prop} (hK : ∀ w', Sat (Cells q ty (qcells B (fun j => if j = i then x else u j) g) :: Z) w' → K w') :
    stCells (((Addr.mk q 0 none).add 1).add (i.toNat * 1)) 0 [.bool x] w K := by
  rw [add_add, Nat.mul_one]
  refine st_cell H (o := 0) (m := 1 + i.toNat) rfl (by rw [qlen]; omega) fun w' H' => hK w' ?_
  rw [Nat.zero_add, qset1 h0 h1] at H'
  exact H'
theorem qst2 (H : Sat (Cells q ty (qcells B u g) :: Z) w) {i : Int} (h0 : 0 ≤ i) (h1 : i < 64) {x : Bool} {K : World → Prop} (hK : ∀ w', Sat (Cells q ty (qcells B u (fun j => if j = i then x else g j)) :: Z) w' → K w') :
    stCells (((Addr.mk q 0 none).add 65).add (i.toNat * 1)) 0 [.bool x] w K := by
  rw [add_add, Nat.mul_one]
  refine st_cell H (o := 0) (m := 65 + i.toNat) rfl (by rw [qlen]; omega) fun w' H' => hK w' ?_
  rw [Nat.zero_add, qset2 h0 h1] at H'
  exact H'

theorem qempty_spec (H : Sat (RCP E q S :: Z) w) {K : Bool → World → Prop} (hk1 : S.empty → K true w) (hk0 : ¬ S.empty → K false w) : F.mallowref10_Cache_Empty E (some ⟨q, 0, none⟩) K w := by
  obtain ⟨B, u, g, hI, H⟩ := Sat.rcp.1 H
  unfold F.mallowref10_Cache_Empty
  simp only [NC_some]
  refine LOOP_intro (fun st w' => ∃ i : Nat, st.1 = i ∧ i ≤ 64 ∧ (∀ k : Nat, k < i → S.has k = false) ∧ w' = w) (fun st _ => (64 - st.1).toNat) ⟨0, rfl, by decide, fun k hk => by omega, rfl⟩ ?_
  rintro ⟨i', v⟩ _ w2 ⟨i, hi, hile, hno, rfl⟩
  dsimp only at hi ⊢
  subst hi
  refine CND_dec (fun hlt => ⟨⟨by omega, by omega⟩, _, qhas H (by omega) (by omega), CND_intro (fun e => hk0 fun h => ?_) fun e => ?_⟩) fun hge => hk1 fun k => ?_
  · rw [hI.hs i (by omega)] at e; rw [h i] at e; cases e
  · rw [i64_id (n := (i : Int) + 1) (by omega) (by omega)]
    refine ⟨⟨i + 1, by omega, by omega, fun k hk => ?_, by trivial⟩, by omega⟩
    rcases Nat.lt_or_eq_of_le (Nat.le_of_lt_succ hk) with g | g
    · exact hno k g
    · subst g; rw [← hI.hs k (by omega)]; exact e
  · rcases Nat.lt_or_ge k 64 with g | g
    · exact hno k (by omega)
    · exact hI.hz k g

theorem W_cons (u : Nat → Bool) : W u = (if u 0 then 1 else 0) + 2 * W (fun k => decide (k + 1 < 64) && u (k + 1)) := by
  have h1 := W_shr u (n := 1) (by decide) (by decide)
  have h2 : (wN u 64).testBit 0 = (decide (0 < 64) && u 0) := wN_bit u 64 0
  have e1 : Int.fdiv (W u) (2 ^ (min (1 : Int).toNat (IntKind.bits .u64))) = W u / 2 := by
    show Int.fdiv (W u) 2 = _
    rw [Int.fdiv_eq_ediv_of_nonneg _ (by decide)]
  rw [e1] at h1
  have e2 : (1 : Int).toNat = 1 := rfl
  rw [e2] at h1
  rw [← h1]
  unfold W
  rw [Nat.testBit_zero] at h2
  by_cases g : u 0 = true
  · rw [g] at h2 ⊢
    have : wN u 64 % 2 = 1 := by simpa using h2
    rw [if_pos rfl]; omega
  · have g : u 0 = false := by simpa using g
    rw [g] at h2 ⊢
    have : ¬ wN u 64 % 2 = 1 := by simpa using h2
    rw [if_neg (by decide)]; omega

/-- The bits from one on. -/
def from_ (u : Nat → Bool) (j : Nat) : Nat → Bool := fun k => decide (k + j < 64) && u (k + j)
theorem from_step (u : Nat → Bool) {j : Nat} (hj : j < 64) : W (from_ u j) = (if u j then 1 else 0) + 2 * W (from_ u (j + 1)) := by
  rw [W_cons]
  have e : from_ u j 0 = u j := by unfold from_; simp [hj]
  rw [e]
  congr 2
  refine W_congr fun k hk => ?_
  unfold from_
  rw [show k + 1 + j = k + (j + 1) by omega]
  by_cases g : k + (j + 1) < 64
  · simp [g, show k + 1 < 64 by omega]
  · simp [g]
theorem from_64 (u : Nat → Bool) : W (from_ u 64) = 0 := by
  rw [W_eq_zero]; intro i hi; unfold from_; rw [decide_eq_false (by omega)]; rfl
theorem from_0 (u : Nat → Bool) : W (from_ u 0) = W u := W_congr fun k hk => by unfold from_; simp [hk]

theorem qtell_spec (H : Sat (RCP E q S :: Z) w) {K : Int → Int → Int → World → Prop} (hk0 : S.empty → K 0 0 0 w) (hk1 : ¬ S.empty → K S.base (W S.has) (W S.rel) w) : F.mallowref10_Cache_Tell E (some ⟨q, 0, none⟩) K w := by
  unfold F.mallowref10_Cache_Tell
  refine qempty_spec H (fun h => CND_t rfl (hk0 h)) fun hne => CND_f rfl ?_
  obtain ⟨B, u, g, hI, H⟩ := Sat.rcp.1 H
  simp only [NC_some]
  refine LOOP_intro (fun st w' => ∃ j : Nat, st.2.2.1 = (j : Int) - 1 ∧ j ≤ 64 ∧ st.1 = W (from_ S.has j) ∧ st.2.1 = W (from_ S.rel j) ∧ w' = w) (fun st _ => (st.2.2.1 + 1).toNat) ⟨64, rfl, by decide, (from_64 _).symm, (from_64 _).symm, rfl⟩ ?_
  rintro ⟨a, b, i', v⟩ _ w4 ⟨j, hj, hj64, ha, hb, rfl⟩
  dsimp only at hj ha hb ⊢
  subst hj
  refine CND_dec (fun hge => ?_) fun hlt => ?_
  · obtain ⟨i, rfl⟩ : ∃ i, j = i + 1 := ⟨j - 1, by omega⟩
    have e : ((i + 1 : Nat) : Int) - 1 = (i : Int) := by omega
    rw [e]
    have s1 := from_step S.has (j := i) (by omega)
    have s2 := from_step S.rel (j := i) (by omega)
    rw [← ha] at s1
    rw [← hb] at s2
    have b1 := W_bnd (from_ S.has i)
    have b2 := W_bnd (from_ S.rel i)
    have hrl := hI.rl i (by omega)
    have hhs := hI.hs i (by omega)
    have n1 : 0 ≤ a := by rw [ha]; exact (W_bnd _).1
    have n2 : 0 ≤ b := by rw [hb]; exact (W_bnd _).1
    rw [i64_id (n := (i : Int) - 1) (by omega) (by omega)]
    refine ⟨⟨by omega, by omega⟩, _, qhas H (by omega) (by omega), CND_intro (fun e1 => LET_intro fun a' ha' => ⟨⟨by omega, by omega⟩, _, qgone H (by omega) (by omega), CND_intro (fun e2 => LET_intro fun b' hb' => ?_) fun e2 => ?_⟩) fun e1 => ?_⟩
    · rw [hhs] at e1
      rw [e1, e2] at hrl
      rw [e1, if_pos rfl] at s1
      rw [hrl] at s2
      simp at s2
      rw [u64_id (n := 2 * a) (by omega) (by omega), u64_id (by omega) (by omega)] at ha'
      rw [u64_id (n := 2 * b) (by omega) (by omega), u64_id (by omega) (by omega)] at hb'
      exact ⟨⟨i, rfl, by omega, by omega, by omega, by trivial⟩, by omega⟩
    · rw [hhs] at e1
      rw [e1, e2] at hrl
      rw [e1, if_pos rfl] at s1
      rw [hrl] at s2
      simp at s2
      rw [u64_id (n := 2 * a) (by omega) (by omega), u64_id (by omega) (by omega)] at ha'
      rw [u64_id (n := 2 * b) (by omega) (by omega)]
      exact ⟨⟨i, rfl, by omega, by omega, by omega, by trivial⟩, by omega⟩
    · rw [hhs] at e1
      rw [e1] at hrl s1
      rw [hrl] at s2
      simp at s1 s2
      rw [u64_id (n := 2 * a) (by omega) (by omega), u64_id (n := 2 * b) (by omega) (by omega)]
      exact ⟨⟨i, rfl, by omega, by omega, by omega, by trivial⟩, by omega⟩
  · have j0 : j = 0 := by omega
    subst j0
    rw [from_0] at ha hb
    subst ha; subst hb
    have hcell := H.cell0 (o := 0) (v := .int .u64 B) rfl
    rw [← hI.bs hne] at hk1
    exact ⟨B, hcell, hk1 hne⟩

theorem CS.own_iff (S : CS) (p : Int) : S.own p = true ↔ S.base ≤ p ∧ p < S.base + 64 ∧ S.has (p - S.base).toNat = true := by
  unfold CS.own
  rw [Bool.and_eq_true, inr_iff]
  exact ⟨fun h => ⟨h.1.1, h.1.2, h.2⟩, fun h => ⟨⟨h.1, h.2.1⟩, h.2.2⟩⟩

theorem qowns_spec (H : Sat (RCP E q S :: Z) w) {p : Int} (hp : 0 ≤ p) (hp2 : p < 18446744073709551616) {K : Bool → World → Prop} (hK : ∀ w', Sat (RCP E q S :: Z) w' → K (S.own p) w') : F.mallowref10_Cache_Owns E (some ⟨q, 0, none⟩) p K w := by
  have hK' := hK _ H.drew
  obtain ⟨B, u, g, hI, H⟩ := Sat.rcp.1 H
  unfold F.mallowref10_Cache_Owns
  have Hd := H.drew
  have hcell := Hd.cell0 (o := 0) (v := .int .u64 B) rfl
  have hb0 := hI.b0
  simp only [NC_some]
  have hown : S.own p = true ↔ B ≤ p ∧ p < B + 64 ∧ u (p - B) = true := by
    by_cases he : S.empty
    · constructor
      · intro h; have := ((CS.own_iff S p).1 h).2.2; rw [he] at this; cases this
      · rintro ⟨h1, h2, h3⟩
        have := hI.hs (p - B).toNat (by omega)
        rw [show (((p - B).toNat : Nat) : Int) = p - B by omega, h3, he] at this; cases this
    · rw [CS.own_iff, ← hI.bs he]
      constructor
      · rintro ⟨h1, h2, h3⟩
        refine ⟨h1, h2, ?_⟩
        have := hI.hs (p - B).toNat (by omega)
        rw [show (((p - B).toNat : Nat) : Int) = p - B by omega] at this
        rw [this]; exact h3
      · rintro ⟨h1, h2, h3⟩
        refine ⟨h1, h2, ?_⟩
        have := hI.hs (p - B).toNat (by omega)
        rw [show (((p - B).toNat : Nat) : Int) = p - B by omega] at this
        rw [← this]; exact h3
  have hf : ¬ (B ≤ p ∧ p < B + 64 ∧ u (p - B) = true) → S.own p = false := fun h => by
    cases e : S.own p with
    | false => rfl
    | true => exact absurd (hown.1 e) h
  refine ⟨B, hcell, CND_dec (fun h1 => ⟨B, hcell, ?_⟩) fun h1 => ?_⟩
  · rw [u64_id (n := p - B) (by omega) (by omega)]
    refine CND_dec (fun h2 => ⟨B, hcell, ?_⟩) fun h2 => ?_
    · rw [u64_id (n := p - B) (by omega) (by omega)]
      refine ⟨⟨by omega, by omega⟩, _, qhas Hd (by omega) h2, ?_⟩
      have : u (p - B) = S.own p := Bool.eq_iff_iff.2 (by rw [hown]; exact ⟨fun h => ⟨by omega, by omega, h⟩, fun h => h.2.2⟩)
      rw [this]; exact hK'
    · rw [hf fun h => by omega] at hK'; exact hK'
  · rw [hf fun h => by omega] at hK'; exact hK'

theorem cN_stepR (v : Nat → Bool) (a m : Nat) (ham : a ≤ m) : ∀ N, m < N → cN (fun k => v k && (decide (a ≤ k) && decide (k < m + 1))) N = cN (fun k => v k && (decide (a ≤ k) && decide (k < m))) N + (if v m then 1 else 0)
  | 0, h => by omega
  | N + 1, h => by
    simp only [cN]
    rcases Nat.lt_or_eq_of_le (Nat.le_of_lt_succ h) with q | q
    · rw [cN_stepR v a m ham N q]
      have e1 : decide (N < m + 1) = false := decide_eq_false (by omega)
      have e2 : decide (N < m) = false := decide_eq_false (by omega)
      rw [e1, e2]; simp
    · subst q
      have e : cN (fun k => v k && (decide (a ≤ k) && decide (k < m + 1))) m = cN (fun k => v k && (decide (a ≤ k) && decide (k < m))) m := cN_congr fun i hi => by
        have e1 : decide (i < m + 1) = true := decide_eq_true (by omega)
        have e2 : decide (i < m) = true := decide_eq_true (by omega)
        rw [e1, e2]
      rw [e]
      have e1 : decide (m < m + 1) = true := decide_eq_true (by omega)
      have e2 : decide (m < m) = false := decide_eq_false (by omega)
      have e3 : decide (a ≤ m) = true := decide_eq_true ham
      rw [e1, e2, e3]; cases v m <;> simp

theorem cN_zero (v : Nat → Bool) (N : Nat) (h : ∀ i, i < N → v i = false) : cN v N = 0 := by
  induction N with
  | zero => rfl
  | succ n ih => simp only [cN]; rw [ih fun i hi => h i (by omega), h n (by omega)]; simp

theorem qalloc_spec (H : Sat (RCP E q S :: Z) w) {n : Int} (hn0 : -9223372036854775808 ≤ n) (hn1 : n < 9223372036854775808) {K : Int → Int → Int → World → Prop}
    (hk0 : n < 1 ∨ 64 < n → K 0 0 1 w) (hk1 : 1 ≤ n → n ≤ 64 → (∀ i, ¬ runAt S.has i n.toNat) → K 0 0 30 w)
    (hk2 : 1 ≤ n → n ≤ 64 → ∀ i, runAt S.has i n.toNat → (∀ j, runAt S.has j n.toNat → i ≤ j) → i + n.toNat ≤ 64 → ∀ w', Sat (RCP E q (S.alloc i n.toNat) :: Z) w' →
      K (S.base + i) (cN (fun k => S.rel k && (decide (i ≤ k) && decide (k < i + n.toNat))) 64) 0 w') : F.mallowref10_Cache_Alloc E (some ⟨q, 0, none⟩) n K w := by
  obtain ⟨B, u, g, hI, H⟩ := Sat.rcp.1 H
  unfold F.mallowref10_Cache_Alloc
  refine JOIN_in (CND_dec (fun h j => CND_t rfl (hk0 (.inl h))) fun g1 j => CND_dec (fun h => hk0 (.inr h)) fun g2 => ?_)
  simp only [NC_some]
  generalize hN : n.toNat = N at *
  have hnN : n = (N : Int) := by omega
  refine LOOP_intro (fun st w' => ∃ i run : Nat, st.2.1 = i ∧ st.1 = run ∧ i ≤ 64 ∧ run ≤ i ∧ run < N ∧ (∀ k, i - run ≤ k → k < i → S.has k = true) ∧ (∀ j, runAt S.has j N → i < j + N) ∧ (run = i ∨ S.has (i - run - 1) = false) ∧ w' = w) (fun st _ => (64 - st.2.1).toNat)
    ⟨0, 0, rfl, rfl, by decide, by decide, by omega, fun k _ h => by omega, fun j _ => by omega, .inl rfl, rfl⟩ ?_
  rintro ⟨r', i', v⟩ _ w5 ⟨i, run, hi, hr, hi64, hri, hrN, hrow, hno, hst, rfl⟩
  dsimp only at hi hr ⊢
  subst hi; subst hr
  refine CND_dec (fun hlt => ?_) fun hge => ?_
  · rw [i64_id (n := (run : Int) + 1) (by omega) (by omega), i64_id (n := (i : Int) + 1) (by omega) (by omega)]
    have hhs := hI.hs i (by omega)
    refine JOIN_in ⟨⟨by omega, by omega⟩, _, qhas H (by omega) (by omega), CND_intro (fun e j => ?_) fun e j => ?_⟩
    · have e : S.has i = false := by rw [hhs] at e; simpa using e
      refine CND_t (by simp; omega) ⟨⟨i + 1, 0, by omega, rfl, by omega, by omega, by omega, fun k h1 h2 => by omega, fun j hj => ?_, .inr (by simpa using e), by trivial⟩, by omega⟩
      have := hno j hj
      rcases Nat.lt_or_ge (i + 1) (j + N) with q | q
      · exact q
      · have := hj (i - j) (by omega)
        rw [show j + (i - j) = i by omega, e] at this; cases this
    · have e : S.has i = true := by rw [hhs] at e; simpa using e
      have hrow' : ∀ k, i - run ≤ k → k < i + 1 → S.has k = true := fun k h1 h2 => by
        rcases Nat.lt_or_eq_of_le (Nat.le_of_lt_succ h2) with q | q
        · exact hrow k h1 q
        · subst q; exact e
      refine CND_dec (fun hlt2 => ⟨⟨i + 1, run + 1, by omega, by omega, by omega, by omega, by omega, fun k h1 h2 => hrow' k (by omega) h2, fun j hj => ?_, ?_, by trivial⟩, by omega⟩) fun hge2 => LET_intro fun k12 hk12 => ?_
      · have := hno j hj
        rcases Nat.lt_or_ge (i + 1) (j + N) with q | q
        · exact q
        · rcases hst with h | h
          · omega
          · have := hj (i - run - 1 - j) (by omega)
            rw [show j + (i - run - 1 - j) = i - run - 1 by omega, h] at this; cases this
      · rcases hst with h | h
        · exact .inl (by omega)
        · exact .inr (by rw [show i + 1 - (run + 1) - 1 = i - run - 1 by omega]; exact h)
      · have hrN' : run + 1 = N := by omega
        have hk12 : k12 = ((i + 1 - N : Nat) : Int) := by
          rw [i64_id (n := (i : Int) - n) (by omega) (by omega), i64_id (by omega) (by omega)] at hk12
          omega
        generalize ha : i + 1 - N = a at hk12
        have hrun : runAt S.has a N := fun k hk => hrow' _ (by omega) (by omega)
        subst hk12
        have hne : ¬ S.empty := fun h => by rw [h i] at e; cases e
        refine LOOP_intro (fun st w' => ∃ k : Nat, st.2.1 = k ∧ a ≤ k ∧ k ≤ i + 1 ∧ st.1 = cN (fun j => S.rel j && (decide (a ≤ j) && decide (j < k))) 64 ∧ Sat (Cells q E.t_mallowref10_Cache (qcells B (fun j => if (a : Int) ≤ j ∧ j < k then false else u j) g) :: Z) w') (fun st _ => ((i : Int) + 1 - st.2.1).toNat)
          ⟨a, rfl, Nat.le_refl _, by omega, ?_, ?_⟩ ?_
        · show (0 : Int) = _
          rw [cN_zero _ _ fun j hj => ?_]; rfl
          by_cases q : a ≤ j
          · simp [q]
          · simp [q]
        · have : (fun j : Int => if (a : Int) ≤ j ∧ j < (a : Int) then false else u j) = u := by funext j; rw [if_neg (by omega)]
          rw [this]; exact H
        rintro ⟨cn, k', v⟩ _ w14 ⟨k, hk, hak, hki, hcn, H14⟩
        dsimp only at hk hcn ⊢
        subst hk
        refine CND_dec (fun hle => ?_) fun hgt => ?_
        · have hkr := hrow' k (by omega) (by omega)
          have hrl := hI.rl k (by omega)
          rw [hkr, Bool.true_and] at hrl
          have hcs := cN_stepR S.rel a k hak 64 (by omega)
          have hcb := cN_le (fun j => S.rel j && (decide (a ≤ j) && decide (j < k))) 64
          rw [i64_id (n := cn + 1) (by omega) (by omega), i64_id (n := (k : Int) + 1) (by omega) (by omega)]
          have fin : ∀ cn' : Int, cn' = cN (fun j => S.rel j && (decide (a ≤ j) && decide (j < k + 1))) 64 → 
              ((0 : Int) ≤ (k : Int) ∧ (k : Int) < (64 : Nat)) ∧ stCells (((Addr.mk q 0 none).add 1).add (Int.toNat (k : Int) * 1)) 0 [.bool false] w14 fun w22 =>
                (∃ m : Nat, (k : Int) + 1 = m ∧ a ≤ m ∧ m ≤ i + 1 ∧ cn' = cN (fun j => S.rel j && (decide (a ≤ j) && decide (j < m))) 64 ∧ Sat (Cells q E.t_mallowref10_Cache (qcells B (fun j => if (a : Int) ≤ j ∧ j < m then false else u j) g) :: Z) w22) ∧ ((i : Int) + 1 - ((k : Int) + 1)).toNat < ((i : Int) + 1 - (k : Int)).toNat := fun cn' hcn' => by
            refine ⟨⟨by omega, by omega⟩, qst1 H14 (by omega) (by omega) fun w22 H22 => ⟨⟨k + 1, by omega, by omega, by omega, hcn', ?_⟩, by omega⟩⟩
            have : (fun j : Int => if (a : Int) ≤ j ∧ j < ((k + 1 : Nat) : Int) then false else u j) = fun j => if j = (k : Int) then false else if (a : Int) ≤ j ∧ j < (k : Int) then false else u j := by
              funext j
              by_cases q : j = (k : Int)
              · rw [if_pos (by omega), if_pos q]
              · rw [if_neg q]
                by_cases q2 : (a : Int) ≤ j ∧ j < (k : Int)
                · rw [if_pos q2, if_pos (by omega)]
                · rw [if_neg q2, if_neg (by omega)]
            rw [this]; exact H22
          refine JOIN_in ⟨⟨by omega, by omega⟩, _, qgone H14 (by omega) (by omega), CND_intro (fun e1 j => fin _ ?_) fun e1 j => fin _ ?_⟩
          · rw [hcs, hrl, e1, if_pos rfl]; omega
          · rw [hcs, hrl, e1, if_neg (by decide)]; omega
        · have hki' : k = i + 1 := by omega
          have hcell := H14.cell0 (o := 0) (v := .int .u64 B) rfl
          refine ⟨B, hcell, LET_intro fun t25 ht => ?_⟩
          have hb0 := hI.b0
          have hb1 := hI.b1
          rw [i64_id (n := (i : Int) - n) (by omega) (by omega), i64_id (n := (i : Int) - n + 1) (by omega) (by omega), u64_id (n := (i : Int) - n + 1) (by omega) (by omega), u64_id (by omega) (by omega)] at ht
          have haN : a + N = i + 1 := by omega
          have := hk2 (by omega) (by omega) a hrun (fun j hj => by have := hno j hj; omega) (by omega) w14 (Sat.rcp.2 ⟨B, _, g, ⟨hI.b0, hI.b1, fun _ => hI.bs hne, fun j hj => ?_, fun j hj => ?_, fun j hj => ?_⟩, H14⟩)
          · rw [← hI.bs hne, haN, ← hki'] at this
            rw [ht, hcn, show B + ((i : Int) - n + 1) = B + (a : Int) by omega]
            exact this
          · show (if (a : Int) ≤ (j : Int) ∧ (j : Int) < (k : Int) then false else u j) = (S.has j && !(decide (a ≤ j) && decide (j < a + N)))
            rw [hI.hs j hj]
            by_cases q : a ≤ j ∧ j < k
            · have q1 : a ≤ j := q.1
              have q2 : j < a + N := by omega
              rw [if_pos (by omega)]; simp [q1, q2]
            · rw [if_neg (by omega)]
              have : (decide (a ≤ j) && decide (j < a + N)) = false := by
                by_cases q1 : a ≤ j
                · have : ¬ j < a + N := by omega
                  simp [this]
                · simp [q1]
              rw [this]; simp
          · show (S.rel j && !(decide (a ≤ j) && decide (j < a + N))) = ((S.has j && !(decide (a ≤ j) && decide (j < a + N))) && g j)
            rw [hI.rl j hj]
            cases S.has j <;> cases g j <;> simp
          · show (S.has j && !(decide (a ≤ j) && decide (j < a + N))) = false
            rw [hI.hz j hj]; rfl
  · refine hk1 (by omega) (by omega) fun j hj => ?_
    have h1 := hno j hj
    have h2 := hj (N - 1) (by omega)
    rw [hI.hz _ (by omega)] at h2; cases h2
end
end Go.Sh

set_option linter.all false
set_option maxRecDepth 4000
set_option maxHeartbeats 2000000
namespace Go.Sh

section
variable {E : Env} {w : World} {Z : List Pr} {r t q c b ty : Nat} {V : TV} {S : CS} {B : Int} {u g : Int → Bool}

theorem qfill_spec (H : Sat (RCP E q S :: RTV E r V :: Z) w) (hfi : ∀ p, V.fr p = true → V.inn p = true) (hrf : ∀ p, V.rl p = true → V.fr p = true) (hlim : ∀ p, V.inn p = true → 0 ≤ p ∧ p < 34359738368) {K : Int → World → Prop}
    (hk0 : ¬ S.empty → ∀ w', Sat (RCP E q S :: RTV E r V :: Z) w' → K 33 w') (hk1 : S.empty → (∀ p, V.fr p = false) → ∀ w', Sat (RCP E q S :: RTV E r V :: Z) w' → K 30 w')
    (hk2 : S.empty → ∀ p, firstB V 1 p → ∀ w', Sat (RCP E q ⟨p / 64 * 64, fun i => decide (i < 64) && V.fr (p / 64 * 64 + i), fun i => decide (i < 64) && V.rl (p / 64 * 64 + i)⟩ :: RTV E r (V.take (p / 64 * 64) 64) :: Z) w' → K 0 w') :
    F.mallowref10_Cache_Fill E (some ⟨q, 0, none⟩) (some ⟨r, 0, none⟩) K w := by
  unfold F.mallowref10_Cache_Fill
  have sw : ∀ {A B : Pr} {w'}, Sat (A :: B :: Z) w' → Sat (B :: A :: Z) w' := fun h => h.perm (.swap _ _ _)
  refine qempty_spec H (fun he => CND_f rfl ?_) fun he => CND_t rfl (hk0 he w H)
  refine rvfirst_spec (sw H) (fun p hp => hlim p (hfi p hp)) (fun hno w' H' => CND_t rfl (hk1 he hno w' (sw H'))) fun p hp w5 H5 => CND_f rfl ⟨by decide, ?_⟩
  have hp0 := hp.1
  have hp1 := hp.2.1
  obtain ⟨B0, u, g, hI, H6⟩ := Sat.rcp.1 (sw H5)
  rw [Int.tmod_eq_emod_of_nonneg hp0, u64_id (n := p - p % 64) (by omega) (by omega), show p - p % 64 = p / 64 * 64 by omega]
  simp only [NC_some]
  have hk2' := hk2 he p hp
  generalize hB : p / 64 * 64 = B at hk2' ⊢
  have hB0 : 0 ≤ B ∧ B + 64 ≤ 34359738368 ∧ B % 64 = 0 := by omega
  refine st_cell0 H6 rfl (by rw [qlen]; decide) fun w7 H7 => ?_
  have H7 : Sat (Cells q E.t_mallowref10_Cache (qcells B u g) :: RTV E r V :: Z) w7 := H7
  have htake0 : V.take B ((0 : Nat) : Int) = V := by
    have e : ∀ q, inr B ((0 : Nat) : Int) q = false := fun q => inr_f.2 (by omega)
    unfold TV.take
    simp only [e]; simp
  have hstep : ∀ i : Nat, (V.take B i).take (B + i) 1 = V.take B ((i + 1 : Nat) : Int) := fun i => by
    have e : ∀ x, (!inr B ((i + 1 : Nat) : Int) x) = (!inr B i x && !inr (B + i) 1 x) := fun x => by
      rw [← Bool.not_or]
      congr 1
      apply Bool.eq_iff_iff.2
      rw [Bool.or_eq_true, inr_iff, inr_iff, inr_iff]; omega
    unfold TV.take
    simp only [e, Bool.and_assoc]
  refine LOOP_intro (fun st w' => ∃ i : Nat, st.1 = (i : Int) ∧ i ≤ 64 ∧ Sat (Cells q E.t_mallowref10_Cache (qcells B (fun j => if j < (i : Int) then V.fr (B + j) else u j) (fun j => if j < (i : Int) then V.rl (B + j) else g j)) :: RTV E r (V.take B i) :: Z) w') (fun st _ => (64 - st.1).toNat)
    ⟨0, rfl, by decide, ?_⟩ ?_
  · rw [htake0]
    obtain ⟨D, _⟩ := H7
    -- the flags below nought are not looked at
    have e : qcells B (fun j => if j < ((0 : Nat) : Int) then V.fr (B + j) else u j) (fun j => if j < ((0 : Nat) : Int) then V.rl (B + j) else g j) = qcells B u g := by
      have f1 : flags 64 (fun j => if j < ((0 : Nat) : Int) then V.fr (B + j) else u j) = flags 64 u := flags_congr fun k h0 h1 => if_neg (by omega)
      have f2 : flags 64 (fun j => if j < ((0 : Nat) : Int) then V.rl (B + j) else g j) = flags 64 g := flags_congr fun k h0 h1 => if_neg (by omega)
      unfold qcells
      rw [f1, f2]
    show Sat (Cells q E.t_mallowref10_Cache (qcells B (fun j => if j < ((0 : Nat) : Int) then _ else _) _) :: _) w7
    rw [e]; exact H7
  rintro ⟨i', v⟩ _ w9 ⟨i, hi, hi64, H9⟩
  dsimp only at hi ⊢
  subst hi
  refine CND_dec (fun hlt => ?_) fun hge => ?_
  · refine ⟨B, H9.cell0 rfl, ?_⟩
    rw [u64_id (n := (i : Int)) (by omega) (by omega), u64_id (n := B + (i : Int)) (by omega) (by omega), i64_id (n := (i : Int) + 1) (by omega) (by omega)]
    refine rvstate_spec (sw H9) (by omega) (by omega) fun w16 H16 => ⟨⟨by omega, by omega⟩, qst1 (sw H16) (by omega) hlt fun w18 H18 => ⟨⟨by omega, by omega⟩, qst2 H18 (by omega) hlt fun w20 H20 => ?_⟩⟩
    have enot : inr B (i : Int) (B + i) = false := inr_f.2 (by omega)
    have efr : (V.take B i).fr (B + i) = V.fr (B + i) := by show (V.fr (B + i) && !inr B i (B + i)) = _; rw [enot]; simp
    have erl : (V.take B i).rl (B + i) = V.rl (B + i) := by show (V.rl (B + i) && !inr B i (B + i)) = _; rw [enot]; simp
    rw [efr, erl] at H20
    have eq1 : (fun j : Int => if j = (i : Int) then V.fr (B + i) else if j < (i : Int) then V.fr (B + j) else u j) = fun j => if j < ((i + 1 : Nat) : Int) then V.fr (B + j) else u j := by
      funext j
      by_cases e : j = (i : Int)
      · rw [if_pos e, if_pos (by omega), e]
      · rw [if_neg e]
        by_cases e2 : j < (i : Int)
        · rw [if_pos e2, if_pos (by omega)]
        · rw [if_neg e2, if_neg (by omega)]
    have eq2 : (fun j : Int => if j = (i : Int) then V.rl (B + i) else if j < (i : Int) then V.rl (B + j) else g j) = fun j => if j < ((i + 1 : Nat) : Int) then V.rl (B + j) else g j := by
      funext j
      by_cases e : j = (i : Int)
      · rw [if_pos e, if_pos (by omega), e]
      · rw [if_neg e]
        by_cases e2 : j < (i : Int)
        · rw [if_pos e2, if_pos (by omega)]
        · rw [if_neg e2, if_neg (by omega)]
    rw [eq1, eq2] at H20
    rw [efr]
    refine CND_intro (fun e => ?_) fun e => ?_
    · refine ⟨B, H20.cell0 rfl, ?_⟩
      rw [u64_id (n := B + (i : Int)) (by omega) (by omega)]
      refine rvtake1_spec (sw H20) (by omega) (by omega) (hfi _ e) (by rw [efr]; exact e) ?_
      intro _ _ w25 H25
      refine ⟨⟨i + 1, by omega, by omega, ?_⟩, by omega⟩
      rw [hstep] at H25
      exact sw H25
    · refine ⟨⟨i + 1, by omega, by omega, ?_⟩, by omega⟩
      have hnr : V.rl (B + i) = false := by
        cases er : V.rl (B + i) with
        | false => rfl
        | true => rw [hrf _ er] at e; cases e
      have : V.take B ((i + 1 : Nat) : Int) = V.take B i := by
        have e1 : ∀ x, (V.fr x && !inr B ((i + 1 : Nat) : Int) x) = (V.fr x && !inr B i x) := fun x => by
          by_cases hx : x = B + i
          · rw [hx, e]; rfl
          · have : inr B ((i + 1 : Nat) : Int) x = inr B i x := Bool.eq_iff_iff.2 (by rw [inr_iff, inr_iff]; omega)
            rw [this]
        have e2 : ∀ x, (V.rl x && !inr B ((i + 1 : Nat) : Int) x) = (V.rl x && !inr B i x) := fun x => by
          by_cases hx : x = B + i
          · rw [hx, hnr]; rfl
          · have : inr B ((i + 1 : Nat) : Int) x = inr B i x := Bool.eq_iff_iff.2 (by rw [inr_iff, inr_iff]; omega)
            rw [this]
        unfold TV.take
        simp only [e1, e2]
      rw [this]; exact H20
  · have hi' : i = 64 := by omega
    subst hi'
    refine hk2' w9 (Sat.rcp.2 ⟨B, _, _, ⟨hB0.1, hB0.2.1, fun _ => rfl, fun k hk => ?_, fun k hk => ?_, fun k hk => ?_⟩, H9⟩)
    · show (if (k : Int) < ((64 : Nat) : Int) then V.fr (B + k) else u k) = (decide (k < 64) && V.fr (B + k))
      rw [if_pos (by omega)]; simp [hk]
    · show (decide (k < 64) && V.rl (B + k)) = ((decide (k < 64) && V.fr (B + k)) && (if (k : Int) < ((64 : Nat) : Int) then V.rl (B + k) else g k))
      rw [if_pos (by omega)]
      cases er : V.rl (B + k) with
      | false => simp
      | true => simp [hrf _ er]
    · show (decide (k < 64) && _) = false
      rw [decide_eq_false (by omega)]; rfl

theorem qflush_spec (H : Sat (RCP E q S :: RTV E r V :: Z) w) (hR : CRel S V) (hrf : ∀ p, V.rl p = true → V.fr p = true) {K : World → Prop} (hK : ∀ w', Sat (RCP E q CS.nil :: RTV E r (V.flush S) :: Z) w' → K w') :
    F.mallowref10_Cache_Flush E (some ⟨q, 0, none⟩) (some ⟨r, 0, none⟩) K w := by
  unfold F.mallowref10_Cache_Flush
  have sw : ∀ {A B : Pr} {w'}, Sat (A :: B :: Z) w' → Sat (B :: A :: Z) w' := fun h => h.perm (.swap _ _ _)
  obtain ⟨B, u, g, hI, H0⟩ := Sat.rcp.1 H
  simp only [NC_some]
  generalize hP : (fun i : Nat => (⟨V.inn, fun p => V.fr p || (S.own p && inr B i p), fun p => V.rl p || (S.ownR p && inr B i p)⟩ : TV)) = P
  have hPi : ∀ i : Nat, P i = ⟨V.inn, fun p => V.fr p || (S.own p && inr B i p), fun p => V.rl p || (S.ownR p && inr B i p)⟩ := fun i => (congrFun hP i).symm
  have hb0 := hI.b0
  have hb1 := hI.b1
  have hRO : ∀ p, S.ownR p = true → S.own p = true := fun p hp => by
    unfold CS.ownR at hp
    rw [Bool.and_eq_true, inr_iff] at hp
    have h1 := hI.rl (p - S.base).toNat (by omega)
    rw [hp.2] at h1
    have h2 : S.has (p - S.base).toNat = true := by
      cases e : S.has (p - S.base).toNat with
      | true => rfl
      | false => rw [e] at h1; cases h1
    exact (CS.own_iff S p).2 ⟨hp.1.1, hp.1.2, h2⟩
  refine LOOP_intro (fun st w' => ∃ i : Nat, st.1 = (i : Int) ∧ i ≤ 64 ∧ Sat (Cells q E.t_mallowref10_Cache (qcells B (fun j => if j < (i : Int) then false else u j) g) :: RTV E r (P i) :: Z) w') (fun st _ => (64 - st.1).toNat) ⟨0, rfl, by decide, ?_⟩ ?_
  · have e : ∀ q, inr B ((0 : Nat) : Int) q = false := fun q => inr_f.2 (by omega)
    have e2 : qcells B (fun j => if j < ((0 : Nat) : Int) then false else u j) g = qcells B u g := by
      have f1 : flags 64 (fun j => if j < ((0 : Nat) : Int) then false else u j) = flags 64 u := flags_congr fun k h0 h1 => if_neg (by omega)
      unfold qcells
      rw [f1]
    show Sat (Cells q E.t_mallowref10_Cache (qcells B (fun j => if j < ((0 : Nat) : Int) then _ else _) g) :: _) w
    rw [e2, hPi]
    simp only [e, Bool.and_false, Bool.or_false]
    exact H0
  rintro ⟨i', v⟩ _ w2 ⟨i, hi, hi64, H2⟩
  dsimp only at hi ⊢
  subst hi
  refine CND_dec (fun hlt => ?_) fun hge => ?_
  · have hhs := hI.hs i (by omega)
    have hrl := hI.rl i (by omega)
    have eu : (if (i : Int) < (i : Int) then false else u i) = u i := if_neg (by omega)
    rw [i64_id (n := (i : Int) + 1) (by omega) (by omega)]
    refine ⟨⟨by omega, by omega⟩, _, qhas H2 (by omega) hlt, ?_⟩
    rw [eu]
    have eqf : (fun j : Int => if j < ((i + 1 : Nat) : Int) then false else u j) = fun j => if j = (i : Int) then false else if j < (i : Int) then false else u j := by
      funext j
      by_cases e : j = (i : Int)
      · rw [if_pos e, if_pos (by omega)]
      · rw [if_neg e]
        by_cases e2 : j < (i : Int)
        · rw [if_pos e2, if_pos (by omega)]
        · rw [if_neg e2, if_neg (by omega)]
    refine CND_intro (fun e => ?_) fun e => ?_
    · rw [hhs] at e
      have hne : ¬ S.empty := fun h => by rw [h i] at e; cases e
      have hbs := hI.bs hne
      have hown : S.own (B + i) = true := (CS.own_iff S _).2 ⟨by omega, by omega, by rw [hbs, show (S.base + (i : Int) - S.base).toNat = i by omega]; exact e⟩
      obtain ⟨hin, hfr⟩ := hR _ hown
      have hownR : S.ownR (B + i) = g i := by
        unfold CS.ownR
        rw [hbs, show (S.base + (i : Int) - S.base).toNat = i by omega, hrl, e, inr_iff.2 (by omega)]; simp
      have Hd := H2.drew
      refine ⟨B, Hd.cell0 rfl, ⟨by omega, by omega⟩, _, qgone Hd (by omega) hlt, ?_⟩
      rw [u64_id (n := (i : Int)) (by omega) (by omega), u64_id (n := B + (i : Int)) (by omega) (by omega)]
      refine rvgive1_spec (sw Hd) (fun p hp => ?_) (by omega) (by omega) (by rw [hPi]; exact hin) ?_ fun w11 H11 => ?_
      · rw [hPi] at hp ⊢
        have hp : (V.rl p || (S.ownR p && inr B i p)) = true := hp
        show (V.fr p || (S.own p && inr B i p)) = true
        rw [Bool.or_eq_true, Bool.and_eq_true] at hp ⊢
        rcases hp with h | h
        · exact .inl (hrf p h)
        · exact .inr ⟨hRO p h.1, h.2⟩
      · rw [hPi]
        show (V.fr (B + i) || (S.own (B + i) && inr B i (B + i))) = false
        rw [hfr, inr_f.2 (by omega)]; simp
      · have H12 := sw H11
        refine ⟨H12.cell0 rfl, ⟨by omega, by omega⟩, qst1 H12 (by omega) hlt fun w13 H13 => ⟨⟨i + 1, by omega, by omega, ?_⟩, by omega⟩⟩
        rw [eqf]
        have e1 : ∀ x, inr B ((i + 1 : Nat) : Int) x = (inr B i x || inr (B + i) 1 x) := fun x => Bool.eq_iff_iff.2 (by rw [Bool.or_eq_true, inr_iff, inr_iff, inr_iff]; omega)
        have hx : ∀ x, inr (B + i) 1 x = true → x = B + i := fun x h => by have := inr_iff.1 h; omega
        have e2 : ∀ x, (S.own x && inr B ((i + 1 : Nat) : Int) x) = ((S.own x && inr B i x) || inr (B + i) 1 x) := fun x => by
          rw [e1]
          cases h : inr (B + i) 1 x with
          | false => simp
          | true => rw [hx x h, hown]; simp
        have e3 : ∀ x, (S.ownR x && inr B ((i + 1 : Nat) : Int) x) = ((S.ownR x && inr B i x) || (g i && inr (B + i) 1 x)) := fun x => by
          rw [e1]
          cases h : inr (B + i) 1 x with
          | false => simp
          | true => rw [hx x h, hownR]; cases g i <;> simp
        have : P (i + 1) = if g i then (P i).back (B + i) 1 else (P i).give (B + i) 1 := by
          rw [hPi, hPi]
          cases hg : g i with
          | false =>
            rw [if_neg (by decide)]
            unfold TV.give
            simp only [e2, e3, hg, Bool.false_and, Bool.or_false, Bool.or_assoc]
          | true =>
            rw [if_pos rfl]
            unfold TV.back
            simp only [e2, e3, hg, Bool.true_and, Bool.or_assoc]
        rw [this]; exact H13
    · rw [hhs] at e
      refine ⟨⟨i + 1, by omega, by omega, ?_⟩, by omega⟩
      have hown : S.own (B + i) = false := by
        cases h : S.own (B + i) with
        | false => rfl
        | true =>
          have h' := (CS.own_iff S _).1 h
          have hne : ¬ S.empty := fun he => by rw [he] at h'; cases h'.2.2
          rw [hI.bs hne, show (S.base + (i : Int) - S.base).toNat = i by omega, e] at h'
          cases h'.2.2
      have hownR : S.ownR (B + i) = false := by
        cases h : S.ownR (B + i) with
        | false => rfl
        | true => rw [hRO _ h] at hown; cases hown
      have e1 : ∀ x, (S.own x && inr B ((i + 1 : Nat) : Int) x) = (S.own x && inr B i x) := fun x => by
        by_cases hx : x = B + i
        · rw [hx, hown]; rfl
        · have : inr B ((i + 1 : Nat) : Int) x = inr B i x := Bool.eq_iff_iff.2 (by rw [inr_iff, inr_iff]; omega)
          rw [this]
      have e2 : ∀ x, (S.ownR x && inr B ((i + 1 : Nat) : Int) x) = (S.ownR x && inr B i x) := fun x => by
        by_cases hx : x = B + i
        · rw [hx, hownR]; rfl
        · have : inr B ((i + 1 : Nat) : Int) x = inr B i x := Bool.eq_iff_iff.2 (by rw [inr_iff, inr_iff]; omega)
          rw [this]
      have hPP : P (i + 1) = P i := by
        rw [hPi, hPi]
        simp only [e1, e2]
      have hqq : qcells B (fun j => if j < ((i + 1 : Nat) : Int) then false else u j) g = qcells B (fun j => if j < (i : Int) then false else u j) g := by
        unfold qcells
        congr 2
        refine flags_congr fun k h0 h1 => ?_
        by_cases hk : k = (i : Int)
        · rw [if_pos (by omega), if_neg (by omega), hk, hhs, e]
        · by_cases hk2 : k < (i : Int)
          · rw [if_pos (by omega), if_pos hk2]
          · rw [if_neg (by omega), if_neg hk2]
      rw [hPP, hqq]; exact H2
  · have hi' : i = 64 := by omega
    subst hi'
    have hPf : P 64 = V.flush S := by
      rw [hPi]
      have e1 : ∀ x, (S.own x && inr B ((64 : Nat) : Int) x) = S.own x := fun x => by
        cases h : S.own x with
        | false => rfl
        | true =>
          have h' := (CS.own_iff S _).1 h
          have hne : ¬ S.empty := fun he => by rw [he] at h'; cases h'.2.2
          rw [hI.bs hne, inr_iff.2 (by omega)]; rfl
      have e2 : ∀ x, (S.ownR x && inr B ((64 : Nat) : Int) x) = S.ownR x := fun x => by
        cases h : S.ownR x with
        | false => rfl
        | true =>
          have h' := (CS.own_iff S _).1 (hRO x h)
          have hne : ¬ S.empty := fun he => by rw [he] at h'; cases h'.2.2
          rw [hI.bs hne, inr_iff.2 (by omega)]; rfl
      unfold TV.flush
      simp only [e1, e2]
    rw [hPf] at H2
    refine hK w2 (Sat.rcp.2 ⟨B, _, _, ⟨hI.b0, hI.b1, fun h => absurd (fun _ => rfl) h, fun k hk => ?_, fun k hk => rfl, fun k hk => rfl⟩, H2⟩)
    show (if (k : Int) < ((64 : Nat) : Int) then false else u k) = false
    rw [if_pos (by omega)]
end
end Go.Sh

set_option linter.all false
set_option maxRecDepth 4000
set_option maxHeartbeats 4000000
namespace Go.Sh

theorem Sat.dropM {P : Pr} {w : World} (Qs : List Pr) {T : List Pr} (H : Sat (Qs ++ P :: T) w) : Sat (Qs ++ T) w := (H.perm List.perm_middle).tail

def DisC (S T : CS) : Prop := ∀ p, S.own p = true → T.own p = true → False

abbrev CAct : AT := .cons (.int .i64) (.cons .bool (.cons (.int .i64) (.cons (.int .u64) .nil)))

theorem cact_cells {w : World} {s : SlV} {z : Nat → Int × Bool × Int × Int × Unit} (h : RowA w CAct s z) {j : Nat} (hj : j < s.len) : ∃ x, s.base = some x ∧
    w.cell? (x.add (j * 4)) = some (.int .i64 (z j).1) ∧ w.cell? ((x.add (j * 4)).add 1) = some (.bool (z j).2.1) ∧ w.cell? ((x.add (j * 4)).add 2) = some (.int .i64 (z j).2.2.1) ∧ w.cell? ((x.add (j * 4)).add 3) = some (.int .u64 (z j).2.2.2.1) ∧
    (-9223372036854775808 ≤ (z j).2.2.1 ∧ (z j).2.2.1 < 9223372036854775808) ∧ (0 ≤ (z j).2.2.2.1 ∧ (z j).2.2.2.1 < 18446744073709551616) := by
  obtain ⟨x, hx, hc, ho⟩ := h.2.2 j hj
  refine ⟨x, hx, ?_, ?_, ?_, ?_, i64_wf ho.2.2.1, u64_wf ho.2.2.2.1⟩
  · exact hc 0 _ rfl
  · rw [add_add]; exact hc 1 _ rfl
  · rw [add_add]; exact hc 2 _ rfl
  · rw [add_add]; exact hc 3 _ rfl

theorem CRow.old {w w' : World} {s : SlV} {z : Nat → Int × Bool × Int × Int × Unit} (h : RowA w CAct s z) (he : Ext Nothing w w') : RowA w' CAct s z :=
  ⟨h.1, h.2.1, fun j hj => by
    obtain ⟨x, h1, h2, h3⟩ := h.2.2 j hj
    exact ⟨x, h1, fun i v hv => he.cell (h2 i v hv) fun f => f, h3⟩⟩

theorem u64_bnd (n : Int) : 0 ≤ u64 n ∧ u64 n < 18446744073709551616 := by rw [u64_mod]; omega

section
variable {E : Env} {w : World} {Z : List Pr} {r t q c : Nat} {V : TV} {S : CS} {l : Nat → Iv}

theorem alloc_own (S : CS) (i n : Nat) {p : Int} (h : (S.alloc i n).own p = true) : S.own p = true := by
  have h := (CS.own_iff _ _).1 h
  refine (CS.own_iff _ _).2 ⟨h.1, h.2.1, ?_⟩
  have h3 : (S.has (p - S.base).toNat && _) = true := h.2.2
  rw [Bool.and_eq_true] at h3
  exact h3.1

theorem nil_own (p : Int) : CS.nil.own p = false := by unfold CS.own; exact Bool.and_false _

theorem fill_own {f : Int → Bool} {g : Nat → Bool} {B p : Int} (h : (⟨B, fun i => decide (i < 64) && f (B + i), g⟩ : CS).own p = true) : B ≤ p ∧ p < B + 64 ∧ f p = true := by
  have h := (CS.own_iff _ _).1 h
  have h1 : B ≤ p := h.1
  have h2 : p < B + 64 := h.2.1
  have h3 : (decide ((p - B).toNat < 64) && f (B + ((p - B).toNat : Nat))) = true := h.2.2
  rw [Bool.and_eq_true, show B + (((p - B).toNat : Nat) : Int) = p by omega] at h3
  exact ⟨h1, h2, h3.2⟩

theorem firstB_uniq {n p p' : Int} (h : firstB V n p) (h' : firstB V n p') : p = p' := by
  have := h.2.2.2 p' h'.2.2.1
  have := h'.2.2.2 p h.2.2.1
  omega

theorem LV.scavT (h : LV l V) (ok2 : Ok (l 2)) {p k : Int} (hp : 0 ≤ p) (hk : 0 < k) (hb : p + k < 18446744073709551616) : LV (Sh.scavT l p k) (V.scav p k) := by
  have a2 := mem_addL ok2 (a := p) (b := p + k) (by omega) hp hb
  refine ⟨h.i, h.f, fun x => ?_⟩
  show mem (addL (l 2) p (p + k)) x ↔ (V.rl x || inr p k x) = true
  rw [a2, h.r, ← inr_iff, Bool.or_eq_true]

variable (hE : EnvS E)
include hE

theorem cact_spec (H : Sat (CacheP E c S :: RCP E q S :: TreeV E t V :: RTV E r V :: Z) w) (hT : TabAt E.g_math_bits_deBruijn64tab w) (hR : CRel S V) {what n page : Int} {ob : Bool} (hn : -9223372036854775808 ≤ n ∧ n < 9223372036854775808) (hp : 0 ≤ page ∧ page < 18446744073709551616)
    (hown : what = 5 → S.own page = false) {K : Bool → World → Prop}
    (hK : ∀ S' V' w', Sat (CacheP E c S' :: RCP E q S' :: TreeV E t V' :: RTV E r V' :: Z) w' → CRel S' V' → (∀ T, CRel T V → DisC S T → (what = 5 → T.own page = false) → CRel T V' ∧ DisC S' T) → K true w') :
    F.mallowlaw10_act E (some ⟨t, 0, none⟩) (some ⟨r, 0, none⟩) (some ⟨c, 0, none⟩) (some ⟨q, 0, none⟩) what ob n page K w := by
  unfold F.mallowlaw10_act
  have hv := (H.front 2 rfl).tvok
  refine AL_cells (vs := [.int .i64 what, .bool ob, .int .i64 n, .int .u64 page]) H fun b1 w2 H2 he2 => ⟨what, H2.cell0 rfl, ?_⟩
  have hT2 : TabAt E.g_math_bits_deBruijn64tab w2 := hT.ext he2
  generalize hC : Cells b1 E.t_mallowlaw10_Act [.int .i64 what, .bool ob, .int .i64 n, .int .u64 page] = C at H2
  have cn : ∀ {Y : List Pr} {w'} (i : Nat), Sat Y w' → Y[i]? = some C → w'.cell? ((Addr.mk b1 0 none).add 2) = some (.int .i64 n) := fun i h hi => by
    have := h.front i hi; rw [← hC] at this; exact this.cell rfl
  have cp : ∀ {Y : List Pr} {w'} (i : Nat), Sat Y w' → Y[i]? = some C → w'.cell? ((Addr.mk b1 0 none).add 3) = some (.int .u64 page) := fun i h hi => by
    have := h.front i hi; rw [← hC] at this; exact this.cell rfl
  -- both caches and both trees, with what the act was
  have fin : ∀ {S' V' w'} {x : Bool}, x = true → Sat (CacheP E c S' :: RCP E q S' :: TreeV E t V' :: RTV E r V' :: C :: Z) w' → CRel S' V' → (∀ T, CRel T V → DisC S T → (what = 5 → T.own page = false) → CRel T V' ∧ DisC S' T) → K x w' := fun hx h h1 h2 => by
    rw [hx]; exact hK _ _ _ (Sat.dropM [_, _, _, _] h) h1 h2
  have keep : ∀ T, CRel T V → DisC S T → (what = 5 → T.own page = false) → CRel T V ∧ DisC S T := fun T h1 h2 _ => ⟨h1, h2⟩
  -- orders
  have toT : ∀ {A B D F : Pr} {w'}, Sat (A :: B :: D :: F :: C :: Z) w' → Sat (D :: F :: A :: B :: C :: Z) w' := fun {A B D F} {w'} h => h.perm ((List.perm_append_comm (l₁ := [A, B]) (l₂ := [D, F])).append_right (C :: Z))
  have H3 : Sat (CacheP E c S :: RCP E q S :: TreeV E t V :: RTV E r V :: C :: Z) w2 := H2.perm (List.perm_middle (a := C) (l₁ := [_, _, _, _])).symm
  clear H2
  have crA : ∀ {V' : TV} {T : CS}, V'.inn = V.inn → (∀ p, T.own p = true → V'.fr p = true → V.fr p = true) → CRel T V → CRel T V' := fun hi hf h p hp => ⟨by rw [hi]; exact (h p hp).1, by
    cases e : (_ : TV).fr p with
    | false => rfl
    | true => have := hf p hp e; rw [(h p hp).2] at this; cases this⟩
  refine CND_eq (fun e => ?_) fun e1 => CND_eq (fun e => ?_) fun e2 => CND_eq (fun e => ?_) fun e3 => CND_eq (fun e => ?_) fun e4 => CND_eq (fun e => ?_) fun e5 => CND_eq (fun e => ?_) fun e6 => ?_
  · -- fill
    have H4 : Sat (CacheP E c S :: TreeV E t V :: RCP E q S :: RTV E r V :: C :: Z) w2 := H3.perm (.cons _ (.swap _ _ _))
    have bk : ∀ {S1 S2 : CS} {V1 V2 : TV} {w'}, Sat (RCP E q S1 :: RTV E r V1 :: CacheP E c S2 :: TreeV E t V2 :: C :: Z) w' → Sat (CacheP E c S2 :: RCP E q S1 :: TreeV E t V2 :: RTV E r V1 :: C :: Z) w' := fun h => (toT h).perm (.cons _ (.swap _ _ _))
    have fw : ∀ {S1 S2 : CS} {V1 V2 : TV} {w'}, Sat (CacheP E c S2 :: TreeV E t V2 :: RCP E q S1 :: RTV E r V1 :: C :: Z) w' → Sat (RCP E q S1 :: RTV E r V1 :: CacheP E c S2 :: TreeV E t V2 :: C :: Z) w' := fun h => toT h
    refine pfill_spec hE H4 (fun hne w5 H5 => ?_) (fun he hno w5 H5 => ?_) fun he p hp1 w5 H5 => ?_
    · exact qfill_spec (fw H5) hv.fi hv.rf hv.lim (fun _ w7 H7 => fin rfl (bk H7) hR keep) (fun h => absurd h hne) fun h => absurd h hne
    · exact qfill_spec (fw H5) hv.fi hv.rf hv.lim (fun h => absurd he h) (fun _ _ w7 H7 => fin rfl (bk H7) hR keep) fun _ p hp1 => (by have := firstB_one hE hp1; rw [hno p] at this; cases this)
    · refine qfill_spec (fw H5) hv.fi hv.rf hv.lim (fun h => absurd he h) (fun _ hno => (by have := firstB_one hE hp1; rw [hno p] at this; cases this)) fun _ p' hp' w7 H7 => ?_
      have e := firstB_uniq hp1 hp'
      subst e
      refine fin rfl (bk H7) (fun x hx => ?_) fun T h1 h2 _ => ⟨crA (V' := V.take _ _) rfl (fun x _ hx => ?_) h1, fun x hx hy => ?_⟩
      · obtain ⟨g1, g2, g3⟩ := fill_own hx
        refine ⟨hv.fi x g3, ?_⟩
        show (V.fr x && !inr (p / 64 * 64) 64 x) = false
        rw [inr_iff.2 ⟨g1, g2⟩]; simp
      · have hx : (V.fr x && !inr (p / 64 * 64) 64 x) = true := hx
        rw [Bool.and_eq_true] at hx; exact hx.1
      · obtain ⟨g1, g2, g3⟩ := fill_own hx
        rw [(h1 x hy).2] at g3; cases g3
  · -- the cache gives
    refine ⟨n, cn 4 H3 rfl, palloc_spec hT2 H3 hn.1 hn.2 (fun hb => ⟨n, cn 4 H3 rfl, ?_⟩) (fun g1 g2 hno => ⟨n, cn 4 H3 rfl, ?_⟩) fun g1 g2 i hi hmin hi64 w12 H12 => ⟨n, cn 4 H12 rfl, ?_⟩⟩
    · exact qalloc_spec (H3.front 1 rfl) hn.1 hn.2 (fun _ => CND_t rfl (CND_t rfl (fin rfl H3 hR keep))) (fun h1 h2 => by omega) fun h1 h2 => by omega
    · exact qalloc_spec (H3.front 1 rfl) hn.1 hn.2 (fun h => by omega) (fun _ _ _ => CND_t rfl (CND_t rfl (fin rfl H3 hR keep))) fun _ _ i hi => absurd hi (hno i)
    · refine qalloc_spec (H12.front 1 rfl) hn.1 hn.2 (fun h => by omega) (fun _ _ h => absurd hi (h i)) fun _ _ i' hi' hmin' _ w17 H17 => ?_
      have e : i = i' := Nat.le_antisymm (hmin i' hi') (hmin' i hi)
      subst e
      refine CND_t (by simp) (CND_t (by simp) (fin rfl (H17.perm (.swap _ _ _)) (fun x hx => hR x (alloc_own S i _ hx)) fun T h1 h2 _ => ⟨h1, fun x hx hy => h2 x (alloc_own S i _ hx) hy⟩))
  · -- flush
    have H4 : Sat (CacheP E c S :: TreeV E t V :: RCP E q S :: RTV E r V :: C :: Z) w2 := H3.perm (.cons _ (.swap _ _ _))
    refine pflush_spec hE H4 hR fun w18 H18 => qflush_spec (toT H18) hR hv.rf fun w19 H19 => fin rfl ((toT H19).perm (.cons _ (.swap _ _ _))) (fun x hx => by rw [nil_own] at hx; cases hx) fun T h1 h2 _ => ⟨crA (V' := V.flush S) rfl (fun x hx hf => ?_) h1, fun x hx => by rw [nil_own] at hx; cases hx⟩
    have hf : (V.fr x || S.own x) = true := hf
    rw [Bool.or_eq_true] at hf
    rcases hf with h | h
    · exact h
    · exact (h2 x h hx).elim
  · -- the tree allocates
    have hu := u64_bnd (bitK .i64 0 n 255)
    obtain ⟨m, hm⟩ : ∃ m, m = u64 (bitK .i64 0 n 255) := ⟨_, rfl⟩
    rw [← hm] at hu
    obtain ⟨l, hl, hI, hok, H4⟩ := pair_get (toT H3)
    have put : ∀ {l' : Nat → Iv} {V' : TV} {w'} {x : Bool}, LV l' V' → (∀ i, i < 3 → Ok (l' i)) → x = true → Sat (TreeP E t l' :: CacheP E c S :: RCP E q S :: C :: Z) w' → (∀ l'', l'' 0 = l' 0 → l'' 1 = l' 1 → l'' 2 = l' 2 → Sat (RTree E r l'' :: TreeP E t l' :: CacheP E c S :: RCP E q S :: C :: Z) w') → CRel S V' → (∀ T, CRel T V → DisC S T → (what = 5 → T.own page = false) → CRel T V' ∧ DisC S T) → K x w' := fun hl' hok' hx h1 h2 h3 h4 =>
      fin hx ((pair_put hl' hok' h1 h2).perm ((List.perm_append_comm (l₁ := [_, _]) (l₂ := [_, _])).append_right (C :: Z))) h3 h4
    have sw : ∀ {A B : Pr} {Y : List Pr} {w'}, Sat (A :: B :: Y) w' → Sat (B :: A :: Y) w' := fun h => h.perm (.swap _ _ _)
    have ok3 : ∀ i, i < 3 → Ok (l i) := fun i hi => hok i (by omega)
    have same : ∀ {w'} {x : Bool}, x = true → Sat (RTree E r l :: TreeP E t l :: CacheP E c S :: RCP E q S :: C :: Z) w' → K x w' := fun hx h => put hl ok3 hx h.tail (fun l'' a0 a1 a2 => h.rcongr a0 a1 a2) hR keep
    refine ⟨n, cn 4 H3 rfl, ?_⟩
    rw [← hm]
    refine talloc_sat hE H4 hu.1 hu.2 (fun hz => ⟨n, cn 4 H4 rfl, ?_⟩) (fun hz hf w16 H16 => ⟨n, cn 4 H16 rfl, ?_⟩) fun hz p hf w16 H16 => ⟨n, cn 4 H16 rfl, ?_⟩
    all_goals rw [← hm]
    · exact ralloc_spec (sw H4) hu.1 hu.2 (fun p h => absurd hz h) (fun _ => CND_t rfl (CND_t rfl (same rfl (sw H4)))) (fun h => absurd hz h) fun h => absurd hz h
    · exact ralloc_spec (sw H16) hu.1 hu.2 (fun p _ h => by rw [hf] at h; cases h) (fun h => absurd h hz) (fun _ _ w' h => CND_t rfl (CND_t rfl (same rfl h))) fun _ p h => by rw [hf] at h; cases h
    · obtain ⟨k1, k2, k3⟩ := tlooked H4 (by omega) hf
      have k4 := (looked_zero (by decide) k1)
      refine ralloc_spec (sw H16) hu.1 hu.2 (fun p' _ h => ?_) (fun h => absurd h hz) (fun _ h => by rw [hf] at h; cases h) fun _ p' h w' h' => ?_
      · rw [hf] at h; cases h; exact ⟨k1, k2, by have := k4.2.2.1; omega⟩
      · rw [hf] at h; cases h
        have le : ∀ x, (V.take p m).fr x = true → V.fr x = true := fun x hx => by
          have hx : (V.fr x && !inr p m x) = true := hx
          rw [Bool.and_eq_true] at hx; exact hx.1
        refine CND_t (by simp) (CND_t (by simp) (put (l' := takeT l p m) (V' := V.take p m) (hl.takeT (by omega)) (fun i hi => ?_) rfl (h' (takeT l p m) rfl rfl rfl).tail (fun l'' a0 a1 a2 => h' l'' a0 a1 a2) (crA rfl (fun x _ hx => le x hx) hR) fun T h1 h2 _ => ⟨crA rfl (fun x _ hx => le x hx) h1, h2⟩))
        have h3 : i = 0 ∨ i = 1 ∨ i = 2 := by omega
        rcases h3 with rfl | rfl | rfl
        · exact hok 0 (by decide)
        · exact Ok_cutL (hok 1 (by decide)) (by omega)
        · exact Ok_cutL (hok 2 (by decide)) (by omega)
  · -- a page is given back
    have hno := hown e
    have H3d := H3.drew
    unfold F.mallowlaw10_own
    refine ⟨page, cp 4 H3d rfl, qowns_spec (H3d.front 1 rfl) hp.1 hp.2 fun w5 H5' => ?_⟩
    rw [hno]
    have H5 : Sat (CacheP E c S :: RCP E q S :: TreeV E t V :: RTV E r V :: C :: Z) w5 := H5'.perm (.swap _ _ _)
    obtain ⟨l, hl, hI, hok, H4⟩ := pair_get (toT H5)
    have put : ∀ {l' : Nat → Iv} {V' : TV} {w'} {x : Bool}, LV l' V' → (∀ i, i < 3 → Ok (l' i)) → x = true → Sat (TreeP E t l' :: CacheP E c S :: RCP E q S :: C :: Z) w' → (∀ l'', l'' 0 = l' 0 → l'' 1 = l' 1 → l'' 2 = l' 2 → Sat (RTree E r l'' :: TreeP E t l' :: CacheP E c S :: RCP E q S :: C :: Z) w') → CRel S V' → (∀ T, CRel T V → DisC S T → (what = 5 → T.own page = false) → CRel T V' ∧ DisC S T) → K x w' := fun hl' hok' hx h1 h2 h3 h4 =>
      fin hx ((pair_put hl' hok' h1 h2).perm ((List.perm_append_comm (l₁ := [_, _]) (l₂ := [_, _])).append_right (C :: Z))) h3 h4
    have sw : ∀ {A B : Pr} {Y : List Pr} {w'}, Sat (A :: B :: Y) w' → Sat (B :: A :: Y) w' := fun h => h.perm (.swap _ _ _)
    have ok3 : ∀ i, i < 3 → Ok (l i) := fun i hi => hok i (by omega)
    have same : ∀ {w'} {x : Bool}, x = true → Sat (RTree E r l :: TreeP E t l :: CacheP E c S :: RCP E q S :: C :: Z) w' → K x w' := fun hx h => put hl ok3 hx h.tail (fun l'' a0 a1 a2 => h.rcongr a0 a1 a2) hR keep
    refine CND_f rfl ⟨page, cp 4 H5 rfl, page, cp 4 H5 rfl, tgive_sat hE H4 hp.1 hp.2 (by decide) (by decide) (fun hb w9 H9 => ⟨cp 4 H9 rfl, ?_⟩) fun hb w9 H9 => ⟨cp 4 H9 rfl, ?_⟩⟩
    · exact rgive_spec (sw H9) hI.rel hp.1 hp.2 (by decide) (by decide) (fun _ w' h => same (by simp) h) fun h => absurd h hb
    · have k4 := (looked_zero (by decide) hb)
      have k5 := k4.2.2.1
      have o1 := (addL_spec (hok 1 (by decide)) (a := page) (b := page + 1) (by omega) hp.1 (by omega)).1
      have le : ∀ (T : CS) x, T.own page = false → T.own x = true → (V.give page 1).fr x = true → V.fr x = true := fun T x hT hx hf => by
        have hf : (V.fr x || inr page 1 x) = true := hf
        rw [Bool.or_eq_true, inr_iff] at hf
        rcases hf with h | h
        · exact h
        · rw [show x = page by omega, hT] at hx; cases hx
      refine rgive_spec (sw H9) hI.rel hp.1 hp.2 (by decide) (by decide) (fun h => absurd hb h) fun _ w' h => put (l' := giveT l 3 page 1) (V' := V.give page 1) (hl.giveT hok hp.1 (by decide) (by omega)).1 (fun i hi => ?_) rfl (h (giveT l 3 page 1) rfl rfl rfl).tail (fun l'' a0 a1 a2 => h l'' a0 a1 a2) (crA rfl (fun x hx hf => le S x hno hx hf) hR) fun T h1 h2 h3 => ⟨crA rfl (fun x hx hf => le T x (h3 e) hx hf) h1, h2⟩
      have h3 : i = 0 ∨ i = 1 ∨ i = 2 := by omega
      rcases h3 with rfl | rfl | rfl
      · exact hok 0 (by decide)
      · exact o1
      · exact hok 2 (by decide)
  · -- the tree releases
    have hu := u64_bnd (bitK .i64 0 n 255)
    obtain ⟨m, hm⟩ : ∃ m, m = u64 (bitK .i64 0 n 255) := ⟨_, rfl⟩
    rw [← hm] at hu
    obtain ⟨l, hl, hI, hok, H4⟩ := pair_get (toT H3)
    have put : ∀ {l' : Nat → Iv} {V' : TV} {w'} {x : Bool}, LV l' V' → (∀ i, i < 3 → Ok (l' i)) → x = true → Sat (TreeP E t l' :: CacheP E c S :: RCP E q S :: C :: Z) w' → (∀ l'', l'' 0 = l' 0 → l'' 1 = l' 1 → l'' 2 = l' 2 → Sat (RTree E r l'' :: TreeP E t l' :: CacheP E c S :: RCP E q S :: C :: Z) w') → CRel S V' → (∀ T, CRel T V → DisC S T → (what = 5 → T.own page = false) → CRel T V' ∧ DisC S T) → K x w' := fun hl' hok' hx h1 h2 h3 h4 =>
      fin hx ((pair_put hl' hok' h1 h2).perm ((List.perm_append_comm (l₁ := [_, _]) (l₂ := [_, _])).append_right (C :: Z))) h3 h4
    have sw : ∀ {A B : Pr} {Y : List Pr} {w'}, Sat (A :: B :: Y) w' → Sat (B :: A :: Y) w' := fun h => h.perm (.swap _ _ _)
    have ok3 : ∀ i, i < 3 → Ok (l i) := fun i hi => hok i (by omega)
    have same : ∀ {w'} {x : Bool}, x = true → Sat (RTree E r l :: TreeP E t l :: CacheP E c S :: RCP E q S :: C :: Z) w' → K x w' := fun hx h => put hl ok3 hx h.tail (fun l'' a0 a1 a2 => h.rcongr a0 a1 a2) hR keep
    refine ⟨n, cn 4 H3 rfl, ?_⟩
    rw [← hm]
    refine tscav_sat hE H4 hu.1 hu.2 (fun hz => ⟨n, cn 4 H4 rfl, ?_⟩) fun hz qq mm p k e1 e2 e3 e4 e5 w59 H59 => ⟨n, cn 4 H59 rfl, ?_⟩
    all_goals rw [← hm]
    · refine rscav_spec (sw H4) hI (hok 3 (by decide)) hu.1 hu.2 (fun _ w' h => CND_t rfl (same rfl h)) fun h q m hm => ?_
      rcases hz with h' | h'
      · rw [h'] at hm; exact absurd hm (by simp)
      · exact absurd h' h
    · refine rscav_spec (sw H59) hI (hok 3 (by decide)) hu.1 hu.2 (fun h => ?_) fun _ q' m' hm' p' k' hk' hp' w' h' => ?_
      · rcases h with h | h
        · rw [h] at e1; exact absurd e1 (by simp)
        · exact absurd h hz
      · have hq := (hok 3 (by decide)).mem (p := qq) (by rw [e1]; simp)
        rw [e1] at hm'
        obtain ⟨_, g⟩ := List.append_inj' hm' rfl
        have g : qq = q' := by simpa using g
        subst g
        have e : k' = k := by rw [hk', e2]
        subst e
        have e : p' = p := by rw [hp', e3]
        subst e
        have o2 := (addL_spec (hok 2 (by decide)) (a := p') (b := p' + k') (by omega) (by omega) (by omega)).1
        refine CND_t (by simp) (put (l' := scavT l p' k') (V' := V.scav p' k') (hl.scavT (hok 2 (by decide)) (by omega) e4 (by omega)) (fun i hi => ?_) (by simp) (h' (scavT l p' k') rfl rfl rfl).tail (fun l'' a0 a1 a2 => h' l'' a0 a1 a2) (crA rfl (fun x _ hx => hx) hR) fun T h1 h2 _ => ⟨crA rfl (fun x _ hx => hx) h1, h2⟩)
        have h3 : i = 0 ∨ i = 1 ∨ i = 2 := by omega
        rcases h3 with rfl | rfl | rfl
        · exact hok 0 (by decide)
        · exact hok 1 (by decide)
        · exact o2
  · exact fin rfl H3 hR keep

omit hE in
theorem csame_spec (H : Sat (CacheP E c S :: RCP E q S :: TreeV E t V :: RTV E r V :: Z) w) {K : Bool → World → Prop} (hK : ∀ w', Sat (CacheP E c S :: RCP E q S :: TreeV E t V :: RTV E r V :: Z) w' → K true w') :
    F.mallowlaw10_same E (some ⟨t, 0, none⟩) (some ⟨r, 0, none⟩) (some ⟨c, 0, none⟩) (some ⟨q, 0, none⟩) K w := by
  unfold F.mallowlaw10_same
  have trees : ∀ w', Sat (CacheP E c S :: RCP E q S :: TreeV E t V :: RTV E r V :: Z) w' → F.radix_Tree_Free E (some ⟨t, 0, none⟩) (fun r13 w14 =>
          F.mallowref9_Tree_Free E (some ⟨r, 0, none⟩) (fun r15 w16 =>
          CND ((r13 : Int) == r15) (
            F.radix_Tree_Released E (some ⟨t, 0, none⟩) (fun r17 w18 =>
            F.mallowref9_Tree_Released E (some ⟨r, 0, none⟩) (fun r19 w20 =>
            K ((r17 : Int) == r19) w20
            ) w18
            ) w16
          ) (
            K false w16
          )
          ) w14
          ) w' := fun w' H' => by
    refine vfree_sat (H'.front 2 rfl) (rvfree_spec (H'.front 3 rfl) (CND_t (by simp) (vreleased_sat (H'.front 2 rfl) (rvreleased_spec (H'.front 3 rfl) ?_))))
    rw [beq_self_eq_true]
    exact hK w' H'
  refine ptell_spec H (fun he => qtell_spec (H.front 1 rfl) (fun _ => ?_) fun h => absurd he h) fun hne w4 H4 => qtell_spec (H4.front 1 rfl) (fun h => absurd h hne) fun _ => ?_
  · refine CND_t rfl (CND_t rfl (CND_t rfl (pempty_spec H (fun _ => qempty_spec (H.front 1 rfl) (fun _ => CND_t rfl (trees w H)) fun h => absurd he h) fun h => absurd he h)))
  · refine CND_t (by simp) (CND_t (by simp) (CND_t (by simp) (pempty_spec H4 (fun h => absurd h hne) fun _ => qempty_spec (H4.front 1 rfl) (fun h => absurd h hne) fun _ => CND_t rfl (trees w4 H4))))
end
end Go.Sh

set_option linter.all false
set_option maxRecDepth 4000
set_option maxHeartbeats 4000000
namespace Go.Sh

section
variable {E : Env} {w : World} {Z : List Pr} {r t q c : Nat} {V : TV} {S : CS} {l : Nat → Iv}
variable (hE : EnvS E)
include hE

theorem cgrow2_spec (H : Sat (TreeV E t V :: RTV E r V :: Z) w) {n : Int} (hn : 0 ≤ n) (hn2 : n < 18446744073709551616) {K : Bool → World → Prop} (hK : ∀ V' w', Sat (TreeV E t V' :: RTV E r V' :: Z) w' → K false w') :
    F.radix_Tree_Grow E (some ⟨t, 0, none⟩) 2 n (fun r19 w20 => F.mallowref9_Tree_Grow E (some ⟨r, 0, none⟩) 2 n (fun r21 w22 => K ((r19 : Int) != r21) w22) w20) w := by
  obtain ⟨l, hl, hI, hok, H4⟩ := pair_get H
  have sw : ∀ {A B : Pr} {Y : List Pr} {w'}, Sat (A :: B :: Y) w' → Sat (B :: A :: Y) w' := fun h => h.perm (.swap _ _ _)
  have same : ∀ {w'} {x : Bool}, x = false → Sat (RTree E r l :: TreeP E t l :: Z) w' → K x w' := fun hx h => by
    rw [hx]; exact hK _ _ (pair_put hl (fun i hi => hok i (by omega)) h.tail fun l'' a0 a1 a2 => h.rcongr a0 a1 a2)
  refine tgrow_sat hE H4 (by decide) (by decide) hn hn2 (fun hb => ?_) (fun hb hc w9 H9 => ?_) fun hb hc w9 H9 => ?_
  · exact rgrow_spec (sw H4) (by decide) (by decide) hn hn2 (fun _ => same rfl (sw H4)) (fun h => absurd hb h) fun h => absurd hb h
  · exact rgrow_spec (sw H9) (by decide) (by decide) hn hn2 (fun h => absurd h hb) (fun _ _ w' h => same rfl h) fun _ h => absurd h hc
  · refine rgrow_spec (sw H9) (by decide) (by decide) hn hn2 (fun h => absurd h hb) (fun _ h => absurd hc h) fun _ _ w' h => ?_
    have hb' := hb
    unfold growBad at hb'
    have hg := hl.growT hok (c := 2) (n := n) (by decide) (by omega) (by omega)
    refine hK (V.grow 2 n) w' (pair_put hg (fun i hi => ?_) (h (growT l 2 n) fun i hi => ?_).tail fun l'' a0 a1 a2 => h l'' fun i hi => ?_)
    · have o : ∀ i, i < 4 → Ok (addL (l i) (2 * 512) ((2 + n) * 512)) := fun i hi => (addL_spec (hok i hi) (by omega) (by omega) (by omega)).1
      have h3 : i = 0 ∨ i = 1 ∨ i = 2 := by omega
      rcases h3 with rfl | rfl | rfl
      · exact o 0 (by decide)
      · exact o 1 (by decide)
      · exact o 2 (by decide)
    · have h3 : i = 0 ∨ i = 1 ∨ i = 2 := by omega
      rcases h3 with rfl | rfl | rfl <;> rfl
    · have h3 : i = 0 ∨ i = 1 ∨ i = 2 := by omega
      rcases h3 with rfl | rfl | rfl
      · rw [a0]; rfl
      · rw [a1]; rfl
      · rw [a2]; rfl

theorem cplays_spec {n : Int} {a : SlV} {z : Nat → Int × Bool × Int × Int × Unit} (hn : 0 ≤ n ∧ n < 18446744073709551616) (ha : RowA w CAct a z) (hT : TabAt E.g_math_bits_deBruijn64tab w) {K : Bool → World → Prop} (hK : ∀ w', Ext Nothing w w' → K true w') :
    F.mallowlaw10_CachePlays E n a K w := by
  unfold F.mallowlaw10_CachePlays
  simp only [Nat.mul_one]
  refine JOIN_in (CND_dec (fun _ j => CND_t rfl (hK _ (Ext.refl _ _))) fun g1 => CND_dec (fun _ j => CND_t rfl (hK _ (Ext.refl _ _))) fun g2 j => CND_dec (fun _ => hK _ (Ext.refl _ _)) fun g3 => ?_)
  refine vnew_sat (Sat.start w) fun w5 t H5 => AL_cells (vs := [.slice none 0 0]) H5 fun r w7 H7 _ => ?_
  have H7' : Sat (RTV E r TV.nil :: TreeV E t TV.nil :: [Old w]) w7 := by
    refine Sat.rtv.2 ⟨fun _ => [], ⟨⟨fun p => ⟨fun h => absurd h (mem_nil p), fun h => (by cases h)⟩, fun p => ⟨fun h => absurd h (mem_nil p), fun h => (by cases h)⟩, fun p => ⟨fun h => absurd h (mem_nil p), fun h => (by cases h)⟩⟩, fun i _ => trivial⟩, Sat.rtreeNil H7 fun _ => rfl⟩
  refine pnew_spec H7' fun w9 c H9 => pnew_spec H9 fun w11 d H11 => ?_
  refine AL_cells (vs := qcells 0 (fun _ => false) (fun _ => false)) H11 fun q w13 H13 _ => AL_cells (vs := qcells 0 (fun _ => false) (fun _ => false)) H13 fun p w15 H15 _ => ?_
  have qn : QInv CS.nil 0 (fun _ => false) (fun _ => false) := ⟨by decide, by decide, fun h => absurd (fun _ => rfl) h, fun _ _ => rfl, fun _ _ => rfl, fun _ _ => rfl⟩
  -- p, q, d, c, r, t, old
  have H16 : Sat (RCP E p CS.nil :: RCP E q CS.nil :: CacheP E d CS.nil :: CacheP E c CS.nil :: RTV E r TV.nil :: TreeV E t TV.nil :: [Old w]) w15 :=
    Sat.rcp.2 ⟨_, _, _, qn, (Sat.rcp.2 ⟨_, _, _, qn, H15.perm (.swap _ _ _)⟩ : Sat (RCP E q CS.nil :: _) w15).perm (.swap _ _ _)⟩
  have H17 : Sat (TreeV E t TV.nil :: RTV E r TV.nil :: CacheP E c CS.nil :: RCP E q CS.nil :: CacheP E d CS.nil :: RCP E p CS.nil :: [Old w]) w15 :=
    H16.perm (by
      have : ∀ (p q d c r t o : Pr), [p, q, d, c, r, t, o].Perm [t, r, c, q, d, p, o] := fun p q d c r t o => by
        refine ((List.reverse_perm [t, r, c, d, q, p]).append_right [o]).trans ?_
        exact .cons _ (.cons _ (.cons _ (.swap _ _ _)))
      exact this _ _ _ _ _ _ _)
  clear H5 H7 H7' H9 H11 H13 H15 H16
  have toM : ∀ {V : TV} {S S2 : CS} {w'}, Sat (TreeV E t V :: RTV E r V :: CacheP E c S :: RCP E q S :: CacheP E d S2 :: RCP E p S2 :: [Old w]) w' → Sat (CacheP E c S :: RCP E q S :: TreeV E t V :: RTV E r V :: CacheP E d S2 :: RCP E p S2 :: [Old w]) w' := fun h =>
    h.perm ((List.perm_append_comm (l₁ := [_, _]) (l₂ := [_, _])).append_right _)
  have swC : ∀ {V : TV} {S S2 : CS} {c q d p : Nat} {w'}, Sat (CacheP E c S :: RCP E q S :: TreeV E t V :: RTV E r V :: CacheP E d S2 :: RCP E p S2 :: [Old w]) w' → Sat (CacheP E d S2 :: RCP E p S2 :: TreeV E t V :: RTV E r V :: CacheP E c S :: RCP E q S :: [Old w]) w' := fun h => h.perm (by
      have : ∀ (a b c d e f o : Pr), [a, b, c, d, e, f, o].Perm [e, f, c, d, a, b, o] := fun a b c d e f o => by
        have h1 : ([a, b] ++ ([c, d] ++ [e, f])).Perm (([c, d] ++ [e, f]) ++ [a, b]) := List.perm_append_comm
        have h2 : (([c, d] ++ [e, f]) ++ [a, b]).Perm (([e, f] ++ [c, d]) ++ [a, b]) := List.perm_append_comm.append_right _
        exact (h1.trans h2).append_right [o]
      exact this _ _ _ _ _ _ _)
  refine JOIN_intro (fun st w' => st.1 = false ∧ ∃ V, Sat (TreeV E t V :: RTV E r V :: CacheP E c CS.nil :: RCP E q CS.nil :: CacheP E d CS.nil :: RCP E p CS.nil :: [Old w]) w') ?_ ?_
  · exact CND_f rfl (CND_f rfl (CND_f rfl (cgrow2_spec hE H17 hn.1 hn.2 (K := fun b w' => (fun st w' => st.1 = false ∧ ∃ V, Sat (TreeV E t V :: RTV E r V :: CacheP E c CS.nil :: RCP E q CS.nil :: CacheP E d CS.nil :: RCP E p CS.nil :: [Old w]) w') (b, ()) w') fun V w' h => ⟨rfl, V, h⟩)))
  rintro ⟨x, v⟩ _ w18 ⟨hx, V, H18⟩
  dsimp only at hx
  subst hx
  refine CND_f rfl ?_
  have nilR : ∀ V : TV, CRel CS.nil V := fun V x hx => by rw [nil_own] at hx; cases hx
  refine LOOP_intro (fun st w' => ∃ (i : Nat) (V : TV) (S S2 : CS), st.1 = i ∧ i ≤ a.len ∧ CRel S V ∧ CRel S2 V ∧ DisC S S2 ∧ Sat (CacheP E c S :: RCP E q S :: TreeV E t V :: RTV E r V :: CacheP E d S2 :: RCP E p S2 :: [Old w]) w') (fun st _ => (a.len - st.1).toNat)
    ⟨0, V, CS.nil, CS.nil, rfl, Nat.zero_le _, nilR V, nilR V, fun x hx => by (rw [nil_own] at hx; cases hx), toM H18⟩ ?_
  clear H17 H18
  rintro ⟨i', v⟩ _ w24 ⟨i, V, S, S2, hi, hil, hR, hR2, hD, H24⟩
  dsimp only at hi ⊢
  subst hi
  have hDs : DisC S2 S := fun x h1 h2 => hD x h2 h1
  refine CND_dec (fun hlt => ?_) fun hge => ?_
  · have hik : i < a.len := by omega
    have hii : (0 : Int) ≤ (i : Int) ∧ (i : Int) < (a.len : Nat) := ⟨by omega, by omega⟩
    obtain ⟨x, hx, c0, c1, c2, c3, wn, wp⟩ := cact_cells (CRow.old ha (H24.old 6 rfl)) hik
    rw [hx]
    simp only [NC_some, Int.toNat_natCast]
    rw [i64_id (n := (i : Int) + 1) (by omega) (by omega)]
    have again : ∀ {V' : TV} {S' S2' : CS} {w'}, CRel S' V' → CRel S2' V' → DisC S' S2' → Sat (CacheP E c S' :: RCP E q S' :: TreeV E t V' :: RTV E r V' :: CacheP E d S2' :: RCP E p S2' :: [Old w]) w' → (∃ (k : Nat) (V : TV) (S S2 : CS), (i : Int) + 1 = k ∧ k ≤ a.len ∧ CRel S V ∧ CRel S2 V ∧ DisC S S2 ∧ Sat (CacheP E c S :: RCP E q S :: TreeV E t V :: RTV E r V :: CacheP E d S2 :: RCP E p S2 :: [Old w]) w') ∧ ((a.len : Int) - ((i : Int) + 1)).toNat < ((a.len : Int) - (i : Int)).toNat := fun h1 h2 h3 h4 =>
      ⟨⟨i + 1, _, _, _, by omega, by omega, h1, h2, h3, h4⟩, by omega⟩
    refine JOIN_intro (fun _ w' => ((z i).1 = 5 → S.own (z i).2.2.2.1 = false ∧ S2.own (z i).2.2.2.1 = false) ∧ Sat (CacheP E c S :: RCP E q S :: TreeV E t V :: RTV E r V :: CacheP E d S2 :: RCP E p S2 :: [Old w]) w') ?_ ?_
    · refine ⟨hii, _, c0, CND_eq (fun e5 => ⟨hii, _, c3, ?_⟩) fun e5 => ⟨fun h => absurd h e5, H24⟩⟩
      refine qowns_spec (H24.front 1 rfl) wp.1 wp.2 fun w34 H34 => CND_intro (fun o1 => again hR hR2 hD (H34.perm (.swap _ _ _))) fun o1 => ?_
      obtain ⟨x', hx', _, _, _, c3', _⟩ := cact_cells (CRow.old ha (H34.old 6 rfl)) hik
      have : x' = x := by rw [hx] at hx'; exact (Option.some.inj hx').symm
      subst this
      refine ⟨hii, _, c3', qowns_spec ((H34.perm (.swap _ _ _)).front 5 rfl) wp.1 wp.2 fun w38 H38 => ?_⟩
      have H39 : Sat (CacheP E c S :: RCP E q S :: TreeV E t V :: RTV E r V :: CacheP E d S2 :: RCP E p S2 :: [Old w]) w38 := H38.perm (List.perm_middle (l₁ := [_, _, _, _, _])).symm
      exact CND_intro (fun o2 => again hR hR2 hD H39) fun o2 => ⟨fun _ => ⟨o1, o2⟩, H39⟩
    rintro _ _ w28 ⟨h5, H28⟩
    obtain ⟨x', hx', d0, d1, d2, d3, _⟩ := cact_cells (CRow.old ha (H28.old 6 rfl)) hik
    have : x' = x := by rw [hx] at hx'; exact (Option.some.inj hx').symm
    subst this
    have hT28 := hT.ext (H28.old 6 rfl)
    refine JOIN_intro (fun st w' => st.1 = true ∧ ∃ V' S' S2', CRel S' V' ∧ CRel S2' V' ∧ DisC S' S2' ∧ Sat (CacheP E c S' :: RCP E q S' :: TreeV E t V' :: RTV E r V' :: CacheP E d S2' :: RCP E p S2' :: [Old w]) w') ?_ ?_
    · refine ⟨hii, _, d1, CND_intro (fun _ => ⟨hii, _, by rw [add_zero]; exact d0, _, d1, _, d2, _, d3, ?_⟩) fun _ => ⟨hii, _, by rw [add_zero]; exact d0, _, d1, _, d2, _, d3, ?_⟩⟩
      · refine cact_spec hE (swC H28) hT28 hR2 wn wp (fun e => (h5 e).2) fun S' V' w' h h1 h2 => ⟨rfl, V', S, S', (h2 S hR hDs fun e => (h5 e).1).1, h1, fun y h3 h4 => (h2 S hR hDs fun e => (h5 e).1).2 y h4 h3, swC h⟩
      · exact cact_spec hE H28 hT28 hR wn wp (fun e => (h5 e).1) fun S' V' w' h h1 h2 => ⟨rfl, V', S', S2, h1, (h2 S2 hR2 hD fun e => (h5 e).2).1, (h2 S2 hR2 hD fun e => (h5 e).2).2, h⟩
    rintro ⟨y, v⟩ _ w41 ⟨hy, V', S', S2', g1, g2, g3, H41⟩
    dsimp only at hy
    subst hy
    refine JOIN_in (CND_f rfl (csame_spec H41 fun w62 H62 => CND_f rfl (csame_spec (swC H62) fun w64 H64 j => CND_f rfl (again g1 g2 g3 (swC H64)))))
  · refine LOOP_intro (fun st w' => 1024 ≤ st.1 ∧ st.1 < 5000 ∧ Sat (CacheP E c S :: RCP E q S :: TreeV E t V :: RTV E r V :: CacheP E d S2 :: RCP E p S2 :: [Old w]) w') (fun st _ => (5000 - st.1).toNat) ⟨Int.le_refl _, by show (1024 : Int) < 5000; decide, H24⟩ ?_
    rintro ⟨k, v⟩ _ w66 ⟨k0, k1, H66⟩
    dsimp only at k0 k1 ⊢
    rw [u64_id (n := 512 * n) (by omega) (by omega), u64_id (n := 1024 + 512 * n) (by omega) (by omega)]
    refine CND_dec (fun hlt => ?_) fun hge2 => ?_
    · refine vstateT_sat hE (H66.front 2 rfl) (by omega) fun w71 H71 => rvstate_spec (H71.front 3 rfl) (by omega) (by omega) fun w75 H75 => ?_
      rw [u64_id (n := k + 3) (by omega) (by omega)]
      have H76 : Sat (CacheP E c S :: RCP E q S :: TreeV E t V :: RTV E r V :: CacheP E d S2 :: RCP E p S2 :: [Old w]) w75 := toM (H75.perm (.swap _ _ _))
      exact JOIN_in (CND_f (by simp) (CND_f (by simp) fun j => CND_f (by simp) ⟨⟨by omega, by omega, H76⟩, by omega⟩))
    · exact cawake_spec hE H66 (fun w' h => hT.ext (h.old 6 rfl)) fun w' h => hK _ (h.old 6 rfl)
end
end Go.Sh

namespace Go.Proofs.YtnmbkhckcjkopaaDoor.cachePlays
open Go.ChangeShapes Go.WideShapes Go.ChangeAt Go.RowKit
set_option linter.unusedVariables false
set_option linter.unusedSimpArgs false

theorem own : ownKnob Tryd.prog.godebug = none := by kernel_rfl
theorem laidOut : laidOutB Tryd.prog = true := by kernel_rfl
theorem gTab : Tryd.prog.globalNamed "math/bits.deBruijn64tab" = some 0 := by kernel_rfl
theorem gTabType : (Tryd.prog.globals[0]?).map (·.type) = some 113 := by kernel_rfl
theorem und1 : Tryd.prog.underlying 113 = some (.array 64 5) := by kernel_rfl
theorem und2 : Tryd.prog.underlying 5 = some (.int .u8) := by kernel_rfl
theorem cells1 : Tryd.prog.cellsOf 113 = 64 := by kernel_rfl
theorem cells2 : Tryd.prog.cellsOf 5 = 1 := by kernel_rfl

/-- What the row's list gives: the table's cells hold its numbers. -/
theorem table {W : World} (h : laidMetH Tryd.prog Rows.cachePlaysRow.laid W) : Go.Sh.TabAt Go.Sh.env.g_math_bits_deBruijn64tab W := by
  have ht := Lib.tabIs_of_head (rest := []) (k := .u8) (zs := Lib.deBruijn64tab.map fun n : Nat => (n : Int)) gTab gTabType und1 und2 cells2 cells1 h
  intro i hi
  have := ht.cell gTab i (by rw [List.length_map]; exact hi)
  rw [show (Lib.deBruijn64tab.map fun n : Nat => (n : Int)).getD i 0 = ((Lib.deBruijn64tab.getD i 0 : Nat) : Int) by rw [List.getD_eq_getElem?_getD, List.getD_eq_getElem?_getD, List.getElem?_map]; cases Lib.deBruijn64tab[i]? <;> rfl] at this
  exact this

theorem walk (x : Go.Sh.ArgTs [.int .u64, .sl (.cons (.int .i64) (.cons (.bool) (.cons (.int .i64) (.cons (.int .u64) (.nil)))))]) (w : World) (h : Go.Sh.argOks w [.int .u64, .sl (.cons (.int .i64) (.cons (.bool) (.cons (.int .i64) (.cons (.int .u64) (.nil)))))] x) (hT : Go.Sh.TabAt Go.Sh.env.g_math_bits_deBruijn64tab w) :
    Calls Tryd.prog 6 ⟨Go.Sh.argVals [.int .u64, .sl (.cons (.int .i64) (.cons (.bool) (.cons (.int .i64) (.cons (.int .u64) (.nil)))))] x⟩ w fun e w' => e = .returned (.bool true) ∧ Below w.heap.size w w' := by
  obtain ⟨a0, a1, u⟩ := x
  obtain ⟨w0, w1, _⟩ := h
  obtain ⟨z1, w1⟩ := w1
  refine (Go.Sh.fits6 _ w (fun v w' => v = .bool true ∧ Below w.heap.size w w') Go.Sh.noP ?_).2.mono ?_
  · show Go.Sh.F.mallowlaw10_CachePlays Go.Sh.env a0 a1 (fun r w' => Value.bool r = .bool true ∧ Below w.heap.size w w') w
    exact Go.Sh.cplays_spec Go.Sh.envS (Go.Sh.u64_wf w0) w1 hT fun w' h => ⟨rfl, h.below (Nat.le_refl _) fun _ f => f.elim⟩
  · intro e w' hE
    obtain ⟨v, rfl, rfl, h⟩ := hE.val
    exact ⟨rfl, h⟩

noncomputable def laidWorld (os : Os) : World :=
  { World.holding Tryd.prog os ⟨#[], #[], []⟩ with heap := (World.holding Tryd.prog os ⟨#[], #[], []⟩).heap.modify 0 fun
      | .cells _ t frozen => .cells ⟨Lib.deBruijn64tab.map fun n : Nat => .int .u8 (n : Int)⟩ t frozen
      | o => o }
theorem laid_met (os : Os) : laidMet Tryd.prog Rows.cachePlaysRow.laid ((laidWorld os).forCall (fun _ _ => 0) ⟨#[], #[.int .u64 0, .slice none 0 0], []⟩).memory :=
  laidMet_of_run' 8 (by kernel_rfl) (by kernel_rfl)
theorem reads (os : Os) {H : Type} (enc : TypeId × Value → H) : ∃ places, DataW.whole enc Tryd.prog ((laidWorld os).forCall (fun _ _ => 0) ⟨#[], #[.int .u64 0, .slice none 0 0], []⟩).memory Tryd.f6.params.toList Rows.cachePlaysSpec.vars false (#[.int .u64 0, .slice none 0 0] : Array Value).toList 8 = some ([.lit (.int .u64 0), .nil], [], places) :=
  ⟨[], by kernel_rfl⟩

set_option maxRecDepth 100000 in
theorem lifted (os : Os) (started : os.Started) (H : Type) (enc : TypeId × Value → H) (F : Stop.Interp) :
    ReturnsInHanded {} Tryd.checked os 6 .any ((OpenSpec.ofChange Rows.cachePlaysSpec).preRow enc Tryd.prog Tryd.f6 Rows.cachePlaysRow.domain false Rows.cachePlaysRow.laid) (((OpenSpec.ofChange Rows.cachePlaysSpec).at F).post enc Tryd.prog Tryd.f6 false true false false) := by
  obtain ⟨places, hx⟩ := reads os enc
  refine returnsInHanded_of_row (C := Tryd.checked) (s := OpenSpec.ofChange Rows.cachePlaysSpec) own started (by kernel_rfl) Tryd.func6
    (witness_row_at (enc := enc) (C := Tryd.checked) false (laidWorld os) #[.int .u64 0, .slice none 0 0] rfl (by kernel_rfl) (by kernel_rfl) (by kernel_rfl)
      (OpenSpec.preRow_of_cond 8 hx (by kernel_rfl) (fun k hk => by cases hk) (by kernel_rfl) (laid_met os))) ?_
  intro W base args ds gs before hval0 hW _ _ _ hL _ _
  have hW' := hW
  obtain ⟨p, q, hA, hV, rfl, hfz, hnd⟩ := hW
  obtain ⟨rfl, rfl⟩ := trodVars_none hV
  have hargs := Go.Sh.args_of (P := Tryd.prog) (shs := [.int .u64, .sl (.cons (.int .i64) (.cons (.bool) (.cons (.int .i64) (.cons (.int .u64) (.nil)))))]) (by kernel_rfl) (fun j t v ht hv => hval0 j t v (by simpa using ht) (by simpa using hv)) hA
  obtain ⟨x, hx, hok⟩ := Go.Sh.argVals_of hargs
  obtain rfl : args = ⟨Go.Sh.argVals [.int .u64, .sl (.cons (.int .i64) (.cons (.bool) (.cons (.int .i64) (.cons (.int .u64) (.nil)))))] x⟩ := Array.toList_inj.1 (by simpa using hx)
  have hlen := Go.Sh.trodAll_len hA
  obtain ⟨d0, d1, rfl⟩ : ∃ d0 d1, ds = [d0, d1] := by
    have hl : ds.length = 2 := hlen
    match ds, hl with
    | [d0, d1], _ => exact ⟨d0, d1, rfl⟩
  refine (walk x W hok (table hL)).mono fun e W' ⟨he, bel⟩ => ?_
  subst he
  exact ⟨_, rfl, _, _, _, [], _, [], hW', trodAll_mk1 (shut_bool Tryd.underlying4 _), Go.Sh.trodAll_below laidOut bel (by kernel_rfl) hA, rfl, bel.frame _, fun h => by cases h⟩

theorem said : Rows.CachePlaysSaid :=
  OpenClaim.holds_of_cond 6 Tryd.f6 rfl rfl rfl rfl rfl rfl rfl ⟨rfl, rfl, rfl, rfl, rfl⟩ rfl rfl rfl rfl rfl (by kernel_rfl) Tryd.func6 (by kernel_rfl)
    (of_decide_eq_true (by kernel_rfl)) (by unfold Func.isWrapper; first | (rw [if_pos (by decide +kernel)]; kernel_rfl) | (rw [if_neg (by decide +kernel)]; exact ⟨rfl, rfl⟩))
    (fun os started H enc _ F => by rw [OpenClaim.pre_eq_preRow]; exact lifted os started H enc F)

theorem plain (f : FuncId) (fn : Func) (hf : Tryd.pinned.checked.prog.funcNamed "mallow/mallowlaw10.CachePlays" = some f) (hfn : Tryd.pinned.checked.prog.funcs[f]? = some fn) :
    false = Tryd.pinned.checked.prog.looks [] ∧ ∀ (j : Nat) t, fn.params[j]? = some t → Tryd.pinned.checked.prog.wantsStandIn t = false := by
  obtain rfl : f = 6 := Option.some.inj ((show Tryd.prog.funcNamed "mallow/mallowlaw10.CachePlays" = some 6 by kernel_rfl).symm.trans hf) |>.symm
  obtain rfl : fn = Tryd.f6 := (Option.some.inj (Tryd.func6.symm.trans hfn)).symm
  refine ⟨by kernel_rfl, fun j t ht => ?_⟩
  have hall : (Tryd.f6.params.toList.all fun t => !(Tryd.prog.wantsStandIn t)) = true := by kernel_rfl
  have := List.all_eq_true.1 hall t (Array.mem_toList_iff.2 (Array.mem_of_getElem? ht))
  exact Bool.not_eq_true' _ ▸ this

/-- ████ THE CARD ████ -/
theorem proved : Rows.CachePlaysCardSaid :=
  Claim7.holds_tied_plain_at .later [] _ _ _ _ said (fun _ h => by cases h) (by kernel_rfl) (fun _ h => by cases h) cachePlays_row_tie rfl ⟨rfl, rfl⟩ (by kernel_rfl) rfl plain (by kernel_rfl)
#print axioms proved
end Go.Proofs.YtnmbkhckcjkopaaDoor.cachePlays
