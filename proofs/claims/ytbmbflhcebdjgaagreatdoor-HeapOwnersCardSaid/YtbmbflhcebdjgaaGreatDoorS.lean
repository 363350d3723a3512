/- The sets of stretches do what their lists say. No further condition. -/
import Derived.Test.YtbmbflhcebdjgaaGreatDoorF
import Derived.Test.YtbmbflhcebdjgaaGreatDoorM
set_option linter.all false
namespace Go.Sh
def flat : Iv -> List Value
  | [] => []
  | p :: r => .int .u64 p.1 :: .int .u64 p.2 :: flat r
theorem flat_length : ∀ l : Iv, (flat l).length = l.length * 2
  | [] => rfl
  | p :: r => by simp [flat, flat_length r]; omega
theorem flat_append : ∀ l m : Iv, flat (l ++ m) = flat l ++ flat m
  | [], _ => rfl
  | p :: r, m => by simp [flat, flat_append r m]
theorem flat_take : ∀ (l : Iv) (i : Nat), (flat l).take (i * 2) = flat (l.take i)
  | [], i => by simp [flat]
  | p :: r, 0 => by simp [flat]
  | p :: r, i + 1 => by
    rw [show (i + 1) * 2 = i * 2 + 1 + 1 from by omega]
    simp [flat, flat_take r i]
theorem flat_drop : ∀ (l : Iv) (i : Nat), (flat l).drop (i * 2) = flat (l.drop i)
  | [], i => by simp [flat]
  | p :: r, 0 => by simp [flat]
  | p :: r, i + 1 => by
    rw [show (i + 1) * 2 = i * 2 + 1 + 1 from by omega]
    simp [flat, flat_drop r i]
theorem flat_get : ∀ (l : Iv) (i : Nat) (p : Int × Int), l[i]? = some p -> (flat l)[i * 2]? = some (.int .u64 p.1) /\ (flat l)[i * 2 + 1]? = some (.int .u64 p.2)
  | [], i, p, h => by simp at h
  | q :: r, 0, p, h => by simp at h; subst h; simp [flat]
  | q :: r, i + 1, p, h => by
    have := flat_get r i p (by simpa using h)
    rw [show (i + 1) * 2 = i * 2 + 1 + 1 from by omega]
    simpa [flat] using this
theorem flat_one : ∀ (l : Iv) (v : Value), v ∈ flat l -> v.oneCell' = true
  | [], v, h => by cases h
  | p :: r, v, h => by
    simp only [flat, List.mem_cons] at h
    rcases h with rfl | rfl | h
    · rfl
    · rfl
    · exact flat_one r v h
abbrev big : Int := 4398046511104
theorem length_le : ∀ {l : Iv}, Ok l -> ∀ B : Int, 0 <= B -> (∀ p ∈ l, p.2 <= B) -> (l.length : Int) <= B := by
  have key : ∀ {l : Iv}, Ok l -> ∀ A B : Int, A <= B -> (∀ p ∈ l, A <= p.1) -> (∀ p ∈ l, p.2 <= B) -> (l.length : Int) <= B - A := by
    intro l
    induction l with
    | nil => intro _ A B h _ _; simp; omega
    | cons p r ih =>
      intro h A B hAB hA hB
      have h1 := hA p (by simp)
      have h2 := hB p (by simp)
      have h3 := h.2.1
      have := ih h.tail p.2 B h2 (fun q hq => by have := h.2.2.2.1 q hq; omega) (fun q hq => hB q (by simp [hq]))
      simp only [List.length_cons]
      omega
  intro l h B h0 hB
  have := key h 0 B h0 (fun p hp => (h.mem hp).1) hB
  omega
structure RowOf (E : Env) (w : World) (p : Addr) (s : SlV) (l : Iv) : Prop where
  c0 : w.cell? p = some (.slice s.base s.len s.cap)
  f0 : w.frozen? p = false
  own : Own w 0 E.t_stretch_One 2 s (flat l)
  ok : Ok l
  bnd : ∀ q ∈ l, q.2 <= big
  apart : ∀ a, s.base = some a -> a.block ≠ p.block
section
variable {E : Env} {w w' : World} {p : Addr} {s : SlV} {l : Iv}
theorem RowOf.len (h : RowOf E w p s l) : s.len = l.length := by
  have := h.own.len
  rw [flat_length] at this
  omega
theorem RowOf.small (h : RowOf E w p s l) : (l.length : Int) <= big := length_le h.ok big (by decide) h.bnd
theorem RowOf.ext {S : Nat -> Prop} (h : RowOf E w p s l) (he : Ext S w w') (hp : ¬ S p.block) (hs : ∀ a, s.base = some a -> ¬ S a.block) : RowOf E w' p s l :=
  ⟨he.cell h.c0 hp, by rw [he.frozen (World.block_lt_of_cell? w p h.c0) hp]; exact h.f0,
   h.own.ext he fun b hb => hs _ hb, h.ok, h.bnd, h.apart⟩
theorem RowOf.ext0 (h : RowOf E w p s l) (he : Ext Nothing w w') : RowOf E w' p s l := h.ext he (fun f => f) fun _ _ f => f
theorem RowOf.cells (h : RowOf E w p s l) {i : Nat} {q : Int × Int} (hi : l[i]? = some q) :
    ∃ b, s.base = some ⟨b, 0, none⟩ /\ w.cell? ⟨b, i * 2, none⟩ = some (.int .u64 q.1) /\ w.cell? ⟨b, i * 2 + 1, none⟩ = some (.int .u64 q.2) := by
  have hr := h.own.rowAt
  obtain ⟨g1, g2⟩ := flat_get l i q hi
  rcases h.own.row with ⟨h1, h2⟩ | ⟨b, cs, h1, _⟩
  · rw [h1] at hr
    have : flat l = [] := hr
    rw [this] at g1; simp at g1
  · rw [h1] at hr
    refine ⟨b, h1, ?_, ?_⟩
    · have := hr.2 _ _ g1; rwa [add_eq, Nat.zero_add] at this
    · have := hr.2 _ _ g2; rwa [add_eq, Nat.zero_add] at this
theorem RowOf.lt (h : RowOf E w p s l) : p.block < w.heap.size := World.block_lt_of_cell? w p h.c0
end
structure SetAt (E : Env) (w : World) (b o : Nat) (s : SlV) (l : Iv) : Prop where
  row : RowOf E w ⟨b, o, none⟩ s l
  c1 : w.cell? ⟨b, o + 1, none⟩ = some (.int .u64 (tot l))
  f1 : w.frozen? ⟨b, o + 1, none⟩ = false
theorem SetAt.ext {E : Env} {w w' : World} {b o : Nat} {s : SlV} {l : Iv} {S : Nat -> Prop} (h : SetAt E w b o s l) (he : Ext S w w') (hp : ¬ S b) (hs : ∀ a, s.base = some a -> ¬ S a.block) : SetAt E w' b o s l :=
  ⟨h.row.ext he hp hs, he.cell h.c1 hp, by rw [he.frozen (p := ⟨b, o + 1, none⟩) h.row.lt hp]; exact h.f1⟩
structure Upd (b : Nat) (C : Nat -> Prop) (w w' : World) : Prop where
  ext : Ext (Only b) w w'
  keep : ∀ j, ¬ C j -> w'.cell? ⟨b, j, none⟩ = w.cell? ⟨b, j, none⟩
  frz : ∀ j, w'.frozen? ⟨b, j, none⟩ = w.frozen? ⟨b, j, none⟩
theorem Upd.of_ext {b : Nat} {C : Nat -> Prop} {w w' : World} (h : Ext Nothing w w') (hb : b < w.heap.size) : Upd b C w w' :=
  ⟨h.any, fun j _ => World.cell?_of_block (h.block b hb fun f => f), fun j => World.frozen?_of_block (h.block b hb fun f => f)⟩
theorem Upd.of_stored {b j : Nat} {C : Nat -> Prop} {w w' : World} {v : Value} (h : Stored ⟨b, j, none⟩ v w w') (hj : C j) : Upd b C w w' :=
  ⟨h.ext, fun i hi => h.other _ (by intro e; injection e with _ e; subst e; exact hi hj), fun i => h.frozen _⟩
theorem Upd.trans {b : Nat} {C : Nat -> Prop} {w w1 w2 : World} (h : Upd b C w w1) (k : Upd b C w1 w2) : Upd b C w w2 :=
  ⟨h.ext.trans' k.ext, fun j hj => (k.keep j hj).trans (h.keep j hj), fun j => (k.frz j).trans (h.frz j)⟩
def Two (o : Nat) : Nat -> Prop := fun j => j = o ∨ j = o + 1
def Fresh (w : World) (s s' : SlV) : Prop := s'.base = s.base ∨ ∀ a, s'.base = some a -> w.heap.size <= a.block
structure EnvS (E : Env) : Prop where
  at1 : ∀ i p1 p2 K w, F.stretch_Set_at_1 E i p1 p2 K w -> E.call E.f_stretch_Set_at_1 #[.int .i64 i, .pointer p1, .pointer p2] w (fun r w' => ∃ b, r = .bool b /\ K b w') noP
  mono : ∀ g args w (K K' : Value -> World -> Prop), (∀ v w', K v w' -> K' v w') -> E.call g args w K noP -> E.call g args w K' noP
theorem half (a b : Int) (ha : 0 <= a) (hb : 0 <= b) (hs : a + b < 9223372036854775808) :
    i64 (Int.fdiv (u64 (i64 (a + b))) (2 ^ (min (Int.toNat 1) (IntKind.bits .u64)))) = (a + b) / 2 := by
  have e1 : i64 (a + b) = a + b := i64_id (by omega) (by omega)
  have e2 : u64 (a + b) = a + b := u64_id (by omega) (by omega)
  rw [e1, e2]
  have : (2 : Int) ^ (min (Int.toNat 1) (IntKind.bits .u64)) = 2 := by decide
  rw [this, Int.fdiv_eq_ediv_of_nonneg _ (by omega), i64_id (by omega) (by omega)]
theorem search_spec {E : Env} {n : Int} {fv : Value} {w0 : World} {K : Int -> World -> Prop} (t : Int -> Bool) (hn : 0 <= n) (hn2 : n < 4611686018427387904)
    (hf : ∀ i w, 0 <= i -> i < n -> Ext Nothing w0 w -> ∀ K' : Value -> World -> Prop, (∀ w', Ext Nothing w0 w' -> K' (.bool (t i)) w') -> DYN E.call fv #[.int .i64 i] w K')
    (m : Int) (hm0 : 0 <= m) (hmn : m <= n) (hlo : ∀ i, 0 <= i -> i < m -> t i = false) (hhi : ∀ i, m <= i -> i < n -> t i = true)
    (hK : ∀ w', Ext Nothing w0 w' -> K m w') : F.sort_Search E n fv K w0 := by
  unfold F.sort_Search
  refine LOOP_intro (fun s w => 0 <= s.1 /\ s.1 <= m /\ m <= s.2.1 /\ s.2.1 <= n /\ Ext Nothing w0 w) (fun s _ => (s.2.1 - s.1).toNat) ⟨by simp, by simpa using hm0, by simpa using hmn, by simp, Ext.refl _ _⟩ ?_
  rintro ⟨i, j, u⟩ _ w ⟨h1, h2, h3, h4, hw⟩
  simp only at h1 h2 h3 h4 ⊢
  refine CND_dec (fun hlt => ⟨by decide, LET_intro fun h hh => ?_⟩) (fun hge => ?_)
  · rw [half i j h1 (by omega) (by omega)] at hh
    refine hf h w (by omega) (by omega) hw _ fun w' hw' => ⟨_, rfl, CND_intro (fun ht => ?_) (fun ht => ?_)⟩
    · have hf' : t h = false := by simpa using ht
      have : h < m := by
        rcases Int.lt_or_le h m with h5 | h5
        · exact h5
        · rw [hhi h h5 (by omega)] at hf'; cases hf'
      rw [i64_id (by omega) (by omega)]
      exact ⟨⟨by omega, by omega, h3, h4, hw'⟩, by omega⟩
    · have hf' : t h = true := by simpa using ht
      have : m <= h := by
        rcases Int.lt_or_le h m with h5 | h5
        · rw [hlo h (by omega) h5] at hf'; cases hf'
        · exact h5
      exact ⟨⟨h1, h2, this, by omega, hw'⟩, by omega⟩
  · have : i = m := by omega
    subst this
    exact hK w hw
theorem take_succ_get {α : Type} {l : List α} {k : Nat} {x : α} (h : l[k]? = some x) : l.take (k + 1) = l.take k ++ [x] := by
  obtain ⟨hlt, rfl⟩ := List.getElem?_eq_some_iff.1 h
  exact List.take_succ_eq_append_getElem hlt
section
variable {E : Env} (hE : EnvS E) {w : World} {p : Addr} {s : SlV} {l : Iv}
include hE
theorem at_spec (h : RowOf E w p s l) {x : Int} (hx0 : 0 <= x) {K : Int -> World -> Prop} (hK : ∀ w', Ext Nothing w w' -> K (posn l x) w') : F.stretch_Set_at E (some p) x K w := by
  unfold F.stretch_Set_at T0.stretch_Set_at
  refine AL_intro fun w1 h1 hs1 he1 => AL_intro fun w2 h2 hs2 he2 => ?_
  have he12 : Ext Nothing w w2 := he1.trans' he2
  have hc1 : w2.cell? ⟨w.heap.size, 0, none⟩ = some (.pointer (some p)) := he2.cell (by rw [cell_of_block h1]; rfl) (fun f => f)
  have hc2 : w2.cell? ⟨w1.heap.size, 0, none⟩ = some (.int .u64 x) := by rw [cell_of_block h2]; rfl
  have hset := h.ext0 he12
  refine ⟨some p, hc1, ?_⟩
  simp only [NC_some]
  refine ⟨s, hset.c0, ?_⟩
  have hlen := h.len
  have hsmall := h.small
  have hbig : big = 4398046511104 := rfl
  refine search_spec (fun i => match l[i.toNat]? with | some q => decide (q.2 > x) | none => true) (by omega) (by omega) ?_ (posn l x) (by omega) ?_ ?_ ?_ fun w' hw' => hK w' (he12.trans' hw')
  · intro i w' hi0 hin hw' K' hK'
    have hlt : i.toNat < l.length := by omega
    have hg := List.getElem?_eq_getElem hlt
    simp only [hg] at hK'
    have hset' := hset.ext0 hw'
    obtain ⟨b, hb, hq1, hq2⟩ := hset'.cells hg
    refine hE.mono _ _ _ _ _ ?_ (hE.at1 i (some ⟨w.heap.size, 0, none⟩) (some ⟨w1.heap.size, 0, none⟩) (fun r w'' => K' (.bool r) w'') w' ?_)
    · rintro v w'' ⟨r, rfl, hr⟩; exact hr
    · unfold F.stretch_Set_at_1
      simp only [NC_some]
      refine ⟨some p, hw'.cell hc1 (fun f => f), ?_⟩
      simp only [NC_some]
      refine ⟨s, hset'.c0, ?_⟩
      rw [hb]
      simp only [NC_some, add_eq, Nat.zero_add]
      exact ⟨⟨hi0, by omega⟩, l[i.toNat].2, hq2, x, hw'.cell hc2 (fun f => f), hK' _ (hw'.trans' (Ext.drew _ _))⟩
  · have := posn_le l x; omega
  · intro i hi0 hi
    have hlt : i.toNat < l.length := by have := posn_le l x; omega
    have hg := List.getElem?_eq_getElem hlt
    simp only [hg]
    have := posn_before l x i.toNat _ (by omega) hg
    exact decide_eq_false (by omega)
  · intro i hi0 hi
    have hlt : i.toNat < l.length := by omega
    have hg := List.getElem?_eq_getElem hlt
    simp only [hg]
    have := posn_after h.ok x (i := i.toNat) (by omega) hg
    exact decide_eq_true (by omega)
theorem has_spec (h : RowOf E w p s l) {x : Int} (hx0 : 0 <= x) {K : Bool -> World -> Prop} (hK : ∀ w' b, (b = true ↔ mem l x) -> Ext Nothing w w' -> K b w') : F.stretch_Set_Has E (some p) x K w := by
  unfold F.stretch_Set_Has T0.stretch_Set_Has
  refine at_spec hE h hx0 fun w' hw' => ?_
  have hs' := h.ext0 hw'
  have hlen := h.len
  simp only [NC_some]
  refine ⟨s, hs'.c0, CND_dec (fun hlt => ?_) (fun hge => ?_)⟩
  · have hl : posn l x < l.length := by omega
    have hg := List.getElem?_eq_getElem hl
    obtain ⟨b, hb, hq1, hq2⟩ := hs'.cells hg
    refine ⟨s, hs'.c0, ?_⟩
    rw [hb]
    simp only [NC_some, add_eq, Nat.zero_add]
    refine ⟨⟨by omega, by omega⟩, _, by simpa using hq1, hK _ _ ?_ hw'⟩
    rw [decide_eq_true_iff]
    constructor
    · intro hle
      exact ⟨_, List.getElem_mem hl, hle, posn_at l x _ hg⟩
    · rintro ⟨q, hq, h1, h2⟩
      obtain ⟨i, hi, rfl⟩ := List.mem_iff_getElem.1 hq
      have hgi := List.getElem?_eq_getElem hi
      rcases Nat.lt_trichotomy i (posn l x) with h3 | h3 | h3
      · have := posn_before l x i _ h3 hgi; omega
      · subst h3; exact h1
      · have := h.ok.lt h3 hg hgi
        have := (h.ok.get hg).2.1
        omega
  · refine hK _ _ ?_ hw'
    simp only [Bool.false_eq_true, false_iff]
    rintro ⟨q, hq, h1, h2⟩
    obtain ⟨i, hi, rfl⟩ := List.mem_iff_getElem.1 hq
    have := posn_le l x
    have := posn_before l x i _ (by omega) (List.getElem?_eq_getElem hi)
    omega
theorem count_spec (h : RowOf E w p s l) {a b : Int} (ha : 0 <= a) (hab : a <= b) (hb : b < 18446744073709551616) {K : Int -> World -> Prop} (hK : ∀ w', Ext Nothing w w' -> K (cnt l a b) w') :
    F.stretch_Set_Count E (some p) a b K w := by
  unfold F.stretch_Set_Count T0.stretch_Set_Count
  refine at_spec hE h ha fun w1 hw1 => ?_
  have hs1 := h.ext0 hw1
  have hlen := h.len
  have hsm := h.small
  have hbig : big = 4398046511104 := rfl
  have hpl := posn_le l a
  refine LOOP_intro (fun st w' => ∃ k : Nat, st.2.1 = (k : Int) /\ posn l a <= k /\ k <= l.length /\ st.1 = cnt (l.take k) a b /\ Ext Nothing w w') (fun st _ => (l.length - st.2.1).toNat)
    ⟨posn l a, rfl, Nat.le_refl _, hpl, (cnt_zero_before posn_cut).symm, hw1⟩ ?_
  rintro ⟨n, i, u⟩ _ w2 ⟨k, hk, hk1, hk2, hn, hw2⟩
  simp only at hk hn ⊢
  subst hk
  have hs2 := h.ext0 hw2
  simp only [NC_some]
  have fin : (∀ q, l[k]? = some q -> b <= q.1) -> K n w2 := by
    intro hend
    have : cnt l a b = cnt (l.take k) a b := by
      conv => lhs; rw [<- List.take_append_drop k l]
      rw [cnt_append]
      have : cnt (l.drop k) a b = 0 := by
        refine cnt_zero_after fun q hq => ?_
        obtain ⟨i, hi, rfl⟩ := List.mem_iff_getElem.1 hq
        rw [List.getElem_drop]
        simp only [List.length_drop] at hi
        have hkl : k < l.length := by omega
        have h4 := hend _ (List.getElem?_eq_getElem hkl)
        rcases Nat.eq_zero_or_pos i with rfl | hi0
        · simpa using h4
        · have h5 := h.ok.lt (i := k) (j := k + i) (by omega) (List.getElem?_eq_getElem hkl) (List.getElem?_eq_getElem (by omega))
          have h6 := h.ok.get (List.getElem?_eq_getElem hkl)
          omega
      omega
    rw [hn, <- this]
    exact hK w2 hw2
  refine ⟨s, hs2.c0, CND_dec (fun hlt => ?_) (fun hge => fin fun q hq => ?_)⟩
  · have hl : k < l.length := by omega
    have hg := List.getElem?_eq_getElem hl
    obtain ⟨r, hr, hq1, hq2⟩ := hs2.cells hg
    refine ⟨s, hs2.c0, ?_⟩
    rw [hr]
    simp only [NC_some, add_eq, Nat.zero_add, Int.toNat_natCast]
    refine ⟨⟨by omega, by omega⟩, _, hq1, CND_dec (fun hlt2 => ?_) (fun hge2 => fin fun q hq => ?_)⟩
    · have hs3 := hs2.ext0 (Ext.drew _ w2)
      refine ⟨s, hs3.c0, ?_⟩
      rw [hr]
      simp only [NC_some, add_eq, Nat.zero_add, Int.toNat_natCast]
      refine ⟨⟨by omega, by omega⟩, l[k].2, hq2, s, hs3.c0, ?_⟩
      rw [hr]
      simp only [NC_some, add_eq, Nat.zero_add, Int.toNat_natCast]
      refine ⟨⟨by omega, by omega⟩, l[k].1, hq1, LET_intro fun n' hn' => ?_⟩
      have hq := h.ok.get hg
      have hpos := posn_after h.ok a (i := k) hk1 hg
      have hcut : cnt (l.take (k + 1)) a b = n + (min l[k].2 b - max l[k].1 a) := by
        rw [take_succ_get hg, cnt_append, <- hn]
        simp only [cnt, cnt1]
        omega
      have hOk : Ok (l.take (k + 1)) := by
        have := h.ok
        rw [<- List.take_append_drop (k + 1) l, Ok_append] at this
        exact this.1
      have hle := cnt_split hOk hab
      have hnn := cnt_nonneg (l.take (k + 1)) a b
      have hn0 := cnt_nonneg (l.take k) a b
      rw [minI_eq, maxI_eq, u64_id (n := min l[k].2 b - max l[k].1 a) (by omega) (by omega), <- hcut, u64_id hnn (by omega)] at hn'
      refine ⟨⟨k + 1, ?_, by omega, by omega, hn', hw2.trans' (Ext.drew _ _)⟩, ?_⟩
      · rw [i64_id (by omega) (by omega)]; omega
      · rw [i64_id (by omega) (by omega)]; omega
    · rw [hg] at hq; cases hq; omega
  · have := (List.getElem?_eq_some_iff.1 hq).1; omega
end
theorem RowOf.upd {E : Env} {w w' : World} {b o : Nat} {s : SlV} {l : Iv} {C : Nat -> Prop} (h : RowOf E w ⟨b, o, none⟩ s l) (hu : Upd b C w w') (hC : ¬ C o) : RowOf E w' ⟨b, o, none⟩ s l :=
  ⟨by rw [hu.keep o hC]; exact h.c0, by rw [hu.frz o]; exact h.f0, h.own.ext hu.ext fun g hg e => h.apart _ hg e, h.ok, h.bnd, h.apart⟩
theorem rowAt_block {w : World} {b n t : Nat} {l : List Value} {f : Nat × Nat} (h : w.heap[b]? = some (.cells ⟨l⟩ t f)) (hl : l.length = n) : rowAt w (some ⟨b, 0, none⟩) n l :=
  ⟨hl, fun j v hj => by rw [add_eq, Nat.zero_add, cell_of_block h]; simpa using hj⟩
def Blk (s : SlV) : Nat -> Prop := fun k => ∃ a, s.base = some a /\ k = a.block
theorem Own.blk {w : World} {B t z : Nat} {s : SlV} {vs : List Value} (h : Own w B t z s vs) {k : Nat} (hk : Blk s k) : B <= k /\ k < w.heap.size := by
  obtain ⟨a, ha, rfl⟩ := hk
  exact ⟨(h.lt ha).1, (h.lt ha).2.1⟩
theorem len_cutL {l : Iv} {a b : Int} (h : Ok l) (hab : a < b) (hb : ∀ q ∈ l, q.2 <= big) : ((cutL l a b).length : Int) <= big :=
  length_le (Ok_cutL h hab) big (by decide) fun q hq => by
    obtain ⟨p, hp, h1, h2, h3⟩ := cutL_within h hab hq
    have := hb p hp
    omega
theorem bnd_cutL {l : Iv} {a b : Int} (h : Ok l) (hab : a < b) (hb : ∀ q ∈ l, q.2 <= big) : ∀ q ∈ cutL l a b, q.2 <= big := fun q hq => by
  obtain ⟨p, hp, h1, h2, h3⟩ := cutL_within h hab hq
  have := hb p hp
  omega
theorem app_one {E : Env} {w : World} {B g : Nat} {s : SlV} {m : Iv} {q : Int × Int} {K : SlV -> World -> Prop} (hown : Own w B E.t_stretch_One 2 s (flat m)) (hg : w.heap[g]? = some (.cells ⟨[.int .u64 q.1, .int .u64 q.2]⟩ E.t_stretch_One))
    (hB : B <= w.heap.size) (hm : (m.length : Int) <= big + 1)
    (hK : ∀ s' w', Own w' B E.t_stretch_One 2 s' (flat (m ++ [q])) -> Ext (Blk s) w w' -> (s'.base = s.base ∨ ∃ b, s'.base = some ⟨b, 0, none⟩ /\ w.heap.size <= b) -> K s' w') :
    APP E.t_stretch_One 2 16 #[.int .u64 0, .int .u64 0] s ⟨some ⟨g, 0, none⟩, 1, 1⟩ w K := by
  have hl := hown.len
  rw [flat_length] at hl
  have hbig : big = 4398046511104 := rfl
  refine APP_own (news := [.int .u64 q.1, .int .u64 q.2]) rfl hown (rowAt_block hg rfl) rfl (by intro v hv; simp at hv; rcases hv with rfl | rfl <;> rfl) hB (by simp only; omega) (by simp only; omega) ?_
  intro s' w' ho hl' he hb
  refine hK s' w' ?_ he hb
  rw [flat_append]
  exact ho
theorem app_row {E : Env} {w : World} {B : Nat} {s x : SlV} {m n : Iv} {K : SlV -> World -> Prop} (hown : Own w B E.t_stretch_One 2 s (flat m)) (hx : rowAt w x.base (x.len * 2) (flat n)) (hxl : x.len = n.length)
    (hB : B <= w.heap.size) (hm : ((m.length + n.length : Nat) : Int) <= big + 1)
    (hK : ∀ s' w', Own w' B E.t_stretch_One 2 s' (flat (m ++ n)) -> Ext (Blk s) w w' -> (s'.base = s.base ∨ ∃ b, s'.base = some ⟨b, 0, none⟩ /\ w.heap.size <= b) -> K s' w') :
    APP E.t_stretch_One 2 16 #[.int .u64 0, .int .u64 0] s x w K := by
  have hl := hown.len
  rw [flat_length] at hl
  have hbig : big = 4398046511104 := rfl
  refine APP_own rfl hown hx (by rw [flat_length, hxl]) (flat_one n) hB (by omega) (by omega) ?_
  intro s' w' ho hl' he hb
  refine hK s' w' ?_ he hb
  rw [flat_append]
  exact ho
theorem keep_blk {w0 w w' : World} {B t z : Nat} {s : SlV} {vs : List Value} (h : Ext Nothing w0 w) (ho : Own w B t z s vs) (hB : w0.heap.size <= B) (he : Ext (Blk s) w w') : Ext Nothing w0 w' :=
  h.trans he (fun _ _ f => f) fun i hi hb => by have := ho.blk hb; omega
section
variable {E : Env} (hE : EnvS E) {w : World} {b o : Nat} {s : SlV} {l : Iv}
include hE
theorem cut_spec (h : SetAt E w b o s l) {a c : Int} (ha : 0 <= a) (hac : a < c) (hc : c < 18446744073709551616) {K : World -> Prop}
    (hK : ∀ w' s', SetAt E w' b o s' (cutL l a c) -> Upd b (Two o) w w' -> Fresh w s s' -> K w') : F.stretch_Set_Cut E (some ⟨b, o, none⟩) a c K w := by
  unfold F.stretch_Set_Cut T0.stretch_Set_Cut
  refine CND_dec (fun hge => by omega) (fun _ => ?_)
  simp only [NC_some, add_eq]
  have hd : Ext Nothing w w.drew := Ext.drew _ _
  refine ⟨tot l, h.c1, count_spec hE (h.row.ext0 hd) ha (by omega) hc fun w4 hw4 => ?_⟩
  have he4 : Ext Nothing w w4 := hd.trans' hw4
  have hlt : b < w.heap.size := h.row.lt
  have h4 := h.ext he4 (fun f => f) fun _ _ f => f
  refine ⟨h4.c1, st_one h4.c1 h4.f1 rfl fun w6 hst6 => ?_⟩
  have hu6 : Upd b (Two o) w w6 := (Upd.of_ext he4 hlt).trans (Upd.of_stored hst6 (.inr rfl))
  have hr6 : RowOf E w6 ⟨b, o, none⟩ s l := h4.row.upd (C := fun j => j = o + 1) (Upd.of_stored hst6 rfl) (by omega)
  have htot : u64 (tot l - cnt l a c) = tot (cutL l a c) := by
    rw [tot_cutL h.row.ok hac]
    have h1 := tot_nonneg (Ok_cutL h.row.ok hac)
    have h2 := tot_max (Ok_cutL h.row.ok hac)
    rw [tot_cutL h.row.ok hac] at h1 h2
    exact u64_id h1 h2
  rw [htot] at hst6
  refine at_spec hE hr6 ha fun w8 hw8 => ?_
  have hlen := h.row.len
  have hsm := h.row.small
  have hbig : big = 4398046511104 := rfl
  have hpl := posn_le l a
  have hr8 := hr6.ext0 hw8
  have hmid : ∀ k, k <= l.length -> posn l a <= k -> ((cutL ((l.take k).drop (posn l a)) a c).length : Int) <= big := by
    intro k _ _
    have hOk : Ok ((l.take k).drop (posn l a)) := by
      have h1 := h.row.ok
      rw [<- List.take_append_drop k l, Ok_append] at h1
      have h2 := h1.1
      rw [<- List.take_append_drop (posn l a) (l.take k), Ok_append] at h2
      exact h2.2.1
    exact len_cutL hOk hac fun q hq => h.row.bnd q (List.mem_of_mem_take (List.mem_of_mem_drop hq))
  refine JOIN_intro (fun st w' => ∃ k : Nat, st.1 = (k : Int) /\ posn l a <= k /\ k <= l.length /\ (∀ q, l[k]? = some q -> c <= q.1) /\
      Own w' w8.heap.size E.t_stretch_One 2 st.2.1 (flat (cutL ((l.take k).drop (posn l a)) a c)) /\ Ext Nothing w8 w') ?_ ?_
  · refine LOOP_intro (fun st w' => ∃ k : Nat, st.1 = (k : Int) /\ posn l a <= k /\ k <= l.length /\
      Own w' w8.heap.size E.t_stretch_One 2 st.2.1 (flat (cutL ((l.take k).drop (posn l a)) a c)) /\ Ext Nothing w8 w') (fun st _ => (l.length - st.1).toNat)
      ⟨posn l a, rfl, Nat.le_refl _, hpl, ?_, Ext.refl _ _⟩ ?_
    · have : (l.take (posn l a)).drop (posn l a) = [] := List.drop_eq_nil_of_le (by simp; omega)
      rw [this]
      exact Own.nil _ _ _ _
    · rintro ⟨i, rest, u⟩ _ w13 ⟨k, hk, hk1, hk2, hown, hw13⟩
      simp only at hk hown ⊢
      subst hk
      have hr13 := hr8.ext0 hw13
      have out : (∀ q, l[k]? = some q -> c <= q.1) -> ∃ k' : Nat, (k : Int) = (k' : Int) /\ posn l a <= k' /\ k' <= l.length /\ (∀ q, l[k']? = some q -> c <= q.1) /\
          Own w13 w8.heap.size E.t_stretch_One 2 rest (flat (cutL ((l.take k').drop (posn l a)) a c)) /\ Ext Nothing w8 w13 :=
        fun hq => ⟨k, rfl, hk1, hk2, hq, hown, hw13⟩
      refine ⟨s, hr13.c0, CND_dec (fun hlt1 => ?_) (fun hge1 => out fun q hq => ?_)⟩
      · have hl : k < l.length := by omega
        have hg := List.getElem?_eq_getElem hl
        obtain ⟨r, hr, hq1, hq2⟩ := hr13.cells hg
        refine ⟨s, hr13.c0, ?_⟩
        rw [hr]
        simp only [NC_some, add_eq, Nat.zero_add, Int.toNat_natCast]
        refine ⟨⟨by omega, by omega⟩, _, hq1, CND_dec (fun hlt2 => ?_) (fun hge2 => out fun q hq => ?_)⟩
        · refine ⟨s, hr13.c0, ?_⟩
          rw [hr]
          simp only [NC_some, add_eq, Nat.zero_add, Int.toNat_natCast, Nat.add_zero]
          refine ⟨⟨by omega, by omega⟩, l[k].1, hq1, l[k].2, hq2, ?_⟩
          have hq := h.row.ok.get hg
          have hpos := posn_after h.row.ok a (i := k) hk1 hg
          obtain ⟨M, hM⟩ : ∃ M, M = cutL ((l.take k).drop (posn l a)) a c := ⟨_, rfl⟩
          rw [<- hM] at hown
          have hMl : (M.length : Int) <= big := by rw [hM]; exact hmid k hk2 hk1
          have hnext : cutL ((l.take (k + 1)).drop (posn l a)) a c = M ++ cut1 l[k] a c := by
            rw [take_succ_get hg, List.drop_append_of_le_length (by simp; omega), cutL_append, <- hM]
            simp [cutL]
          refine AL_intro fun w27 hb27 hsz27 he27 => ?_
          have hw27 := hw13.trans' he27
          refine st_block _ _ _ _ _ _ _ hb27 (by simp) (by intro v hv; simp at hv; rcases hv with rfl | rfl <;> rfl) fun w28 he28 hsz28 hb28 => ?_
          simp at hb28
          have hw8le := hw13.size
          have hw28 : Ext Nothing w8 w28 := hw27.trans he28 (fun _ _ f => f) fun i hi hi2 => by have : i = w13.heap.size := hi2; omega
          have hown28 : Own w28 w8.heap.size E.t_stretch_One 2 rest (flat M) := (hown.ext he27 fun _ _ f => f).ext he28 fun g hg' e => by
            have := (hown.lt hg').2.1; have : g = w13.heap.size := e; simp at *; omega
          have hne28 : ¬ Blk rest w13.heap.size := fun hb => by have := (hown.blk hb).2; omega
          refine JOIN_intro (fun st w' => Own w' w8.heap.size E.t_stretch_One 2 st.1 (flat (M ++ if l[k].1 < a then [(l[k].1, a)] else [])) /\ Ext Nothing w8 w' /\
              w'.heap[w13.heap.size]? = some (.cells ⟨[.int .u64 l[k].1, .int .u64 l[k].2]⟩ E.t_stretch_One) /\ ¬ Blk st.1 w13.heap.size) ?_ ?_
          · refine ⟨l[k].1, by rw [cell_of_block hb28]; rfl, CND_dec (fun hlt3 => ?_) (fun hge3 => ?_)⟩
            · refine ⟨l[k].1, by rw [cell_of_block hb28]; rfl, AL_intro fun w35 hb35 hsz35 he35 => ?_⟩
              refine app_one (q := (l[k].1, a)) (hown28.ext he35 fun _ _ f => f) hb35 (by have := hw28.size; omega) (by omega) fun s36 w37 ho37 he37 hbs => ?_
              refine ⟨by rw [if_pos hlt3]; exact ho37, keep_blk (hw28.trans' he35) (hown28.ext he35 fun _ _ f => f) (Nat.le_refl _) he37, he37.obj (he35.obj hb28 fun f => f) hne28, ?_⟩
              rintro ⟨x, hx, he⟩
              rcases hbs with hbs | ⟨y, hy, hy2⟩
              · exact hne28 ⟨x, by rw [<- hbs]; exact hx, he⟩
              · rw [hy] at hx; cases hx; simp only at he; omega
            · refine ⟨by rw [if_neg hge3, List.append_nil]; exact hown28, hw28, hb28, hne28⟩
          · rintro ⟨s30, u⟩ _ w31 ⟨ho31, hw31, hb31, hne31⟩
            simp only at ho31 hne31 ⊢
            have hi1 : i64 ((k : Int) + 1) = ((k + 1 : Nat) : Int) := by rw [i64_id (by omega) (by omega)]; omega
            have hcut1 : cut1 l[k] a c = (if l[k].1 < a then [(l[k].1, a)] else []) ++ if c < l[k].2 then [(c, l[k].2)] else [] := by
              unfold cut1
              have e1 : min l[k].2 a = a := by omega
              have e2 : max l[k].1 c = c := by omega
              rw [e1, e2]
            refine ⟨l[k].2, by rw [cell_of_block hb31]; rfl, CND_dec (fun hlt3 => ?_) (fun hge3 => ?_)⟩
            · refine ⟨l[k].2, by rw [cell_of_block hb31]; rfl, AL_intro fun w41 hb41 hsz41 he41 => ?_⟩
              have hlen31 : ((M ++ if l[k].1 < a then [(l[k].1, a)] else []).length : Int) <= big + 1 := by
                rw [List.length_append]; split <;> simp <;> omega
              refine app_one (q := (c, l[k].2)) (ho31.ext he41 fun _ _ f => f) hb41 (by have := hw31.size; omega) hlen31 fun s42 w43 ho43 he43 hbs => ?_
              refine ⟨⟨k + 1, hi1, by omega, by omega, ?_, keep_blk (hw31.trans' he41) (ho31.ext he41 fun _ _ f => f) (Nat.le_refl _) he43⟩, by rw [hi1]; omega⟩
              rw [hnext, hcut1, if_pos (by omega : c < l[k].2), <- List.append_assoc]
              exact ho43
            · refine ⟨⟨k + 1, hi1, by omega, by omega, ?_, hw31⟩, by rw [hi1]; omega⟩
              rw [hnext, hcut1, if_neg (by omega : ¬ c < l[k].2), List.append_nil]
              exact ho31
        · rw [hg] at hq; cases hq; omega
      · have := (List.getElem?_eq_some_iff.1 hq).1; omega
  · rintro ⟨i, rest, u⟩ _ w11 ⟨k, hk, hk1, hk2, hend, hown, hw11⟩
    simp only at hk hown ⊢
    subst hk
    have hr11 := hr8.ext0 hw11
    have hd11 : Ext Nothing w11 w11.drew := Ext.drew _ _
    simp only [NC_some, slB_zero]
    have hcapl : s.len <= s.cap := hr11.own.cap
    refine ⟨s, hr11.c0, ⟨by omega, by omega⟩, s, hr11.c0, ⟨by omega, by omega⟩, AL_intro fun w49 hb49 hsz49 he49 => ?_⟩
    have hw49 : Ext Nothing w11 w49 := hd11.trans' he49
    have hr49 := hr11.ext0 hw49
    refine ⟨hr49.c0, hr49.c0, ?_⟩
    have hB49 : w8.heap.size <= w49.heap.size := Nat.le_trans hw11.size hw49.size
    have hown49 : Own w49 w11.heap.size E.t_stretch_One 2 ⟨some ⟨w11.heap.size, 0, none⟩, 0, 0⟩ (flat []) := own_new (w := w11.drew) hb49 rfl (Nat.le_refl _) (by decide)
    have hrest49 := hown.ext hw49 fun _ _ f => f
    have hrow := hr49.own.rowAt
    have hfl : (flat l).length = s.len * 2 := by rw [flat_length, hlen]
    have hpn : Int.toNat ((posn l a : Nat) : Int) = posn l a := Int.toNat_natCast _
    have hkn : Int.toNat ((k : Nat) : Int) = k := Int.toNat_natCast _
    rw [hpn, hkn]
    have hparts := cutL_parts h.row.ok hac hk1 hend
    have hcl := len_cutL h.row.ok hac h.row.bnd
    rw [hparts, List.length_append, List.length_append] at hcl
    refine app_row (x := ⟨s.base, posn l a, s.cap⟩) (n := l.take (posn l a)) hown49 (by
        have := rowAt_take (m := posn l a * 2) hrow (by omega) hfl
        rwa [flat_take] at this) (by simp; omega) (by have := hw49.size; omega) (by simp; omega) fun s50 w51 ho51 he51 hbs51 => ?_
    have hw51 : Ext Nothing w11 w51 := keep_blk hw49 hown49 (Nat.le_refl _) he51
    have hr51 := hr11.ext0 hw51
    refine ⟨hr51.c0, hr51.c0, ?_⟩
    have hrest51 := hown.ext hw51 fun _ _ f => f
    simp only [List.nil_append] at ho51
    refine app_row (x := rest) (n := cutL ((l.take k).drop (posn l a)) a c) ho51 hrest51.rowAt (by have := hrest51.len; rw [flat_length] at this; omega) (by have := hw51.size; omega)
      (by simp at hcl ⊢; omega) fun s52 w53 ho53 he53 hbs53 => ?_
    have hw53 : Ext Nothing w11 w53 := keep_blk hw51 ho51 (Nat.le_refl _) he53
    have hr53 := hr11.ext0 hw53
    refine ⟨hr53.c0, hr53.c0, ?_⟩
    refine app_row (x := ⟨slB s.base s.cap k 2, s.len - k, s.cap - k⟩) (n := l.drop k) ho53 (by
        have := rowAt_drop (k := k) (z := 2) (cap := s.cap) hr53.own.rowAt rfl (by omega) hcapl hfl
        rwa [flat_drop] at this) (by simp; omega) (by have := hw53.size; omega) (by simp at hcl ⊢; omega) fun s54 w55 ho55 he55 hbs55 => ?_
    have hw55 : Ext Nothing w11 w55 := keep_blk hw53 ho53 (Nat.le_refl _) he55
    have hr55 := hr11.ext0 hw55
    refine ⟨hr55.c0, hr55.c0, st_one hr55.c0 hr55.f0 rfl fun w57 hst57 => ?_⟩
    rw [<- hparts] at ho55
    have hu : Upd b (Two o) w w57 := (hu6.trans (Upd.of_ext ((hw8.trans' hw11).trans' hw55) (Nat.lt_of_lt_of_le hlt hu6.ext.size))).trans (Upd.of_stored hst57 (.inl rfl))
    have hge : ∀ x, s54.base = some x -> w.heap.size <= x.block := fun x hx => by
      have h1 := (ho55.lt hx).1
      have h2 := hu6.ext.size
      have h3 := hw8.size
      have h4 := hw11.size
      omega
    refine hK w57 s54 ⟨⟨hst57.same, by rw [hst57.frozen]; exact hr55.f0, ?_, Ok_cutL h.row.ok hac, bnd_cutL h.row.ok hac h.row.bnd, fun x hx e => by have := hge x hx; simp only at e; omega⟩, ?_, ?_⟩ hu (.inr hge)
    · refine (ho55.lower (Nat.zero_le _)).ext hst57.ext fun g hg e => ?_
      have := hge _ hg
      have : g = b := e
      simp only at *
      omega
    · rw [hst57.other _ (by intro e; injection e with _ e; omega)]
      exact ((hw8.trans' hw11).trans' hw55).cell hst6.same (fun f => f)
    · rw [hst57.frozen, ((hw8.trans' hw11).trans' hw55).frozen (p := ⟨b, o + 1, none⟩) (by have := hu6.ext.size; simp only; omega) (fun f => f), hst6.frozen]
      exact h4.f1
end
theorem add_tail {E : Env} {w0 w : World} {b o g : Nat} {s s1 : SlV} {l : Iv} {i k : Nat} {q : Int × Int} {K : World -> Prop}
    (hr : RowOf E w0 ⟨b, o, none⟩ s l) (hext : Ext Nothing w0 w) (ho1 : Own w w0.heap.size E.t_stretch_One 2 s1 (flat (l.take i))) (hg : w.heap[g]? = some (.cells ⟨[.int .u64 q.1, .int .u64 q.2]⟩ E.t_stretch_One))
    (hi : i <= k) (hk : k <= l.length)
    (hK : ∀ w' w'' s', Own w' w0.heap.size E.t_stretch_One 2 s' (flat (l.take i ++ [q] ++ l.drop k)) -> Ext Nothing w0 w' -> Stored ⟨b, o, none⟩ (.slice s'.base s'.len s'.cap) w' w'' -> K w'') :
    APP E.t_stretch_One 2 16 #[.int .u64 0, .int .u64 0] s1 ⟨some ⟨g, 0, none⟩, 1, 1⟩ w fun s55 w56 =>
      w56.cell? ⟨b, o, none⟩ = some (.slice s.base s.len s.cap) /\ w56.cell? ⟨b, o, none⟩ = some (.slice s.base s.len s.cap) /\
      APP E.t_stretch_One 2 16 #[.int .u64 0, .int .u64 0] s55 ⟨slB s.base s.cap k 2, s.len - k, s.cap - k⟩ w56 fun s57 w58 =>
      w58.cell? ⟨b, o, none⟩ = some (.slice s.base s.len s.cap) /\ w58.cell? ⟨b, o, none⟩ = some (.slice s.base s.len s.cap) /\
      stCells ⟨b, o, none⟩ 0 [.slice s57.base s57.len s57.cap] w58 fun w60 => K w60 := by
  have hlen := hr.len
  have hsm := hr.small
  have hbig : big = 4398046511104 := rfl
  have hfl : (flat l).length = s.len * 2 := by rw [flat_length, hlen]
  refine app_one ho1 hg hext.size (by simp; omega) fun s55 w56 ho55 he55 hb55 => ?_
  have hw56 : Ext Nothing w0 w56 := keep_blk hext ho1 (Nat.le_refl _) he55
  have hr56 := hr.ext0 hw56
  refine ⟨hr56.c0, hr56.c0, ?_⟩
  refine app_row (x := ⟨slB s.base s.cap k 2, s.len - k, s.cap - k⟩) (n := l.drop k) ho55 (by
      have := rowAt_drop (k := k) (z := 2) (cap := s.cap) hr56.own.rowAt rfl (by omega) hr56.own.cap hfl
      rwa [flat_drop] at this) (by simp; omega) hw56.size (by simp; omega) fun s57 w58 ho57 he57 hb57 => ?_
  have hw58 : Ext Nothing w0 w58 := keep_blk hw56 ho55 (Nat.le_refl _) he57
  have hr58 := hr.ext0 hw58
  exact ⟨hr58.c0, hr58.c0, st_one hr58.c0 hr58.f0 rfl fun w60 hst => hK w58 w60 s57 ho57 hw58 hst⟩
theorem app_take {E : Env} {w0 w : World} {b o g : Nat} {s : SlV} {l : Iv} {i : Nat} {K : SlV -> World -> Prop}
    (hr : RowOf E w0 ⟨b, o, none⟩ s l) (hext : Ext Nothing w0 w) (hg : w.heap[g]? = some (.cells ⟨[]⟩ E.t_stretch_One)) (hg0 : w0.heap.size <= g) (hi : i <= l.length)
    (hK : ∀ s' w', Own w' w0.heap.size E.t_stretch_One 2 s' (flat (l.take i)) -> Ext Nothing w0 w' -> Ext (Only g) w w' -> K s' w') :
    APP E.t_stretch_One 2 16 #[.int .u64 0, .int .u64 0] ⟨some ⟨g, 0, none⟩, 0, 0⟩ ⟨s.base, i, s.cap⟩ w K := by
  have hlen := hr.len
  have hsm := hr.small
  have hbig : big = 4398046511104 := rfl
  have hfl : (flat l).length = s.len * 2 := by rw [flat_length, hlen]
  have hown : Own w w0.heap.size E.t_stretch_One 2 ⟨some ⟨g, 0, none⟩, 0, 0⟩ (flat []) := ⟨rfl, Nat.le_refl _, (by decide : (0 : Nat) < 9223372036854775808), .inr ⟨g, _, rfl, hg0, hg, rfl, rfl⟩⟩
  have hr1 := hr.ext0 hext
  refine app_row (n := l.take i) hown (by
    have := rowAt_take (m := i * 2) hr1.own.rowAt (by omega) hfl
    rwa [flat_take] at this) (by simp; omega) hext.size (by simp; omega) fun s' w' ho he hb => ?_
  exact hK s' w' ho (keep_blk hext hown (Nat.le_refl _) he) (he.mono fun i _ hi => by obtain ⟨a, ha, rfl⟩ := hi; cases ha; rfl)
theorem addLo_le (l : Iv) (i : Nat) (a : Int) : (addLo l i a).2 <= i := by
  unfold addLo
  cases i with
  | zero => simp
  | succ j =>
    simp only
    split
    · split <;> simp
    · simp
theorem addHi_ge (l : Iv) (i : Nat) (b : Int) (hi : i <= l.length) : i <= (addHi l i b).2 /\ (addHi l i b).2 <= l.length := by
  unfold addHi
  split
  · rename_i q hq
    have := (List.getElem?_eq_some_iff.1 hq).1
    split <;> simp <;> omega
  · simp; omega
section
variable {E : Env} (hE : EnvS E) {w : World} {b o : Nat} {s : SlV} {l : Iv}
include hE
theorem add_spec (h : SetAt E w b o s l) {a c : Int} (ha : 0 <= a) (hac : a < c) (hc : c <= big) {K : World -> Prop}
    (hK : ∀ w' s', SetAt E w' b o s' (addL l a c) -> Upd b (Two o) w w' -> Fresh w s s' -> K w') : F.stretch_Set_Add E (some ⟨b, o, none⟩) a c K w := by
  have hbig : big = 4398046511104 := rfl
  unfold F.stretch_Set_Add T0.stretch_Set_Add
  refine CND_dec (fun hge => by omega) (fun _ => ?_)
  refine cut_spec hE h ha hac (by omega) fun w1 s1 h1 hu1 hf1 => ?_
  simp only [NC_some, add_eq, Nat.zero_add, Nat.add_zero, slB_zero]
  obtain ⟨l1, hl1⟩ : ∃ l1, l1 = cutL l a c := ⟨_, rfl⟩
  rw [<- hl1] at h1
  have hclear : Clear l1 a c := by rw [hl1]; exact clear_cutL h.row.ok hac
  obtain ⟨hOkA, hmemA, htotA⟩ := insL_spec h1.row.ok hac ha (by omega) hclear
  have haddL : addL l a c = insL l1 a c := by rw [addL, hl1]
  refine ⟨tot l1, h1.c1, st_one h1.c1 h1.f1 rfl fun w5 hst5 => ?_⟩
  have hT : u64 (tot l1 + u64 (c - a)) = tot (insL l1 a c) := by
    have h2 := tot_nonneg hOkA
    have h3 := tot_max hOkA
    rw [htotA] at h2 h3 ⊢
    rw [u64_id (n := c - a) (by omega) (by omega), u64_id (by omega) (by omega)]
  rw [hT] at hst5
  have hu5 : Upd b (Two o) w w5 := hu1.trans (Upd.of_stored hst5 (.inr rfl))
  have hr5 : RowOf E w5 ⟨b, o, none⟩ s1 l1 := h1.row.upd (C := fun j => j = o + 1) (Upd.of_stored hst5 rfl) (by omega)
  refine at_spec hE hr5 ha fun w7 hw7 => ?_
  have hr7 := hr5.ext0 hw7
  obtain ⟨i, hi⟩ : ∃ i, i = posn l1 a := ⟨_, rfl⟩
  rw [<- hi]
  have hil : i <= l1.length := by rw [hi]; exact posn_le l1 a
  have hlen := hr7.len
  have hsm := hr7.small
  obtain ⟨hi1, hi2⟩ := addHi_ge l1 i c hil
  have hlo := addLo_le l1 i a
  refine AL_intro fun w9 hb9 hsz9 he9 => ?_
  obtain ⟨g, hg⟩ : ∃ g, g = w7.heap.size := ⟨_, rfl⟩
  rw [<- hg] at hb9 ⊢
  refine st_block _ _ _ _ _ _ _ hb9 (by simp) (by intro v hv; simp at hv; rcases hv with rfl | rfl <;> rfl) fun w10 he10 hsz10 hb10 => ?_
  simp at hb10
  have hOnly : ∀ {w1 w2 : World}, Ext Nothing w7 w1 -> Ext (Only g) w1 w2 -> Ext Nothing w7 w2 := fun h1 h2 => h1.trans h2 (fun _ _ f => f) fun i hi e => by have : i = g := e; omega
  have hw10 : Ext Nothing w7 w10 := hOnly he9 he10
  refine JOIN_intro (fun st w' => st.1 = ((addHi l1 i c).2 : Int) /\ w'.heap[g]? = some (.cells ⟨[.int .u64 a, .int .u64 (addHi l1 i c).1]⟩ E.t_stretch_One) /\ Ext Nothing w7 w') ?_ ?_
  · refine JOIN_intro (fun st w' => w' = w10 /\ (st.1 = true ↔ ∃ q, l1[i]? = some q /\ q.1 = c)) ?_ ?_
    · have hr10 := hr7.ext0 hw10
      refine ⟨s1, hr10.c0, CND_dec (fun hlt => ?_) (fun hge => ⟨rfl, ?_⟩)⟩
      · have hl : i < l1.length := by omega
        have hgt := List.getElem?_eq_getElem hl
        obtain ⟨r, hr, hq1, hq2⟩ := hr10.cells hgt
        refine ⟨s1, hr10.c0, ?_⟩
        rw [hr]
        simp only [NC_some, add_eq, Nat.zero_add, Int.toNat_natCast]
        refine ⟨⟨by omega, by omega⟩, _, hq1, trivial, ?_⟩
        rw [hgt]
        simp
      · have : l1[i]? = none := List.getElem?_eq_none (by omega)
        simp [this]
    · rintro ⟨bt, u⟩ _ w16 ⟨rfl, hbt⟩
      simp only at hbt ⊢
      have hr10 := hr7.ext0 hw10
      refine CND_intro (fun ht => ?_) (fun hf => ?_)
      · obtain ⟨q, hq, hqc⟩ := hbt.1 ht
        have hl := (List.getElem?_eq_some_iff.1 hq).1
        obtain ⟨r, hr, hq1, hq2⟩ := hr10.cells hq
        refine ⟨s1, hr10.c0, ?_⟩
        rw [hr]
        simp only [NC_some, add_eq, Nat.zero_add, Int.toNat_natCast]
        refine ⟨⟨by omega, by omega⟩, _, hq2, ?_⟩
        refine st_block _ _ _ _ _ _ _ hb10 (by simp) (by intro v hv; simp at hv; subst hv; rfl) fun w27 he27 hsz27 hb27 => ?_
        simp at hb27
        have hH : addHi l1 i c = (q.2, i + 1) := by unfold addHi; rw [hq]; simp [hqc]
        rw [hH]
        refine ⟨by rw [i64_id (by omega) (by omega)]; simp, hb27, hOnly hw10 he27⟩
      · have hH : addHi l1 i c = (c, i) := by
          unfold addHi
          split
          · rename_i q hq
            rw [if_neg]
            intro e
            rw [hbt.2 ⟨q, hq, e⟩] at hf; cases hf
          · rfl
        rw [hH]
        exact ⟨rfl, hb10, hw10⟩
  · rintro ⟨k, u⟩ _ w13 ⟨hk, hb13, hw13⟩
    simp only at hk ⊢
    subst hk
    refine JOIN_intro (fun st w' => st.1 = ((addLo l1 i a).2 : Int) /\ w'.heap[g]? = some (.cells ⟨[.int .u64 (addLo l1 i a).1, .int .u64 (addHi l1 i c).1]⟩ E.t_stretch_One) /\ Ext Nothing w7 w') ?_ ?_
    · refine JOIN_intro (fun st w' => w' = w13 /\ (st.1 = true ↔ ∃ j q, i = j + 1 /\ l1[j]? = some q /\ q.2 = a)) ?_ ?_
      · have hr13 := hr7.ext0 hw13
        refine CND_dec (fun hlt => ?_) (fun hge => ⟨rfl, ?_⟩)
        · obtain ⟨j, rfl⟩ : ∃ j, i = j + 1 := ⟨i - 1, by omega⟩
          have hl : j < l1.length := by omega
          have hgt := List.getElem?_eq_getElem hl
          obtain ⟨r, hr, hq1, hq2⟩ := hr13.cells hgt
          refine ⟨s1, hr13.c0, ?_⟩
          rw [hr]
          have hm : i64 (((j + 1 : Nat) : Int) - 1) = (j : Int) := by rw [i64_id (by omega) (by omega)]; omega
          rw [hm]
          simp only [NC_some, add_eq, Nat.zero_add, Int.toNat_natCast]
          refine ⟨⟨by omega, by omega⟩, _, hq2, trivial, ?_⟩
          constructor
          · intro he; exact ⟨j, _, rfl, hgt, by simpa using he⟩
          · rintro ⟨j', q, hj, hq, hqa⟩
            have : j' = j := by omega
            subst this
            rw [hgt] at hq; cases hq
            simpa using hqa
        · constructor
          · intro h; cases h
          · rintro ⟨j, q, hj, _⟩; omega
      · rintro ⟨bt, u⟩ _ w33 ⟨rfl, hbt⟩
        simp only at hbt ⊢
        have hr13 := hr7.ext0 hw13
        refine CND_intro (fun ht => ?_) (fun hf => ?_)
        · obtain ⟨j, q, rfl, hq, hqa⟩ := hbt.1 ht
          have hl := (List.getElem?_eq_some_iff.1 hq).1
          obtain ⟨r, hr, hq1, hq2⟩ := hr13.cells hq
          refine ⟨s1, hr13.c0, ?_⟩
          rw [hr]
          have hm : i64 (((j + 1 : Nat) : Int) - 1) = (j : Int) := by rw [i64_id (by omega) (by omega)]; omega
          rw [hm]
          simp only [NC_some, add_eq, Nat.zero_add, Int.toNat_natCast]
          refine ⟨⟨by omega, by omega⟩, _, hq1, ?_⟩
          refine st_block _ _ _ _ _ _ _ hb13 (by simp) (by intro v hv; simp at hv; subst hv; rfl) fun w27 he27 hsz27 hb27 => ?_
          simp at hb27
          have hH : addLo l1 (j + 1) a = (q.1, j) := by unfold addLo; simp only [hq]; simp [hqa]
          rw [hH]
          exact ⟨rfl, hb27, hOnly hw13 he27⟩
        · have hH : addLo l1 i a = (a, i) := by
            unfold addLo
            cases i with
            | zero => rfl
            | succ j =>
              simp only
              split
              · rename_i q hq
                rw [if_neg]
                intro e
                rw [hbt.2 ⟨j, q, rfl, hq, e⟩] at hf; cases hf
              · rfl
          rw [hH]
          exact ⟨rfl, hb13, hw13⟩
    · rintro ⟨k2, u⟩ _ w30 ⟨hk2, hb30, hw30⟩
      simp only at hk2 ⊢
      subst hk2
      have hins : insL l1 a c = l1.take (addLo l1 i a).2 ++ [((addLo l1 i a).1, (addHi l1 i c).1)] ++ l1.drop (addHi l1 i c).2 := by rw [hi]; rfl
      obtain ⟨x, hx⟩ : ∃ x, x = (addLo l1 i a).1 := ⟨_, rfl⟩
      obtain ⟨y, hy⟩ : ∃ y, y = (addHi l1 i c).1 := ⟨_, rfl⟩
      obtain ⟨i1, hi1'⟩ : ∃ i1, i1 = (addLo l1 i a).2 := ⟨_, rfl⟩
      obtain ⟨k, hk'⟩ : ∃ k, k = (addHi l1 i c).2 := ⟨_, rfl⟩
      rw [<- hx, <- hy] at hb30
      rw [<- hx, <- hy, <- hi1', <- hk'] at hins
      rw [<- hk'] at hi1 hi2
      rw [<- hi1'] at hlo
      rw [<- hk', <- hi1']
      have hr30 := hr7.ext0 hw30
      have hcap := hr30.own.cap
      have fin : ∀ w' w'' s', Own w' w30.heap.size E.t_stretch_One 2 s' (flat (l1.take i1 ++ [(x, y)] ++ l1.drop k)) -> Ext Nothing w30 w' -> Stored ⟨b, o, none⟩ (.slice s'.base s'.len s'.cap) w' w'' -> K w'' := by
        intro w' w'' s' ho he hst
        rw [<- hins] at ho
        have hlt : b < w.heap.size := h.row.lt
        have hE57 : Ext Nothing w5 w' := (hw7.trans' hw30).trans' he
        have hu : Upd b (Two o) w w'' := (hu5.trans (Upd.of_ext hE57 (Nat.lt_of_lt_of_le hlt hu5.ext.size))).trans (Upd.of_stored hst (.inl rfl))
        have hge : ∀ x, s'.base = some x -> w.heap.size <= x.block := fun x hx => by
          have h1 := (ho.lt hx).1
          have h2 := hu5.ext.size
          have h3 := (hw7.trans' hw30).size
          omega
        have hr' := hr5.ext0 hE57
        refine hK w'' s' ?_ hu (.inr hge)
        rw [haddL]
        refine ⟨⟨hst.same, by rw [hst.frozen]; exact hr'.f0, ?_, hOkA, ?_, fun x hx e => by have := hge x hx; simp only at e; omega⟩, ?_, ?_⟩
        · refine (ho.lower (Nat.zero_le _)).ext hst.ext fun g hg e => ?_
          have h1 := hge _ hg
          have h2 : g = b := e
          simp only at h1
          omega
        · intro q hq
          have hm := (hOkA.mem hq)
          have h2 := (hmemA (q.2 - 1)).1 ⟨q, hq, by omega, by omega⟩
          rcases h2 with ⟨p, hp, h3, h4⟩ | h2
          · have := hr5.bnd p hp; omega
          · omega
        · rw [hst.other _ (by intro e; injection e with _ e; omega)]
          exact hE57.cell hst5.same (fun f => f)
        · rw [hst.frozen, hE57.frozen (p := ⟨b, o + 1, none⟩) (by have := hu5.ext.size; simp only; omega) (fun f => f), hst5.frozen]
          exact h1.f1
      have hd : Ext Nothing w30 w30.drew := Ext.drew _ _
      have hcx : w30.cell? ⟨g, 0, none⟩ = some (.int .u64 x) := by rw [cell_of_block hb30]; rfl
      have hcy : w30.cell? ⟨g, 1, none⟩ = some (.int .u64 y) := by rw [cell_of_block hb30]; rfl
      have hkn : Int.toNat ((k : Nat) : Int) = k := Int.toNat_natCast _
      have hin : Int.toNat ((i1 : Nat) : Int) = i1 := Int.toNat_natCast _
      rw [hkn, hin]
      refine ⟨s1, hr30.c0, ⟨by omega, by omega⟩, x, hcx, y, hcy, s1, hr30.c0, ⟨by omega, by omega⟩, ?_, ?_⟩
      · refine AL_intro fun w50 hb50 hsz50 he50 => ?_
        have hw50 : Ext Nothing w30 w50 := hd.trans' he50
        have hr50 := hr30.ext0 hw50
        have hsz : w30.drew.heap.size = w30.heap.size := rfl
        refine ⟨hr50.c0, ⟨hw50.cell hcx (fun f => f), hw50.cell hcy (fun f => f), trivial⟩, hr50.c0, ?_, ?_⟩
        · refine app_take hr30 hw50 hb50 (by omega) (by omega) fun s51 w52 ho51 hw52 he52 => ?_
          have hr52 := hr30.ext0 hw52
          refine ⟨hr52.c0, ⟨hw52.cell hcx (fun f => f), hw52.cell hcy (fun f => f), trivial⟩, hr52.c0, AL_intro fun w54 hb54 hsz54 he54 => ?_⟩
          have hw54 := hw52.trans' he54
          have hr54 := hr30.ext0 hw54
          exact ⟨hr54.c0, hr54.c0, add_tail (q := (x, y)) hr30 hw54 (ho51.ext he54 fun _ _ f => f) hb54 (by omega) hi2 fin⟩
        · refine AL_intro fun w62 hb62 hsz62 he62 => ?_
          have hw62 := hw50.trans' he62
          have hr62 := hr30.ext0 hw62
          refine ⟨hr62.c0, hr62.c0, app_take hr30 hw62 (he62.obj hb50 fun f => f) (by omega) (by omega) fun s63 w64 ho63 hw64 he64 => ?_⟩
          have hr64 := hr30.ext0 hw64
          exact ⟨hr64.c0, hr64.c0, add_tail (q := (x, y)) hr30 hw64 ho63 (he64.obj hb62 fun e => by have : w50.heap.size = w30.drew.heap.size := e; omega) (by omega) hi2 fin⟩
      · refine AL_intro fun w72 hb72 hsz72 he72 => ?_
        have hw72 : Ext Nothing w30 w72 := hd.trans' he72
        have hr72 := hr30.ext0 hw72
        have hsz : w30.drew.heap.size = w30.heap.size := rfl
        refine ⟨hr72.c0, hr72.c0, AL_intro fun w74 hb74 hsz74 he74 => ?_⟩
        have hw74 := hw72.trans' he74
        have hr74 := hr30.ext0 hw74
        refine ⟨hr74.c0, hr74.c0, app_take hr30 hw74 hb74 (by omega) (by omega) fun s75 w76 ho75 hw76 he76 => ?_⟩
        have hr76 := hr30.ext0 hw76
        exact ⟨hr76.c0, hr76.c0, add_tail (q := (x, y)) hr30 hw76 ho75 (he76.obj (he74.obj hb72 fun f => f) fun e => by have : w30.drew.heap.size = w72.heap.size := e; omega) (by omega) hi2 fin⟩
end
end Go.Sh

set_option linter.all false
set_option maxRecDepth 4000
namespace Go.Sh
theorem not_both {w : World} {k : Nat} {es : Array MapEntry} {c : Nat} {i : Nat} {v : Value} (hm : w.heap[k]? = some (.map es c)) (hc : w.cell? ⟨k, i, none⟩ = some v) : False := by
  simp [World.cell?, hm] at hc
theorem Own.not_map {w : World} {B t z : Nat} {s : SlV} {vs : List Value} {k : Nat} {es : Array MapEntry} {c : Nat} (h : Own w B t z s vs) (hm : w.heap[k]? = some (.map es c)) : ¬ Blk s k := by
  rintro ⟨a, ha, rfl⟩
  rcases h.row with ⟨h1, _⟩ | ⟨b, cs, h1, _, h3, _⟩
  · rw [h1] at ha; cases ha
  · rw [h1] at ha; cases ha
    rw [hm] at h3; cases h3
theorem SetAt.upd {E : Env} {w w' : World} {b o : Nat} {s : SlV} {l : Iv} {C : Nat -> Prop} (h : SetAt E w b o s l) (hu : Upd b C w w') (h0 : ¬ C o) (h1 : ¬ C (o + 1)) : SetAt E w' b o s l :=
  ⟨h.row.upd hu h0, by rw [hu.keep _ h1]; exact h.c1, by rw [hu.frz]; exact h.f1⟩
end Go.Sh

set_option linter.all false
set_option maxRecDepth 4000
namespace Go.Sh
def within1 (p : Int × Int) (a b : Int) : Iv := if p.2 <= a ∨ b <= p.1 then [] else [(max p.1 a, min p.2 b)]
def withinL : Iv -> Int -> Int -> Iv
  | [], _, _ => []
  | p :: r, a, b => within1 p a b ++ withinL r a b
theorem withinL_append (l m : Iv) (a b : Int) : withinL (l ++ m) a b = withinL l a b ++ withinL m a b := by
  induction l with
  | nil => rfl
  | cons p r ih => simp [withinL, ih]
theorem withinL_nil {l : Iv} {a b : Int} (h : ∀ p ∈ l, p.2 <= a ∨ b <= p.1) : withinL l a b = [] := by
  induction l with
  | nil => rfl
  | cons p r ih =>
    simp only [withinL, ih fun q hq => h q (List.mem_cons_of_mem _ hq), List.append_nil]
    unfold within1
    rw [if_pos (h p List.mem_cons_self)]
theorem withinL_len (l : Iv) (a b : Int) : (withinL l a b).length <= l.length := by
  induction l with
  | nil => exact Nat.le_refl _
  | cons p r ih =>
    simp only [withinL, List.length_append, List.length_cons]
    have : (within1 p a b).length <= 1 := by unfold within1; split <;> simp
    omega
theorem withinL_in {l : Iv} (h : Ok l) {a b : Int} (hab : a < b) : ∀ q ∈ withinL l a b, a <= q.1 /\ q.1 < q.2 /\ q.2 <= b := by
  induction l with
  | nil => intro q hq; cases hq
  | cons p r ih =>
    intro q hq
    have hp := h.mem (List.mem_cons_self : p ∈ p :: r)
    rcases List.mem_append.1 hq with hq | hq
    · unfold within1 at hq
      split at hq
      · cases hq
      · rw [List.mem_singleton] at hq; subst hq; simp only; omega
    · exact ih h.tail q hq
theorem Own.cells2 {w : World} {B t : Nat} {s : SlV} {l : Iv} (h : Own w B t 2 s (flat l)) {i : Nat} {q : Int × Int} (hi : l[i]? = some q) :
    ∃ b, s.base = some ⟨b, 0, none⟩ /\ w.cell? ⟨b, i * 2, none⟩ = some (.int .u64 q.1) /\ w.cell? ⟨b, i * 2 + 1, none⟩ = some (.int .u64 q.2) := by
  have hr := h.rowAt
  obtain ⟨g1, g2⟩ := flat_get l i q hi
  rcases h.row with ⟨h1, h2⟩ | ⟨b, cs, h1, _⟩
  · rw [h1] at hr
    have : flat l = [] := hr
    rw [this] at g1; simp at g1
  · rw [h1] at hr
    refine ⟨b, h1, ?_, ?_⟩
    · have := hr.2 _ _ g1; rwa [add_eq, Nat.zero_add] at this
    · have := hr.2 _ _ g2; rwa [add_eq, Nat.zero_add] at this
end Go.Sh

set_option linter.all false
set_option maxRecDepth 4000
namespace Go.Sh
section
variable {E : Env} (hE : EnvS E) {w : World} {p : Addr} {s : SlV} {l : Iv}
include hE
theorem within_spec (h : RowOf E w p s l) {a b : Int} (ha : 0 <= a) (hb : b < 18446744073709551616) {K : SlV -> World -> Prop}
    (hK : ∀ s' w', Own w' w.heap.size E.t_stretch_One 2 s' (flat (withinL l a b)) -> Ext Nothing w w' -> K s' w') : F.stretch_Set_Within E (some p) a b K w := by
  unfold F.stretch_Set_Within T0.stretch_Set_Within
  refine at_spec hE h ha fun w2 hw2 => ?_
  have hlen := h.len
  have hsm := h.small
  have hbig : big = 4398046511104 := rfl
  have hpos := posn_le l a
  simp only [NC_some, add_eq, Nat.zero_add]
  have hfirst : withinL (l.take (posn l a)) a b = [] := withinL_nil fun q hq => .inl (posn_cut q hq)
  refine LOOP_intro (fun st w' => ∃ k : Nat, st.2.1 = (k : Int) /\ posn l a <= k /\ k <= l.length /\ Own w' w.heap.size E.t_stretch_One 2 st.1 (flat (withinL (l.take k) a b)) /\ Ext Nothing w w')
    (fun st _ => (l.length - st.2.1).toNat) ⟨posn l a, rfl, Nat.le_refl _, hpos, by rw [hfirst]; exact Own.nil _ _ _ _, hw2⟩ ?_
  rintro ⟨s3, i, u⟩ _ w4 ⟨k, hk, hk1, hk2, hown, hw4⟩
  simp only at hk hown ⊢
  subst hk
  have h4 := h.ext0 hw4
  have fin : (∀ q, l[k]? = some q -> b <= q.1) -> K s3 w4 := fun hend => by
    refine hK s3 w4 ?_ hw4
    have : withinL l a b = withinL (l.take k) a b := by
      have e : l = l.take k ++ l.drop k := (List.take_append_drop k l).symm
      conv => lhs; rw [e]
      rw [withinL_append]
      rw [withinL_nil (l := l.drop k), List.append_nil]
      intro q hq
      right
      obtain ⟨j, hj⟩ := List.mem_iff_getElem?.1 hq
      rw [List.getElem?_drop] at hj
      by_cases hj0 : j = 0
      · subst hj0; exact hend q hj
      · have hkl : k < l.length := by have := (List.getElem?_eq_some_iff.1 hj).1; omega
        have := hend _ (List.getElem?_eq_getElem hkl)
        have h2 := h.ok.lt (i := k) (j := k + j) (by omega) (List.getElem?_eq_getElem hkl) hj
        have h3 := h.ok.get (List.getElem?_eq_getElem hkl)
        omega
    rw [this]; exact hown
  refine ⟨s, h4.c0, CND_dec (fun hlt => ?_) (fun hge => fin fun q hq => by have := (List.getElem?_eq_some_iff.1 hq).1; omega)⟩
  have hl : k < l.length := by omega
  have hg := List.getElem?_eq_getElem hl
  obtain ⟨r, hr, hq1, hq2⟩ := h4.cells hg
  generalize hq : l[k] = q at hg hq1 hq2
  have hqo := h.ok.get hg
  have hqb := h.bnd q (List.mem_of_getElem? hg)
  refine ⟨s, h4.c0, ?_⟩
  rw [hr]
  simp only [NC_some, add_eq, Nat.zero_add, Int.toNat_natCast, Nat.add_zero]
  refine ⟨⟨by omega, by omega⟩, q.1, hq1, CND_dec (fun hin => ?_) (fun hout => fin fun q' hq' => by rw [hg] at hq'; cases hq'; omega)⟩
  have hd : Ext Nothing w4 w4.drew := Ext.drew _ _
  have hnone : ∀ {w'}, Ext Nothing w4 w' -> w'.cell? p = some (.slice s.base s.len s.cap) /\ w'.cell? ⟨r, k * 2, none⟩ = some (.int .u64 q.1) /\ w'.cell? ⟨r, k * 2 + 1, none⟩ = some (.int .u64 q.2) := fun he =>
    ⟨he.cell h4.c0 fun f => f, he.cell hq1 fun f => f, he.cell hq2 fun f => f⟩
  obtain ⟨c1, c2, c3⟩ := hnone hd
  refine ⟨s, c1, ?_⟩
  rw [hr]
  simp only [NC_some, add_eq, Nat.zero_add]
  refine ⟨⟨by omega, by omega⟩, q.1, c2, s, c1, ?_⟩
  rw [hr]
  simp only [NC_some, add_eq, Nat.zero_add]
  refine ⟨⟨by omega, by omega⟩, q.2, c3, AL_intro fun w21 hb21 hsz21 he21 => ?_⟩
  obtain ⟨d1, d2, d3⟩ := hnone (hd.trans' he21)
  refine ⟨d3, by rw [<- hr]; exact d1, d2, by rw [<- hr]; exact d1, ?_⟩
  have hown21 := hown.ext (hd.trans' he21) fun _ _ f => f
  have hwl := withinL_len (l.take k) a b
  have htl : (l.take k).length = k := by simp; omega
  refine app_one (q := (maxI q.1 a, minI q.2 b)) hown21 hb21 (by have := hw4.size; have := (hd.trans' he21).size; omega) (by omega) fun s22 w23 ho23 he23 hbs => ?_
  have hw21 : Ext Nothing w w21 := hw4.trans' (hd.trans' he21)
  have hw23 := keep_blk hw21 hown21 (Nat.le_refl _) he23
  have h23 := h.ext0 hw23
  obtain ⟨r', hr', e1, e2⟩ := h23.cells hg
  rw [hr] at hr'; cases hr'
  refine ⟨e2, by rw [<- hr]; exact h23.c0, e1, by rw [<- hr]; exact h23.c0, ?_⟩
  rw [i64_id (by omega) (by omega)]
  refine ⟨⟨k + 1, by omega, by omega, by omega, ?_, hw23⟩, by omega⟩
  have htk : l.take (k + 1) = l.take k ++ [q] := take_succ_get hg
  have hap := posn_after h.ok a (i := k) (p := q) hk1 hg
  rw [htk, withinL_append]
  have : withinL [q] a b = [(maxI q.1 a, minI q.2 b)] := by
    simp only [withinL, List.append_nil, within1]
    rw [if_neg (by omega), maxI_eq, minI_eq]
  rw [this]
  exact ho23
end
end Go.Sh

set_option linter.all false
set_option maxRecDepth 4000
namespace Go.Sh
def SetR (E : Env) (s : SlV) (l : Iv) : Pr := Where (Ok l /\ ∀ q ∈ l, q.2 <= big) (Row E.t_stretch_One 2 s (flat l))
section
variable {E : Env} {R : List Pr} {w w' : World} {b t o : Nat} {vs : List Value} {s s' : SlV} {l l' : Iv}
theorem Sat.setAt (H : Sat (Cells b t vs :: SetR E s l :: R) w) (h0 : vs[o]? = some (.slice s.base s.len s.cap)) (h1 : vs[o + 1]? = some (.int .u64 (tot l))) : SetAt E w b o s l := by
  obtain ⟨D, D1, D2, hc, ⟨D3, D4, ⟨hok, hr⟩, _, _, hD⟩, hd, _⟩ := H
  refine ⟨⟨(hc.2.2 o _ h0).1, (hc.2.2 o _ h0).2, hr.2, hok.1, hok.2, fun a ha e => ?_⟩, (hc.2.2 _ _ h1).1, (hc.2.2 _ _ h1).2⟩
  have h1 : D1 a.block := (hc.1 _).2 e
  exact hd _ h1 ((hD _).2 (.inl ((hr.1 _).2 ⟨a, ha, rfl⟩)))
theorem Sat.setStep (H : Sat (Cells b t vs :: SetR E s l :: R) w) (ho : o + 1 < vs.length) (hs : SetAt E w' b o s' l') (hu : Upd b (Two o) w w') (hf : Fresh w s s') :
    Sat (Cells b t ((vs.set o (.slice s'.base s'.len s'.cap)).set (o + 1) (.int .u64 (tot l'))) :: SetR E s' l' :: R) w' := by
  obtain ⟨D, D1, D2, hc, ⟨D3, D4, ⟨hok, hr⟩, hF, hd2, hD2⟩, hd, hD⟩ := H
  have hblk : ∀ k, Blk' s' k -> Blk' s k ∨ w.heap.size <= k := by
    rintro k ⟨a, ha, rfl⟩
    rcases hf with e | e
    · exact .inl ⟨a, by rw [<- e]; exact ha, rfl⟩
    · exact .inr (e a ha)
  have hb : b < w.heap.size := hc.2.1
  have hbs : ∀ k, Blk' s' k -> k ≠ b := by
    rintro k ⟨a, ha, rfl⟩
    exact hs.row.apart a ha
  refine ⟨fun k => k = b ∨ Blk' s' k ∨ D4 k, fun k => k = b, fun k => Blk' s' k ∨ D4 k, ⟨fun _ => Iff.rfl, by have := hu.ext.size; omega, fun j v hj => ?_⟩, ⟨Blk' s', D4, ⟨⟨hs.row.ok, hs.row.bnd⟩, fun _ => Iff.rfl, hs.row.own⟩, ?_, ?_, fun _ => Iff.rfl⟩, ?_, fun _ => Iff.rfl⟩
  · rw [List.getElem?_set, List.getElem?_set] at hj
    rw [hu.frz]
    by_cases e1 : o + 1 = j
    · subst e1
      rw [if_pos rfl, if_pos (by simpa using ho)] at hj
      cases hj
      exact ⟨hs.c1, (hc.2.2 (o + 1) _ (List.getElem?_eq_getElem ho)).2⟩
    · rw [if_neg e1] at hj
      by_cases e2 : o = j
      · subst e2
        rw [if_pos rfl, if_pos (by omega)] at hj
        cases hj
        exact ⟨hs.row.c0, (hc.2.2 o _ (List.getElem?_eq_getElem (by omega))).2⟩
      · rw [if_neg e2] at hj
        rw [hu.keep j (by unfold Two; omega)]
        exact hc.2.2 j v hj
  · exact hF.loc hu.ext fun k hk e => by
      have e : k = b := e
      subst e
      exact hd _ ((hc.1 _).2 rfl) ((hD2 _).2 (.inr hk))
  · intro k hk h4
    rcases hblk k hk with e | e
    · exact hd2 k ((hr.1 k).2 e) h4
    · have := hF.lt h4; omega
  · rintro k rfl (h | h)
    · exact hbs _ h rfl
    · exact hd _ ((hc.1 _).2 rfl) ((hD2 _).2 (.inr h))
variable (hE : EnvS E)
include hE
theorem has_sl (H : Sat (Cells b t vs :: SetR E s l :: R) w) (h0 : vs[o]? = some (.slice s.base s.len s.cap)) (h1 : vs[o + 1]? = some (.int .u64 (tot l))) {x : Int} (hx0 : 0 <= x) {K : Bool -> World -> Prop}
    (hK : ∀ w' r, (r = true ↔ mem l x) -> Ext Nothing w w' -> K r w') : F.stretch_Set_Has E (some ⟨b, o, none⟩) x K w := has_spec hE (H.setAt h0 h1).row hx0 hK
theorem count_sl (H : Sat (Cells b t vs :: SetR E s l :: R) w) (h0 : vs[o]? = some (.slice s.base s.len s.cap)) (h1 : vs[o + 1]? = some (.int .u64 (tot l))) {x y : Int} (ha : 0 <= x) (hab : x <= y) (hb : y < 18446744073709551616)
    {K : Int -> World -> Prop} (hK : ∀ w', Ext Nothing w w' -> K (cnt l x y) w') : F.stretch_Set_Count E (some ⟨b, o, none⟩) x y K w := count_spec hE (H.setAt h0 h1).row ha hab hb hK
theorem cut_sl (H : Sat (Cells b t vs :: SetR E s l :: R) w) (h0 : vs[o]? = some (.slice s.base s.len s.cap)) (h1 : vs[o + 1]? = some (.int .u64 (tot l))) {x y : Int} (ha : 0 <= x) (hac : x < y) (hc : y < 18446744073709551616) {K : World -> Prop}
    (hK : ∀ w' s', Sat (Cells b t ((vs.set o (.slice s'.base s'.len s'.cap)).set (o + 1) (.int .u64 (tot (cutL l x y)))) :: SetR E s' (cutL l x y) :: R) w' -> K w') : F.stretch_Set_Cut E (some ⟨b, o, none⟩) x y K w :=
  cut_spec hE (H.setAt h0 h1) ha hac hc fun w' s' hs hu hf => hK w' s' (H.setStep (List.getElem?_eq_some_iff.1 h1).1 hs hu hf)
theorem add_sl (H : Sat (Cells b t vs :: SetR E s l :: R) w) (h0 : vs[o]? = some (.slice s.base s.len s.cap)) (h1 : vs[o + 1]? = some (.int .u64 (tot l))) {x y : Int} (ha : 0 <= x) (hac : x < y) (hc : y <= big) {K : World -> Prop}
    (hK : ∀ w' s', Sat (Cells b t ((vs.set o (.slice s'.base s'.len s'.cap)).set (o + 1) (.int .u64 (tot (addL l x y)))) :: SetR E s' (addL l x y) :: R) w' -> K w') : F.stretch_Set_Add E (some ⟨b, o, none⟩) x y K w :=
  add_spec hE (H.setAt h0 h1) ha hac hc fun w' s' hs hu hf => hK w' s' (H.setStep (List.getElem?_eq_some_iff.1 h1).1 hs hu hf)
end
theorem SetR.ok {E : Env} {s : SlV} {l : Iv} {R : List Pr} {w : World} (H : Sat (SetR E s l :: R) w) : Ok l /\ ∀ q ∈ l, q.2 <= big := (Sat.where.1 H).1
theorem Sat.setNil {E : Env} {R : List Pr} {w : World} (H : Sat R w) : Sat (SetR E ⟨none, 0, 0⟩ [] :: R) w :=
  Sat.where.2 ⟨⟨trivial, by simp⟩, H.nil E.t_stretch_One 2⟩
end Go.Sh
