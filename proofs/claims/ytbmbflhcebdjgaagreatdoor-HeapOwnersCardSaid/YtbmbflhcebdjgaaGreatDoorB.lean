/- The map of arenas does what its chunks and owners say. No further condition. -/
import Derived.Test.YtbmbflhcebdjgaaGreatDoorS
import Derived.Test.YtbmbflhcebdjgaaGreatDoorM
import Derived.Test.YtbmbflhcebdjgaaGreatDoorA
set_option linter.all false
namespace Go.Sh
abbrev Wd := List (Int × Int × Int)
def flat3 : Wd -> List Value
  | [] => []
  | p :: r => .int .u64 p.1 :: .int .u64 p.2.1 :: .int .i64 p.2.2 :: flat3 r
theorem flat3_length : ∀ l : Wd, (flat3 l).length = l.length * 3
  | [] => rfl
  | p :: r => by simp [flat3, flat3_length r]; omega
theorem flat3_append : ∀ l m : Wd, flat3 (l ++ m) = flat3 l ++ flat3 m
  | [], _ => rfl
  | p :: r, m => by simp [flat3, flat3_append r m]
theorem flat3_get : ∀ (l : Wd) (i : Nat) (p : Int × Int × Int), l[i]? = some p ->
    (flat3 l)[i * 3]? = some (.int .u64 p.1) /\ (flat3 l)[i * 3 + 1]? = some (.int .u64 p.2.1) /\ (flat3 l)[i * 3 + 2]? = some (.int .i64 p.2.2)
  | [], i, p, h => by simp at h
  | q :: r, 0, p, h => by simp at h; subst h; simp [flat3]
  | q :: r, i + 1, p, h => by
    have := flat3_get r i p (by simpa using h)
    rw [show (i + 1) * 3 = i * 3 + 1 + 1 + 1 from by omega]
    simpa [flat3] using this
def wholeL : Wd -> Int -> Int
  | [], _ => 0
  | p :: r, c => if p.1 <= c /\ c < p.2.1 then p.2.2 else wholeL r c
def wcut1 (p : Int × Int × Int) (a b : Int) : Wd :=
  if p.2.1 <= a ∨ b <= p.1 then [p] else (if p.1 < a then [(p.1, a, p.2.2)] else []) ++ (if b < p.2.1 then [(b, p.2.1, p.2.2)] else [])
def wcut : Wd -> Int -> Int -> Wd
  | [], _, _ => []
  | p :: r, a, b => wcut1 p a b ++ wcut r a b
theorem wholeL_in {l m : Wd} {c : Int} (h : ∃ p ∈ l, p.1 <= c /\ c < p.2.1) : wholeL (l ++ m) c = wholeL l c := by
  induction l with
  | nil => obtain ⟨p, hp, _⟩ := h; cases hp
  | cons p r ih =>
    simp only [List.cons_append, wholeL]
    by_cases h1 : p.1 <= c /\ c < p.2.1
    · rw [if_pos h1, if_pos h1]
    · rw [if_neg h1, if_neg h1]
      obtain ⟨q, hq, h2⟩ := h
      rcases List.mem_cons.1 hq with rfl | hq
      · exact absurd h2 h1
      · exact ih ⟨q, hq, h2⟩
theorem wholeL_out {l m : Wd} {c : Int} (h : ¬ ∃ p ∈ l, p.1 <= c /\ c < p.2.1) : wholeL (l ++ m) c = wholeL m c := by
  induction l with
  | nil => rfl
  | cons p r ih =>
    simp only [List.cons_append, wholeL]
    rw [if_neg fun h1 => h ⟨p, List.mem_cons_self, h1⟩]
    exact ih fun ⟨q, hq, h2⟩ => h ⟨q, List.mem_cons_of_mem _ hq, h2⟩
theorem wholeL_none {l : Wd} {c : Int} (h : ∀ p ∈ l, ¬ (p.1 <= c /\ c < p.2.1)) : wholeL l c = 0 := by
  induction l with
  | nil => rfl
  | cons p r ih => rw [wholeL, if_neg (h p (by simp)), ih fun q hq => h q (by simp [hq])]
theorem wholeL_wcut1 {p : Int × Int × Int} {a b c : Int} (hab : a < b) :
    (∃ q ∈ wcut1 p a b, q.1 <= c /\ c < q.2.1) ↔ (p.1 <= c /\ c < p.2.1) /\ ¬ (a <= c /\ c < b) := by
  unfold wcut1
  split
  · rename_i h
    simp only [List.mem_singleton, exists_eq_left]
    omega
  · rename_i h
    simp only [List.mem_append]
    constructor
    · rintro ⟨q, hq | hq, h1, h2⟩
      · split at hq
        · simp at hq; subst hq; simp only at h1 h2; omega
        · cases hq
      · split at hq
        · simp at hq; subst hq; simp only at h1 h2; omega
        · cases hq
    · rintro ⟨⟨h1, h2⟩, h3⟩
      by_cases h4 : c < a
      · exact ⟨(p.1, a, p.2.2), .inl (by rw [if_pos (by omega)]; simp), h1, h4⟩
      · exact ⟨(b, p.2.1, p.2.2), .inr (by rw [if_pos (by omega)]; simp), by simp only; omega, h2⟩
theorem wholeL_wcut1_id {p : Int × Int × Int} {a b c : Int} (h : ∃ q ∈ wcut1 p a b, q.1 <= c /\ c < q.2.1) : wholeL (wcut1 p a b) c = p.2.2 := by
  have hid : ∀ q ∈ wcut1 p a b, q.2.2 = p.2.2 := by
    intro q hq
    unfold wcut1 at hq
    split at hq
    · simp at hq; subst hq; rfl
    · rcases List.mem_append.1 hq with hq | hq <;> split at hq <;> simp at hq <;> subst hq <;> rfl
  have key : ∀ l : Wd, (∀ q ∈ l, q.2.2 = p.2.2) -> (∃ q ∈ l, q.1 <= c /\ c < q.2.1) -> wholeL l c = p.2.2 := by
    intro l
    induction l with
    | nil => rintro _ ⟨q, hq, _⟩; cases hq
    | cons q r ih =>
      intro h1 h2
      rw [wholeL]
      split
      · exact h1 q (by simp)
      · rename_i hn
        obtain ⟨q', hq', h3⟩ := h2
        rcases List.mem_cons.1 hq' with rfl | hq'
        · exact absurd h3 hn
        · exact ih (fun x hx => h1 x (by simp [hx])) ⟨q', hq', h3⟩
  exact key _ hid h
theorem wholeL_wcut {l : Wd} {a b : Int} (hab : a < b) (c : Int) : wholeL (wcut l a b) c = if a <= c /\ c < b then 0 else wholeL l c := by
  induction l with
  | nil => simp [wcut, wholeL]
  | cons p r ih =>
    rw [wcut]
    by_cases h1 : (p.1 <= c /\ c < p.2.1) /\ ¬ (a <= c /\ c < b)
    · have h2 := (wholeL_wcut1 hab).2 h1
      rw [wholeL_in h2, if_neg h1.2, wholeL, if_pos h1.1]
      exact wholeL_wcut1_id h2
    · rw [wholeL_out fun h2 => h1 ((wholeL_wcut1 hab).1 h2), ih]
      split
      · rfl
      · rename_i h2
        rw [wholeL, if_neg fun h3 => h1 ⟨h3, h2⟩]
def WOk (l : Wd) : Prop := (∀ p ∈ l, 0 <= p.1 /\ p.1 < p.2.1 /\ p.2.1 <= 67108864) /\ l.Pairwise fun p q => p.2.1 <= q.1 ∨ q.2.1 <= p.1
theorem wcut1_within {p q : Int × Int × Int} {a b : Int} (hp : p.1 < p.2.1) (hab : a < b) (h : q ∈ wcut1 p a b) : p.1 <= q.1 /\ q.1 < q.2.1 /\ q.2.1 <= p.2.1 /\ (q.2.1 <= a ∨ b <= q.1) := by
  unfold wcut1 at h
  split at h
  · simp at h; subst h; omega
  · rcases List.mem_append.1 h with h | h <;> split at h <;> simp at h <;> subst h <;> simp only <;> omega
theorem wcut_within {l : Wd} {q : Int × Int × Int} {a b : Int} (hl : WOk l) (hab : a < b) (h : q ∈ wcut l a b) : ∃ p ∈ l, p.1 <= q.1 /\ q.1 < q.2.1 /\ q.2.1 <= p.2.1 /\ (q.2.1 <= a ∨ b <= q.1) := by
  induction l with
  | nil => cases h
  | cons p r ih =>
    rcases List.mem_append.1 h with h | h
    · exact ⟨p, by simp, wcut1_within (hl.1 p (by simp)).2.1 hab h⟩
    · obtain ⟨p', hp', h'⟩ := ih ⟨fun x hx => hl.1 x (by simp [hx]), (List.pairwise_cons.1 hl.2).2⟩ h
      exact ⟨p', by simp [hp'], h'⟩
theorem WOk_wcut {l : Wd} {a b : Int} (h : WOk l) (hab : a < b) : WOk (wcut l a b) := by
  refine ⟨fun q hq => ?_, ?_⟩
  · obtain ⟨p, hp, h1⟩ := wcut_within h hab hq
    have := h.1 p hp
    omega
  · induction l with
    | nil => exact List.Pairwise.nil
    | cons p r ih =>
      have hr : WOk r := ⟨fun x hx => h.1 x (by simp [hx]), (List.pairwise_cons.1 h.2).2⟩
      rw [wcut, List.pairwise_append]
      refine ⟨?_, ih hr, fun q hq q' hq' => ?_⟩
      · unfold wcut1
        split
        · simp
        · split <;> split <;> simp
          omega
      · have h1 := wcut1_within (h.1 p (by simp)).2.1 hab hq
        obtain ⟨p', hp', h2⟩ := wcut_within hr hab hq'
        have := (List.pairwise_cons.1 h.2).1 p' hp'
        omega
theorem nodup_le : ∀ (n : Nat) (l : List Int), l.Nodup -> (∀ x ∈ l, 0 <= x /\ x < n) -> l.length <= n
  | 0, [], _, _ => Nat.le_refl _
  | 0, x :: r, _, h => by have := h x (by simp); omega
  | n + 1, l, hn, h => by
    have h1 : (l.erase (n : Int)).length <= n := nodup_le n _ (hn.erase _) fun x hx => by
      have h2 := (List.Nodup.mem_erase_iff hn).1 hx
      have := h x h2.2
      have := h2.1
      omega
    have := List.length_erase_of_mem (a := (n : Int)) (l := l)
    by_cases hm : (n : Int) ∈ l
    · have := this hm; omega
    · rw [List.erase_of_not_mem hm] at h1; omega
theorem WOk.len {l : Wd} (h : WOk l) : l.length <= 67108864 := by
  have h1 := nodup_le 67108864 (l.map (·.1)) ?_ ?_
  · simpa using h1
  · have h2 := h.1
    have h3 := h.2
    clear h
    induction l with
    | nil => simp
    | cons p r ih =>
      rw [List.map_cons, List.nodup_cons]
      refine ⟨fun hm => ?_, ih (fun x hx => h2 x (by simp [hx])) (List.pairwise_cons.1 h3).2⟩
      obtain ⟨q, hq, he⟩ := List.mem_map.1 hm
      have h4 := (List.pairwise_cons.1 h3).1 q hq
      have h5 := h2 p (by simp)
      have h6 := h2 q (by simp [hq])
      omega
  · intro x hx
    obtain ⟨q, hq, rfl⟩ := List.mem_map.1 hx
    have := h.1 q hq
    omega
theorem WOk_append {l m : Wd} : WOk (l ++ m) ↔ WOk l /\ WOk m /\ ∀ p ∈ l, ∀ q ∈ m, p.2.1 <= q.1 ∨ q.2.1 <= p.1 := by
  simp only [WOk, List.pairwise_append, List.mem_append]
  constructor
  · rintro ⟨h1, h2, h3, h4⟩
    exact ⟨⟨fun p hp => h1 p (.inl hp), h2⟩, ⟨fun p hp => h1 p (.inr hp), h3⟩, h4⟩
  · rintro ⟨⟨h1, h2⟩, ⟨h3, h4⟩, h5⟩
    exact ⟨fun p hp => hp.elim (h1 p) (h3 p), h2, h4, h5⟩
theorem wcut_append (l m : Wd) (a b : Int) : wcut (l ++ m) a b = wcut l a b ++ wcut m a b := by
  induction l with
  | nil => rfl
  | cons p r ih => simp [wcut, ih]
structure WideAt (E : Env) (w : World) (b : Nat) (s : SlV) (ws : Wd) : Prop where
  c2 : w.cell? ⟨b, 2, none⟩ = some (.slice s.base s.len s.cap)
  f2 : w.frozen? ⟨b, 2, none⟩ = false
  own : Own w 0 E.t_arena_wide 3 s (flat3 ws)
  ok : WOk ws
  apart : ∀ a, s.base = some a -> a.block ≠ b
theorem WideAt.len {E : Env} {w : World} {b : Nat} {s : SlV} {ws : Wd} (h : WideAt E w b s ws) : s.len = ws.length := by
  have := h.own.len
  rw [flat3_length] at this
  omega
theorem WideAt.lt {E : Env} {w : World} {b : Nat} {s : SlV} {ws : Wd} (h : WideAt E w b s ws) : b < w.heap.size := World.block_lt_of_cell? w _ h.c2
theorem WideAt.ext {E : Env} {w w' : World} {b : Nat} {s : SlV} {ws : Wd} {S : Nat -> Prop} (h : WideAt E w b s ws) (he : Ext S w w') (hp : ¬ S b) (hs : ∀ a, s.base = some a -> ¬ S a.block) : WideAt E w' b s ws :=
  ⟨he.cell h.c2 hp, by rw [he.frozen (p := ⟨b, 2, none⟩) h.lt hp]; exact h.f2, h.own.ext he fun g hg => hs _ hg, h.ok, h.apart⟩
theorem WideAt.cells {E : Env} {w : World} {b : Nat} {s : SlV} {ws : Wd} (h : WideAt E w b s ws) {i : Nat} {q : Int × Int × Int} (hi : ws[i]? = some q) :
    ∃ r, s.base = some ⟨r, 0, none⟩ /\ w.cell? ⟨r, i * 3, none⟩ = some (.int .u64 q.1) /\ w.cell? ⟨r, i * 3 + 1, none⟩ = some (.int .u64 q.2.1) /\ w.cell? ⟨r, i * 3 + 2, none⟩ = some (.int .i64 q.2.2) := by
  have hr := h.own.rowAt
  obtain ⟨g1, g2, g3⟩ := flat3_get ws i q hi
  rcases h.own.row with ⟨h1, h2⟩ | ⟨b, cs, h1, _⟩
  · rw [h1] at hr
    have : flat3 ws = [] := hr
    rw [this] at g1; simp at g1
  · rw [h1] at hr
    refine ⟨b, h1, ?_, ?_, ?_⟩
    · have := hr.2 _ _ g1; rwa [add_eq, Nat.zero_add] at this
    · have := hr.2 _ _ g2; rwa [add_eq, Nat.zero_add] at this
    · have := hr.2 _ _ g3; rwa [add_eq, Nat.zero_add] at this
theorem whole_spec {E : Env} {w : World} {b : Nat} {s : SlV} {ws : Wd} (h : WideAt E w b s ws) {c : Int} {K : Int -> World -> Prop} (hK : ∀ w', Ext Nothing w w' -> K (wholeL ws c) w') :
    F.arena_Map_whole E (some ⟨b, 0, none⟩) c K w := by
  unfold F.arena_Map_whole
  simp only [NC_some, add_eq, Nat.zero_add]
  have hlen := h.len
  have hsm := h.ok.len
  refine ⟨s, h.c2, LOOP_intro (fun st w' => ∃ k : Nat, st.1 = (k : Int) /\ k <= ws.length /\ wholeL ws c = wholeL (ws.drop k) c /\ Ext Nothing w w') (fun st _ => (ws.length - st.1).toNat) ⟨0, rfl, Nat.zero_le _, rfl, Ext.refl _ _⟩ ?_⟩
  rintro ⟨i, u⟩ _ w4 ⟨k, hk, hk2, hwh, hw4⟩
  simp only at hk ⊢
  subst hk
  have h4 := h.ext hw4 (fun f => f) fun _ _ f => f
  refine CND_dec (fun hlt => ?_) (fun hge => ?_)
  · have hl : k < ws.length := by omega
    have hg := List.getElem?_eq_getElem hl
    obtain ⟨r, hr, hq1, hq2, hq3⟩ := h4.cells hg
    rw [hr]
    simp only [NC_some, add_eq, Nat.zero_add, Int.toNat_natCast, Nat.add_zero]
    refine ⟨⟨by omega, by omega⟩, _, hq1, _, hq2, _, hq3, AL_intro fun w11 hb11 hsz11 he11 => ?_⟩
    refine st_block _ _ _ _ _ _ _ hb11 (by simp) (by intro v hv; simp at hv; rcases hv with rfl | rfl | rfl <;> rfl) fun w12 he12 hsz12 hb12 => ?_
    simp at hb12
    have hw12 : Ext Nothing w w12 := (hw4.trans' he11).trans he12 (fun _ _ f => f) fun i hi e => by have : i = w4.heap.size := e; have := hw4.size; omega
    refine JOIN_intro (fun st w' => w' = w12 /\ (st.1 = true ↔ ws[k].1 <= c /\ c < ws[k].2.1)) ?_ ?_
    · refine ⟨ws[k].1, by rw [cell_of_block hb12]; rfl, CND_dec (fun h1 => ?_) (fun h1 => ?_)⟩
      · refine ⟨ws[k].2.1, by rw [cell_of_block hb12]; rfl, rfl, ?_⟩
        simp only [decide_eq_true_iff]; omega
      · refine ⟨rfl, ?_⟩
        simp only [Bool.false_eq_true, false_iff]; omega
    · rintro ⟨bt, u⟩ _ w15 ⟨rfl, hbt⟩
      simp only at hbt ⊢
      have hd := drop_get hg
      refine CND_intro (fun ht => ?_) (fun hf => ?_)
      · refine ⟨ws[k].2.2, by rw [cell_of_block hb12]; rfl, ?_⟩
        have : wholeL ws c = ws[k].2.2 := by rw [hwh, hd, wholeL, if_pos (hbt.1 ht)]
        rw [<- this]
        exact hK _ hw12
      · have hn : ¬ (ws[k].1 <= c /\ c < ws[k].2.1) := fun h => by rw [hbt.2 h] at hf; cases hf
        refine ⟨⟨k + 1, by rw [i64_id (by omega) (by omega)]; omega, by omega, by rw [hwh, hd, wholeL, if_neg hn], hw12⟩, by rw [i64_id (by omega) (by omega)]; omega⟩
  · have : ws.drop k = [] := List.drop_eq_nil_of_le (by omega)
    rw [this] at hwh
    have : wholeL ws c = 0 := hwh
    rw [<- this]
    exact hK _ hw4
end Go.Sh

set_option linter.all false
namespace Go.Sh
theorem app_wide {E : Env} {w : World} {B g : Nat} {s : SlV} {m : Wd} {q : Int × Int × Int} {K : SlV -> World -> Prop} (hown : Own w B E.t_arena_wide 3 s (flat3 m))
    (hg : w.heap[g]? = some (.cells ⟨[.int .u64 q.1, .int .u64 q.2.1, .int .i64 q.2.2]⟩ E.t_arena_wide)) (hB : B <= w.heap.size) (hm : m.length <= 67108865)
    (hK : ∀ s' w', Own w' B E.t_arena_wide 3 s' (flat3 (m ++ [q])) -> Ext (Blk s) w w' -> (s'.base = s.base ∨ ∃ b, s'.base = some ⟨b, 0, none⟩ /\ w.heap.size <= b) -> K s' w') :
    APP E.t_arena_wide 3 24 #[.int .u64 0, .int .u64 0, .int .i64 0] s ⟨some ⟨g, 0, none⟩, 1, 1⟩ w K := by
  have hl := hown.len
  rw [flat3_length] at hl
  refine APP_own (news := [.int .u64 q.1, .int .u64 q.2.1, .int .i64 q.2.2]) rfl hown (rowAt_block hg rfl) rfl (by intro v hv; simp at hv; rcases hv with rfl | rfl | rfl <;> rfl) hB (by simp only; omega) (by simp only; omega) ?_
  intro s' w' ho hl' he hb
  refine hK s' w' ?_ he hb
  rw [flat3_append]
  exact ho
theorem wcut_len {l : Wd} {a b : Int} (h : WOk l) (hab : a < b) : (wcut l a b).length <= 67108864 := (WOk_wcut h hab).len
theorem wcut_take {l : Wd} (h : WOk l) (k : Nat) : WOk (l.take k) := by
  have h1 := h
  rw [<- List.take_append_drop k l, WOk_append] at h1
  exact h1.1
end Go.Sh

set_option linter.all false
namespace Go.Sh
structure MapG where
  s : SlV
  ks : Iv
  sw : SlV
  ws : Wd
  mb : Nat
  lv : Int -> Option (Nat × (Int -> Int))
structure MapR (E : Env) (w : World) (b : Nat) (G : MapG) : Prop where
  set : SetAt E w b 0 G.s G.ks
  wide : WideAt E w b G.sw G.ws
  c3 : w.cell? ⟨b, 3, none⟩ = some (.map (some G.mb))
  map : ∃ es c m, w.heap[G.mb]? = some (.map es c) /\ MapI .u64 es c m /\ ∀ k, aget m k = (G.lv k).map fun q => .pointer (some ⟨q.1, 0, none⟩)
  leaf : ∀ k q, G.lv k = some q -> ∀ i : Nat, i < 512 -> w.cell? ⟨q.1, i, none⟩ = some (.int .i64 (q.2 i)) /\ w.frozen? ⟨q.1, i, none⟩ = false
  inj : ∀ k k' q q', G.lv k = some q -> G.lv k' = some q' -> q.1 = q'.1 -> k = k'
  d1 : ∀ k, Blk G.s k -> ¬ Blk G.sw k
  d2 : ∀ k q, G.lv k = some q -> q.1 ≠ b /\ ¬ Blk G.s q.1 /\ ¬ Blk G.sw q.1
section
variable {E : Env} {w w' : World} {b : Nat} {G : MapG}
theorem MapR.lt (h : MapR E w b G) : b < w.heap.size := h.wide.lt
theorem MapR.mne (h : MapR E w b G) : G.mb ≠ b := by
  rintro e
  obtain ⟨es, c, m, h1, _⟩ := h.map
  rw [e] at h1
  exact not_both h1 h.c3
theorem MapR.ms (h : MapR E w b G) : ¬ Blk G.s G.mb := by
  obtain ⟨es, c, m, h1, _⟩ := h.map
  exact h.set.row.own.not_map h1
theorem MapR.mw (h : MapR E w b G) : ¬ Blk G.sw G.mb := by
  obtain ⟨es, c, m, h1, _⟩ := h.map
  exact h.wide.own.not_map h1
theorem MapR.ml (h : MapR E w b G) {k : Int} {q : Nat × (Int -> Int)} (hk : G.lv k = some q) : q.1 ≠ G.mb := by
  rintro e
  obtain ⟨es, c, m, h1, _⟩ := h.map
  rw [<- e] at h1
  exact not_both h1 (h.leaf k q hk 0 (by decide)).1
theorem MapR.mlt (h : MapR E w b G) : G.mb < w.heap.size := by
  obtain ⟨es, c, m, h1, _⟩ := h.map
  exact block_lt h1
def MOwns (b : Nat) (G : MapG) (k : Nat) : Prop := k = b ∨ k = G.mb ∨ Blk G.s k ∨ Blk G.sw k ∨ ∃ c q, G.lv c = some q /\ k = q.1
theorem MapR.owns_lt (h : MapR E w b G) {k : Nat} (hk : MOwns b G k) : k < w.heap.size := by
  rcases hk with rfl | rfl | hk | hk | ⟨c, q, hk, rfl⟩
  · exact h.lt
  · exact h.mlt
  · exact (h.set.row.own.blk hk).2
  · exact (h.wide.own.blk hk).2
  · exact World.block_lt_of_cell? w _ (h.leaf c q hk 0 (by decide)).1
theorem MapR.ext {S : Nat -> Prop} (h : MapR E w b G) (he : Ext S w w') (hS : ∀ k, MOwns b G k -> ¬ S k) : MapR E w' b G := by
  have hb : ¬ S b := hS b (.inl rfl)
  refine ⟨h.set.ext he hb fun a ha => hS _ (.inr (.inr (.inl ⟨a, ha, rfl⟩))), h.wide.ext he hb fun a ha => hS _ (.inr (.inr (.inr (.inl ⟨a, ha, rfl⟩)))), he.cell h.c3 hb, ?_, ?_, h.inj, h.d1, h.d2⟩
  · obtain ⟨es, c, m, h1, h2⟩ := h.map
    exact ⟨es, c, m, he.obj h1 (hS _ (.inr (.inl rfl))), h2⟩
  · intro k q hk i hi
    obtain ⟨h1, h2⟩ := h.leaf k q hk i hi
    have hn : ¬ S q.1 := hS _ (.inr (.inr (.inr (.inr ⟨k, q, hk, rfl⟩))))
    exact ⟨he.cell h1 hn, by rw [he.frozen (World.block_lt_of_cell? w _ h1) hn]; exact h2⟩
theorem MapR.ext0 (h : MapR E w b G) (he : Ext Nothing w w') : MapR E w' b G := h.ext he fun _ _ f => f
end
def MapG.cut (G : MapG) (a c : Int) (sw : SlV) : MapG := { G with sw := sw, ws := wcut G.ws a c, lv := fun k => if a <= k /\ k < c then none else G.lv k }
theorem acut_spec {E : Env} {w : World} {b : Nat} {G : MapG} (h : MapR E w b G) {a c : Int} (ha : 0 <= a) (hac : a < c) (hc : c <= 67108864) {K : World -> Prop}
    (hK : ∀ w' sw', MapR E w' b (G.cut a c sw') -> Ext (fun k => k = b ∨ k = G.mb) w w' -> (∀ k, Blk sw' k -> w.heap.size <= k) -> K w') :
    F.arena_Map_cut E (some ⟨b, 0, none⟩) a c K w := by
  unfold F.arena_Map_cut
  simp only [NC_some, add_eq, Nat.zero_add]
  have hlen := h.wide.len
  have hsm := h.wide.ok.len
  have hblt := h.lt
  refine ⟨G.sw, h.wide.c2, LOOP_intro (fun st w' => ∃ k : Nat, st.2.1 = (k : Int) /\ k <= G.ws.length /\ Own w' w.heap.size E.t_arena_wide 3 st.1 (flat3 (wcut (G.ws.take k) a c)) /\ Ext Nothing w w')
    (fun st _ => (G.ws.length - st.2.1).toNat) ⟨0, rfl, Nat.zero_le _, Own.nil _ _ _ _, Ext.refl _ _⟩ ?_⟩
  rintro ⟨s3, i, u⟩ _ w4 ⟨k, hk, hk2, hown, hw4⟩
  simp only at hk hown ⊢
  subst hk
  refine CND_dec (fun hlt => ?_) (fun hge => ?_)
  · have hl : k < G.ws.length := by omega
    have hg := List.getElem?_eq_getElem hl
    have h4 := h.ext0 hw4
    obtain ⟨r, hr, hq1, hq2, hq3⟩ := h4.wide.cells hg
    generalize hq : G.ws[k] = q at hg hq1 hq2 hq3
    have hqm : q ∈ G.ws := List.mem_of_getElem? hg
    have hq0 := h.wide.ok.1 q hqm
    have htk : G.ws.take (k + 1) = G.ws.take k ++ [q] := take_succ_get hg
    have hcutk : wcut (G.ws.take (k + 1)) a c = wcut (G.ws.take k) a c ++ wcut1 q a c := by rw [htk, wcut_append]; simp [wcut]
    have hwk : (wcut (G.ws.take k) a c).length <= 67108864 := wcut_len (wcut_take h.wide.ok k) hac
    rw [hr]
    simp only [NC_some, add_eq, Nat.zero_add, Int.toNat_natCast, Nat.add_zero]
    refine ⟨⟨by omega, by omega⟩, _, hq1, _, hq2, _, hq3, AL_intro fun w11 hb11 hsz11 he11 => ?_⟩
    refine st_block _ _ _ _ _ _ _ hb11 (by simp) (by intro v hv; simp at hv; rcases hv with rfl | rfl | rfl <;> rfl) fun w12 he12 hsz12 hb12 => ?_
    simp at hb12
    have hw12 : Ext Nothing w w12 := (hw4.trans' he11).trans he12 (fun _ _ f => f) fun i hi e => by have : i = w4.heap.size := e; have := hw4.size; omega
    have hown12 : Own w12 w.heap.size E.t_arena_wide 3 s3 (flat3 (wcut (G.ws.take k) a c)) := (hown.ext he11 fun _ _ f => f).ext he12 fun g hg2 e => by
      have := hown.lt hg2; have : g = w4.heap.size := e; simp only at *; omega
    have hgw : ∀ g, s3.base = some ⟨g, 0, none⟩ -> g ≠ w4.heap.size := fun g hg2 e => by have := hown.lt hg2; simp only at *; omega
    refine JOIN_intro (fun st w' => w' = w12 /\ (st.1 = true ↔ q.2.1 <= a ∨ c <= q.1)) ?_ ?_
    · refine ⟨q.2.1, by rw [cell_of_block hb12]; rfl, CND_dec (fun h1 => ?_) (fun h1 => ?_)⟩
      · refine ⟨rfl, ?_⟩; simp; omega
      · refine ⟨q.1, by rw [cell_of_block hb12]; rfl, rfl, ?_⟩
        simp; omega
    · rintro ⟨bt, u⟩ _ w15 ⟨rfl, hbt⟩
      simp only at hbt ⊢
      refine CND_intro (fun ht => ?_) (fun hf => ?_)
      · have hkeep := hbt.1 ht
        refine ⟨q.1, by rw [cell_of_block hb12]; rfl, q.2.1, by rw [cell_of_block hb12]; rfl, q.2.2, by rw [cell_of_block hb12]; rfl, AL_intro fun w22 hb22 hsz22 he22 => ?_⟩
        refine app_wide (hown12.ext he22 fun _ _ f => f) hb22 (by have := hw12.size; omega) (by omega) fun s23 w24 ho24 he24 hbs => ?_
        have hw24 := keep_blk (hw12.trans' he22) (hown12.ext he22 fun _ _ f => f) (Nat.le_refl _) he24
        have h1 : wcut1 q a c = [q] := by
          unfold wcut1
          rw [if_pos (by omega)]
        refine ⟨⟨k + 1, by rw [i64_id (by omega) (by omega)]; omega, by omega, by rw [hcutk, h1]; exact ho24, hw24⟩, by rw [i64_id (by omega) (by omega)]; omega⟩
      · have hno : ¬ (q.2.1 <= a ∨ c <= q.1) := fun h => by rw [hbt.2 h] at hf; cases hf
        refine JOIN_intro (fun st w' => Own w' w.heap.size E.t_arena_wide 3 st.1 (flat3 (wcut (G.ws.take k) a c ++ if q.1 < a then [(q.1, a, q.2.2)] else [])) /\ Ext Nothing w w' /\
            w'.heap[w4.heap.size]? = some (.cells #[.int .u64 q.1, .int .u64 q.2.1, .int .i64 q.2.2] E.t_arena_wide) /\ w4.heap.size < w'.heap.size /\ ∀ g, st.1.base = some ⟨g, 0, none⟩ -> g ≠ w4.heap.size) ?_ ?_
        · refine ⟨q.1, by rw [cell_of_block hb12]; rfl, CND_dec (fun h1 => ?_) (fun h1 => ?_)⟩
          · refine ⟨q.1, by rw [cell_of_block hb12]; rfl, q.2.2, by rw [cell_of_block hb12]; rfl, AL_intro fun w32 hb32 hsz32 he32 => ?_⟩
            refine app_wide (q := (q.1, a, q.2.2)) (hown12.ext he32 fun _ _ f => f) hb32 (by have := hw12.size; omega) (by omega) fun s33 w34 ho34 he34 hbs => ?_
            have hw34 := keep_blk (hw12.trans' he32) (hown12.ext he32 fun _ _ f => f) (Nat.le_refl _) he34
            refine ⟨by rw [if_pos h1]; exact ho34, hw34, he34.obj (he32.obj hb12 fun f => f) ?_, by have := he34.size; omega, ?_⟩
            · rintro ⟨a', ha', he'⟩
              have := hown12.lt ha'
              exact hgw a'.block (by rw [ha']; cases a'; simp_all) he'.symm
            · intro g hg2 e
              rcases hbs with hbs | ⟨b', hb', hle⟩
              · rw [hbs] at hg2; exact hgw g hg2 e
              · rw [hb'] at hg2; cases hg2; omega
          · refine ⟨by rw [if_neg h1, List.append_nil]; exact hown12, hw12, hb12, by omega, hgw⟩
        · rintro ⟨s26, u⟩ _ w27 ⟨ho27, hw27, hb27, hlt27, hg27⟩
          simp only at ho27 hg27 ⊢
          refine ⟨q.2.1, by rw [cell_of_block hb27]; rfl, CND_dec (fun h1 => ?_) (fun h1 => ?_)⟩
          · refine ⟨q.2.1, by rw [cell_of_block hb27]; rfl, q.2.2, by rw [cell_of_block hb27]; rfl, AL_intro fun w39 hb39 hsz39 he39 => ?_⟩
            refine app_wide (q := (c, q.2.1, q.2.2)) (ho27.ext he39 fun _ _ f => f) hb39 (by have := hw27.size; omega) (by split <;> simp <;> omega) fun s40 w41 ho41 he41 hbs => ?_
            have hw41 := keep_blk (hw27.trans' he39) (ho27.ext he39 fun _ _ f => f) (Nat.le_refl _) he41
            have h2 : wcut1 q a c = (if q.1 < a then [(q.1, a, q.2.2)] else []) ++ [(c, q.2.1, q.2.2)] := by
              unfold wcut1
              rw [if_neg (by omega), if_pos (show c < q.2.1 from h1)]
            refine ⟨⟨k + 1, by rw [i64_id (by omega) (by omega)]; omega, by omega, by rw [hcutk, h2, <- List.append_assoc]; exact ho41, hw41⟩, by rw [i64_id (by omega) (by omega)]; omega⟩
          · have h2 : wcut1 q a c = (if q.1 < a then [(q.1, a, q.2.2)] else []) := by
              unfold wcut1
              rw [if_neg (by omega), if_neg (show ¬ c < q.2.1 from h1), List.append_nil]
            refine ⟨⟨k + 1, by rw [i64_id (by omega) (by omega)]; omega, by omega, by rw [hcutk, h2]; exact ho27, hw27⟩, by rw [i64_id (by omega) (by omega)]; omega⟩
  · have htk : G.ws.take k = G.ws := List.take_of_length_le (by omega)
    rw [htk] at hown
    have h4 := h.ext0 hw4
    refine st_one h4.wide.c2 h4.wide.f2 rfl fun w43 hst => ?_
    have hu : Upd b (fun j => j = 2) w4 w43 := Upd.of_stored hst rfl
    have hset : SetAt E w43 b 0 G.s G.ks := h4.set.upd hu (by decide) (by decide)
    have hblk : ∀ k, Blk s3 k -> w.heap.size <= k := fun k hk => (hown.blk hk).1
    have hwide : WideAt E w43 b s3 (wcut G.ws a c) := by
      refine ⟨hst.same, by rw [hst.frozen]; exact h4.wide.f2, (hown.ext hst.ext fun g hg e => ?_).lower (Nat.zero_le _), WOk_wcut h.wide.ok hac, fun a' ha' e => ?_⟩
      · have := hown.lt hg; have : g = b := e; simp only at *; omega
      · have := (hown.lt ha').1; omega
    have hc3 : w43.cell? ⟨b, 3, none⟩ = some (.map (some G.mb)) := by rw [hst.other _ (by intro e; injection e with _ e; omega)]; exact h4.c3
    obtain ⟨es, cl, m, hmap, hmi, hag⟩ := h4.map
    have hmap43 : w43.heap[G.mb]? = some (.map es cl) := hst.ext.obj hmap h.mne
    have hw43 : Ext (Only b) w w43 := (hw4.any).trans' hst.ext
    have hleaf : ∀ k q, G.lv k = some q -> ∀ i : Nat, i < 512 -> w43.cell? ⟨q.1, i, none⟩ = some (.int .i64 (q.2 i)) /\ w43.frozen? ⟨q.1, i, none⟩ = false := by
      intro k q hk i hi
      obtain ⟨h1, h2⟩ := h4.leaf k q hk i hi
      have hn : ¬ Only b q.1 := (h.d2 k q hk).1
      exact ⟨hst.ext.cell h1 hn, by rw [hst.ext.frozen (World.block_lt_of_cell? w4 _ h1) hn]; exact h2⟩
    have fin : ∀ w' es' m', Ext (fun k => k = G.mb ∨ w.heap.size <= k /\ ¬ Blk s3 k) w43 w' -> w'.heap[G.mb]? = some (.map es' cl) -> MapI .u64 es' cl m' -> (∀ k, aget m' k = if a <= k /\ k < c then none else aget m k) -> K w' := by
      intro w' es' m' hext hm' hmi' hag'
      have hnb : ¬ (b = G.mb ∨ w.heap.size <= b /\ ¬ Blk s3 b) := by
        rintro (e | ⟨e, _⟩)
        · exact h.mne e.symm
        · omega
      refine hK w' s3 ⟨?_, ?_, hext.cell hc3 hnb, ⟨es', cl, m', hm', hmi', ?_⟩, ?_, ?_, ?_, ?_⟩ ?_ hblk
      · refine hset.ext hext hnb fun a' ha' => ?_
        have := (h.set.row.own.lt ha')
        rintro (e | ⟨e, _⟩)
        · exact h.ms ⟨a', ha', e.symm⟩
        · omega
      · refine hwide.ext hext hnb fun a' ha' => ?_
        have := hown.lt ha'
        rintro (e | ⟨_, e⟩)
        · have := h.mlt; omega
        · exact e ⟨a', ha', rfl⟩
      · intro k
        rw [hag', hag]
        show _ = Option.map _ (if a <= k /\ k < c then none else G.lv k)
        split <;> simp
      · intro k q hk i hi
        have hk2 : (if a <= k /\ k < c then none else G.lv k) = some q := hk
        split at hk2
        · cases hk2
        · obtain ⟨h1, h2⟩ := hleaf k q hk2 i hi
          have hq := World.block_lt_of_cell? w _ (h.leaf k q hk2 i hi).1
          have hn : ¬ (q.1 = G.mb ∨ w.heap.size <= q.1 /\ ¬ Blk s3 q.1) := by
            rintro (e | ⟨e, _⟩)
            · exact h.ml hk2 e
            · simp only at hq; omega
          exact ⟨hext.cell h1 hn, by rw [hext.frozen (World.block_lt_of_cell? w43 _ h1) hn]; exact h2⟩
      · intro k k' q q' hk hk' e
        have hk2 : (if a <= k /\ k < c then none else G.lv k) = some q := hk
        have hk2' : (if a <= k' /\ k' < c then none else G.lv k') = some q' := hk'
        split at hk2
        · cases hk2
        · split at hk2'
          · cases hk2'
          · exact h.inj k k' q q' hk2 hk2' e
      · intro k hk hk'
        have := hblk k hk'
        have := (h.set.row.own.blk hk).2
        omega
      · intro k q hk
        have hk2 : (if a <= k /\ k < c then none else G.lv k) = some q := hk
        split at hk2
        · cases hk2
        · obtain ⟨g1, g2, g3⟩ := h.d2 k q hk2
          refine ⟨g1, g2, fun g => ?_⟩
          have := hblk _ g
          have := World.block_lt_of_cell? w _ (h.leaf k q hk2 0 (by decide)).1
          simp only at this; omega
      · refine hw43.trans hext (fun i _ e => .inl e) fun i hi e => ?_
        rcases e with e | ⟨e, _⟩
        · exact .inr e
        · omega
    refine ⟨some G.mb, hc3, es, ⟨cl, hmap43⟩, CND_intro (fun _ => ?_) (fun _ => ?_)⟩
    · refine ⟨some G.mb, hc3, cl, ⟨es, hmap43⟩, AL_intro fun w51 hb51 hsz51 he51 => ?_⟩
      have hmb51 := he51.obj hmap43 fun f => f
      have hml43 := block_lt hmap43
      refine range_del (K := K) (m0 := m) (m1 := m) (es0 := es) (seen0 := #[]) (mb := G.mb) (since := cl) (a := a) (b := c) (getm := fun K' w => ∃ x73 : (Option Nat), w.cell? ⟨b, 3, none⟩ = some (.map x73) /\ K' x73 w) (fun w' K' he hk => ⟨some G.mb, ?_, hk⟩)
        ⟨⟨cl, hb51, .inl rfl⟩, hmb51, hmi, fun _ _ => rfl, fun _ _ h => h, by simp⟩ (by omega) (by omega) (by omega) ?_
      · refine he.cell (he51.cell hc3 fun f => f) ?_
        rintro (e | e)
        · have := hw43.size; simp only at e; omega
        · exact h.mne e.symm
      · intro w' es' m' hext hsz hm' hmi' hag'
        refine fin w' es' m' ?_ hm' hmi' hag'
        refine he51.any.trans hext (fun _ _ f => f) fun i hi e => ?_
        rcases e with e | e
        · omega
        · exact .inl e
    · refine LOOP_intro (fun st w' => ∃ es' m', a <= st.1 /\ st.1 <= c /\ Ext (Only G.mb) w43 w' /\ w'.heap[G.mb]? = some (.map es' cl) /\ MapI .u64 es' cl m' /\ ∀ k, aget m' k = if a <= k /\ k < st.1 then none else aget m k)
        (fun st _ => (c - st.1).toNat) ⟨es, m, Int.le_refl _, by simp only; omega, Ext.refl _ _, hmap43, hmi, fun k => by rw [if_neg (by simp only; omega)]⟩ ?_
      rintro ⟨x, u⟩ _ w76 ⟨es', m', hx1, hx2, hext, hm', hmi', hag'⟩
      simp only at hx1 hx2 hag' ⊢
      refine CND_dec (fun hlt => ?_) (fun hge => ?_)
      · refine ⟨some G.mb, hext.cell hc3 (fun e => h.mne e.symm), MDEL_intro hm' hmi' fun w80 es2 m2 hm2 hmi2 hag2 _ _ _ he2 _ => ?_⟩
        refine ⟨⟨es2, m2, ?_, ?_, hext.trans' he2, hm2, hmi2, fun k => ?_⟩, ?_⟩
        · rw [u64_id (by omega) (by omega)]; omega
        · rw [u64_id (by omega) (by omega)]; omega
        · rw [u64_id (by omega) (by omega), hag2, hag']
          by_cases e : k = x
          · rw [if_pos e, if_pos (by omega)]
          · rw [if_neg e]
            by_cases e2 : a <= k /\ k < x
            · rw [if_pos e2, if_pos (by omega)]
            · rw [if_neg e2, if_neg (by omega)]
        · rw [u64_id (by omega) (by omega)]; omega
      · have : x = c := by omega
        subst this
        exact fin w76 es' m' (hext.mono fun i _ e => .inl e) hm' hmi' hag'
end Go.Sh

set_option linter.all false
set_option maxRecDepth 4000
namespace Go.Sh
def MapG.own (G : MapG) (p : Int) : Int := match G.lv (p / 512) with
  | some q => q.2 (p % 512)
  | none => wholeL G.ws (p / 512)
structure MStep (E : Env) (b : Nat) (w : World) (G : MapG) (w' : World) (G' : MapG) : Prop where
  rep : MapR E w' b G'
  ext : Ext (MOwns b G) w w'
  owns : ∀ k, MOwns b G' k -> MOwns b G k ∨ w.heap.size <= k
section
variable {E : Env} {w w' w1 : World} {b : Nat} {G G' G1 : MapG}
theorem MStep.refl (h : MapR E w b G) : MStep E b w G w G := ⟨h, Ext.refl _ _, fun _ h => .inl h⟩
theorem MStep.nothing (h : MapR E w b G) (he : Ext Nothing w w') : MStep E b w G w' G := ⟨h.ext0 he, he.any, fun _ h => .inl h⟩
theorem MStep.trans (h : MStep E b w G w1 G1) (k : MStep E b w1 G1 w' G') : MStep E b w G w' G' :=
  ⟨k.rep, h.ext.trans k.ext (fun _ _ s => s) (fun i hi s => by rcases h.owns i s with s | s; exact s; omega), fun i hi => by
    rcases k.owns i hi with s | s
    · exact h.owns i s
    · have := h.ext.size; exact .inr (by omega)⟩
theorem MStep.away (h : MStep E b w G w' G') {k : Nat} (hk : ¬ MOwns b G k) (hl : k < w.heap.size) : ¬ MOwns b G' k := fun e => by
  rcases h.owns k e with s | s
  · exact hk s
  · omega
end
theorem leaf_spec {E : Env} {w : World} {b : Nat} {G : MapG} (h : MapR E w b G) {c : Int} (hc0 : 0 <= c) (hc : c < 67108864) {K : Option Addr -> World -> Prop}
    (hK : ∀ w' G' q, MStep E b w G w' G' -> G'.ks = G.ks -> G'.lv c = some q -> (∀ p, G'.own p = G.own p) -> K (some ⟨q.1, 0, none⟩) w') :
    F.arena_Map_leaf E (some ⟨b, 0, none⟩) c K w := by
  unfold F.arena_Map_leaf T0.arena_Map_leaf
  simp only [NC_some, add_eq, Nat.zero_add]
  obtain ⟨es, cl, m, hm, hmi, hag⟩ := h.map
  refine ⟨some G.mb, h.c3, LKP_intro hm hmi ?_⟩
  rw [hag]
  cases hlv : G.lv c with
  | some q => exact ⟨some ⟨q.1, 0, none⟩, rfl, CND_intro (fun e => by cases e) (fun _ => hK w G q (MStep.refl h) rfl hlv fun _ => rfl)⟩
  | none =>
    refine ⟨none, rfl, CND_intro (fun _ => ?_) (fun e => by cases e)⟩
    refine whole_spec h.wide fun w8 hw8 => ?_
    rw [u64_id (by omega) (by omega)]
    refine acut_spec (h.ext0 hw8) hc0 (by omega) (by omega) fun w9 sw9 h9 he9 hb9 => ?_
    generalize hzs : Array.replicate 512 (Value.int .i64 0) = zs
    have hz : ∀ i : Nat, i < 512 -> zs[i]? = some (.int .i64 0) := by
      intro i hi
      rw [<- hzs, Array.getElem?_replicate, if_pos hi]
    clear hzs
    refine AL_intro fun w11 hb11 hsz11 he11 => ?_
    have h11 := h9.ext0 he11
    have hs9 : w8.heap.size <= w9.heap.size := he9.size
    have hs8 : w.heap.size <= w8.heap.size := hw8.size
    have hnew : ¬ MOwns b (G.cut c (c + 1) sw9) w9.heap.size := fun e => by have := h9.owns_lt e; omega
    refine LOOP_intro (fun st w' => ∃ k : Nat, st.1 = (k : Int) /\ k <= 512 /\ Ext (Only w9.heap.size) w11 w' /\ ∀ i : Nat, i < 512 -> w'.cell? ⟨w9.heap.size, i, none⟩ = some (.int .i64 (if i < k then wholeL G.ws c else 0)) /\ w'.frozen? ⟨w9.heap.size, i, none⟩ = false)
      (fun st _ => (512 - st.1).toNat) ⟨0, rfl, by decide, Ext.refl _ _, fun i hi => ⟨by rw [cell_of_block hb11, if_neg (by omega)]; exact hz i hi, by simp [World.frozen?, hb11]⟩⟩ ?_
    rintro ⟨i, u⟩ _ w13 ⟨k, hk, hk2, he13, hcell⟩
    simp only at hk ⊢
    subst hk
    refine CND_dec (fun hlt => ?_) (fun hge => ?_)
    · refine ⟨⟨by omega, by omega⟩, ?_⟩
      have hk3 : k < 512 := by omega
      simp only [Int.toNat_natCast, Nat.mul_one]
      refine st_one (hcell k hk3).1 (hcell k hk3).2 rfl fun w15 hst => ?_
      refine ⟨⟨k + 1, by rw [i64_id (by omega) (by omega)]; omega, by omega, he13.trans' hst.ext, fun i hi => ?_⟩, by rw [i64_id (by omega) (by omega)]; omega⟩
      rw [hst.frozen]
      refine ⟨?_, (hcell i hi).2⟩
      by_cases e : i = k
      · subst e
        rw [hst.same, if_pos (by omega)]
      · rw [hst.other _ (by intro e2; injection e2 with _ e2; exact e e2), (hcell i hi).1]
        congr 2
        by_cases e2 : i < k
        · rw [if_pos e2, if_pos (by omega)]
        · rw [if_neg e2, if_neg (by omega)]
    · have hk3 : k = 512 := by omega
      subst hk3
      have h13 : MapR E w13 b (G.cut c (c + 1) sw9) := h11.ext he13 fun k hk e => by
        have : k = w9.heap.size := e
        exact hnew (this ▸ hk)
      obtain ⟨es', cl', m', hm', hmi', hag'⟩ := h13.map
      refine ⟨some G.mb, h13.c3, MUPD_intro hm' hmi' fun w18 es2 c2 m2 hm2 hmi2 hag2 _ _ _ he18 hsz18 => ?_⟩
      have hmb : (G.cut c (c + 1) sw9).mb = G.mb := rfl
      have hd9 : w9.heap.size ≠ G.mb := fun e => hnew (.inr (.inl (e.trans hmb.symm)))
      let G2 : MapG := { G.cut c (c + 1) sw9 with lv := fun k => if k = c then some (w9.heap.size, fun _ => wholeL G.ws c) else (G.cut c (c + 1) sw9).lv k }
      have hn1 : ¬ Only G.mb b := fun e => h13.mne e.symm
      have hr2 : MapR E w18 b G2 := by
        refine ⟨h13.set.ext he18 hn1 fun a ha e => h13.ms ⟨a, ha, e.symm⟩, h13.wide.ext he18 hn1 fun a ha e => h13.mw ⟨a, ha, e.symm⟩, he18.cell h13.c3 hn1, ⟨es2, c2, m2, hm2, hmi2, fun k => ?_⟩, ?_, ?_, h13.d1, ?_⟩
        · rw [hag2]
          show _ = Option.map _ (if k = c then _ else _)
          by_cases e : k = c
          · rw [if_pos e, if_pos e]; rfl
          · rw [if_neg e, if_neg e, hag']
        · intro k q hk i hi
          have hk2 : (if k = c then some (w9.heap.size, fun _ => wholeL G.ws c) else (G.cut c (c + 1) sw9).lv k) = some q := hk
          split at hk2
          · cases hk2
            obtain ⟨g1, g2⟩ := hcell i hi
            rw [if_pos hi] at g1
            refine ⟨he18.cell g1 fun e => hd9 e, ?_⟩
            rw [he18.frozen (World.block_lt_of_cell? w13 _ g1) fun e => hd9 e]
            exact g2
          · obtain ⟨g1, g2⟩ := h13.leaf k q hk2 i hi
            have hn : ¬ Only G.mb q.1 := fun e => h13.ml hk2 e
            exact ⟨he18.cell g1 hn, by rw [he18.frozen (World.block_lt_of_cell? w13 _ g1) hn]; exact g2⟩
        · intro k k' q q' hk hk' e
          have hk2 : (if k = c then some (w9.heap.size, fun _ => wholeL G.ws c) else (G.cut c (c + 1) sw9).lv k) = some q := hk
          have hk2' : (if k' = c then some (w9.heap.size, fun _ => wholeL G.ws c) else (G.cut c (c + 1) sw9).lv k') = some q' := hk'
          split at hk2
          · split at hk2'
            · rename_i e1 e2; rw [e1, e2]
            · cases hk2
              exact absurd (.inr (.inr (.inr (.inr ⟨k', q', hk2', e⟩)))) hnew
          · split at hk2'
            · cases hk2'
              exact absurd (.inr (.inr (.inr (.inr ⟨k, q, hk2, e.symm⟩)))) hnew
            · exact h13.inj k k' q q' hk2 hk2' e
        · intro k q hk
          have hk2 : (if k = c then some (w9.heap.size, fun _ => wholeL G.ws c) else (G.cut c (c + 1) sw9).lv k) = some q := hk
          split at hk2
          · cases hk2
            exact ⟨fun e => hnew (.inl e), fun e => hnew (.inr (.inr (.inl e))), fun e => hnew (.inr (.inr (.inr (.inl e))))⟩
          · exact h13.d2 k q hk2
      have hcutlv : ∀ k q, (G.cut c (c + 1) sw9).lv k = some q -> G.lv k = some q := by
        intro k q hk
        have hk2 : (if c <= k /\ k < c + 1 then none else G.lv k) = some q := hk
        split at hk2
        · cases hk2
        · exact hk2
      refine hK w18 G2 (w9.heap.size, fun _ => wholeL G.ws c) ⟨hr2, ?_, ?_⟩ rfl (if_pos rfl) ?_
      · have e1 : Ext (MOwns b G) w w9 := (hw8.any).trans he9 (fun _ _ f => f) fun i _ e => by rcases e with e | e; exact .inl e; exact .inr (.inl e)
        have e2 : Ext (Only w9.heap.size) w9 w13 := (he11.any).trans' he13
        have e3 := e2.trans he18 (U := fun k => k = w9.heap.size ∨ k = G.mb) (fun i _ e => .inl e) (fun i _ e => .inr e)
        refine e1.trans e3 (fun _ _ f => f) fun i hi e => ?_
        rcases e with e | e
        · omega
        · exact .inr (.inl e)
      · rintro k (e | e | e | e | ⟨k', q, e, rfl⟩)
        · exact .inl (.inl e)
        · exact .inl (.inr (.inl e))
        · exact .inl (.inr (.inr (.inl e)))
        · exact .inr (by have := hb9 k e; omega)
        · have hk2 : (if k' = c then some (w9.heap.size, fun _ => wholeL G.ws c) else (G.cut c (c + 1) sw9).lv k') = some q := e
          split at hk2
          · cases hk2
            exact .inr (by simp only; omega)
          · exact .inl (.inr (.inr (.inr (.inr ⟨k', q, hcutlv _ _ hk2, rfl⟩))))
      · intro p
        unfold MapG.own
        show (match (if p / 512 = c then some (w9.heap.size, fun _ => wholeL G.ws c) else if c <= p / 512 /\ p / 512 < c + 1 then none else G.lv (p / 512)) with | some q => q.2 (p % 512) | none => wholeL (wcut G.ws c (c + 1)) (p / 512)) = _
        by_cases e : p / 512 = c
        · rw [if_pos e, e, hlv]
        · rw [if_neg e, if_neg (by omega)]
          rw [wholeL_wcut (by omega), if_neg (by omega)]
def MapG.put (G : MapG) (c : Int) (q : Nat × (Int -> Int)) (i id : Int) : MapG := { G with lv := fun k => if k = c then some (q.1, fun j => if j = i then id else q.2 j) else G.lv k }
theorem put_step {E : Env} {w w' : World} {b : Nat} {G : MapG} (h : MapR E w b G) {c id : Int} {i : Nat} {q : Nat × (Int -> Int)} (hq : G.lv c = some q)
    (hst : Stored ⟨q.1, i, none⟩ (.int .i64 id) w w') : MStep E b w G w' (G.put c q i id) := by
  obtain ⟨d1, d2, d3⟩ := h.d2 c q hq
  have hn : ¬ Only q.1 b := fun e => d1 e.symm
  refine ⟨⟨h.set.ext hst.ext hn fun a ha e => d2 ⟨a, ha, e.symm⟩, h.wide.ext hst.ext hn fun a ha e => d3 ⟨a, ha, e.symm⟩, hst.ext.cell h.c3 hn, ?_, ?_, ?_, h.d1, ?_⟩, ?_, ?_⟩
  · obtain ⟨es, cl, m, hm, hmi, hag⟩ := h.map
    refine ⟨es, cl, m, hst.ext.obj hm fun e => h.ml hq e.symm, hmi, fun k => ?_⟩
    rw [hag]
    show _ = Option.map _ (if k = c then _ else _)
    by_cases e : k = c
    · rw [if_pos e, e, hq]; rfl
    · rw [if_neg e]
  · intro k q2 hk j hj
    have hk2 : (if k = c then some (q.1, fun j => if j = (i : Int) then id else q.2 j) else G.lv k) = some q2 := hk
    split at hk2
    · cases hk2
      obtain ⟨g1, g2⟩ := h.leaf c q hq j hj
      rw [hst.frozen]
      refine ⟨?_, g2⟩
      simp only
      by_cases e : j = i
      · subst e; rw [if_pos rfl]; exact hst.same
      · rw [if_neg (by omega), hst.other _ (by intro e2; injection e2 with _ e2; exact e e2)]; exact g1
    · rename_i hkc
      obtain ⟨g1, g2⟩ := h.leaf k q2 hk2 j hj
      have hne : ¬ Only q.1 q2.1 := fun e => hkc (h.inj k c q2 q hk2 hq e)
      exact ⟨hst.ext.cell g1 hne, by rw [hst.frozen]; exact g2⟩
  · intro k k' q1 q2 hk hk' e
    have hk2 : (if k = c then some (q.1, fun j => if j = (i : Int) then id else q.2 j) else G.lv k) = some q1 := hk
    have hk2' : (if k' = c then some (q.1, fun j => if j = (i : Int) then id else q.2 j) else G.lv k') = some q2 := hk'
    split at hk2
    · split at hk2'
      · rename_i e1 e2; rw [e1, e2]
      · rename_i e1 _; cases hk2; rw [e1]; exact h.inj c k' q q2 hq hk2' e
    · split at hk2'
      · rename_i e1; cases hk2'; rw [e1]; exact h.inj k c q1 q hk2 hq e
      · exact h.inj k k' q1 q2 hk2 hk2' e
  · intro k q2 hk
    have hk2 : (if k = c then some (q.1, fun j => if j = (i : Int) then id else q.2 j) else G.lv k) = some q2 := hk
    split at hk2
    · cases hk2; exact ⟨d1, d2, d3⟩
    · exact h.d2 k q2 hk2
  · exact hst.ext.mono fun k _ e => .inr (.inr (.inr (.inr ⟨c, q, hq, e⟩)))
  · rintro k (e | e | e | e | ⟨k', q2, e, rfl⟩)
    · exact .inl (.inl e)
    · exact .inl (.inr (.inl e))
    · exact .inl (.inr (.inr (.inl e)))
    · exact .inl (.inr (.inr (.inr (.inl e))))
    · have hk2 : (if k' = c then some (q.1, fun j => if j = (i : Int) then id else q.2 j) else G.lv k') = some q2 := e
      split at hk2
      · cases hk2; exact .inl (.inr (.inr (.inr (.inr ⟨c, q, hq, rfl⟩))))
      · exact .inl (.inr (.inr (.inr (.inr ⟨k', q2, hk2, rfl⟩))))
theorem own_put {G : MapG} {c id : Int} {i : Nat} {q : Nat × (Int -> Int)} (hq : G.lv c = some q) (p : Int) : (G.put c q i id).own p = if p / 512 = c /\ p % 512 = i then id else G.own p := by
  unfold MapG.own MapG.put
  simp only
  by_cases e : p / 512 = c
  · rw [if_pos e, e, hq]
    simp only [true_and]
  · rw [if_neg e, if_neg (by intro h; exact e h.1)]
theorem apart1_spec {E : Env} {w : World} {b bi bm : Nat} {G : MapG} (h : MapR E w b G) {x y id : Int} (hx : 0 <= x) (hy : y <= 34359738368)
    (hi : w.cell? ⟨bi, 0, none⟩ = some (.int .i64 id)) (hm : w.cell? ⟨bm, 0, none⟩ = some (.pointer (some ⟨b, 0, none⟩))) (hi2 : ¬ MOwns b G bi) (hm2 : ¬ MOwns b G bm) {K : World -> Prop}
    (hK : ∀ w' G', MStep E b w G w' G' -> G'.ks = G.ks -> (∀ p, G'.own p = if x <= p /\ p < y then id else G.own p) -> K w') :
    F.arena_Map_Set_1 E x y (some ⟨bi, 0, none⟩) (some ⟨bm, 0, none⟩) K w := by
  unfold F.arena_Map_Set_1 T0.arena_Map_Set_1
  simp only [NC_some, add_eq, Nat.zero_add, Nat.mul_one]
  refine LOOP_intro (fun st w' => ∃ G', x <= st.1 /\ (st.1 <= y ∨ st.1 = x) /\ MStep E b w G w' G' /\ G'.ks = G.ks /\ ∀ p, G'.own p = if x <= p /\ p < st.1 then id else G.own p)
    (fun st _ => (y - st.1).toNat) ⟨G, Int.le_refl _, .inr rfl, MStep.refl h, rfl, fun p => by rw [if_neg (by simp only; omega)]⟩ ?_
  rintro ⟨n, u⟩ _ w2 ⟨G2, hn1, hn2, hs2, hks2, hown2⟩
  simp only at hn1 hn2 hown2 ⊢
  refine CND_dec (fun hlt => ?_) (fun hge => ?_)
  · have hl : bi < w.heap.size := World.block_lt_of_cell? w _ hi
    have hl2 : bm < w.heap.size := World.block_lt_of_cell? w _ hm
    have hd : Ext Nothing w2 w2.drew := Ext.drew _ _
    have hs3 := hs2.trans (MStep.nothing hs2.rep hd)
    refine ⟨some ⟨b, 0, none⟩, hs3.ext.cell hm hm2, by decide, by decide, id, hs3.ext.cell hi hi2, ?_⟩
    have hdiv : Int.tdiv n 512 = n / 512 := Int.tdiv_eq_ediv_of_nonneg (by omega)
    have hmod : Int.tmod n 512 = n % 512 := Int.tmod_eq_emod_of_nonneg (by omega)
    rw [hdiv, hmod, u64_id (by omega) (by omega)]
    refine leaf_spec hs3.rep (by omega) (by omega) fun w9 G9 q hs9 hks9 hlv9 hown9 => ?_
    have hs4 := hs3.trans hs9
    simp only [NC_some, add_eq, Nat.zero_add]
    refine ⟨hs4.ext.cell hi hi2, ⟨by omega, by omega⟩, ?_⟩
    have hj : (n % 512).toNat < 512 := by omega
    have hj2 : (((n % 512).toNat : Nat) : Int) = n % 512 := by omega
    obtain ⟨g1, g2⟩ := hs9.rep.leaf _ q hlv9 _ hj
    refine st_one g1 g2 rfl fun w11 hst => ?_
    have hs5 := put_step hs9.rep hlv9 hst
    rw [u64_id (by omega) (by omega)]
    refine ⟨⟨_, by omega, by omega, hs4.trans hs5, hks9.trans hks2, fun p => ?_⟩, by omega⟩
    rw [own_put hlv9, hown9, hown2, hj2]
    by_cases e : p = n
    · subst e
      rw [if_pos ⟨rfl, rfl⟩, if_pos (by omega)]
    · rw [if_neg (by omega)]
      by_cases e2 : x <= p /\ p < n
      · rw [if_pos e2, if_pos (by omega)]
      · rw [if_neg e2, if_neg (by omega)]
  · refine hK w2 G2 hs2 hks2 fun p => ?_
    rw [hown2]
    by_cases e2 : x <= p /\ p < n
    · rw [if_pos e2, if_pos (by omega)]
    · rw [if_neg e2, if_neg (by omega)]
end Go.Sh

set_option linter.all false
set_option maxRecDepth 4000
namespace Go.Sh
structure EnvA (E : Env) : Prop extends EnvS E where
  set1 : ∀ x y p1 p2 (R : Value -> World -> Prop) w, F.arena_Map_Set_1 E x y p1 p2 (fun w' => R (.tuple ⟨[]⟩) w') w -> E.call E.f_arena_Map_Set_1 #[.int .u64 x, .int .u64 y, .pointer p1, .pointer p2] w R noP
theorem new_spec {E : Env} {w : World} {K : Option Addr -> World -> Prop}
    (hK : ∀ w' b G, MapR E w' b G -> Ext Nothing w w' -> (∀ k, MOwns b G k -> w.heap.size <= k) -> G.ks = [] -> (∀ p, G.own p = 0) -> K (some ⟨b, 0, none⟩) w') : F.arena_New E K w := by
  unfold F.arena_New
  refine AL_intro fun w1 hb1 hs1 he1 => AL_intro fun w2 hb2 hs2 he2 => ?_
  have hm := he2.obj hb1 fun f => f
  refine hK w2 w1.heap.size ⟨⟨none, 0, 0⟩, [], ⟨none, 0, 0⟩, [], w.heap.size, fun _ => none⟩ ?_ (he1.trans' he2) ?_ rfl (fun _ => rfl)
  · have hn : ∀ k, ¬ Blk ⟨none, 0, 0⟩ k := by rintro k ⟨a, ha, _⟩; cases ha
    refine ⟨⟨⟨by rw [cell_of_block hb2]; rfl, by simp [World.frozen?, hb2], Own.nil _ _ _ _, trivial, by simp, by intro a h; cases h⟩, by rw [cell_of_block hb2]; rfl, by simp [World.frozen?, hb2]⟩,
      ⟨by rw [cell_of_block hb2]; rfl, by simp [World.frozen?, hb2], Own.nil _ _ _ _, ⟨by simp, List.Pairwise.nil⟩, by intro a h; cases h⟩, by rw [cell_of_block hb2]; rfl, ⟨_, _, _, hm, MapI.empty _, fun _ => rfl⟩, ?_, ?_, fun k h => absurd h (hn k), ?_⟩
    · intro k q h; cases h
    · intro k k' q q' h; cases h
    · intro k q h; cases h
  · rintro k (e | e | ⟨a, ha, _⟩ | ⟨a, ha, _⟩ | ⟨c, q, hq, _⟩)
    · rw [e]; omega
    · rw [e]; exact Nat.le_refl _
    · cases ha
    · cases ha
    · cases hq
section
variable {E : Env} {w : World} {b : Nat} {G : MapG}
theorem at_own (h : MapR E w b G) {x : Int} (h0 : 0 <= x) (hx : x < 18446744073709551616) {K : Int -> World -> Prop} (hK : ∀ w', Ext Nothing w w' -> K (G.own (x / 8192)) w') :
    F.arena_Map_At E (some ⟨b, 0, none⟩) x K w := by
  unfold F.arena_Map_At T0.arena_Map_At
  have e1 : Int.tdiv x 8192 = x / 8192 := Int.tdiv_eq_ediv_of_nonneg h0
  have e2 : Int.tdiv (x / 8192) 512 = x / 8192 / 512 := Int.tdiv_eq_ediv_of_nonneg (by omega)
  have e3 : Int.tmod (x / 8192) 512 = x / 8192 % 512 := Int.tmod_eq_emod_of_nonneg (by omega)
  rw [e1, u64_id (n := x / 8192) (by omega) (by omega), e2, u64_id (n := x / 8192 / 512) (by omega) (by omega), e3]
  simp only [NC_some, add_eq, Nat.zero_add, Nat.mul_one]
  obtain ⟨es, cl, m, hm, hmi, hag⟩ := h.map
  refine ⟨by decide, some G.mb, h.c3, by decide, LKP_intro hm hmi ?_⟩
  rw [hag]
  cases hlv : G.lv (x / 8192 / 512) with
  | some q =>
    refine ⟨some ⟨q.1, 0, none⟩, rfl, CND_intro (fun _ => ?_) (fun e => by cases e)⟩
    refine ⟨by decide, ⟨by omega, by omega⟩, q.2 (x / 8192 % 512), ?_, ?_⟩
    · have := (h.leaf _ q hlv (x / 8192 % 512).toNat (by omega)).1
      rw [show (((x / 8192 % 512).toNat : Nat) : Int) = x / 8192 % 512 from by omega] at this
      simp only [add_eq, Nat.zero_add]
      exact this
    · have : G.own (x / 8192) = q.2 (x / 8192 % 512) := by unfold MapG.own; rw [hlv]
      rw [<- this]; exact hK w (Ext.refl _ _)
  | none =>
    refine ⟨none, rfl, CND_intro (fun e => by cases e) (fun _ => ⟨by decide, whole_spec h.wide fun w' hw' => ?_⟩)⟩
    have : G.own (x / 8192) = wholeL G.ws (x / 8192 / 512) := by unfold MapG.own; rw [hlv]
    rw [<- this]; exact hK w' hw'
end
section
variable {E : Env} (hE : EnvA E) {w : World} {b : Nat} {G : MapG}
include hE
theorem ahas_spec (h : MapR E w b G) {x : Int} (h0 : 0 <= x) (hx : x < 18446744073709551616) {K : Bool -> World -> Prop} (hK : ∀ w' r, (r = true ↔ mem G.ks (x / 4194304)) -> Ext Nothing w w' -> K r w') :
    F.arena_Map_Has E (some ⟨b, 0, none⟩) x K w := by
  unfold F.arena_Map_Has T0.arena_Map_Has
  have e1 : Int.tdiv x 4194304 = x / 4194304 := Int.tdiv_eq_ediv_of_nonneg h0
  rw [e1, u64_id (n := x / 4194304) (by omega) (by omega)]
  simp only [NC_some]
  exact ⟨by decide, has_spec hE.toEnvS h.set.row (by omega) hK⟩
def MapG.grow (G : MapG) (s : SlV) (ks : Iv) : MapG := { G with s := s, ks := ks }
end
end Go.Sh

set_option linter.all false
set_option maxRecDepth 4000
namespace Go.Sh
section
variable {E : Env} (hE : EnvA E) {w : World} {b : Nat} {G : MapG}
theorem wide_step {w w' : World} (h : MapR E w b G) {sw' : SlV} {q : Int × Int × Int} (hq : 0 <= q.1 /\ q.1 < q.2.1 /\ q.2.1 <= 67108864) (hd : ∀ p ∈ G.ws, p.2.1 <= q.1 ∨ q.2.1 <= p.1)
    (hext : Ext (Blk G.sw) w w') (hown : Own w' 0 E.t_arena_wide 3 sw' (flat3 (G.ws ++ [q]))) (hb : sw'.base = G.sw.base ∨ ∃ k, sw'.base = some ⟨k, 0, none⟩ /\ w.heap.size <= k)
    {w2 : World} (hst : Stored ⟨b, 2, none⟩ (.slice sw'.base sw'.len sw'.cap) w' w2) : MStep E b w G w2 { G with sw := sw', ws := G.ws ++ [q] } := by
  have hsb : ∀ k, Blk sw' k -> Blk G.sw k ∨ w.heap.size <= k := by
    rintro k ⟨a, ha, rfl⟩
    rcases hb with e | ⟨k, e, hk⟩
    · rw [e] at ha; exact .inl ⟨a, ha, rfl⟩
    · rw [e] at ha; cases ha; exact .inr hk
  have hbn : ¬ Blk G.sw b := by rintro ⟨a, ha, e⟩; exact h.wide.apart a ha e.symm
  have hbn' : ¬ Blk sw' b := fun e => by
    rcases hsb b e with e | e
    · exact hbn e
    · have := h.lt; omega
  have hu : Upd b (fun j => j = 2) w' w2 := Upd.of_stored hst rfl
  have hs' : SetAt E w' b 0 G.s G.ks := h.set.ext hext hbn fun a ha e => h.d1 a.block ⟨a, ha, rfl⟩ e
  refine ⟨⟨hs'.upd hu (by decide) (by decide), ⟨hst.same, ?_, hown.ext hst.ext fun g hg e => hbn' ⟨_, hg, e.symm⟩, ?_, fun a ha e => hbn' ⟨a, ha, e.symm⟩⟩, ?_, ?_, ?_, h.inj, ?_, ?_⟩, ?_, ?_⟩
  · rw [hst.frozen, hext.frozen (p := ⟨b, 2, none⟩) h.lt hbn]; exact h.wide.f2
  · refine WOk_append.2 ⟨h.wide.ok, ⟨by intro p hp; rw [List.mem_singleton] at hp; subst hp; exact hq, List.pairwise_singleton _ _⟩, fun p hp r hr => ?_⟩
    rw [List.mem_singleton] at hr; subst hr
    exact hd p hp
  · rw [hst.other _ (by intro e; injection e with _ e; omega)]; exact hext.cell h.c3 hbn
  · obtain ⟨es, cl, m, h1, h2⟩ := h.map
    exact ⟨es, cl, m, hst.ext.obj (hext.obj h1 h.mw) h.mne, h2⟩
  · intro k q hk i hi
    obtain ⟨g1, g2⟩ := h.leaf k q hk i hi
    have hn : ¬ Blk G.sw q.1 := (h.d2 k q hk).2.2
    have hn2 : ¬ Only b q.1 := (h.d2 k q hk).1
    exact ⟨hst.ext.cell (hext.cell g1 hn) hn2, by rw [hst.frozen, hext.frozen (World.block_lt_of_cell? w _ g1) hn]; exact g2⟩
  · intro k hk hk'
    rcases hsb k hk' with e | e
    · exact h.d1 k hk e
    · have := (h.set.row.own.blk hk).2; omega
  · intro k q hk
    obtain ⟨g1, g2, g3⟩ := h.d2 k q hk
    refine ⟨g1, g2, fun e => ?_⟩
    rcases hsb _ e with e | e
    · exact g3 e
    · have := World.block_lt_of_cell? w _ (h.leaf k q hk 0 (by decide)).1
      simp only at this; omega
  · exact hext.trans hst.ext (fun i _ e => .inr (.inr (.inr (.inl e)))) (fun i _ e => .inl e)
  · rintro k (e | e | e | e | ⟨c', q, e, e2⟩)
    · exact .inl (.inl e)
    · exact .inl (.inr (.inl e))
    · exact .inl (.inr (.inr (.inl e)))
    · rcases hsb k e with e | e
      · exact .inl (.inr (.inr (.inr (.inl e))))
      · exact .inr e
    · exact .inl (.inr (.inr (.inr (.inr ⟨c', q, e, e2⟩))))
theorem cut_step {w w' : World} (h : MapR E w b G) {a c : Int} {sw' : SlV} (h' : MapR E w' b (G.cut a c sw')) (he : Ext (fun k => k = b ∨ k = G.mb) w w') (hf : ∀ k, Blk sw' k -> w.heap.size <= k) :
    MStep E b w G w' (G.cut a c sw') := by
  refine ⟨h', he.mono fun i _ e => by rcases e with e | e; exact .inl e; exact .inr (.inl e), ?_⟩
  rintro k (e | e | e | e | ⟨c', q, e, e2⟩)
  · exact .inl (.inl e)
  · exact .inl (.inr (.inl e))
  · exact .inl (.inr (.inr (.inl e)))
  · exact .inr (hf k e)
  · have hk2 : (if a <= c' /\ c' < c then none else G.lv c') = some q := e
    split at hk2
    · cases hk2
    · exact .inl (.inr (.inr (.inr (.inr ⟨c', q, hk2, e2⟩))))
theorem own_cut {a c : Int} (hac : a < c) (sw' : SlV) (p : Int) : (G.cut a c sw').own p = if a <= p / 512 /\ p / 512 < c then 0 else G.own p := by
  unfold MapG.own
  show (match (if a <= p / 512 /\ p / 512 < c then none else G.lv (p / 512)) with | some q => q.2 (p % 512) | none => wholeL (wcut G.ws a c) (p / 512)) = _
  by_cases e : a <= p / 512 /\ p / 512 < c
  · rw [if_pos e, if_pos e]
    show wholeL (wcut G.ws a c) (p / 512) = 0
    rw [wholeL_wcut hac, if_pos e]
  · rw [if_neg e, if_neg e]
    cases G.lv (p / 512) with
    | some q => rfl
    | none =>
      show wholeL (wcut G.ws a c) (p / 512) = _
      rw [wholeL_wcut hac, if_neg e]
include hE
theorem aset_spec (h : MapR E w b G) {x n id : Int} (hx0 : 0 <= x) (hx : x < 18446744073709551616) (hn0 : 0 <= n) (hn : n < 18446744073709551616) {K : Int -> World -> Prop}
    (hk1 : (n = 0 ∨ id < 0) -> ∀ w', Ext Nothing w w' -> K 1 w')
    (hk2 : ¬ (n = 0 ∨ id < 0) -> (34359738368 <= x ∨ 34359738368 - x < n ∨ ∃ c, x / 512 <= c /\ c < (x + n + 511) / 512 /\ ¬ mem G.ks c) -> ∀ w', Ext Nothing w w' -> K 10 w')
    (hk3 : ¬ (n = 0 ∨ id < 0) -> x < 34359738368 -> n <= 34359738368 - x -> (∀ c, x / 512 <= c -> c < (x + n + 511) / 512 -> mem G.ks c) -> ∀ w' G', MStep E b w G w' G' -> G'.ks = G.ks ->
      (∀ p, G'.own p = if x <= p /\ p < x + n then id else G.own p) -> K 0 w') :
    F.arena_Map_Set E (some ⟨b, 0, none⟩) x n id K w := by
  unfold F.arena_Map_Set T0.arena_Map_Set
  refine AL_intro fun w2 hb2 hsz2 he2 => AL_intro fun w4 hb4 hsz4 he4 => ?_
  have hw4 : Ext Nothing w w4 := he2.trans' he4
  have hb2' := he4.obj hb2 fun f => f
  have cm : ∀ w', Ext Nothing w4 w' -> w'.cell? ⟨w.heap.size, 0, none⟩ = some (.pointer (some ⟨b, 0, none⟩)) := fun w' he => he.cell (by rw [cell_of_block hb2']; rfl) fun f => f
  have ci : ∀ w', Ext Nothing w4 w' -> w'.cell? ⟨w2.heap.size, 0, none⟩ = some (.int .i64 id) := fun w' he => he.cell (by rw [cell_of_block hb4]; rfl) fun f => f
  refine JOIN_intro (fun st w' => w' = w4 /\ (st.1 = true ↔ n = 0 ∨ id < 0)) ?_ ?_
  · refine CND_intro (fun e => ⟨rfl, ?_⟩) (fun e => ⟨id, ci w4 (Ext.refl _ _), rfl, ?_⟩)
    · have : n = 0 := by simpa using e
      simp [this]
    · have : n ≠ 0 := by simpa using e
      simp [this]
  rintro ⟨bt, u⟩ _ w7 ⟨rfl, hbt⟩
  simp only at hbt ⊢
  refine CND_intro (fun e => hk1 (hbt.1 e) _ hw4) (fun e => ?_)
  have hno : ¬ (n = 0 ∨ id < 0) := fun h => by rw [hbt.2 h] at e; cases e
  refine JOIN_intro (fun st w' => w' = w7 /\ (st.1 = true ↔ 34359738368 <= x ∨ 34359738368 - x < n)) ?_ ?_
  · refine CND_dec (fun e => ⟨rfl, ?_⟩) (fun e => ⟨rfl, ?_⟩)
    · simp only [true_iff]; omega
    · rw [u64_id (by omega) (by omega)]
      simp only [decide_eq_true_iff]; omega
  rintro ⟨bt2, u⟩ _ w11 ⟨rfl, hbt2⟩
  simp only at hbt2 ⊢
  refine CND_intro (fun e => hk2 hno (by rcases hbt2.1 e with e | e; exact .inl e; exact .inr (.inl e)) _ hw4) (fun e => ?_)
  have hno2 : ¬ (34359738368 <= x ∨ 34359738368 - x < n) := fun h => by rw [hbt2.2 h] at e; cases e
  have hxl : x < 34359738368 := by omega
  have hnl : n <= 34359738368 - x := by omega
  have hn1 : 1 <= n := by omega
  refine ⟨by decide, by decide, LET_intro fun last hlast => ⟨some ⟨b, 0, none⟩, cm _ (Ext.refl _ _), ?_⟩⟩
  have hl2 : last = (x + n + 511) / 512 := by
    rw [hlast, u64_id (n := x + n) (by omega) (by omega), u64_id (n := x + n + 512) (by omega) (by omega), u64_id (n := x + n + 512 - 1) (by omega) (by omega)]
    rw [Int.tdiv_eq_ediv_of_nonneg (by omega), u64_id (by omega) (by omega)]
    congr 1; omega
  have hf2 : u64 (Int.tdiv x 512) = x / 512 := by rw [Int.tdiv_eq_ediv_of_nonneg hx0, u64_id (by omega) (by omega)]
  simp only [NC_some]
  rw [hf2]
  have h4 := h.ext0 hw4
  have hfl : x / 512 <= last := by omega
  refine count_spec hE.toEnvS h4.set.row (by omega) hfl (by omega) fun w16 hw16 => ?_
  have hcf := cnt_full h.set.row.ok hfl
  rw [u64_id (by omega) (by omega)]
  have he16 : Ext Nothing w w16 := hw4.trans' hw16
  refine CND_intro (fun e => hk2 hno (.inr (.inr ?_)) _ he16) (fun e => ?_)
  · have hne : cnt G.ks (x / 512) last ≠ last - x / 512 := by simpa using e
    rw [<- hl2]
    rcases Classical.em (∃ c, x / 512 <= c /\ c < last /\ ¬ mem G.ks c) with h | h
    · exact h
    · exfalso
      refine hne (hcf.2 fun m h1 h2 => ?_)
      exact Classical.byContradiction fun h3 => h ⟨m, h1, h2, h3⟩
  have hall := hcf.1 (by simpa using e)
  refine ⟨by decide, by decide, LET_intro fun fr hfr => LET_intro fun to hto => ?_⟩
  have hfr2 : fr = (x + 511) / 512 := by
    rw [hfr, u64_id (n := x + 512) (by omega) (by omega), u64_id (n := x + 512 - 1) (by omega) (by omega), Int.tdiv_eq_ediv_of_nonneg (by omega), u64_id (by omega) (by omega)]
    congr 1; omega
  have hto2 : to = (x + n) / 512 := by
    rw [hto, u64_id (n := x + n) (by omega) (by omega), Int.tdiv_eq_ediv_of_nonneg (by omega), u64_id (by omega) (by omega)]
  have h16 := h.ext0 he16
  have hm0 : ¬ MOwns b G w.heap.size := fun e => by have := h.owns_lt e; omega
  have hi0 : ¬ MOwns b G w2.heap.size := fun e => by have := h.owns_lt e; omega
  have hl1 : w.heap.size < w16.heap.size := by have := hw16.size; omega
  have hli : w2.heap.size < w16.heap.size := by have := hw16.size; omega
  refine JOIN_intro (fun _ w' => ∃ G', MStep E b w16 G w' G' /\ G'.ks = G.ks /\ ∀ p, G'.own p = if fr <= p / 512 /\ p / 512 < to then id else G.own p) ?_ ?_
  · refine CND_dec (fun hlt => ?_) (fun hge => ⟨G, MStep.refl h16, rfl, fun p => by rw [if_neg (by omega)]⟩)
    refine ⟨some ⟨b, 0, none⟩, cm _ hw16, acut_spec h16 (by omega) hlt (by omega) fun w23 sw23 h23 he23 hf23 => ?_⟩
    have hs23 := cut_step h16 h23 he23 hf23
    have ci23 : ∀ w', Ext Nothing w23 w' -> w'.cell? ⟨w2.heap.size, 0, none⟩ = some (.int .i64 id) := fun w' he => he.cell (hs23.ext.cell (ci _ hw16) hi0) fun f => f
    have cm23 : ∀ w', Ext Nothing w23 w' -> w'.cell? ⟨w.heap.size, 0, none⟩ = some (.pointer (some ⟨b, 0, none⟩)) := fun w' he => he.cell (hs23.ext.cell (cm _ hw16) hm0) fun f => f
    refine ⟨id, ci23 _ (Ext.refl _ _), CND_dec (fun hpos => ?_) (fun hz => ⟨_, hs23, rfl, fun p => ?_⟩)⟩
    · have hd : Ext Nothing w23 w23.drew := Ext.drew _ _
      have hdr := h23.ext0 hd
      refine ⟨some ⟨b, 0, none⟩, cm23 _ hd, some ⟨b, 0, none⟩, cm23 _ hd, ?_⟩
      simp only [NC_some, add_eq, Nat.zero_add]
      refine ⟨sw23, hdr.wide.c2, id, ci23 _ hd, AL_intro fun w31 hb31 hsz31 he31 => ?_⟩
      have hd31 : Ext Nothing w23 w31 := hd.trans' he31
      have h31 := h23.ext0 hd31
      refine ⟨ci23 _ hd31, h31.wide.c2, cm23 _ hd31, cm23 _ hd31, ?_⟩
      refine app_wide (q := (fr, to, id)) (m := wcut G.ws fr to) h31.wide.own hb31 (Nat.zero_le _) (by have := wcut_len h.wide.ok hlt; omega) fun s32 w33 ho33 he33 hb33 => ?_
      have hbl : ∀ k, k < w16.heap.size -> ¬ Blk (G.cut fr to sw23).sw k := fun k hk e => by have := hf23 k e; omega
      have hnb : ¬ Blk (G.cut fr to sw23).sw b := by rintro ⟨a, ha, e⟩; exact h31.wide.apart a ha e.symm
      refine ⟨he33.cell (ci23 _ hd31) (hbl _ hli), he33.cell (cm23 _ hd31) (hbl _ hl1), he33.cell (cm23 _ hd31) (hbl _ hl1), ?_⟩
      refine st_one (he33.cell h31.wide.c2 hnb) (by rw [he33.frozen (p := ⟨b, 2, none⟩) h31.lt hnb]; exact h31.wide.f2) rfl fun w35 hst => ?_
      have hstep := wide_step h31 (q := (fr, to, id)) ⟨by simp only; omega, hlt, by simp only; omega⟩ (fun p hp => by
        obtain ⟨p', hp', g1, g2, g3, g4⟩ := wcut_within h.wide.ok hlt hp
        exact g4) he33 ho33 hb33 hst
      refine ⟨_, (hs23.trans (MStep.nothing h23 hd31)).trans hstep, rfl, fun p => ?_⟩
      unfold MapG.own
      show (match (if fr <= p / 512 /\ p / 512 < to then none else G.lv (p / 512)) with | some q => q.2 (p % 512) | none => wholeL (wcut G.ws fr to ++ [(fr, to, id)]) (p / 512)) = _
      by_cases hin : fr <= p / 512 /\ p / 512 < to
      · rw [if_pos hin, if_pos hin]
        show wholeL (wcut G.ws fr to ++ [(fr, to, id)]) (p / 512) = id
        rw [wholeL_out, wholeL, if_pos hin]
        rintro ⟨p1, hp1, g1, g2⟩
        obtain ⟨p', hp', _, _, _, g4⟩ := wcut_within h.wide.ok hlt hp1
        omega
      · rw [if_neg hin, if_neg hin]
        cases G.lv (p / 512) with
        | some q => rfl
        | none =>
          show wholeL (wcut G.ws fr to ++ [(fr, to, id)]) (p / 512) = wholeL G.ws (p / 512)
          rw [<- show wholeL (wcut G.ws fr to) (p / 512) = wholeL G.ws (p / 512) from by rw [wholeL_wcut hlt, if_neg hin]]
          by_cases hex : ∃ p1 ∈ wcut G.ws fr to, p1.1 <= p / 512 /\ p / 512 < p1.2.1
          · rw [wholeL_in hex]
          · rw [wholeL_out hex, wholeL, if_neg hin, wholeL_none fun p1 hp1 h2 => hex ⟨p1, hp1, h2⟩]
            rfl
    · rw [own_cut hlt]
      have : id = 0 := by omega
      rw [this]
  rintro _ _ w21 ⟨G1, hs21, hks1, hown1⟩
  have ci21 : w21.cell? ⟨w2.heap.size, 0, none⟩ = some (.int .i64 id) := hs21.ext.cell (ci _ hw16) hi0
  have cm21 : w21.cell? ⟨w.heap.size, 0, none⟩ = some (.pointer (some ⟨b, 0, none⟩)) := hs21.ext.cell (cm _ hw16) hm0
  have hm1 : ¬ MOwns b G1 w.heap.size := hs21.away hm0 hl1
  have hi1 : ¬ MOwns b G1 w2.heap.size := hs21.away hi0 hli
  have hall2 : ∀ c, x / 512 <= c -> c < (x + n + 511) / 512 -> mem G.ks c := fun c h1 h2 => hall c h1 (by omega)
  have hpre : MStep E b w G w16 G := MStep.nothing h he16
  refine CND_dec (fun hgt => ?_) (fun hle => ?_)
  · refine hE.set1 _ _ _ _ _ _ ?_
    rw [u64_id (by omega) (by omega)]
    refine apart1_spec hs21.rep hx0 (by omega) ci21 cm21 hi1 hm1 fun w' G' hs' hks' hown' => ⟨rfl, ?_⟩
    refine hk3 hno hxl hnl hall2 w' G' ((hpre.trans hs21).trans hs') (hks'.trans hks1) fun p => ?_
    rw [hown', hown1]
    by_cases hin : x <= p /\ p < x + n
    · rw [if_pos hin, if_pos hin]
    · rw [if_neg hin, if_neg hin, if_neg (by omega)]
  · refine hE.set1 _ _ _ _ _ _ ?_
    rw [u64_id (by omega) (by omega)]
    refine apart1_spec hs21.rep hx0 (by omega) ci21 cm21 hi1 hm1 fun w39 G2 hs39 hks2 hown2 => ⟨rfl, ?_⟩
    refine hE.set1 _ _ _ _ _ _ ?_
    rw [u64_id (n := to * 512) (by omega) (by omega), u64_id (n := x + n) (by omega) (by omega)]
    have hl21 := hs21.ext.size
    refine apart1_spec hs39.rep (by omega) (by omega) (hs39.ext.cell ci21 hi1) (hs39.ext.cell cm21 hm1) (hs39.away hi1 (by omega)) (hs39.away hm1 (by omega)) fun w' G' hs' hks' hown' => ⟨rfl, ?_⟩
    refine hk3 hno hxl hnl hall2 w' G' (((hpre.trans hs21).trans hs39).trans hs') (hks'.trans (hks2.trans hks1)) fun p => ?_
    rw [hown', hown2, hown1]
    by_cases h1 : to * 512 <= p /\ p < x + n
    · rw [if_pos h1, if_pos (by omega)]
    · rw [if_neg h1]
      by_cases h2 : x <= p /\ p < fr * 512
      · rw [if_pos h2]
        by_cases h3 : x <= p /\ p < x + n
        · rw [if_pos h3]
        · exfalso; omega
      · rw [if_neg h2]
        by_cases h3 : fr <= p / 512 /\ p / 512 < to
        · rw [if_pos h3, if_pos (by omega)]
        · rw [if_neg h3, if_neg (by omega)]
end
end Go.Sh

set_option linter.all false
set_option maxRecDepth 4000
set_option maxHeartbeats 1000000
namespace Go.Sh
def ArenaP (E : Env) (b : Nat) (ks : Iv) (own : Int -> Int) : Pr where
  holds D w := ∃ G, MapR E w b G /\ G.ks = ks /\ (∀ p, G.own p = own p) /\ ∀ k, D k ↔ MOwns b G k
  loc h he hS := let ⟨G, h1, h2, h3, h4⟩ := h; ⟨G, h1.ext he fun k hk => hS k ((h4 k).2 hk), h2, h3, h4⟩
  lt h hk := let ⟨G, h1, _, _, h4⟩ := h; h1.owns_lt ((h4 _).1 hk)
section
variable {E : Env} {b : Nat} {ks : Iv} {own : Int -> Int} {Z : List Pr} {w : World}
theorem Sat.arena (H : Sat (ArenaP E b ks own :: Z) w) :
    ∃ G, MapR E w b G /\ G.ks = ks /\ (∀ p, G.own p = own p) /\ ∀ w' G' ks' own', MStep E b w G w' G' -> G'.ks = ks' -> (∀ p, G'.own p = own' p) -> Sat (ArenaP E b ks' own' :: Z) w' := by
  obtain ⟨D, ⟨G, h1, h2, h3, h4⟩, hs⟩ := H.step
  refine ⟨G, h1, h2, h3, fun w' G' ks' own' st e1 e2 => hs w' (MOwns b G') _ (st.ext.mono fun i _ hi => (h4 i).2 hi) ⟨G', st.rep, e1, e2, fun _ => Iff.rfl⟩ fun k hk => ?_⟩
  rcases st.owns k hk with h | h
  · exact .inl ((h4 k).2 h)
  · exact .inr h
theorem Sat.arenaOk (H : Sat (ArenaP E b ks own :: Z) w) : Ok ks := by
  obtain ⟨G, h1, rfl, _⟩ := H.arena
  exact h1.set.row.ok
theorem anew_sat (H : Sat Z w) {K : Option Addr -> World -> Prop} (hK : ∀ w' b, Sat (ArenaP E b [] (fun _ => 0) :: Z) w' -> K (some ⟨b, 0, none⟩) w') : F.arena_New E K w :=
  new_spec fun w' b G hr he hy hks hown => hK w' b (H.new (P := ArenaP E b [] fun _ => 0) (D := MOwns b G) he ⟨G, hr, hks, hown, fun _ => Iff.rfl⟩ hy)
theorem aat_sat (H : Sat (ArenaP E b ks own :: Z) w) {x : Int} (h0 : 0 <= x) (hx : x < 18446744073709551616) {K : Int -> World -> Prop} (hK : ∀ w', Sat (ArenaP E b ks own :: Z) w' -> K (own (x / 8192)) w') :
    F.arena_Map_At E (some ⟨b, 0, none⟩) x K w := by
  obtain ⟨G, h1, h2, h3, _⟩ := H.arena
  refine at_own h1 h0 hx fun w' he => ?_
  rw [h3]; exact hK w' (H.nothing he)
theorem acount_sat (H : Sat (ArenaP E b ks own :: Z) w) {K : Int -> World -> Prop} (hK : K (tot ks) w) : F.arena_Map_Count E (some ⟨b, 0, none⟩) K w := by
  obtain ⟨G, h1, h2, h3, _⟩ := H.arena
  unfold F.arena_Map_Count T0.arena_Map_Count F.stretch_Set_Sum
  simp only [NC_some, add_eq, Nat.zero_add]
  refine ⟨_, h1.set.c1, ?_⟩
  rw [h2]; exact hK
theorem grow_step {w' : World} {G : MapG} (h3 : MapR E w b G) {s5 : SlV} {ks5 : Iv} (hset5 : SetAt E w' b 0 s5 ks5) (hu5 : Upd b (Two 0) w w') (hf5 : Fresh w G.s s5) : MStep E b w G w' (G.grow s5 ks5) := by
  have hs5 : ∀ k, Blk s5 k -> Blk G.s k ∨ w.heap.size <= k := by
    rintro k ⟨a, ha, rfl⟩
    rcases hf5 with e | e
    · rw [e] at ha; exact .inl ⟨a, ha, rfl⟩
    · exact .inr (e a ha)
  refine ⟨?_, ?_, ?_⟩
  · have hn : ¬ Two 0 2 := by unfold Two; omega
    have hn3 : ¬ Two 0 3 := by unfold Two; omega
    have hlt3 := h3.lt
    refine ⟨hset5, ⟨by rw [hu5.keep 2 hn]; exact h3.wide.c2, by rw [hu5.frz]; exact h3.wide.f2, h3.wide.own.ext hu5.ext fun g hg e => h3.wide.apart _ hg e, h3.wide.ok, h3.wide.apart⟩, by rw [hu5.keep 3 hn3]; exact h3.c3, ?_, ?_, h3.inj, ?_, ?_⟩
    · obtain ⟨es, cl, m, h1, h2⟩ := h3.map
      exact ⟨es, cl, m, hu5.ext.obj h1 h3.mne, h2⟩
    · intro k q hk i hi
      obtain ⟨g1, g2⟩ := h3.leaf k q hk i hi
      have hn : ¬ Only b q.1 := (h3.d2 k q hk).1
      exact ⟨hu5.ext.cell g1 hn, by rw [hu5.ext.frozen (World.block_lt_of_cell? w _ g1) hn]; exact g2⟩
    · intro k hk hk'
      rcases hs5 k hk with e | e
      · exact h3.d1 k e hk'
      · have := (h3.wide.own.blk hk').2; omega
    · intro k q hk
      obtain ⟨g1, g2, g3⟩ := h3.d2 k q hk
      refine ⟨g1, fun e => ?_, g3⟩
      rcases hs5 _ e with e | e
      · exact g2 e
      · have := World.block_lt_of_cell? w _ (h3.leaf k q hk 0 (by decide)).1
        simp only at this; omega
  · exact hu5.ext.mono fun i _ e => .inl e
  · rintro k (e | e | e | e | ⟨c', q, e, e2⟩)
    · exact .inl (.inl e)
    · exact .inl (.inr (.inl e))
    · rcases hs5 k e with e | e
      · exact .inl (.inr (.inr (.inl e)))
      · exact .inr e
    · exact .inl (.inr (.inr (.inr (.inl e))))
    · exact .inl (.inr (.inr (.inr (.inr ⟨c', q, e, e2⟩))))
end
section
variable {E : Env} {b : Nat} {ks : Iv} {own : Int -> Int} {Z : List Pr} {w : World} (hE : EnvA E)
include hE
theorem ahas_sat (H : Sat (ArenaP E b ks own :: Z) w) {x : Int} (h0 : 0 <= x) (hx : x < 18446744073709551616) {K : Bool -> World -> Prop} (hK : ∀ w' r, (r = true ↔ mem ks (x / 4194304)) -> Sat (ArenaP E b ks own :: Z) w' -> K r w') :
    F.arena_Map_Has E (some ⟨b, 0, none⟩) x K w := by
  obtain ⟨G, h1, h2, h3, _⟩ := H.arena
  exact ahas_spec hE h1 h0 hx fun w' r hr he => hK w' r (by rw [<- h2]; exact hr) (H.nothing he)
theorem aset_sat (H : Sat (ArenaP E b ks own :: Z) w) {x n id : Int} (hx0 : 0 <= x) (hx : x < 18446744073709551616) (hn0 : 0 <= n) (hn : n < 18446744073709551616) {K : Int -> World -> Prop}
    (hgood : n ≠ 0 /\ 0 <= id /\ x + n <= 34359738368 /\ ∀ p, x <= p -> p < x + n -> mem ks (p / 512)) (hK : ∀ w', Sat (ArenaP E b ks (fun p => if x <= p /\ p < x + n then id else own p) :: Z) w' -> K 0 w') :
    F.arena_Map_Set E (some ⟨b, 0, none⟩) x n id K w := by
  obtain ⟨G, h1, h2, h3, hst⟩ := H.arena
  obtain ⟨g1, g2, g3, g4⟩ := hgood
  have hno : ¬ (n = 0 ∨ id < 0) := by omega
  refine aset_spec hE h1 hx0 hx hn0 hn (fun h => absurd h hno) (fun _ h => ?_) fun _ _ _ _ w' G' st e1 e2 => hK w' (hst w' G' ks _ st (e1.trans h2) fun p => by rw [e2, h3])
  exfalso
  rcases h with h | h | ⟨c, c1, c2, c3⟩
  · omega
  · omega
  · refine c3 ?_
    rw [h2]
    have := g4 (max x (c * 512)) (by omega) (by omega)
    rwa [show max x (c * 512) / 512 = c by omega] at this
theorem amany_sat (H : Sat (ArenaP E b ks own :: Z) w) {a c : Int} (ha : 0 <= a) (hac : a < c) (hc : c <= 67108864) {K : World -> Prop} (hK : ∀ w', Sat (ArenaP E b (addL ks a c) own :: Z) w' -> K w') :
    F.arena_Map_Many E (some ⟨b, 0, none⟩) a c K w := by
  obtain ⟨G, h1, h2, h3, hst⟩ := H.arena
  unfold F.arena_Map_Many T0.arena_Map_Many
  simp only [NC_some]
  have hbig : big = 4398046511104 := rfl
  refine add_spec hE.toEnvS h1.set ha hac (by omega) fun w' s' hset hu hf => hK w' (hst w' (G.grow s' (addL G.ks a c)) _ own (grow_step h1 hset hu hf) (by rw [h2]; rfl) fun p => h3 p)
end
end Go.Sh
