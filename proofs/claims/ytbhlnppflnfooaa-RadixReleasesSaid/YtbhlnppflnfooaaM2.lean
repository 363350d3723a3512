/- What pieces of a program do to memory: interval lists and maps. No further condition. -/
import Derived.Test.YtbhlnppflnfooaaM
set_option linter.all false
set_option maxRecDepth 4000
namespace Go.Sh

theorem drop_get {α : Type} {l : List α} {k : Nat} {x : α} (h : l[k]? = some x) : l.drop k = x :: l.drop (k + 1) := by
  obtain ⟨hlt, rfl⟩ := List.getElem?_eq_some_iff.1 h
  exact List.drop_eq_getElem_cons hlt

theorem cnt1_add {p : Int × Int} {a m b : Int} (hp : p.1 < p.2) (h1 : a ≤ m) (h2 : m ≤ b) : cnt1 p a b = cnt1 p a m + cnt1 p m b := by
  unfold cnt1; omega

theorem cnt_add : ∀ {l : Iv}, (∀ p ∈ l, p.1 < p.2) → ∀ {a m b : Int}, a ≤ m → m ≤ b → cnt l a b = cnt l a m + cnt l m b
  | [], _, a, m, b, _, _ => rfl
  | p :: r, h, a, m, b, h1, h2 => by
    simp only [cnt]
    rw [cnt_add (fun q hq => h q (List.mem_cons_of_mem _ hq)) h1 h2, cnt1_add (h p List.mem_cons_self) h1 h2]
    omega

theorem cnt_pos : ∀ {l : Iv}, (∀ p ∈ l, p.1 < p.2) → ∀ {a : Int}, 0 < cnt l a (a + 1) ↔ mem l a
  | [], _, a => by simp [cnt, mem]
  | p :: r, h, a => by
    have ih := cnt_pos (l := r) (fun q hq => h q (List.mem_cons_of_mem _ hq)) (a := a)
    have h0 := cnt_nonneg r a (a + 1)
    have hp := h p List.mem_cons_self
    rw [mem_cons, ← ih]
    simp only [cnt]
    unfold cnt1
    omega

theorem cnt_full {l : Iv} (h : Ok l) {a b : Int} (hab : a ≤ b) : cnt l a b = b - a ↔ ∀ n, a ≤ n → n < b → mem l n := by
  have hlt : ∀ p ∈ l, p.1 < p.2 := fun p hp => (h.mem hp).2.1
  obtain ⟨k, hk⟩ : ∃ k : Nat, b = a + k := ⟨(b - a).toNat, by omega⟩
  subst hk
  induction k with
  | zero =>
    have h1 := cnt_split h (a := a) (b := a + (0 : Nat)) hab
    have h2 := cnt_nonneg l a (a + (0 : Nat))
    constructor
    · intro _ n h1 h2; omega
    · intro _; omega
  | succ k ih =>
    have ih := ih (by omega)
    have e := cnt_add hlt (a := a) (m := a + (k : Nat)) (b := a + ((k + 1 : Nat) : Int)) (by omega) (by omega)
    have h1 := cnt_split h (a := a) (b := a + (k : Nat)) (by omega)
    have h2 := cnt_split h (a := a + (k : Nat)) (b := a + (k : Nat) + 1) (by omega)
    have hpos := cnt_pos hlt (a := a + (k : Nat))
    have e2 : a + ((k + 1 : Nat) : Int) = a + (k : Nat) + 1 := by omega
    rw [e2] at e ⊢
    constructor
    · intro he n hn1 hn2
      by_cases hn : n = a + (k : Nat)
      · subst hn; exact hpos.1 (by omega)
      · exact ih.1 (by omega) n hn1 (by omega)
    · intro hall
      have := ih.2 fun n h1 h2 => hall n h1 (by omega)
      have := hpos.2 (hall _ (by omega) (by omega))
      omega


end Go.Sh

set_option linter.all false
namespace Go.Sh

/-! ### Maps keyed by integers -/

def aget : List (Int × Value) → Int → Option Value
  | [], _ => none
  | p :: r, n => if p.1 = n then some p.2 else aget r n

structure MapI (k : IntKind) (es : Array MapEntry) (clock : Nat) (m : List (Int × Value)) : Prop where
  keys : es.toList.map (fun e => (e.key, e.val)) = m.map (fun p => (Value.int k p.1, p.2))
  nodup : (m.map (·.1)).Nodup
  born : (es.toList.map (·.born)).Nodup
  lt : ∀ e ∈ es.toList, e.born < clock

theorem MapI.empty (k : IntKind) : MapI k #[] 0 [] := ⟨rfl, by simp, by simp, by simp⟩

theorem MapI.size {k : IntKind} {es : Array MapEntry} {c : Nat} {m : List (Int × Value)} (h : MapI k es c m) : es.size = m.length := by
  have := congrArg List.length h.keys
  simpa using this

theorem sameNow_int (k : IntKind) (a b : Int) : Instr.sameNow (.int k) (.int k a) (.int k b) = some (a == b) := by simp [Instr.sameNow]

theorem findNow_list (k : IntKind) (n : Int) : ∀ (es : List MapEntry) (m : List (Int × Value)) (i : Nat), es.map (fun e => (e.key, e.val)) = m.map (fun p => (Value.int k p.1, p.2)) →
    ∃ res, Instr.findNow (.int k) (.int k n) es i = some res ∧
      ((res = none ∧ aget m n = none) ∨ ∃ j v, res = some (i + j, v) ∧ aget m n = some v ∧ m[j]? = some (n, v) ∧ j < es.length)
  | [], [], i, _ => ⟨none, rfl, .inl ⟨rfl, rfl⟩⟩
  | [], _ :: _, i, h => by simp at h
  | _ :: _, [], i, h => by simp at h
  | e :: r, p :: m, i, h => by
    simp only [List.map_cons, List.cons.injEq, Prod.mk.injEq] at h
    obtain ⟨⟨hk, hv⟩, hr⟩ := h
    simp only [Instr.findNow, hk, sameNow_int]
    by_cases hn : n = p.1
    · subst hn
      simp only [beq_self_eq_true]
      refine ⟨_, rfl, .inr ⟨0, p.2, by simp [hv], by simp [aget], by simp, by simp⟩⟩
    · have : (n == p.1) = false := by simp [hn]
      simp only [this]
      obtain ⟨res, h1, h2⟩ := findNow_list k n r m (i + 1) hr
      refine ⟨res, h1, ?_⟩
      rcases h2 with ⟨h3, h4⟩ | ⟨j, v, h3, h4, h5, h6⟩
      · exact .inl ⟨h3, by simp [aget, Ne.symm hn, h4]⟩
      · refine .inr ⟨j + 1, v, by rw [h3]; congr 2; omega, by simp [aget, Ne.symm hn, h4], by simpa using h5, by simp; omega⟩

theorem MapI.find {k : IntKind} {es : Array MapEntry} {c : Nat} {m : List (Int × Value)} (h : MapI k es c m) (n : Int) :
    ∃ res, findI k n es res ∧ ((res = none ∧ aget m n = none) ∨ ∃ j v, res = some (j, v) ∧ aget m n = some v ∧ m[j]? = some (n, v) ∧ j < es.size) := by
  obtain ⟨res, h1, h2⟩ := findNow_list k n es.toList m 0 h.keys
  refine ⟨res, h1, ?_⟩
  rcases h2 with h2 | ⟨j, v, h3, h4, h5, h6⟩
  · exact .inl h2
  · exact .inr ⟨j, v, by simpa using h3, h4, h5, by simpa using h6⟩

/-- A look-up. -/
theorem LKP_intro {k : IntKind} {n : Int} {b : Nat} {w : World} {z : Value} {K : Value → Bool → Array MapEntry → Prop} {es : Array MapEntry} {c : Nat} {m : List (Int × Value)}
    (hb : w.heap[b]? = some (.map es c)) (h : MapI k es c m) (hK : K ((aget m n).getD z) (aget m n).isSome es) : LKP k n (some b) w z K := by
  obtain ⟨res, h1, h2⟩ := h.find n
  refine ⟨es, res, ⟨c, hb⟩, h1, ?_⟩
  rcases h2 with ⟨rfl, h3⟩ | ⟨j, v, rfl, h3, _⟩
  · rw [h3] at hK; exact hK
  · rw [h3] at hK; exact hK

theorem aget_append_none {m : List (Int × Value)} {n : Int} {q : List (Int × Value)} (h : aget m n = none) : aget (m ++ q) n = aget q n := by
  induction m with
  | nil => rfl
  | cons p r ih =>
    simp only [aget] at h
    split at h
    · cases h
    · rename_i hp; simp [aget, hp, ih h]

theorem aget_none_iff {m : List (Int × Value)} {n : Int} : aget m n = none ↔ n ∉ m.map (·.1) := by
  induction m with
  | nil => simp [aget]
  | cons p r ih =>
    simp only [aget, List.map_cons, List.mem_cons, not_or]
    split
    · rename_i h; simp [h]
    · rename_i h; rw [ih]; exact ⟨fun h2 => ⟨fun e => h e.symm, h2⟩, fun h2 => h2.2⟩

theorem aget_append_some {m q : List (Int × Value)} {n : Int} {v : Value} (h : aget m n = some v) : aget (m ++ q) n = some v := by
  induction m with
  | nil => cases h
  | cons p r ih =>
    simp only [aget] at h
    by_cases hp : p.1 = n
    · rw [if_pos hp] at h; simp [aget, hp, h]
    · rw [if_neg hp] at h; simp [aget, hp, ih h]

theorem aget_set {m : List (Int × Value)} {n : Int} {v : Value} {j : Nat} {u : Value} (hj : m[j]? = some (n, u)) (hn : (m.map (·.1)).Nodup) :
    (∀ i, aget (m.set j (n, v)) i = if i = n then some v else aget m i) ∧ (m.set j (n, v)).map (·.1) = m.map (·.1) := by
  induction m generalizing j with
  | nil => simp at hj
  | cons p r ih =>
    cases j with
    | zero =>
      simp at hj
      subst hj
      refine ⟨fun i => ?_, by simp⟩
      simp only [List.set_cons_zero, aget]
      by_cases h : n = i
      · simp [h]
      · simp [h, Ne.symm h]
    | succ j =>
      simp only [List.map_cons, List.nodup_cons] at hn
      obtain ⟨h1, h2⟩ := ih (by simpa using hj) hn.2
      have hmem : n ∈ r.map (·.1) := List.mem_map.2 ⟨_, List.mem_of_getElem? (by simpa using hj), rfl⟩
      have hne : p.1 ≠ n := fun e => hn.1 (e ▸ hmem)
      refine ⟨fun i => ?_, by simp only [List.set_cons_succ, List.map_cons, h2]⟩
      simp only [List.set_cons_succ, aget, h1]
      by_cases h : p.1 = i
      · simp only [h, if_true]
        rw [if_neg]
        intro e; exact hne (h.trans e)
      · simp [h]

/-- A store of a key. -/
theorem MapI.put {k : IntKind} {es : Array MapEntry} {c : Nat} {m : List (Int × Value)} (h : MapI k es c m) (n : Int) (v : Value) {res : Option (Nat × Value)} (hf : findI k n es res) :
    ∃ es' c' m', mapPut es c (.int k n) v res = .map es' c' ∧ MapI k es' c' m' ∧ (∀ i, aget m' i = if i = n then some v else aget m i) ∧ m'.length ≤ m.length + 1 ∧
      (aget m n = none → m'.length = m.length + 1) ∧ (aget m n ≠ none → m'.length = m.length) := by
  obtain ⟨res', h1, h2⟩ := h.find n
  have : res' = res := by unfold findI at h1 hf; rw [h1] at hf; exact Option.some.inj hf
  subst this
  rcases h2 with ⟨rfl, h3⟩ | ⟨j, u, rfl, h3, h4, h5⟩
  · refine ⟨_, _, m ++ [(n, v)], rfl, ⟨?_, ?_, ?_, ?_⟩, fun i => ?_, by simp, by simp, fun h => absurd h3 h⟩
    · simp [h.keys]
    · rw [List.map_append, List.nodup_append]
      refine ⟨h.nodup, by simp, fun a ha b hb => ?_⟩
      simp at hb
      subst hb
      intro e; subst e
      exact aget_none_iff.1 h3 ha
    · simp only [Array.toList_push, List.map_append, List.nodup_append]
      refine ⟨h.born, by simp, fun a ha b hb => ?_⟩
      simp at hb
      obtain ⟨e, he, rfl⟩ := List.mem_map.1 ha
      have := h.lt e he
      omega
    · intro e he
      simp only [Array.toList_push, List.mem_append, List.mem_singleton] at he
      rcases he with he | rfl
      · have := h.lt e he; omega
      · simp
    · by_cases hi : i = n
      · subst hi; rw [if_pos rfl, aget_append_none h3]; simp [aget]
      · rw [if_neg hi]
        cases hg : aget m i with
        | none => rw [aget_append_none hg]; simp [aget, Ne.symm hi]
        | some u => exact aget_append_some hg
  · obtain ⟨g1, g2⟩ := aget_set (v := v) h4 h.nodup
    refine ⟨_, _, m.set j (n, v), rfl, ⟨?_, by rw [g2]; exact h.nodup, ?_, ?_⟩, g1, by simp, (fun h => by rw [h3] at h; cases h), fun _ => by simp⟩
    · apply List.ext_getElem?
      intro i
      have hk := congrArg (fun l => l[i]?) h.keys
      simp only [List.getElem?_map, Array.getElem?_toList] at hk ⊢
      simp only [Array.getElem?_modify, List.getElem?_set]
      by_cases hij : j = i
      · subst hij
        have hlt : j < m.length := by have := (List.getElem?_eq_some_iff.1 h4).1; exact this
        simp [Array.getElem?_eq_getElem h5, hlt]
      · simp only [hij, if_false]
        exact hk
    · have : (es.modify j fun e => { e with key := .int k n, val := v }).toList.map (·.born) = es.toList.map (·.born) := by
        apply List.ext_getElem?
        intro i
        simp only [List.getElem?_map, Array.getElem?_toList, Array.getElem?_modify]
        split
        · cases es[i]? <;> simp
        · rfl
      rw [this]; exact h.born
    · intro e he
      obtain ⟨i, hi, rfl⟩ := List.mem_iff_getElem.1 he
      simp only [Array.getElem_toList, Array.getElem_modify]
      have hi' : i < es.size := by simpa using hi
      split
      · exact h.lt es[i] (by simp)
      · exact h.lt es[i] (by simp)

theorem MUPD_intro {k : IntKind} {n : Int} {v : Value} {b : Nat} {w : World} {K : World → Prop} {es : Array MapEntry} {c : Nat} {m : List (Int × Value)}
    (hb : w.heap[b]? = some (.map es c)) (h : MapI k es c m)
    (hK : ∀ w' es' c' m', w'.heap[b]? = some (.map es' c') → MapI k es' c' m' → (∀ i, aget m' i = if i = n then some v else aget m i) → m'.length ≤ m.length + 1 →
      (aget m n = none → m'.length = m.length + 1) → (aget m n ≠ none → m'.length = m.length) → Ext (Only b) w w' → w'.heap.size = w.heap.size → K w') : MUPD k n v (some b) w K := by
  obtain ⟨res, h1, _⟩ := h.find n
  refine ⟨b, es, c, res, rfl, hb, h1, ?_⟩
  obtain ⟨es', c', m', h2, h3, h4, h5, h6, h7⟩ := h.put n v h1
  rw [h2]
  have hlt := block_lt hb
  exact hK _ es' c' m' (by simp [World.setO, hlt]) h3 h4 h5 h6 h7 (Ext.setO w b _) (by simp [World.setO])

theorem map_eraseIdx' {α β : Type} (f : α → β) : ∀ (l : List α) (j : Nat), (l.eraseIdx j).map f = (l.map f).eraseIdx j
  | [], j => by simp
  | x :: r, 0 => by simp
  | x :: r, j + 1 => by simp [map_eraseIdx' f r j]

theorem aget_erase {m : List (Int × Value)} {n : Int} {j : Nat} {u : Value} (hj : m[j]? = some (n, u)) (hn : (m.map (·.1)).Nodup) :
    (∀ i, aget (m.eraseIdx j) i = if i = n then none else aget m i) ∧ ((m.eraseIdx j).map (·.1)).Nodup := by
  refine ⟨?_, ?_⟩
  · induction m generalizing j with
    | nil => simp at hj
    | cons p r ih =>
      simp only [List.map_cons, List.nodup_cons] at hn
      cases j with
      | zero =>
        simp at hj
        subst hj
        intro i
        simp only [List.eraseIdx_cons_zero, aget]
        by_cases h : n = i
        · subst h; simp; exact aget_none_iff.2 hn.1
        · simp [h, Ne.symm h]
      | succ j =>
        have hmem : n ∈ r.map (·.1) := List.mem_map.2 ⟨_, List.mem_of_getElem? (by simpa using hj), rfl⟩
        have hne : p.1 ≠ n := fun e => hn.1 (e ▸ hmem)
        intro i
        simp only [List.eraseIdx_cons_succ, aget]
        rw [ih (by simpa using hj) hn.2 i]
        by_cases h : p.1 = i
        · simp only [h, if_true]
          rw [if_neg]
          intro e; exact hne (h.trans e)
        · simp [h]
  · rw [map_eraseIdx']
    exact hn.sublist (List.eraseIdx_sublist _ _)

/-- A key is taken out. -/
theorem MapI.del {k : IntKind} {es : Array MapEntry} {c : Nat} {m : List (Int × Value)} (h : MapI k es c m) (n : Int) {res : Option (Nat × Value)} (hf : findI k n es res) :
    ∃ es' m', mapDel es c res = .map es' c ∧ MapI k es' c m' ∧ (∀ i, aget m' i = if i = n then none else aget m i) ∧ m'.length ≤ m.length ∧ es'.toList.Sublist es.toList ∧
      (∀ e ∈ es.toList, e.key ≠ .int k n → e ∈ es'.toList) := by
  obtain ⟨res', h1, h2⟩ := h.find n
  have : res' = res := by unfold findI at h1 hf; rw [h1] at hf; exact Option.some.inj hf
  subst this
  rcases h2 with ⟨rfl, h3⟩ | ⟨j, u, rfl, h3, h4, h5⟩
  · refine ⟨es, m, rfl, h, fun i => ?_, Nat.le_refl _, List.Sublist.refl _, fun _ h _ => h⟩
    by_cases hi : i = n
    · subst hi; simp [h3]
    · simp [hi]
  · obtain ⟨g1, g2⟩ := aget_erase h4 h.nodup
    have he : (es.eraseIdxIfInBounds j).toList = es.toList.eraseIdx j := by simp
    refine ⟨_, m.eraseIdx j, rfl, ⟨?_, g2, ?_, ?_⟩, g1, List.length_eraseIdx_le _ _, ?_, ?_⟩
    · rw [he, map_eraseIdx', map_eraseIdx', h.keys]
    · rw [he, map_eraseIdx']; exact h.born.sublist (List.eraseIdx_sublist _ _)
    · intro e hm; rw [he] at hm; exact h.lt e (List.mem_of_mem_eraseIdx hm)
    · rw [he]; exact List.eraseIdx_sublist _ _
    · intro e hm hk
      rw [he, List.mem_eraseIdx_iff_getElem?]
      obtain ⟨i, hi⟩ := List.mem_iff_getElem?.1 hm
      refine ⟨i, ?_, hi⟩
      intro e2; subst e2
      have hkk := congrArg (fun l => l[i]?) h.keys
      simp only [List.getElem?_map, hi, h4, Option.map_some, Option.some.injEq, Prod.mk.injEq] at hkk
      exact hk hkk.1

theorem MDEL_intro {k : IntKind} {n : Int} {b : Nat} {w : World} {K : World → Prop} {es : Array MapEntry} {c : Nat} {m : List (Int × Value)}
    (hb : w.heap[b]? = some (.map es c)) (h : MapI k es c m)
    (hK : ∀ w' es' m', w'.heap[b]? = some (.map es' c) → MapI k es' c m' → (∀ i, aget m' i = if i = n then none else aget m i) → m'.length ≤ m.length → es'.toList.Sublist es.toList →
      (∀ e ∈ es.toList, e.key ≠ .int k n → e ∈ es'.toList) → Ext (Only b) w w' → w'.heap.size = w.heap.size → K w') : MDEL k n (some b) w K := by
  obtain ⟨res, h1, _⟩ := h.find n
  refine ⟨es, c, res, hb, h1, ?_⟩
  obtain ⟨es', m', h2, h3, h4, h5, h6, h7⟩ := h.del n h1
  rw [h2]
  have hlt := block_lt hb
  exact hK _ es' m' (by simp [World.setO, hlt]) h3 h4 h5 h6 h7 (Ext.setO w b _) (by simp [World.setO])

theorem MapI.mem_key {k : IntKind} {es : Array MapEntry} {c : Nat} {m : List (Int × Value)} (h : MapI k es c m) {e : MapEntry} (he : e ∈ es.toList) :
    ∃ n, e.key = .int k n ∧ aget m n = some e.val := by
  obtain ⟨i, hi⟩ := List.mem_iff_getElem?.1 he
  have hkk := congrArg (fun l => l[i]?) h.keys
  simp only [List.getElem?_map, hi, Option.map_some] at hkk
  cases hm : m[i]? with
  | none => rw [hm] at hkk; cases hkk
  | some p =>
    rw [hm] at hkk
    simp only [Option.map_some, Option.some.injEq, Prod.mk.injEq] at hkk
    refine ⟨p.1, hkk.1, ?_⟩
    have : ∀ (m : List (Int × Value)) (i : Nat), (m.map (·.1)).Nodup → m[i]? = some p → aget m p.1 = some p.2 := by
      intro m
      induction m with
      | nil => intro i _ h; simp at h
      | cons q r ih =>
        intro i hn hi
        simp only [List.map_cons, List.nodup_cons] at hn
        cases i with
        | zero => simp at hi; subst hi; simp [aget]
        | succ i =>
          have hmem : p.1 ∈ r.map (·.1) := List.mem_map.2 ⟨_, List.mem_of_getElem? (by simpa using hi), rfl⟩
          have hne : q.1 ≠ p.1 := fun e => hn.1 (e ▸ hmem)
          simp [aget, hne, ih i hn.2 (by simpa using hi)]
    rw [this m i h.nodup hm, hkk.2]

theorem MapI.key_mem {k : IntKind} {es : Array MapEntry} {c : Nat} {m : List (Int × Value)} (h : MapI k es c m) {n : Int} {v : Value} (hg : aget m n = some v) :
    ∃ e ∈ es.toList, e.key = .int k n ∧ e.val = v := by
  obtain ⟨res, h1, h2⟩ := h.find n
  rcases h2 with ⟨_, h3⟩ | ⟨j, u, rfl, h3, h4, h5⟩
  · rw [h3] at hg; cases hg
  · rw [h3] at hg; cases hg
    obtain ⟨e, he, hk, hv⟩ := findNow_at k n es.toList 0 j _ h1
    exact ⟨e, List.mem_of_getElem? (by simpa using he), hk, hv⟩

end Go.Sh
