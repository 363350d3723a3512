/- What the law's functions do. No further condition. -/
import Derived.Test.YtbmbflhcebdjgaaGreatDoorQ
import Derived.Test.YtbmbflhcebdjgaaGreatDoorH
import Derived.Test.YtbmbflhcebdjgaaGreatDoorL
import Derived.Test.YtbmbflhcebdjgaaGreatDoorA
set_option linter.all false
set_option maxRecDepth 8000
set_option maxHeartbeats 4000000
namespace Go.Sh
def swf (k : Int -> Int) (i j : Int) : Int -> Int := fun q => if q = i then k j else if q = j then k i else k q
def OrdF (k : Int -> Int) (a b : Int) : Prop := ∀ i j, a <= i -> i < j -> j < b -> k i <= k j
theorem swf_l (k : Int -> Int) (i j : Int) : swf k i j i = k j := if_pos rfl
theorem swf_r (k : Int -> Int) (i j : Int) : swf k i j j = k i := by unfold swf; by_cases e : j = i <;> simp [e]
theorem swf_comm (k : Int -> Int) (i j : Int) : swf k i j = swf k j i := by
  funext q
  unfold swf
  by_cases e : q = i <;> by_cases g : q = j <;> simp [e, g]
  all_goals (intros; subst_vars; first | rfl | omega)
theorem swf_o {k : Int -> Int} {i j q : Int} (h1 : q ≠ i) (h2 : q ≠ j) : swf k i j q = k q := by unfold swf; rw [if_neg h1, if_neg h2]
def InsF (k : Int -> Int) (a i j : Int) : Prop := (∀ p q, a <= p -> p < q -> q <= i -> p ≠ j -> q ≠ j -> k p <= k q) /\ ∀ q, j < q -> q <= i -> k j <= k q
theorem InsF.start {k : Int -> Int} {a i : Int} (h : OrdF k a i) : InsF k a i i := ⟨fun p q h1 h2 h3 h4 h5 => h p q h1 h2 (by omega), fun q h1 h2 => by omega⟩
theorem InsF.step {k : Int -> Int} {a i j : Int} (h : InsF k a i j) (hj : a < j) (ji : j <= i) (lt : k j < k (j - 1)) : InsF (swf k (j - 1) j) a i (j - 1) := by
  refine ⟨fun p q h1 h2 h3 h4 h5 => ?_, fun q h1 h2 => ?_⟩
  · by_cases e1 : p = j
    · rw [e1, swf_r, swf_o (by omega) (by omega)]
      exact h.1 _ _ (by omega) (by omega) h3 (by omega) (by omega)
    · rw [swf_o h4 e1]
      by_cases e2 : q = j
      · rw [e2, swf_r]; exact h.1 _ _ h1 (by omega) (by omega) e1 (by omega)
      · rw [swf_o h5 e2]; exact h.1 _ _ h1 h2 h3 e1 e2
  · rw [swf_l]
    by_cases e : q = j
    · rw [e, swf_r]; omega
    · rw [swf_o (by omega) e]; exact h.2 q (by omega) h2
theorem InsF.fin {k : Int -> Int} {a i j : Int} (h : InsF k a i j) (hj : j = a ∨ k (j - 1) <= k j) : OrdF k a (i + 1) := fun p q h1 h2 h3 => by
  by_cases e1 : p = j
  · rw [e1]; exact h.2 q (by omega) (by omega)
  · by_cases e2 : q = j
    · rcases hj with hj | hj
      · omega
      · by_cases e3 : p = j - 1
        · rw [e2, e3]; exact hj
        · have := h.1 p (j - 1) h1 (by omega) (by omega) e1 (by omega)
          rw [e2]; omega
    · exact h.1 p q h1 h2 (by omega) e1 e2
def HeapF (k : Int -> Int) (f lo hi : Int) : Prop := ∀ c, 1 <= c -> c < hi -> lo <= (c - 1) / 2 -> k (f + c) <= k (f + (c - 1) / 2)
def SiftF (k : Int -> Int) (f lo hi r : Int) : Prop := (∀ c, 1 <= c -> c < hi -> lo <= (c - 1) / 2 -> (c - 1) / 2 ≠ r -> k (f + c) <= k (f + (c - 1) / 2)) /\
  ∀ c, 1 <= c -> c < hi -> (c - 1) / 2 = r -> 1 <= r -> lo <= (r - 1) / 2 -> k (f + c) <= k (f + (r - 1) / 2)
theorem SiftF.start {k : Int -> Int} {f lo hi : Int} (h0 : 0 <= lo) (h : HeapF k f (lo + 1) hi) : SiftF k f lo hi lo := ⟨fun c h1 h2 h3 h4 => h c h1 h2 (by omega), fun c h1 h2 h3 h4 h5 => by omega⟩
theorem SiftF.step {k : Int -> Int} {f lo hi r c : Int} (h : SiftF k f lo hi r) (h0 : 0 <= lo) (hr : lo <= r) (c1 : 1 <= c) (ch : c < hi) (cp : (c - 1) / 2 = r) (hm : ∀ d, 1 <= d -> d < hi -> (d - 1) / 2 = r -> k (f + d) <= k (f + c)) (lt : k (f + r) < k (f + c)) :
    SiftF (swf k (f + r) (f + c)) f lo hi c := by
  refine ⟨fun d h1 h2 h3 h4 => ?_, fun d h1 h2 h3 h4 h5 => ?_⟩
  · by_cases e1 : d = c
    · rw [e1, cp, swf_r, swf_l]; omega
    · by_cases e2 : d = r
      · rw [e2, swf_l, swf_o (by omega) (by omega)]
        exact h.2 c c1 ch cp (by omega) (by rw [<- e2]; exact h3)
      · rw [swf_o (q := f + d) (by omega) (by omega)]
        by_cases e3 : (d - 1) / 2 = r
        · rw [e3, swf_l]; exact hm d h1 h2 e3
        · rw [swf_o (by omega) (by omega)]; exact h.1 d h1 h2 h3 e3
  · rw [cp, swf_l, swf_o (by omega) (by omega)]
    have := h.1 d h1 h2 (by omega) (by omega)
    rw [h3] at this; exact this
theorem SiftF.fin {k : Int -> Int} {f lo hi r : Int} (h : SiftF k f lo hi r) (hm : ∀ d, 1 <= d -> d < hi -> (d - 1) / 2 = r -> k (f + d) <= k (f + r)) : HeapF k f lo hi := fun c h1 h2 h3 => by
  by_cases e : (c - 1) / 2 = r
  · rw [e]; exact hm c h1 h2 e
  · exact h.1 c h1 h2 h3 e
theorem HeapF.max {k : Int -> Int} {f hi : Int} (h : HeapF k f 0 hi) : ∀ n : Nat, ∀ c : Int, c.toNat <= n -> 0 <= c -> c < hi -> k (f + c) <= k f
  | 0, c, hn, h0, _ => by rw [show f + c = f by omega]; exact Int.le_refl _
  | n + 1, c, hn, h0, h1 => by
    by_cases e : c = 0
    · rw [e, Int.add_zero]; exact Int.le_refl _
    · have h2 := h c (by omega) h1 (by omega)
      have h3 := HeapF.max h n ((c - 1) / 2) (by omega) (by omega) (by omega)
      omega
def el (l : List Int) (i : Int) : Int := if i < 0 then 0 else l.getD i.toNat 0
def sw (l : List Int) (i j : Int) : List Int := (l.set j.toNat (el l i)).set i.toNat (el l j)
theorem el_get {l : List Int} {i : Int} (h0 : 0 <= i) (h1 : i.toNat < l.length) : el l i = l[i.toNat] := by
  unfold el
  rw [if_neg (by omega), List.getD_eq_getElem?_getD, List.getElem?_eq_getElem h1]; rfl
theorem el_set {l : List Int} {j : Int} (j0 : 0 <= j) (j1 : j.toNat < l.length) (v q : Int) : el (l.set j.toNat v) q = if q = j then v else el l q := by
  unfold el
  by_cases e : q = j
  · subst e
    rw [if_neg (by omega), if_pos rfl, List.getD_eq_getElem?_getD, List.getElem?_set_self j1]; rfl
  · rw [if_neg e]
    by_cases g : q < 0
    · rw [if_pos g, if_pos g]
    · rw [if_neg g, if_neg g, List.getD_eq_getElem?_getD, List.getD_eq_getElem?_getD, List.getElem?_set_ne (by omega)]
theorem el_sw {l : List Int} {i j : Int} (i0 : 0 <= i) (i1 : i.toNat < l.length) (j0 : 0 <= j) (j1 : j.toNat < l.length) (q : Int) : el (sw l i j) q = if q = i then el l j else if q = j then el l i else el l q := by
  unfold sw
  rw [el_set i0 (by simpa using i1), el_set j0 j1]
def kf (key : Int -> Int) (l : List Int) : Int -> Int := fun i => key (el l i)
theorem kf_sw {key : Int -> Int} {l : List Int} {i j : Int} (i0 : 0 <= i) (i1 : i.toNat < l.length) (j0 : 0 <= j) (j1 : j.toNat < l.length) : kf key (sw l i j) = swf (kf key l) i j := by
  funext q
  unfold kf swf
  rw [el_sw i0 i1 j0 j1]
  by_cases e : q = i
  · rw [if_pos e, if_pos e]
  · rw [if_neg e, if_neg e]
    by_cases g : q = j
    · rw [if_pos g, if_pos g]
    · rw [if_neg g, if_neg g]
structure Mv (a b : Int) (l l' : List Int) : Prop where
  out : ∀ i, (i < a ∨ b <= i) -> el l' i = el l i
  inn : ∀ P : Int -> Prop, (∀ i, a <= i -> i < b -> P (el l i)) -> ∀ i, a <= i -> i < b -> P (el l' i)
theorem Mv.refl (a b : Int) (l : List Int) : Mv a b l l := ⟨fun _ _ => rfl, fun _ h => h⟩
theorem Mv.trans {a b : Int} {l l1 l2 : List Int} (h : Mv a b l l1) (g : Mv a b l1 l2) : Mv a b l l2 := ⟨fun i hi => (g.out i hi).trans (h.out i hi), fun P hP => g.inn P (h.inn P hP)⟩
theorem Mv.wide {a b a' b' : Int} {l l1 : List Int} (h : Mv a b l l1) (ha : a' <= a) (hb : b <= b') : Mv a' b' l l1 :=
  ⟨fun i hi => h.out i (by omega), fun P hP i h1 h2 => by
    by_cases g : a <= i /\ i < b
    · exact h.inn P (fun j j1 j2 => hP j (by omega) (by omega)) i g.1 g.2
    · rw [h.out i (by omega)]; exact hP i h1 h2⟩
theorem Mv.sw {a b : Int} {l : List Int} {i j : Int} (h0 : 0 <= a) (i0 : a <= i) (i1 : i < b) (j0 : a <= j) (j1 : j < b) (hb : b <= l.length) : Mv a b l (sw l i j) :=
  ⟨fun q hq => by rw [el_sw (by omega) (by omega) (by omega) (by omega), if_neg (by omega), if_neg (by omega)], fun P hP q h1 h2 => by
    rw [el_sw (by omega) (by omega) (by omega) (by omega)]
    by_cases e : q = i
    · rw [if_pos e]; exact hP j j0 j1
    · rw [if_neg e]
      by_cases g : q = j
      · rw [if_pos g]; exact hP i i0 i1
      · rw [if_neg g]; exact hP q h1 h2⟩
def SO (E : Env) (s : SlV) (Z : List Pr) (l0 l : List Int) (w : World) : Prop := l.Perm l0 /\ Sat (Row E.t_int 1 s (ints .i64 l) :: Z) w
def CmpS (E : Env) (cmp : Value) (s : SlV) (Z : List Pr) (key : Int -> Int) (l0 : List Int) : Prop := ∀ x y l w (R : Value -> World -> Prop), x ∈ l0 -> y ∈ l0 -> SO E s Z l0 l w -> (∀ r w', (r < 0 ↔ key x < key y) -> SO E s Z l0 l w' -> R (.int .i64 r) w') -> DYN E.call cmp #[.int .i64 x, .int .i64 y] w R
section
variable {E : Env} {cmp : Value} {s : SlV} {Z : List Pr} {key : Int -> Int} {l0 l : List Int} {w : World}
theorem SO.drew (h : SO E s Z l0 l w) : SO E s Z l0 l w.drew := ⟨h.1, h.2.drew⟩
theorem SO.len (h : SO E s Z l0 l w) : l.length = s.len := by
  have := h.2.rowLen
  rw [ints, List.length_map, Nat.mul_one] at this
  exact this
theorem SO.at (h : SO E s Z l0 l w) {i : Int} (h0 : 0 <= i) (h1 : i < s.len) : ∃ p, s.base = some p /\ w.cell? (p.add (Int.toNat i * 1)) = some (.int .i64 (el l i)) /\ el l i ∈ l0 := by
  have hl := h.len
  have hi : i.toNat < l.length := by omega
  obtain ⟨b, hb⟩ := h.2.own.base_of (by omega)
  rw [el_get h0 hi]
  refine ⟨_, hb, ?_, h.1.mem_iff.1 (List.getElem_mem hi)⟩
  have hg : (ints IntKind.i64 l)[i.toNat]? = some (.int .i64 l[i.toNat]) := ints_get (List.getElem?_eq_getElem hi)
  rw [Nat.mul_one]
  exact h.2.own.cell hb hg
theorem cmpS_two (hC : CmpS E cmp s Z key l0) (hS : SO E s Z l0 l w) {i j : Int} (i0 : 0 <= i) (i1 : i < s.len) (j0 : 0 <= j) (j1 : j < s.len) {R : Int -> World -> Prop} (hR : ∀ z w', (z < 0 ↔ kf key l i < kf key l j) -> SO E s Z l0 l w' -> R z w') :
    NC s.base fun p => ((0 : Int) <= i /\ (i : Int) < (s.len : Nat)) /\ ∃ x : Int, w.drew.cell? (p.add (Int.toNat i * 1)) = some (.int .i64 x) /\
    NC s.base fun q => ((0 : Int) <= j /\ (j : Int) < (s.len : Nat)) /\ ∃ y : Int, w.drew.cell? (q.add (Int.toNat j * 1)) = some (.int .i64 y) /\
    DYN E.call cmp #[.int .i64 x, .int .i64 y] w.drew fun r w' => ∃ z : Int, r = .int .i64 z /\ R z w' := by
  obtain ⟨p, hb, hx, hx0⟩ := hS.drew.at i0 i1
  obtain ⟨q, hb', hy, hy0⟩ := hS.drew.at j0 j1
  rw [hb] at hb'; cases hb'
  rw [hb]
  simp only [NC_some]
  exact ⟨⟨i0, i1⟩, _, hx, ⟨j0, j1⟩, _, hy, hC _ _ l _ _ hx0 hy0 hS.drew fun r w' hr h => ⟨r, rfl, hR r w' hr h⟩⟩
theorem swapS_two (hS : SO E s Z l0 l w) {i j : Int} (i0 : 0 <= i) (i1 : i < s.len) (j0 : 0 <= j) (j1 : j < s.len) {R : World -> Prop} (hR : ∀ w', SO E s Z l0 (sw l i j) w' -> R w') :
    NC s.base fun p => ((0 : Int) <= i /\ (i : Int) < (s.len : Nat)) /\ ∃ x : Int, w.drew.cell? (p.add (Int.toNat i * 1)) = some (.int .i64 x) /\
    NC s.base fun q => ((0 : Int) <= j /\ (j : Int) < (s.len : Nat)) /\ ∃ y : Int, w.drew.cell? (q.add (Int.toNat j * 1)) = some (.int .i64 y) /\
    NC s.base fun p' => ((0 : Int) <= j /\ (j : Int) < (s.len : Nat)) /\ stCells (p'.add (Int.toNat j * 1)) 0 [.int .i64 x] w.drew fun w1 =>
    NC s.base fun q' => ((0 : Int) <= i /\ (i : Int) < (s.len : Nat)) /\ stCells (q'.add (Int.toNat i * 1)) 0 [.int .i64 y] w1 fun w2 => R w2 := by
  have hl := hS.len
  obtain ⟨hp, hs⟩ := hS.drew
  have hi : i.toNat < l.length := by omega
  have hj : j.toNat < l.length := by omega
  obtain ⟨b, hb⟩ := hs.own.base_of (by omega)
  have gi : (ints IntKind.i64 l)[i.toNat]? = some (.int .i64 (el l i)) := by rw [el_get i0 hi]; exact ints_get (List.getElem?_eq_getElem hi)
  have gj : (ints IntKind.i64 l)[j.toNat]? = some (.int .i64 (el l j)) := by rw [el_get j0 hj]; exact ints_get (List.getElem?_eq_getElem hj)
  rw [hb]
  simp only [NC_some, Nat.mul_one]
  refine ⟨⟨i0, i1⟩, _, hs.own.cell hb gi, ⟨j0, j1⟩, _, hs.own.cell hb gj, ⟨j0, j1⟩, ?_⟩
  refine st_row hs (j := j.toNat) rfl (by rw [ints, List.length_map]; exact hj) hb fun w1 H1 => ⟨⟨i0, i1⟩, ?_⟩
  refine st_row H1 (j := i.toNat) rfl (by rw [List.length_set, ints, List.length_map]; exact hi) hb fun w2 H2 => ?_
  refine hR w2 ⟨?_, ?_⟩
  · have : ((l.set j.toNat l[i.toNat]).set i.toNat l[j.toNat]).Perm l := List.set_set_perm hj hi
    unfold sw
    rw [el_get i0 hi, el_get j0 hj]
    exact this.trans hp
  · have e : ints IntKind.i64 (sw l i j) = ((ints .i64 l).set j.toNat (.int .i64 (el l i))).set i.toNat (.int .i64 (el l j)) := by
      unfold ints sw
      rw [List.map_set, List.map_set]
    rw [e]; exact H2
variable (hC : CmpS E cmp s Z key l0) (hsm : s.len < 1099511627776)
include hC hsm
theorem insertionS_spec (hS : SO E s Z l0 l w) {a b : Int} (a0 : 0 <= a) (ab : a <= b) (b1 : b <= s.len) {K : World -> Prop} (hK : ∀ l' w', Mv a b l l' -> OrdF (kf key l') a b -> SO E s Z l0 l' w' -> K w') : F.slices_insertionSortCmpFunc_int_ E s a b cmp K w := by
  unfold F.slices_insertionSortCmpFunc_int_
  by_cases hab : a + 1 <= b
  · rw [i64_id (n := a + 1) (by omega) (by omega)]
    refine LOOP_intro (fun st w' => a + 1 <= st.1 /\ st.1 <= b /\ ∃ l1, Mv a b l l1 /\ OrdF (kf key l1) a st.1 /\ SO E s Z l0 l1 w') (fun st _ => (b - st.1).toNat) ⟨Int.le_refl _, hab, l, Mv.refl _ _ _, fun i j h1 h2 h3 => by dsimp only at h3; omega, hS⟩ ?_
    rintro ⟨i, u⟩ _ w2 ⟨h1, h2, l1, hM1, hO1, hS2⟩
    dsimp only at h1 h2 hO1 ⊢
    refine CND_dec (fun hlt => ?_) fun _ => hK l1 w2 hM1 (by rw [show b = i by omega]; exact hO1) hS2
    have hnx : ∀ l' w', Mv a b l l' -> OrdF (kf key l') a (i + 1) -> SO E s Z l0 l' w' -> (a + 1 <= i64 (i + 1) /\ i64 (i + 1) <= b /\ ∃ l1, Mv a b l l1 /\ OrdF (kf key l1) a (i64 (i + 1)) /\ SO E s Z l0 l1 w') /\ (b - i64 (i + 1)).toNat < (b - i).toNat := fun l' w' hM hO h => by
      rw [i64_id (n := i + 1) (by omega) (by omega)]
      exact ⟨⟨by omega, by omega, l', hM, hO, h⟩, by omega⟩
    refine LOOP_intro (fun st w' => a <= st.1 /\ st.1 <= i /\ ∃ l2, Mv a b l l2 /\ InsF (kf key l2) a i st.1 /\ SO E s Z l0 l2 w') (fun st _ => (st.1 - a).toNat) ⟨by show a <= i; omega, Int.le_refl _, l1, hM1, InsF.start hO1, hS2⟩ ?_
    rintro ⟨j, u⟩ _ w5 ⟨h3, h4, l2, hM2, hI2, hS5⟩
    dsimp only at h3 h4 hI2 ⊢
    have hl5 := hS5.len
    refine CND_dec (fun hgt => ?_) fun hge => hnx l2 _ hM2 (hI2.fin (.inl (by omega))) hS5.drew
    rw [i64_id (n := j - 1) (by omega) (by omega)]
    refine cmpS_two hC hS5 (by omega) (by omega) (by omega) (by omega) fun z w12 hz hS12 => CND_dec (fun hneg => ?_) fun hneg => hnx l2 _ hM2 (hI2.fin (.inr (by have := mt hz.2 hneg; omega))) hS12
    exact swapS_two hS12 (by omega) (by omega) (by omega) (by omega) fun w21 hS21 => ⟨⟨by show a <= j - 1; omega, by show j - 1 <= i; omega, _, hM2.trans (Mv.sw a0 (by omega) (by omega) (by omega) (by omega) (by omega)),
      by rw [kf_sw (by omega) (by omega) (by omega) (by omega)]; exact hI2.step hgt h4 (hz.1 hneg), hS21⟩, by show (j - 1 - a).toNat < (j - a).toNat; omega⟩
  · refine LOOP_intro (fun st w' => b <= st.1 /\ w' = w) (fun _ _ => 0) ⟨?_, rfl⟩ ?_
    · rw [i64_id (n := a + 1) (by omega) (by omega)]; omega
    · rintro ⟨i, u⟩ _ w2 ⟨h1, rfl⟩
      exact CND_dec (fun hlt => by dsimp only at h1 hlt; omega) fun _ => hK l _ (Mv.refl _ _ _) (fun i j h1 h2 h3 => by omega) hS
theorem siftDownS_spec (hS : SO E s Z l0 l w) {lo hi first : Int} (h0 : 0 <= lo) (f0 : 0 <= first) (hh : 0 <= hi) (h1 : first + hi <= s.len) (hH : HeapF (kf key l) first (lo + 1) hi) {K : World -> Prop}
    (hK : ∀ l' w', Mv (first + lo) (first + hi) l l' -> HeapF (kf key l') first lo hi -> SO E s Z l0 l' w' -> K w') (hlo : lo < 1099511627776) : F.slices_siftDownCmpFunc_int_ E s lo hi first cmp K w := by
  unfold F.slices_siftDownCmpFunc_int_
  refine LOOP_intro (fun st w' => lo <= st.1 /\ st.1 < 1099511627776 /\ ∃ l1, Mv (first + lo) (first + hi) l l1 /\ SiftF (kf key l1) first lo hi st.1 /\ SO E s Z l0 l1 w') (fun st _ => (1099511627776 - st.1).toNat) ⟨Int.le_refl _, hlo, l, Mv.refl _ _ _, SiftF.start h0 hH, hS⟩ ?_
  rintro ⟨root, u⟩ _ w2 ⟨r0, r1, l1, hM1, hF1, hS2⟩
  dsimp only at r0 r1 hF1 ⊢
  have hl2 := hS2.len
  refine LET_intro fun child hch => ?_
  rw [i64_id (n := 2 * root) (by omega) (by omega), i64_id (n := 2 * root + 1) (by omega) (by omega)] at hch
  refine CND_dec (fun hge => hK l1 w2 hM1 (hF1.fin fun d d1 d2 d3 => by omega) hS2) fun hlt => ?_
  refine JOIN_intro (fun st w' => root < st.1 /\ st.1 < hi /\ (st.1 - 1) / 2 = root /\ (∀ d, 1 <= d -> d < hi -> (d - 1) / 2 = root -> kf key l1 (first + d) <= kf key l1 (first + st.1)) /\ SO E s Z l0 l1 w') ?_ ?_
  · refine JOIN_in ?_
    rw [i64_id (n := child + 1) (by omega) (by omega)]
    refine CND_dec (fun hc2 => ?_) fun hc2 j => CND_f rfl ⟨by show root < child; omega, by show child < hi; omega, by show (child - 1) / 2 = root; omega, fun d d1 d2 d3 => by rw [show d = child by omega]; exact Int.le_refl _, hS2.drew⟩
    rw [i64_id (n := first + child) (by omega) (by omega), i64_id (n := first + child + 1) (by omega) (by omega)]
    refine cmpS_two hC hS2 (by omega) (by omega) (by omega) (by omega) fun z w16 hz hS16 j => CND_dec (fun hneg => ⟨by show root < child + 1; omega, by show child + 1 < hi; omega, by show (child + 1 - 1) / 2 = root; omega, fun d d1 d2 d3 => ?_, hS16⟩) fun hneg => ⟨by show root < child; omega, by show child < hi; omega, by show (child - 1) / 2 = root; omega, fun d d1 d2 d3 => ?_, hS16⟩
    · have hq := hz.1 hneg
      show _ <= kf key l1 (first + (child + 1))
      rw [show first + (child + 1) = first + child + 1 by omega]
      by_cases e : d = child
      · rw [e]; omega
      · rw [show first + d = first + child + 1 by omega]; exact Int.le_refl _
    · have hq := mt hz.2 hneg
      show _ <= kf key l1 (first + child)
      by_cases e : d = child
      · rw [e]; exact Int.le_refl _
      · rw [show first + d = first + child + 1 by omega]; omega
  · rintro ⟨c, u⟩ _ w7 ⟨c0, c1, c2, hm, hS7⟩
    dsimp only at c0 c1 c2 hm ⊢
    rw [i64_id (n := first + root) (by omega) (by omega), i64_id (n := first + c) (by omega) (by omega)]
    refine cmpS_two hC hS7 (by omega) (by omega) (by omega) (by omega) fun z w23 hz hS23 => CND_not (CND_dec (fun hneg => ?_) fun hneg => hK l1 w23 hM1 (hF1.fin fun d d1 d2 d3 => ?_) hS23)
    · have hl := hS23.len
      exact swapS_two hS23 (by omega) (by omega) (by omega) (by omega) fun w32 hS32 => ⟨⟨by show lo <= c; omega, by show c < _; omega, _, hM1.trans (Mv.sw (by omega) (by omega) (by omega) (by omega) (by omega) (by omega)),
        by rw [kf_sw (by omega) (by omega) (by omega) (by omega), swf_comm]; exact hF1.step h0 r0 (by omega) c1 c2 hm (hz.1 hneg), hS32⟩, by show (1099511627776 - c).toNat < (1099511627776 - root).toNat; omega⟩
    · have := mt hz.2 hneg
      have := hm d d1 d2 d3
      omega
end
end Go.Sh

set_option linter.all false
set_option maxRecDepth 8000
set_option maxHeartbeats 4000000
namespace Go.Sh
section
variable {E : Env} {cmp : Value} {s : SlV} {Z : List Pr} {key : Int -> Int} {l0 l : List Int} {w : World}
theorem Mv.below {key : Int -> Int} {a b v : Int} {l l' : List Int} (h : Mv a b l l') (g : ∀ i, a <= i -> i < b -> kf key l i <= v) : ∀ i, a <= i -> i < b -> kf key l' i <= v := h.inn (fun x => key x <= v) g
theorem Mv.above {key : Int -> Int} {a b v : Int} {l l' : List Int} (h : Mv a b l l') (g : ∀ i, a <= i -> i < b -> v <= kf key l i) : ∀ i, a <= i -> i < b -> v <= kf key l' i := h.inn (fun x => v <= key x) g
theorem Mv.same {key : Int -> Int} {a b i : Int} {l l' : List Int} (h : Mv a b l l') (hi : i < a ∨ b <= i) : kf key l' i = kf key l i := by unfold kf; rw [h.out i hi]
structure HpF (k : Int -> Int) (a m b : Int) : Prop where
  hp : HeapF k a 0 (m - a)
  so : OrdF k m b
  up : ∀ p q, a <= p -> p < m -> m <= q -> q < b -> k p <= k q
theorem HpF.top {k : Int -> Int} {a m b : Int} (h : HpF k a m b) {p : Int} (h0 : a <= p) (h1 : p < m) : k p <= k a := by
  have := h.hp.max (p - a).toNat (p - a) (Nat.le_refl _) (by omega) (by omega)
  rwa [show a + (p - a) = p by omega] at this
theorem HpF.cut {k : Int -> Int} {a m b : Int} (h : HpF k a m b) (ham : a < m) : HeapF (swf k a (m - 1)) a 1 (m - 1 - a) /\ OrdF (swf k a (m - 1)) (m - 1) b /\ ∀ p q, a <= p -> p < m - 1 -> m - 1 <= q -> q < b -> swf k a (m - 1) p <= swf k a (m - 1) q := by
  have low : ∀ p, a <= p -> p < m -> swf k a (m - 1) p <= k a := fun p h0 h1 => by
    by_cases e : p = a
    · rw [e, swf_l]; exact h.top (by omega) (by omega)
    · by_cases g : p = m - 1
      · rw [g, swf_r]; exact Int.le_refl _
      · rw [swf_o e g]; exact h.top h0 h1
  have lup : ∀ p q, a <= p -> p < m -> m <= q -> q < b -> swf k a (m - 1) p <= swf k a (m - 1) q := fun p q h0 h1 h2 h3 => by
    rw [swf_o (q := q) (by omega) (by omega)]
    have := low p h0 h1
    have := h.up a q (Int.le_refl _) ham h2 h3
    omega
  refine ⟨fun c c1 c2 c3 => ?_, fun p q h0 h1 h2 => ?_, fun p q h0 h1 h2 h3 => ?_⟩
  · rw [swf_o (by omega) (by omega), swf_o (by omega) (by omega)]
    exact h.hp c c1 (by omega) (by omega)
  · by_cases e : p = m - 1
    · rw [e, swf_r]
      rw [swf_o (by omega) (by omega)]
      exact h.up a q (Int.le_refl _) ham (by omega) h2
    · rw [swf_o (by omega) e, swf_o (by omega) (by omega)]
      exact h.so p q (by omega) h1 h2
  · by_cases e : q = m - 1
    · rw [e, swf_r]; exact low p h0 (by omega)
    · exact lup p q h0 (by omega) (by omega) h3
def Mid (k : Int -> Int) (a x y b : Int) : Prop := ∀ i j, a <= i -> i < j -> j < b -> (i < x ∨ y <= j) -> k i <= k j
theorem Mid.mv {a x y b : Int} {l l' : List Int} (h : Mid (kf key l) a x y b) (g : Mv x y l l') (hy : y <= b) (hx : a <= x) : Mid (kf key l') a x y b := fun i j h0 h1 h2 h3 => by
  by_cases e : i < x
  · rw [g.same (i := i) (.inl e)]
    by_cases ej : x <= j /\ j < y
    · exact g.above (key := key) (v := kf key l i) (fun q q0 q1 => h i q h0 (by omega) (by omega) (.inl e)) j ej.1 ej.2
    · rw [g.same (i := j) (by omega)]; exact h i j h0 h1 h2 (.inl e)
  · have ej : y <= j := by omega
    rw [g.same (i := j) (.inr ej)]
    by_cases ei : i < y
    · exact g.below (key := key) (v := kf key l j) (fun q q0 q1 => h q j (by omega) (by omega) h2 (.inr ej)) i (by omega) ei
    · rw [g.same (i := i) (by omega)]; exact h i j h0 h1 h2 (.inr ej)
theorem Mid.fin {k : Int -> Int} {a x y b : Int} (h : Mid k a x y b) (g : OrdF k x y) : OrdF k a b := fun i j h0 h1 h2 => by
  by_cases e : i < x ∨ y <= j
  · exact h i j h0 h1 h2 e
  · exact g i j (by omega) h1 (by omega)
theorem Mid.left {k : Int -> Int} {a x y b r : Int} (h : Mid k a x y b) (hx : x <= r) (hr : r < y) (h1 : OrdF k x r) (h2 : ∀ i, x <= i -> i < r -> k i <= k r) (h3 : ∀ i, r < i -> i < y -> k r <= k i) : Mid k a (r + 1) y b := fun i j i0 ij jb hij => by
  by_cases e : i < x ∨ y <= j
  · exact h i j i0 ij jb e
  · by_cases e1 : j < r
    · exact h1 i j (by omega) ij e1
    · by_cases e2 : i = r
      · rw [e2]; exact h3 j (by omega) (by omega)
      · have q1 := h2 i (by omega) (by omega)
        by_cases e3 : j = r
        · rw [e3]; exact q1
        · have := h3 j (by omega) (by omega); omega
theorem Mid.right {k : Int -> Int} {a x y b r : Int} (h : Mid k a x y b) (hx : x <= r) (hr : r < y) (h1 : OrdF k (r + 1) y) (h2 : ∀ i, x <= i -> i < r -> k i <= k r) (h3 : ∀ i, r < i -> i < y -> k r <= k i) : Mid k a x r b := fun i j i0 ij jb hij => by
  by_cases e : i < x ∨ y <= j
  · exact h i j i0 ij jb e
  · by_cases e1 : r < i
    · exact h1 i j (by omega) ij (by omega)
    · by_cases e2 : i = r
      · rw [e2]; exact h3 j (by omega) (by omega)
      · have q1 := h2 i (by omega) (by omega)
        by_cases e3 : j = r
        · rw [e3]; exact q1
        · have := h3 j (by omega) (by omega); omega
variable (hC : CmpS E cmp s Z key l0) (hsm : s.len < 1099511627776)
include hC hsm
theorem heapSortS_spec (hS : SO E s Z l0 l w) {a b : Int} (a0 : 0 <= a) (ab : a < b) (b1 : b <= s.len) {K : World -> Prop} (hK : ∀ l' w', Mv a b l l' -> OrdF (kf key l') a b -> SO E s Z l0 l' w' -> K w') : F.slices_heapSortCmpFunc_int_ E s a b cmp K w := by
  unfold F.slices_heapSortCmpFunc_int_ T0.slices_heapSortCmpFunc_int_
  rw [i64_id (n := b - a) (by omega) (by omega), i64_id (n := b - a - 1) (by omega) (by omega), Int.tdiv_eq_ediv_of_nonneg (by omega), i64_id (n := (b - a - 1) / 2) (by omega) (by omega)]
  refine ⟨by decide, LET_intro fun i hi => ?_⟩
  refine LOOP_intro (fun st w' => -1 <= st.1 /\ st.1 < b - a /\ ∃ l1, Mv a b l l1 /\ HeapF (kf key l1) a (st.1 + 1) (b - a) /\ SO E s Z l0 l1 w') (fun st _ => (st.1 + 1).toNat) ⟨by show -1 <= i; omega, by show i < b - a; omega, l, Mv.refl _ _ _, fun c c1 c2 c3 => by dsimp only at c3; omega, hS⟩ ?_
  rintro ⟨k, u⟩ _ w3 ⟨k0, k1, l1, hM1, hH1, hS3⟩
  dsimp only at k0 k1 hH1 ⊢
  refine CND_dec (fun hge => ?_) fun hlt => ?_
  · refine siftDownS_spec hC hsm hS3 hge a0 (by omega) (by omega) hH1 (fun l2 w5 hM2 hH2 hS5 => ?_) (by omega)
    rw [i64_id (n := k - 1) (by omega) (by omega)]
    exact ⟨⟨by show -1 <= k - 1; omega, by show k - 1 < b - a; omega, l2, hM1.trans (hM2.wide (by omega) (by omega)), by show HeapF _ a (k - 1 + 1) (b - a); rw [show k - 1 + 1 = k by omega]; exact hH2, hS5⟩, by show (k - 1 + 1).toNat < (k + 1).toNat; omega⟩
  · have hk : k = -1 := by omega
    rw [hk] at hH1
    refine LET_intro fun i2 hi2 => ?_
    refine LOOP_intro (fun st w' => -1 <= st.1 /\ st.1 < b - a /\ ∃ l1, Mv a b l l1 /\ HpF (kf key l1) a (a + st.1 + 1) b /\ SO E s Z l0 l1 w') (fun st _ => (st.1 + 1).toNat) ⟨by show -1 <= i2; omega, by show i2 < b - a; omega, l1, hM1, ?_, hS3⟩ ?_
    · refine ⟨?_, fun p q h1 h2 h3 => ?_, fun p q h0 h1 h2 h3 => ?_⟩
      · dsimp only
        rw [show a + i2 + 1 - a = b - a by omega]; exact hH1
      · dsimp only at h1; omega
      · dsimp only at h2; omega
    rintro ⟨k, u⟩ _ w8 ⟨k0, k1, l2, hM2, hF2, hS8⟩
    dsimp only at k0 k1 hF2 ⊢
    have hl8 := hS8.len
    refine CND_dec (fun hge => ?_) fun hlt => hK l2 w8 hM2 (by have := hF2.so; rwa [show a + k + 1 = a by omega] at this) hS8
    rw [i64_id (n := a + k) (by omega) (by omega)]
    refine swapS_two hS8 (by omega) (by omega) (by omega) (by omega) fun w17 hS17 => ?_
    obtain ⟨c1, c2, c3⟩ := hF2.cut (by omega)
    rw [show a + k + 1 - 1 = a + k by omega] at c1 c2 c3
    rw [swf_comm, <- kf_sw (l := l2) (key := key) (i := a + k) (j := a) (by omega) (by omega) (by omega) (by omega)] at c1 c2 c3
    refine siftDownS_spec hC hsm hS17 (Int.le_refl 0) a0 hge (by omega) (by rw [show a + k - a = k by omega] at c1; exact c1) (fun l3 w18 hM3 hH3 hS18 => ?_) (by decide)
    rw [i64_id (n := k - 1) (by omega) (by omega)]
    rw [Int.add_zero] at hM3
    refine ⟨⟨by show -1 <= k - 1; omega, by show k - 1 < b - a; omega, l3, (hM2.trans (Mv.sw a0 (by omega) (by omega) (by omega) (by omega) (by omega))).trans (hM3.wide (by omega) (by omega)), ?_, hS18⟩, by show (k - 1 + 1).toNat < (k + 1).toNat; omega⟩
    show HpF _ a (a + (k - 1) + 1) b
    rw [show a + (k - 1) + 1 = a + k by omega]
    refine ⟨by rw [show a + k - a = k by omega]; exact hH3, fun p q h0 h1 h2 => ?_, fun p q h0 h1 h2 h3 => ?_⟩
    · rw [hM3.same (.inr (by omega)), hM3.same (.inr (by omega))]; exact c2 p q h0 h1 h2
    · rw [hM3.same (i := q) (.inr (by omega))]
      exact hM3.below (key := key) (fun i i0 i1 => c3 i q i0 i1 h2 h3) p h0 h1
theorem reverseS_spec (hS : SO E s Z l0 l w) {a b : Int} (a0 : 0 <= a) (ab : a < b) (b1 : b <= s.len) {K : World -> Prop} (hK : ∀ l' w', Mv a b l l' -> SO E s Z l0 l' w' -> K w') : F.slices_reverseRangeCmpFunc_int_ E s a b cmp K w := by
  unfold F.slices_reverseRangeCmpFunc_int_
  rw [i64_id (n := b - 1) (by omega) (by omega)]
  refine LOOP_intro (fun st w' => a <= st.1 /\ st.2.1 < b /\ a <= st.2.1 + 1 /\ st.1 <= b /\ ∃ l1, Mv a b l l1 /\ SO E s Z l0 l1 w') (fun st _ => (st.2.1 - st.1).toNat) ⟨Int.le_refl _, by show b - 1 < b; omega, by show a <= b - 1 + 1; omega, by show a <= b; omega, l, Mv.refl _ _ _, hS⟩ ?_
  rintro ⟨i, j, u⟩ _ w2 ⟨i0, j1, j0, i1, l1, hM1, hS2⟩
  dsimp only at i0 j1 j0 i1 ⊢
  refine CND_dec (fun hlt => ?_) fun _ => hK l1 w2 hM1 hS2
  have hl := hS2.len
  rw [i64_id (n := i + 1) (by omega) (by omega), i64_id (n := j - 1) (by omega) (by omega)]
  exact swapS_two hS2 (by omega) (by omega) (by omega) (by omega) fun w11 hS11 => ⟨⟨by show a <= i + 1; omega, by show j - 1 < b; omega, by show a <= j - 1 + 1; omega, by show i + 1 <= b; omega, _, hM1.trans (Mv.sw a0 (by omega) (by omega) (by omega) (by omega) (by omega)), hS11⟩, by show (j - 1 - (i + 1)).toNat < (j - i).toNat; omega⟩
theorem partialInsertionS_spec (hS : SO E s Z l0 l w) {a b : Int} (a0 : 0 <= a) (ab : a < b) (b1 : b <= s.len) (hlow : 0 < a -> ∀ i, a <= i -> i < b -> kf key l (a - 1) <= kf key l i) {K : Bool -> World -> Prop}
    (hK : ∀ r l' w', Mv a b l l' -> (r = true -> OrdF (kf key l') a b) -> SO E s Z l0 l' w' -> K r w') : F.slices_partialInsertionSortCmpFunc_int_ E s a b cmp K w := by
  unfold F.slices_partialInsertionSortCmpFunc_int_
  rw [i64_id (n := a + 1) (by omega) (by omega)]
  refine LOOP_intro (fun st w' => a + 1 <= st.1 /\ st.1 <= b /\ 0 <= st.2.1 /\ st.2.1 <= 5 /\ ∃ l1, Mv a b l l1 /\ OrdF (kf key l1) a st.1 /\ SO E s Z l0 l1 w') (fun st _ => (5 - st.2.1).toNat) ⟨Int.le_refl _, by show a + 1 <= b; omega, Int.le_refl 0, by show (0 : Int) <= 5; decide, l, Mv.refl _ _ _, fun i j h1 h2 h3 => by dsimp only at h3; omega, hS⟩ ?_
  rintro ⟨i, n, u⟩ _ w2 ⟨i0, i1, n0, n1, l1, hM1, hO1, hS2⟩
  dsimp only at i0 i1 n0 n1 hO1 ⊢
  have hf : ∀ l' w', Mv a b l l' -> SO E s Z l0 l' w' -> K false w' := fun l' w' hM h => hK false l' w' hM (fun e => by cases e) h
  refine CND_dec (fun hn => ?_) fun _ => hf l1 w2 hM1 hS2
  refine JOIN_intro (fun st w' => i <= st.1 /\ st.1 <= b /\ OrdF (kf key l1) a st.1 /\ SO E s Z l0 l1 w') ?_ ?_
  · refine LOOP_intro (fun st w' => i <= st.1 /\ st.1 <= b /\ OrdF (kf key l1) a st.1 /\ SO E s Z l0 l1 w') (fun st _ => (b - st.1).toNat) ⟨Int.le_refl _, i1, hO1, hS2⟩ ?_
    rintro ⟨k, u⟩ _ w8 ⟨k0, k1, hO2, hS8⟩
    dsimp only at k0 k1 hO2 ⊢
    refine CND_dec (fun hlt => ?_) fun _ => ⟨k0, k1, hO2, hS8.drew⟩
    rw [i64_id (n := k - 1) (by omega) (by omega), i64_id (n := k + 1) (by omega) (by omega)]
    refine cmpS_two hC hS8 (by omega) (by omega) (by omega) (by omega) fun z w15 hz hS15 => CND_not (CND_dec (fun _ => ⟨k0, k1, hO2, hS15⟩) fun hneg => ⟨⟨by show i <= k + 1; omega, by show k + 1 <= b; omega, fun p q h0 h1 h2 => ?_, hS15⟩, by show (b - (k + 1)).toNat < (b - k).toNat; omega⟩)
    try dsimp only at h2
    have hle := mt hz.2 hneg
    by_cases e : q = k
    · rw [e]
      by_cases g : p = k - 1
      · rw [g]; omega
      · have := hO2 p (k - 1) h0 (by omega) (by omega); omega
    · exact hO2 p q h0 h1 (by omega)
  rintro ⟨k, u⟩ _ w6 ⟨k0, k1, hO2, hS6⟩
  dsimp only at k0 k1 hO2 ⊢
  have hl6 := hS6.len
  refine CND_eq (fun e => hK true l1 w6 hM1 (fun _ => by rw [<- e]; exact hO2) hS6) fun hne => ?_
  rw [i64_id (n := b - a) (by omega) (by omega)]
  refine CND_dec (fun _ => hf l1 w6 hM1 hS6) fun _ => ?_
  rw [i64_id (n := k - 1) (by omega) (by omega), i64_id (n := k - a) (by omega) (by omega), i64_id (n := b - k) (by omega) (by omega), i64_id (n := k + 1) (by omega) (by omega), i64_id (n := n + 1) (by omega) (by omega)]
  have hnx : ∀ l' w', Mv a b l l' -> OrdF (kf key l') a k -> SO E s Z l0 l' w' -> (a + 1 <= k /\ k <= b /\ 0 <= n + 1 /\ n + 1 <= 5 /\ ∃ l1, Mv a b l l1 /\ OrdF (kf key l1) a k /\ SO E s Z l0 l1 w') /\ (5 - (n + 1)).toNat < (5 - n).toNat := fun l' w' hM hO h => ⟨⟨by omega, by omega, by omega, by omega, l', hM, hO, h⟩, by omega⟩
  have lowM : ∀ l', Mv a b l l' -> 0 < a -> kf key l' (a - 1) <= kf key l' a := fun l' hM ha => by
    rw [hM.same (i := a - 1) (.inl (by omega))]
    exact hM.above (key := key) (hlow ha) a (Int.le_refl _) ab
  refine swapS_two hS6 (by omega) (by omega) (by omega) (by omega) fun w24 hS24 => ?_
  have hS24' : ∃ l2, Mv a b l l2 /\ InsF (kf key l2) a (k - 1) (k - 1) /\ SO E s Z l0 l2 w24 := by
    refine ⟨_, hM1.trans (Mv.sw a0 (by omega) (by omega) (by omega) (by omega) (by omega)), ⟨fun p q h0 h1 h2 h3 h4 => ?_, fun q h0 h1 => by omega⟩, hS24⟩
    rw [kf_sw (by omega) (by omega) (by omega) (by omega), swf_o (by omega) (by omega), swf_o (by omega) (by omega)]
    exact hO2 p q h0 h1 (by omega)
  clear hS24
  obtain ⟨l2, hM2, hI2, hS24⟩ := hS24'
  refine JOIN_intro (fun _ w' => ∃ l3, Mv a b l l3 /\ OrdF (kf key l3) a k /\ SO E s Z l0 l3 w') ?_ ?_
  · refine CND_dec (fun hk2 => ?_) fun hk2 => ⟨l2, hM2, fun p q h0 h1 h2 => by omega, hS24⟩
    refine LOOP_intro (fun st w' => a <= st.1 /\ st.1 <= k - 1 /\ ∃ l3, Mv a b l l3 /\ InsF (kf key l3) a (k - 1) st.1 /\ SO E s Z l0 l3 w') (fun st _ => st.1.toNat) ⟨by show a <= k - 1; omega, Int.le_refl _, l2, hM2, hI2, hS24⟩ ?_
    rintro ⟨j, u⟩ _ w29 ⟨j0, j1, l3, hM3, hI3, hS29⟩
    dsimp only at j0 j1 hI3 ⊢
    have hl := hS29.len
    have fin : ∀ {w'}, (j = a ∨ kf key l3 (j - 1) <= kf key l3 j) -> SO E s Z l0 l3 w' -> ∃ l3, Mv a b l l3 /\ OrdF (kf key l3) a k /\ SO E s Z l0 l3 w' := fun hj h => ⟨l3, hM3, by have := hI3.fin hj; rwa [show k - 1 + 1 = k by omega] at this, h⟩
    refine CND_dec (fun hge => ?_) fun hlt => fin (.inl (by omega)) hS29
    rw [i64_id (n := j - 1) (by omega) (by omega)]
    refine cmpS_two hC hS29 (by omega) (by omega) (by omega) (by omega) fun z w36 hz hS36 => CND_not (CND_dec (fun hneg => ?_) fun hneg => fin (.inr (by have := mt hz.2 hneg; omega)) hS36)
    have hlt := hz.1 hneg
    have hja : a < j := by
      rcases Int.lt_or_eq_of_le j0 with h | h
      · exact h
      · subst h
        have := lowM l3 hM3 (by omega)
        omega
    exact swapS_two hS36 (by omega) (by omega) (by omega) (by omega) fun w45 hS45 => ⟨⟨by show a <= j - 1; omega, by show j - 1 <= k - 1; omega, _, hM3.trans (Mv.sw a0 (by omega) (by omega) (by omega) (by omega) (by omega)),
      by rw [kf_sw (by omega) (by omega) (by omega) (by omega)]; exact hI3.step hja j1 hlt, hS45⟩, by show (j - 1).toNat < j.toNat; omega⟩
  · rintro _ _ w27 ⟨l3, hM3, hO3, hS27⟩
    refine CND_dec (fun _ => ?_) fun _ => hnx l3 w27 hM3 hO3 hS27
    refine LOOP_intro (fun st w' => k + 1 <= st.1 /\ st.1 <= b /\ ∃ l4, Mv a b l l4 /\ OrdF (kf key l4) a k /\ SO E s Z l0 l4 w') (fun st _ => (b - st.1).toNat) ⟨Int.le_refl _, by show k + 1 <= b; omega, l3, hM3, hO3, hS27⟩ ?_
    rintro ⟨j, u⟩ _ w47 ⟨j0, j1, l4, hM4, hO4, hS47⟩
    dsimp only at j0 j1 ⊢
    have hl := hS47.len
    refine CND_dec (fun hlt => ?_) fun _ => hnx l4 _ hM4 hO4 hS47
    rw [i64_id (n := j - 1) (by omega) (by omega), i64_id (n := j + 1) (by omega) (by omega)]
    refine cmpS_two hC hS47 (by omega) (by omega) (by omega) (by omega) fun z w54 hz hS54 => CND_not (CND_dec (fun _ => ?_) fun _ => hnx l4 _ hM4 hO4 hS54)
    exact swapS_two hS54 (by omega) (by omega) (by omega) (by omega) fun w63 hS63 => ⟨⟨by show k + 1 <= j + 1; omega, by show j + 1 <= b; omega, _, hM4.trans (Mv.sw a0 (by omega) (by omega) (by omega) (by omega) (by omega)), fun p q h0 h1 h2 => by
      rw [kf_sw (by omega) (by omega) (by omega) (by omega), swf_o (by omega) (by omega), swf_o (by omega) (by omega)]; exact hO4 p q h0 h1 h2, hS63⟩, by show (b - (j + 1)).toNat < (b - j).toNat; omega⟩
end
end Go.Sh

set_option linter.all false
set_option maxRecDepth 8000
set_option maxHeartbeats 4000000
namespace Go.Sh
structure Part (k : Int -> Int) (a i j b : Int) : Prop where
  lo : ∀ q, a < q -> q < i -> k q <= k a
  hi : ∀ q, j < q -> q < b -> k a <= k q
section
variable {E : Env} {cmp : Value} {s : SlV} {Z : List Pr} {key : Int -> Int} {l0 l : List Int} {w : World}
theorem Part.left {k : Int -> Int} {a i j b : Int} (h : Part k a i j b) (g : k i <= k a) : Part k a (i + 1) j b := ⟨fun q h0 h1 => by
  by_cases e : q = i
  · rw [e]; exact g
  · exact h.lo q h0 (by omega), h.hi⟩
theorem Part.right {k : Int -> Int} {a i j b : Int} (h : Part k a i j b) (g : k a <= k j) : Part k a i (j - 1) b := ⟨h.lo, fun q h0 h1 => by
  by_cases e : q = j
  · rw [e]; exact g
  · exact h.hi q (by omega) h1⟩
theorem Part.swap {k : Int -> Int} {a i j b : Int} (h : Part k a i j b) (ai : a < i) (ij : i < j) (h1 : k a <= k i) (h2 : k j <= k a) : Part (swf k i j) a (i + 1) (j - 1) b := ⟨fun q q0 q1 => by
  rw [swf_o (q := a) (by omega) (by omega)]
  by_cases e : q = i
  · rw [e, swf_l]; exact h2
  · rw [swf_o e (by omega)]; exact h.lo q q0 (by omega), fun q q0 q1 => by
  rw [swf_o (q := a) (by omega) (by omega)]
  by_cases e : q = j
  · rw [e, swf_r]; exact h1
  · rw [swf_o (by omega) e]; exact h.hi q (by omega) q1⟩
theorem Part.fin {k : Int -> Int} {a j b : Int} (h : Part k a (j + 1) j b) (aj : a <= j) : (∀ q, a <= q -> q < j -> swf k j a q <= swf k j a j) /\ ∀ q, j < q -> q < b -> swf k j a j <= swf k j a q := by
  refine ⟨fun q q0 q1 => ?_, fun q q0 q1 => ?_⟩
  · rw [swf_l]
    by_cases e : q = a
    · rw [e, swf_r]; exact h.lo j (by omega) (by omega)
    · rw [swf_o (by omega) e]; exact h.lo q (by omega) (by omega)
  · rw [swf_l, swf_o (by omega) (by omega)]; exact h.hi q q0 q1
section
variable (hC : CmpS E cmp s Z key l0) (hsm : s.len < 1099511627776)
include hC hsm
theorem partitionS_spec (hS : SO E s Z l0 l w) {a b p : Int} (a0 : 0 <= a) (ab : a < b) (b1 : b <= s.len) (p0 : a <= p) (p1 : p < b) {K : Int -> Bool -> World -> Prop}
    (hK : ∀ r t l' w', a <= r -> r < b -> Mv a b l l' -> (∀ q, a <= q -> q < r -> kf key l' q <= kf key l' r) -> (∀ q, r < q -> q < b -> kf key l' r <= kf key l' q) -> SO E s Z l0 l' w' -> K r t w') : F.slices_partitionCmpFunc_int_ E s a b p cmp K w := by
  unfold F.slices_partitionCmpFunc_int_
  refine swapS_two hS (by omega) (by omega) (by omega) (by omega) fun w8 hS8 => ?_
  have hS8' : ∃ l1, Mv a b l l1 /\ SO E s Z l0 l1 w8 := ⟨_, by have := hS.len; exact Mv.sw a0 (by omega) (by omega) (by omega) (by omega) (by omega), hS8⟩
  clear hS8
  obtain ⟨l1, hM1, hS8⟩ := hS8'
  rw [i64_id (n := a + 1) (by omega) (by omega), i64_id (n := b - 1) (by omega) (by omega)]
  have left : ∀ (l1 : List Int) (i j : Int) (w10 : World) (J : Int × Unit -> World -> Prop), a + 1 <= i -> i <= j + 1 -> a <= j -> j < b -> Part (kf key l1) a i j b -> SO E s Z l0 l1 w10 -> (∀ k w', i <= k -> k <= j + 1 -> Part (kf key l1) a k j b -> (k <= j -> kf key l1 a <= kf key l1 k) -> SO E s Z l0 l1 w' -> J (k, ()) w') ->
      LOOP (Int × Unit) (i, ()) w10 fun s12 _ w13 next14 =>
      CND (decide ((s12.1 : Int) <= j)) (
        NC s.base fun p15 =>
        ((0 : Int) <= s12.1 /\ (s12.1 : Int) < (s.len : Nat)) /\
        ∃ x16 : Int, w13.drew.cell? (p15.add (Int.toNat s12.1 * 1)) = some (.int .i64 x16) /\
        NC s.base fun p17 =>
        ((0 : Int) <= a /\ (a : Int) < (s.len : Nat)) /\
        ∃ x18 : Int, w13.drew.cell? (p17.add (Int.toNat a * 1)) = some (.int .i64 x18) /\
        DYN E.call cmp #[.int .i64 x16, .int .i64 x18] w13.drew fun r19 w20 =>
        ∃ x21 : Int, r19 = .int .i64 x21 /\
        CND (decide ((x21 : Int) < 0)) (
          next14 (i64 (s12.1 + 1), ()) w20
        ) (
          J (s12.1, ()) w20
        )
      ) (
        J (s12.1, ()) w13.drew
      ) := by
    intro l1 i j w10 J i0 i1 j0 j1 hP hS10 hJ
    refine LOOP_intro (fun st w' => i <= st.1 /\ st.1 <= j + 1 /\ Part (kf key l1) a st.1 j b /\ SO E s Z l0 l1 w') (fun st _ => (b - st.1).toNat) ⟨Int.le_refl _, i1, hP, hS10⟩ ?_
    rintro ⟨k, u⟩ _ w16 ⟨k0, k1, hP1, hS16⟩
    dsimp only at k0 k1 hP1 ⊢
    refine CND_dec (fun hle => ?_) fun hgt => hJ k _ k0 k1 hP1 (fun h => absurd h hgt) hS16.drew
    rw [i64_id (n := k + 1) (by omega) (by omega)]
    exact cmpS_two hC hS16 (by omega) (by omega) (by omega) (by omega) fun z w23 hz hS23 => CND_dec (fun hneg => ⟨⟨by show i <= k + 1; omega, by show k + 1 <= j + 1; omega, hP1.left (by have := hz.1 hneg; omega), hS23⟩, by show (b - (k + 1)).toNat < (b - k).toNat; omega⟩) fun hneg => hJ k _ k0 k1 hP1 (fun _ => by have := mt hz.2 hneg; omega) hS23
  have left2 : ∀ (l1 : List Int) (i j : Int) (w10 : World) (J : Int × Unit -> World -> Prop), a + 1 <= i -> i <= j + 1 -> a <= j -> j < b -> Part (kf key l1) a i j b -> SO E s Z l0 l1 w10 -> (∀ k w', i <= k -> k <= j + 1 -> Part (kf key l1) a k j b -> (k <= j -> kf key l1 a <= kf key l1 k) -> SO E s Z l0 l1 w' -> J (k, ()) w') ->
      LOOP (Int × Int × Unit) (i, j, ()) w10 fun s12 _ w13 next14 =>
      CND (decide ((s12.1 : Int) <= s12.2.1)) (
        NC s.base fun p15 =>
        ((0 : Int) <= s12.1 /\ (s12.1 : Int) < (s.len : Nat)) /\
        ∃ x16 : Int, w13.drew.cell? (p15.add (Int.toNat s12.1 * 1)) = some (.int .i64 x16) /\
        NC s.base fun p17 =>
        ((0 : Int) <= a /\ (a : Int) < (s.len : Nat)) /\
        ∃ x18 : Int, w13.drew.cell? (p17.add (Int.toNat a * 1)) = some (.int .i64 x18) /\
        DYN E.call cmp #[.int .i64 x16, .int .i64 x18] w13.drew fun r19 w20 =>
        ∃ x21 : Int, r19 = .int .i64 x21 /\
        CND (decide ((x21 : Int) < 0)) (
          next14 (i64 (s12.1 + 1), s12.2.1, ()) w20
        ) (
          J (s12.1, ()) w20
        )
      ) (
        J (s12.1, ()) w13.drew
      ) := by
    intro l1 i j w10 J i0 i1 j0 j1 hP hS10 hJ
    refine LOOP_intro (fun st w' => i <= st.1 /\ st.1 <= j + 1 /\ st.2.1 = j /\ Part (kf key l1) a st.1 j b /\ SO E s Z l0 l1 w') (fun st _ => (b - st.1).toNat) ⟨Int.le_refl _, i1, rfl, hP, hS10⟩ ?_
    rintro ⟨k, jj, u⟩ _ w16 ⟨k0, k1, hjj, hP1, hS16⟩
    dsimp only at k0 k1 hjj hP1 ⊢
    have hjj' := hjj.symm
    subst hjj'
    refine CND_dec (fun hle => ?_) fun hgt => hJ k _ k0 k1 hP1 (fun h => absurd h hgt) hS16.drew
    rw [i64_id (n := k + 1) (by omega) (by omega)]
    exact cmpS_two hC hS16 (by omega) (by omega) (by omega) (by omega) fun z w23 hz hS23 => CND_dec (fun hneg => ⟨⟨by show i <= k + 1; omega, by show k + 1 <= j + 1; omega, rfl, hP1.left (by have := hz.1 hneg; omega), hS23⟩, by show (b - (k + 1)).toNat < (b - k).toNat; omega⟩) fun hneg => hJ k _ k0 k1 hP1 (fun _ => by have := mt hz.2 hneg; omega) hS23
  have right : ∀ (l1 : List Int) (i2 j : Int) (w14 : World) (J : Int × Unit -> World -> Prop), a + 1 <= i2 -> i2 <= j + 1 -> a <= j -> j < b -> Part (kf key l1) a i2 j b -> SO E s Z l0 l1 w14 -> (∀ k w', k <= j -> i2 - 1 <= k -> Part (kf key l1) a i2 k b -> (i2 <= k -> kf key l1 k <= kf key l1 a /\ kf key l1 k ≠ kf key l1 a) -> SO E s Z l0 l1 w' -> J (k, ()) w') ->
      LOOP (Int × Unit) (j, ()) w14 fun s25 _ w26 next27 =>
        CND (decide ((i2 : Int) <= s25.1)) (
          NC s.base fun p28 =>
          ((0 : Int) <= s25.1 /\ (s25.1 : Int) < (s.len : Nat)) /\
          ∃ x29 : Int, w26.drew.cell? (p28.add (Int.toNat s25.1 * 1)) = some (.int .i64 x29) /\
          NC s.base fun p30 =>
          ((0 : Int) <= a /\ (a : Int) < (s.len : Nat)) /\
          ∃ x31 : Int, w26.drew.cell? (p30.add (Int.toNat a * 1)) = some (.int .i64 x31) /\
          DYN E.call cmp #[.int .i64 x29, .int .i64 x31] w26.drew fun r32 w33 =>
          ∃ x34 : Int, r32 = .int .i64 x34 /\
          CND (!(decide ((x34 : Int) < 0))) (
            next27 (i64 (s25.1 - 1), ()) w33
          ) (
            J (s25.1, ()) w33
          )
        ) (
          J (s25.1, ()) w26.drew
        ) := by
    intro l1 i2 j w14 J i0 i1 j0 j1 hP hS14 hJ
    refine LOOP_intro (fun st w' => st.1 <= j /\ i2 - 1 <= st.1 /\ Part (kf key l1) a i2 st.1 b /\ SO E s Z l0 l1 w') (fun st _ => (st.1 + 1).toNat) ⟨Int.le_refl _, by show i2 - 1 <= j; omega, hP, hS14⟩ ?_
    rintro ⟨k, u⟩ _ w29 ⟨m0, m1, hP1, hS29⟩
    dsimp only at m0 m1 hP1 ⊢
    refine CND_dec (fun hle => ?_) fun hgt => hJ k _ m0 m1 hP1 (fun h => absurd h hgt) hS29.drew
    rw [i64_id (n := k - 1) (by omega) (by omega)]
    exact cmpS_two hC hS29 (by omega) (by omega) (by omega) (by omega) fun z w36 hz hS36 => CND_not (CND_dec (fun hneg => hJ k _ m0 m1 hP1 (fun _ => by have := hz.1 hneg; omega) hS36) fun hneg => ⟨⟨by show k - 1 <= j; omega, by show i2 - 1 <= k - 1; omega, hP1.right (by have := mt hz.2 hneg; omega), hS36⟩, by show (k - 1 + 1).toNat < (k + 1).toNat; omega⟩)
  have done : ∀ (l2 : List Int) (i j : Int) (w24 : World) (t : Bool) (R : World -> Prop), Mv a b l l2 -> i = j + 1 -> a <= j -> j < b -> Part (kf key l2) a i j b -> SO E s Z l0 l2 w24 -> (∀ l' w', Mv a b l l' -> (∀ q, a <= q -> q < j -> kf key l' q <= kf key l' j) -> (∀ q, j < q -> q < b -> kf key l' j <= kf key l' q) -> SO E s Z l0 l' w' -> R w') ->
      ∀ w', SO E s Z l0 (sw l2 a j) w' -> R w' := fun l2 i j w24 t R hM e j0 j1 hP hS hR w' hS' => by
    subst e
    have hl := hS.len
    obtain ⟨f1, f2⟩ := hP.fin j0
    rw [swf_comm, <- kf_sw (l := l2) (key := key) (i := a) (j := j) (by omega) (by omega) (by omega) (by omega)] at f1 f2
    exact hR _ w' (hM.trans (Mv.sw a0 (by omega) (by omega) (by omega) (by omega) (by omega))) f1 f2 hS'
  refine JOIN_intro (fun st w' => a + 1 <= st.1 /\ st.1 <= b - 1 + 1 /\ Part (kf key l1) a st.1 (b - 1) b /\ (st.1 <= b - 1 -> kf key l1 a <= kf key l1 st.1) /\ SO E s Z l0 l1 w')
    (left l1 (a + 1) (b - 1) w8 (fun st w' => a + 1 <= st.1 /\ st.1 <= b - 1 + 1 /\ Part (kf key l1) a st.1 (b - 1) b /\ (st.1 <= b - 1 -> kf key l1 a <= kf key l1 st.1) /\ SO E s Z l0 l1 w') (Int.le_refl _) (by omega) (by omega) (by omega) ⟨fun q h0 h1 => by omega, fun q h0 h1 => by omega⟩ hS8 fun k w' k0 k1 hP hk h => ⟨k0, k1, hP, hk, h⟩) ?_
  rintro ⟨i, u⟩ _ w11 ⟨i0, i1, hP, hi, hS11⟩
  dsimp only at i0 i1 hP hi ⊢
  refine JOIN_intro (fun st w' => st.1 <= b - 1 /\ i - 1 <= st.1 /\ Part (kf key l1) a i st.1 b /\ (i <= st.1 -> kf key l1 st.1 <= kf key l1 a /\ kf key l1 st.1 ≠ kf key l1 a) /\ SO E s Z l0 l1 w')
    (right l1 i (b - 1) w11 (fun st w' => st.1 <= b - 1 /\ i - 1 <= st.1 /\ Part (kf key l1) a i st.1 b /\ (i <= st.1 -> kf key l1 st.1 <= kf key l1 a /\ kf key l1 st.1 ≠ kf key l1 a) /\ SO E s Z l0 l1 w') i0 i1 (by omega) (by omega) hP hS11 fun k w' k0 k1 hP hk h => ⟨k0, k1, hP, hk, h⟩) ?_
  rintro ⟨j, u⟩ _ w24 ⟨j0, j1, hP2, hj, hS24⟩
  dsimp only at j0 j1 hP2 hj ⊢
  have hl24 := hS24.len
  refine CND_dec (fun hgt => ?_) fun hle => ?_
  · exact swapS_two hS24 (by omega) (by omega) (by omega) (by omega) (done l1 i j w24 true (K j true) hM1 (by omega) (by omega) (by omega) hP2 hS24 fun l' w' g1 g2 g3 g4 => hK j true l' w' (by omega) (by omega) g1 g2 g3 g4)
  have hij : i ≠ j := fun e => by
    have h1 := hi (by omega)
    have h2 := hj (by omega)
    rw [e] at h1; omega
  refine swapS_two hS24 (by omega) (by omega) (by omega) (by omega) fun w50 hS50 => ?_
  rw [i64_id (n := i + 1) (by omega) (by omega), i64_id (n := j - 1) (by omega) (by omega)]
  have hS50' : ∃ l2, Mv a b l l2 /\ Part (kf key l2) a (i + 1) (j - 1) b /\ SO E s Z l0 l2 w50 := by
    refine ⟨_, hM1.trans (Mv.sw a0 (by omega) (by omega) (by omega) (by omega) (by omega)), ?_, hS50⟩
    have := hP2.swap (by omega) (by omega) (hi (by omega)) (hj (by omega)).1
    rw [kf_sw (by omega) (by omega) (by omega) (by omega)]
    first | exact this | (rw [swf_comm]; exact this)
  clear hS50
  obtain ⟨l2, hM2, hP3, hS50⟩ := hS50'
  refine LOOP_intro (fun st w' => a + 1 <= st.1 /\ st.1 <= st.2.1 + 1 /\ a <= st.2.1 /\ st.2.1 < b /\ ∃ l3, Mv a b l l3 /\ Part (kf key l3) a st.1 st.2.1 b /\ SO E s Z l0 l3 w') (fun st _ => (st.2.1 + 1 - st.1).toNat) ⟨by show a + 1 <= i + 1; omega, by show i + 1 <= j - 1 + 1; omega, by show a <= j - 1; omega, by show j - 1 < b; omega, l2, hM2, hP3, hS50⟩ ?_
  clear hP hi hP2 hj hS24 hS11 hP3 hM2 hS50 hl24 hij
  rintro ⟨i, j, u⟩ _ w52 ⟨i0, i1, j0, j1, l3, hM3, hP, hS52⟩
  dsimp only at i0 i1 j0 j1 hP ⊢
  refine JOIN_intro (fun st w' => i <= st.1 /\ st.1 <= j + 1 /\ Part (kf key l3) a st.1 j b /\ (st.1 <= j -> kf key l3 a <= kf key l3 st.1) /\ SO E s Z l0 l3 w')
    (left2 l3 i j w52 (fun st w' => i <= st.1 /\ st.1 <= j + 1 /\ Part (kf key l3) a st.1 j b /\ (st.1 <= j -> kf key l3 a <= kf key l3 st.1) /\ SO E s Z l0 l3 w') i0 i1 j0 j1 hP hS52 fun k w' k0 k1 hP hk h => ⟨k0, k1, hP, hk, h⟩) ?_
  rintro ⟨i2, u⟩ _ w56 ⟨k0, k1, hP2, hi, hS56⟩
  dsimp only at k0 k1 hP2 hi ⊢
  refine JOIN_intro (fun st w' => st.1 <= j /\ i2 - 1 <= st.1 /\ Part (kf key l3) a i2 st.1 b /\ (i2 <= st.1 -> kf key l3 st.1 <= kf key l3 a /\ kf key l3 st.1 ≠ kf key l3 a) /\ SO E s Z l0 l3 w')
    (right l3 i2 j w56 (fun st w' => st.1 <= j /\ i2 - 1 <= st.1 /\ Part (kf key l3) a i2 st.1 b /\ (i2 <= st.1 -> kf key l3 st.1 <= kf key l3 a /\ kf key l3 st.1 ≠ kf key l3 a) /\ SO E s Z l0 l3 w') (by omega) (by omega) j0 j1 hP2 hS56 fun k w' k0 k1 hP hk h => ⟨k0, k1, hP, hk, h⟩) ?_
  rintro ⟨j2, u⟩ _ w69 ⟨m0, m1, hP3, hj, hS69⟩
  dsimp only at m0 m1 hP3 hj ⊢
  have hl69 := hS69.len
  refine CND_dec (fun hgt => ?_) fun hle => ?_
  · exact swapS_two hS69 (by omega) (by omega) (by omega) (by omega) (done l3 i2 j2 w69 false (K j2 false) hM3 (by omega) (by omega) (by omega) hP3 hS69 fun l' w' g1 g2 g3 g4 => hK j2 false l' w' (by omega) (by omega) g1 g2 g3 g4)
  · have hij : i2 ≠ j2 := fun e => by
      have h1 := hi (by omega)
      have h2 := hj (by omega)
      rw [e] at h1; omega
    rw [i64_id (n := i2 + 1) (by omega) (by omega), i64_id (n := j2 - 1) (by omega) (by omega)]
    refine swapS_two hS69 (by omega) (by omega) (by omega) (by omega) fun w95 hS95 => ⟨⟨by show a + 1 <= i2 + 1; omega, by show i2 + 1 <= j2 - 1 + 1; omega, by show a <= j2 - 1; omega, by show j2 - 1 < b; omega, _, hM3.trans (Mv.sw a0 (by omega) (by omega) (by omega) (by omega) (by omega)), ?_, hS95⟩, by show (j2 - 1 + 1 - (i2 + 1)).toNat < (j + 1 - i).toNat; omega⟩
    have := hP3.swap (by omega) (by omega) (hi (by omega)) (hj (by omega)).1
    rw [kf_sw (by omega) (by omega) (by omega) (by omega)]
    first | exact this | (rw [swf_comm]; exact this)
end
theorem SO.add {P : Pr} {w' : World} (h : l.Perm l0 /\ Sat (P :: Row E.t_int 1 s (ints .i64 l) :: Z) w') : SO E s (P :: Z) l0 l w' := ⟨h.1, h.2.perm (.swap _ _ _)⟩
theorem SO.out {P : Pr} {w' : World} (h : SO E s (P :: Z) l0 l w') : l.Perm l0 /\ Sat (P :: Row E.t_int 1 s (ints .i64 l) :: Z) w' := ⟨h.1, h.2.perm (.swap _ _ _)⟩
theorem SO.drop {P : Pr} {w' : World} (h : SO E s (P :: Z) l0 l w') : SO E s Z l0 l w' := ⟨h.1, (h.2.perm (.swap _ _ _)).tail⟩
theorem breakPatternsS_spec (hsm : s.len < 1099511627776) (hS : SO E s Z l0 l w) {a b : Int} (a0 : 0 <= a) (ab : a < b) (b1 : b <= s.len) {K : World -> Prop} (hK : ∀ l' w', Mv a b l l' -> SO E s Z l0 l' w' -> K w') : F.slices_breakPatternsCmpFunc_int_ E s a b cmp K w := by
  unfold F.slices_breakPatternsCmpFunc_int_ T0.slices_breakPatternsCmpFunc_int_
  rw [i64_id (n := b - a) (by omega) (by omega)]
  refine CND_dec (fun h8 => ?_) fun _ => hK l w (Mv.refl _ _ _) hS
  obtain ⟨hp, H⟩ := hS
  refine AL_cells (vs := [.int .u64 0]) H fun b1' w2 H2 _ => st_cell0 H2 (o := 0) rfl (by simp) fun w3 H3 => ?_
  rw [Int.tdiv_eq_ediv_of_nonneg (by omega), i64_id (n := (b - a) / 4) (by omega) (by omega), i64_id (n := (b - a) / 4 * 2) (by omega) (by omega), i64_id (n := a + (b - a) / 4 * 2) (by omega) (by omega), i64_id (n := a + (b - a) / 4 * 2 - 1) (by omega) (by omega), i64_id (n := a + (b - a) / 4 * 2 + 1) (by omega) (by omega)]
  refine npow_spec (n := b - a) (by omega) (by omega) fun m m0 m1 => ⟨by decide, LET_intro fun idx hidx => ?_⟩
  refine LOOP_intro (fun st w' => idx <= st.1 /\ st.1 <= idx + 3 /\ ∃ x l1, Mv a b l l1 /\ SO E s (Cells b1' E.t_slices_xorshift [.int .u64 x] :: Z) l0 l1 w') (fun st _ => (idx + 3 - st.1).toNat) ⟨Int.le_refl _, by show idx <= idx + 3; omega, _, l, Mv.refl _ _ _, SO.add ⟨hp, H3⟩⟩ ?_
  rintro ⟨i, u⟩ _ w8 ⟨i0, i1, x, l1, hM1, hS8⟩
  dsimp only at i0 i1 ⊢
  refine ⟨by decide, CND_dec (fun hle => ?_) fun _ => hK l1 w8 hM1 hS8.drop⟩
  obtain ⟨hp8, H8⟩ := hS8.out
  refine next_spec H8 fun y w11 H11 => LET_intro fun other ho => ?_
  rw [u64_id (n := m - 1) (by omega) (by omega)] at ho
  have hal := and_le y (b := m - 1) (by omega) (by omega)
  rw [i64_id (by omega) (by omega)] at ho
  have hS11 : SO E s (Cells b1' E.t_slices_xorshift [.int .u64 y] :: Z) l0 l1 w11 := SO.add ⟨hp8, H11⟩
  have hl11 := hS11.len
  refine JOIN_intro (fun st w' => 0 <= st.1 /\ st.1 < b - a /\ w' = w11) ?_ ?_
  · refine CND_dec (fun h => LET_intro fun o2 ho2 => ?_) fun h => ⟨by show 0 <= other; omega, by show other < b - a; omega, rfl⟩
    rw [i64_id (n := other - (b - a)) (by omega) (by omega)] at ho2
    exact ⟨by show 0 <= o2; omega, by show o2 < b - a; omega, rfl⟩
  rintro ⟨o, u⟩ _ w15 ⟨o0, o1, rfl⟩
  dsimp only at o0 o1 ⊢
  rw [i64_id (n := a + o) (by omega) (by omega), i64_id (n := i + 1) (by omega) (by omega)]
  exact swapS_two hS11 (by omega) (by omega) (by omega) (by omega) fun w24 hS24 => ⟨⟨by show idx <= i + 1; omega, by show i + 1 <= idx + 3; omega, y, _, hM1.trans (Mv.sw a0 (by omega) (by omega) (by omega) (by omega) (by omega)), hS24⟩, by show (idx + 3 - (i + 1)).toNat < (idx + 3 - i).toNat; omega⟩
def SOc (E : Env) (s : SlV) (Z : List Pr) (l0 l : List Int) (b : Nat) (w : World) : Prop := ∃ n, SO E s (Cells b E.t_int [.int .i64 n] :: Z) l0 l w
theorem order2S_spec (hC : ∀ P, CmpS E cmp s (P :: Z) key l0) {b : Nat} (hS : SOc E s Z l0 l b w) {i j : Int} (i0 : 0 <= i) (i1 : i < s.len) (j0 : 0 <= j) (j1 : j < s.len) {K : Int -> Int -> World -> Prop}
    (hK : ∀ x y w', (x = i /\ y = j) ∨ (x = j /\ y = i) -> SOc E s Z l0 l b w' -> K x y w') : F.slices_order2CmpFunc_int_ E s i j (some ⟨b, 0, none⟩) cmp K w := by
  obtain ⟨n, hS⟩ := hS
  unfold F.slices_order2CmpFunc_int_
  refine cmpS_two (hC _) hS j0 j1 i0 i1 fun z w6 _ hS6 => CND_dec (fun _ => ?_) fun _ => hK i j w6 (.inl ⟨rfl, rfl⟩) ⟨n, hS6⟩
  obtain ⟨hp, H⟩ := hS6.out
  simp only [NC_some]
  refine ⟨_, H.cell0 rfl, st_cell0 H (o := 0) rfl (by simp) fun w11 H11 => hK j i w11 (.inr ⟨rfl, rfl⟩) ⟨_, SO.add ⟨hp, H11⟩⟩⟩
theorem medianS_spec (hC : ∀ P, CmpS E cmp s (P :: Z) key l0) {b : Nat} (hS : SOc E s Z l0 l b w) {i j k : Int} (i0 : 0 <= i) (i1 : i < s.len) (j0 : 0 <= j) (j1 : j < s.len) (k0 : 0 <= k) (k1 : k < s.len) {K : Int -> World -> Prop}
    (hK : ∀ x w', x = i ∨ x = j ∨ x = k -> SOc E s Z l0 l b w' -> K x w') : F.slices_medianCmpFunc_int_ E s i j k (some ⟨b, 0, none⟩) cmp K w := by
  unfold F.slices_medianCmpFunc_int_ T0.slices_medianCmpFunc_int_
  refine order2S_spec hC hS i0 i1 j0 j1 fun x y w3 h3 hS3 => ?_
  refine order2S_spec hC hS3 (i := y) (j := k) (by omega) (by omega) k0 k1 fun x2 y2 w6 h6 hS6 => ?_
  refine order2S_spec hC hS6 (i := x) (j := x2) (by omega) (by omega) (by omega) (by omega) fun x3 y3 w9 h9 hS9 => hK y3 w9 (by omega) hS9
theorem choosePivotS_spec (hC : ∀ P, CmpS E cmp s (P :: Z) key l0) (hsm : s.len < 1099511627776) (hS : SO E s Z l0 l w) {a b : Int} (a0 : 0 <= a) (ab : a + 12 < b) (b1 : b <= s.len) {K : Int -> Int -> World -> Prop}
    (hK : ∀ p h w', a <= p -> p < b -> SO E s Z l0 l w' -> K p h w') : F.slices_choosePivotCmpFunc_int_ E s a b cmp K w := by
  unfold F.slices_choosePivotCmpFunc_int_ T0.slices_choosePivotCmpFunc_int_
  obtain ⟨hp, H⟩ := hS
  refine AL_cells (vs := [.int .i64 0]) H fun bb w2 H2 _ => ?_
  rw [i64_id (n := b - a) (by omega) (by omega), Int.tdiv_eq_ediv_of_nonneg (by omega), i64_id (n := (b - a) / 4) (by omega) (by omega), i64_id (n := (b - a) / 4 * 1) (by omega) (by omega), i64_id (n := (b - a) / 4 * 2) (by omega) (by omega), i64_id (n := (b - a) / 4 * 3) (by omega) (by omega),
    i64_id (n := a + (b - a) / 4 * 1) (by omega) (by omega), i64_id (n := a + (b - a) / 4 * 2) (by omega) (by omega), i64_id (n := a + (b - a) / 4 * 3) (by omega) (by omega)]
  refine ⟨by decide, LET_intro fun i hi => ⟨by decide, LET_intro fun j hj => ⟨by decide, LET_intro fun k hk => ?_⟩⟩⟩
  have hS2 : SOc E s Z l0 l bb w2 := ⟨0, SO.add ⟨hp, H2⟩⟩
  refine JOIN_intro (fun st w' => a <= st.1 /\ st.1 < b /\ SOc E s Z l0 l bb w') ?_ ?_
  · refine CND_dec (fun h8 => ?_) fun _ => by omega
    refine JOIN_intro (fun st w' => (a <= st.1 /\ st.1 < b) /\ (a <= st.2.1 /\ st.2.1 < b) /\ (a <= st.2.2.1 /\ st.2.2.1 < b) /\ SOc E s Z l0 l bb w') ?_ ?_
    · refine CND_dec (fun h50 => ?_) fun _ => ⟨⟨by show a <= i; omega, by show i < b; omega⟩, ⟨by show a <= j; omega, by show j < b; omega⟩, ⟨by show a <= k; omega, by show k < b; omega⟩, hS2⟩
      unfold F.slices_medianAdjacentCmpFunc_int_ T0.slices_medianAdjacentCmpFunc_int_
      rw [i64_id (n := i - 1) (by omega) (by omega), i64_id (n := i + 1) (by omega) (by omega), i64_id (n := j - 1) (by omega) (by omega), i64_id (n := j + 1) (by omega) (by omega), i64_id (n := k - 1) (by omega) (by omega), i64_id (n := k + 1) (by omega) (by omega)]
      refine medianS_spec hC hS2 (by omega) (by omega) (by omega) (by omega) (by omega) (by omega) fun x w13 hx hS13 => ?_
      refine medianS_spec hC hS13 (by omega) (by omega) (by omega) (by omega) (by omega) (by omega) fun y w15 hy hS15 => ?_
      refine medianS_spec hC hS15 (by omega) (by omega) (by omega) (by omega) (by omega) (by omega) fun z w17 hz hS17 => ?_
      exact ⟨⟨by show a <= x; omega, by show x < b; omega⟩, ⟨by show a <= y; omega, by show y < b; omega⟩, ⟨by show a <= z; omega, by show z < b; omega⟩, hS17⟩
    · rintro ⟨x, y, z, u⟩ _ w11 ⟨⟨x0, x1⟩, ⟨y0, y1⟩, ⟨z0, z1⟩, hS11⟩
      dsimp only at x0 x1 y0 y1 z0 z1 ⊢
      refine medianS_spec hC hS11 (by omega) (by omega) (by omega) (by omega) (by omega) (by omega) fun q w19 hq hS19 => ⟨by show a <= q; omega, by show q < b; omega, hS19⟩
  · rintro ⟨p, u⟩ _ w8 ⟨p0, p1, n, hS8⟩
    dsimp only at p0 p1 ⊢
    obtain ⟨hp8, H8⟩ := hS8.out
    refine ⟨n, H8.cell0 rfl, CND_eq (fun _ => hK p 1 w8 p0 p1 hS8.drop) fun _ => CND_eq (fun _ => hK p 2 w8 p0 p1 hS8.drop) fun _ => hK p 0 w8 p0 p1 hS8.drop⟩
theorem SO.inj (h : SO E s Z l0 l w) (hd : (l0.map key).Nodup) {i j : Int} (i0 : 0 <= i) (i1 : i < s.len) (j0 : 0 <= j) (j1 : j < s.len) (e : kf key l i = kf key l j) : i = j := by
  have hl := h.len
  have hn : (l.map key).Nodup := (h.1.map key).nodup_iff.2 hd
  have := (List.getElem_inj (i := i.toNat) (j := j.toNat) (h₀ := by rw [List.length_map]; omega) (h₁ := by rw [List.length_map]; omega) hn).1 (by
    unfold kf at e
    rw [el_get i0 (by omega), el_get j0 (by omega)] at e
    rw [List.getElem_map, List.getElem_map]; exact e)
  omega
def Low (k : Int -> Int) (x y : Int) : Prop := 0 < x -> ∀ i, x <= i -> i < y -> k (x - 1) <= k i
theorem Low.mv {x y : Int} {l l' : List Int} (h : Low (kf key l) x y) (g : Mv x y l l') : Low (kf key l') x y := fun h0 i i0 i1 => by
  rw [g.same (i := x - 1) (.inl (by omega))]
  exact g.above (key := key) (h h0) i i0 i1
theorem Mid.low {k : Int -> Int} {a x y b : Int} (h : Mid k a x y b) (g : Low k a b) (ax : a <= x) (yb : y <= b) : Low k x y := fun h0 i i0 i1 => by
  by_cases e : a = x
  · subst e; exact g h0 i i0 (by omega)
  · exact h (x - 1) i (by omega) (by omega) (by omega) (.inl (by omega))
theorem pdqS_spec (hC : CmpS E cmp s Z key l0) (hC' : ∀ P, CmpS E cmp s (P :: Z) key l0) (hsm : s.len < 1099511627776) (hd : (l0.map key).Nodup) : ∀ (n0 : Nat) {a b lim : Int} {l : List Int} {w : World} {K : World -> Prop}, SO E s Z l0 l w -> 0 <= a -> a <= b -> b <= s.len -> b - a < n0 -> Low (kf key l) a b ->
    (∀ l' w', Mv a b l l' -> OrdF (kf key l') a b -> SO E s Z l0 l' w' -> K w') -> F.slices_pdqsortCmpFunc_int_ E n0 s a b lim cmp K w
  | 0, a, b, lim, l, w, K, _, _, _, _, h, _, _ => by omega
  | n0 + 1, a, b, lim, l, w, K, hS, a0, ab, b1, hf, hlow, hK => by
    unfold F.slices_pdqsortCmpFunc_int_
    refine LOOP_intro (fun st w' => a <= st.1 /\ st.1 <= st.2.1 /\ st.2.1 <= b /\ ∃ l1, Mv a b l l1 /\ Mid (kf key l1) a st.1 st.2.1 b /\ SO E s Z l0 l1 w') (fun st _ => (st.2.1 - st.1).toNat) ⟨Int.le_refl _, ab, Int.le_refl _, l, Mv.refl _ _ _, fun i j h0 h1 h2 h3 => by dsimp only at h3; omega, hS⟩ ?_
    rintro ⟨x, y, lm, wb, wp, u⟩ _ w2 ⟨x0, xy, y1, l1, hM1, hMid1, hS2⟩
    dsimp only at x0 xy y1 hMid1 ⊢
    rw [i64_id (n := y - x) (by omega) (by omega)]
    have fin : ∀ l2 w', Mv a b l l1 -> Mid (kf key l1) a x y b -> Mv x y l1 l2 -> OrdF (kf key l2) x y -> SO E s Z l0 l2 w' -> K w' := fun l2 w' h0 h1 h2 h3 h4 => hK l2 w' (h0.trans (h2.wide x0 y1)) ((h1.mv h2 y1 x0).fin h3) h4
    refine CND_dec (fun _ => insertionS_spec hC hsm hS2 (by omega) xy (by omega) fun l2 w' h2 h3 h4 => fin l2 w' hM1 hMid1 h2 h3 h4) fun h12 => CND_eq (fun _ => heapSortS_spec hC hsm hS2 (by omega) (by omega) (by omega) fun l2 w' h2 h3 h4 => fin l2 w' hM1 hMid1 h2 h3 h4) fun _ => ?_
    clear fin
    let I : World -> Prop := fun w' => ∃ l1, Mv a b l l1 /\ Mid (kf key l1) a x y b /\ SO E s Z l0 l1 w'
    have more : ∀ {l1 l2 : List Int} {w' : World}, Mv a b l l1 -> Mid (kf key l1) a x y b -> Mv x y l1 l2 -> SO E s Z l0 l2 w' -> I w' := fun h0 h1 h2 h3 => ⟨_, h0.trans (h2.wide x0 y1), h1.mv h2 y1 x0, h3⟩
    have lowI : ∀ {l1 : List Int}, Mv a b l l1 -> Mid (kf key l1) a x y b -> Low (kf key l1) x y := fun h0 h1 => h1.low (hlow.mv h0) x0 y1
    refine JOIN_intro (fun _ w' => I w') (CND_not (CND_intro (fun _ => ⟨l1, hM1, hMid1, hS2⟩) fun _ => breakPatternsS_spec hsm hS2 (by omega) (by omega) (by omega) fun l2 w9 h2 hS9 => more hM1 hMid1 h2 hS9)) ?_
    clear hS2 hMid1 hM1
    rintro ⟨lm2, u⟩ _ w8 ⟨l1, hM1, hMid1, hS8⟩
    dsimp only
    refine choosePivotS_spec hC' hsm hS8 (by omega) (by omega) (by omega) fun p hint w12 p0 p1 hS12 => ?_
    refine JOIN_intro (fun st w' => x <= st.1 /\ st.1 < y /\ I w') (CND_eq (fun _ => reverseS_spec hC hsm hS12 (by omega) (by omega) (by omega) fun l2 w16 h2 hS16 => LET_intro fun q hq => ?_) fun _ => ⟨p0, p1, l1, hM1, hMid1, hS12⟩) ?_
    · rw [i64_id (n := y - 1) (by omega) (by omega), i64_id (n := p - x) (by omega) (by omega), i64_id (by omega) (by omega)] at hq
      exact ⟨by show x <= q; omega, by show q < y; omega, more hM1 hMid1 h2 hS16⟩
    clear hS12 hS8 hMid1 hM1
    rintro ⟨q, hint2, u⟩ _ w15 ⟨q0, q1, l1, hM1, hMid1, hS15⟩
    dsimp only at q0 q1 ⊢
    refine JOIN_intro (fun _ w' => I w') ?_ ?_
    · refine JOIN_intro (fun _ w' => SO E s Z l0 l1 w') (CND_intro (fun _ => CND_intro (fun _ => hS15) fun _ => hS15) fun _ => hS15) ?_
      rintro ⟨t, u⟩ _ w23 hS23
      exact CND_intro (fun _ => partialInsertionS_spec hC hsm hS23 (by omega) (by omega) (by omega) (lowI hM1 hMid1) fun r l2 w25 h2 h3 hS25 => CND_intro (fun hr => hK l2 w25 (hM1.trans (h2.wide x0 y1)) ((hMid1.mv h2 y1 x0).fin (h3 hr)) hS25) fun _ => more hM1 hMid1 h2 hS25) fun _ => ⟨l1, hM1, hMid1, hS23⟩
    clear hS15 hMid1 hM1
    rintro _ _ w20 ⟨l1, hM1, hMid1, hS20⟩
    refine JOIN_intro (fun st w' => st.1 = false /\ SO E s Z l0 l1 w') ?_ ?_
    · refine CND_dec (fun hpos => ?_) fun _ => ⟨rfl, hS20.drew⟩
      rw [i64_id (n := x - 1) (by omega) (by omega)]
      refine cmpS_two hC hS20 (by omega) (by omega) (by omega) (by omega) fun z w34 hz hS34 => ⟨?_, hS34⟩
      have hle := lowI hM1 hMid1 (by omega) q q0 q1
      have hne : kf key l1 (x - 1) ≠ kf key l1 q := fun e => by
        have := hS20.inj hd (i := x - 1) (j := q) (by omega) (by omega) (by omega) (by omega) e
        omega
      have : z < 0 := hz.2 (by omega)
      simp [this]
    rintro ⟨t, u⟩ _ w28 ⟨ht, hS28⟩
    dsimp only at ht ⊢
    subst ht
    refine CND_f rfl ?_
    refine partitionS_spec hC hsm hS28 (by omega) (by omega) (by omega) q0 q1 fun r t l2 w40 r0 r1 h2 hlo hhi hS40 => ⟨by decide, LET_intro fun bal _ => ?_⟩
    rw [i64_id (n := r + 1) (by omega) (by omega)]
    have hM2 := hM1.trans (h2.wide x0 y1)
    have hMid2 := hMid1.mv h2 y1 x0
    have hLow2 := lowI hM2 hMid2
    refine CND_dec (fun _ => ?_) fun _ => ?_
    · refine pdqS_spec hC hC' hsm hd n0 hS40 (by omega) (by omega) (by omega) (by omega) (fun h0 i i0 i1 => hLow2 h0 i i0 (by omega)) fun l3 w42 h3 hO hS42 => ⟨⟨by show a <= r + 1; omega, by show r + 1 <= y; omega, y1, l3, hM2.trans (h3.wide x0 (by omega)), ?_, hS42⟩, by show (y - (r + 1)).toNat < (y - x).toNat; omega⟩
      refine (hMid2.mv (h3.wide (Int.le_refl _) (by omega)) y1 x0).left r0 r1 hO (fun i i0 i1 => ?_) fun i i0 i1 => ?_
      · rw [h3.same (i := r) (.inr (Int.le_refl _))]
        exact h3.below (key := key) (fun i i0 i1 => hlo i i0 i1) i i0 i1
      · rw [h3.same (i := r) (.inr (Int.le_refl _)), h3.same (i := i) (.inr (by omega))]
        exact hhi i i0 i1
    · refine pdqS_spec hC hC' hsm hd n0 hS40 (by omega) (by omega) (by omega) (by omega) (fun h0 i i0 i1 => by rw [show r + 1 - 1 = r by omega]; exact hhi i (by omega) i1) fun l3 w43 h3 hO hS43 => ⟨⟨by show a <= x; omega, by show x <= r; omega, by show r <= b; omega, l3, hM2.trans (h3.wide (by omega) y1), ?_, hS43⟩, by show (r - x).toNat < (y - x).toNat; omega⟩
      refine (hMid2.mv (h3.wide (by omega) (Int.le_refl _)) y1 x0).right r0 r1 hO (fun i i0 i1 => ?_) fun i i0 i1 => ?_
      · rw [h3.same (i := r) (.inl (by omega)), h3.same (i := i) (.inl (by omega))]
        exact hlo i i0 i1
      · rw [h3.same (i := r) (.inl (by omega))]
        exact h3.above (key := key) (fun i i0 i1 => hhi i (by omega) i1) i (by omega) i1
theorem sortFuncS_spec (hC : CmpS E cmp s Z key l0) (hC' : ∀ P, CmpS E cmp s (P :: Z) key l0) (hsm : s.len < 1099511627776) (hd : (l0.map key).Nodup) (hS : SO E s Z l0 l w) {K : World -> Prop} (hK : ∀ l' w', (l'.map key).Pairwise (· < ·) -> SO E s Z l0 l' w' -> K w') : F.slices_SortFunc___int_int_ E s cmp K w := by
  unfold F.slices_SortFunc___int_int_ T0.slices_SortFunc___int_int_
  rw [u64_id (n := (s.len : Int)) (by omega) (by omega)]
  refine len_spec (by omega) (by omega) fun r _ => ⟨s.len + 1, pdqS_spec hC hC' hsm hd _ hS (Int.le_refl 0) (by omega) (Int.le_refl _) (by omega) (fun h => by omega) fun l' w' _ hO hS' => hK l' w' ?_ hS'⟩
  have hl := hS'.len
  refine List.pairwise_iff_getElem.2 fun i j hi hj hij => ?_
  rw [List.length_map] at hi hj
  have h1 := hO i j (by omega) (by omega) (by omega)
  have h2 : kf key l' i ≠ kf key l' j := fun e => by
    have := hS'.inj hd (i := i) (j := j) (by omega) (by omega) (by omega) (by omega) e
    omega
  have e1 : kf key l' i = key l'[i] := by unfold kf; rw [el_get (by omega) (by omega)]; rfl
  have e2 : kf key l' j = key l'[j] := by unfold kf; rw [el_get (by omega) (by omega)]; rfl
  rw [List.getElem_map, List.getElem_map]
  omega
end
end Go.Sh

set_option linter.all false
set_option maxRecDepth 8000
set_option maxHeartbeats 4000000
namespace Go.Sh
def HS.at (S : HS) (id : Int) : Int := match S.sp id with
  | some x => x.2.base
  | none => 0
theorem HS.at_some {S : HS} {id : Int} {x : Nat × SI} (h : S.sp id = some x) : S.at id = x.2.base := by unfold HS.at; rw [h]
theorem HInv.at_inj {S : HS} {fl : Int -> Bool} (hI : HInv S fl) {x y : Int} (hx : S.sp x ≠ none) (hy : S.sp y ≠ none) (e : S.at x = S.at y) : x = y := by
  obtain ⟨X, hX⟩ := Option.ne_none_iff_exists'.1 hx
  obtain ⟨Y, hY⟩ := Option.ne_none_iff_exists'.1 hy
  rw [HS.at_some hX, HS.at_some hY] at e
  have h1 := (hI.sp x X hX).2.2.2.2 (X.2.base / 8192) (Int.le_refl _) (by have := (hI.sp x X hX).2.2.1; omega)
  have h2 := (hI.sp y Y hY).2.2.2.2 (X.2.base / 8192) (by rw [e]; exact Int.le_refl _) (by have := (hI.sp y Y hY).2.2.1; rw [e]; omega)
  omega
theorem map_nodup {f : Int -> Int} : ∀ {l : List Int}, l.Nodup -> (∀ x ∈ l, ∀ y ∈ l, f x = f y -> x = y) -> (l.map f).Nodup
  | [], _, _ => List.nodup_nil
  | a :: l, h, g => by
    rw [List.map_cons, List.nodup_cons]
    rw [List.nodup_cons] at h
    refine ⟨fun hm => ?_, map_nodup h.2 fun x hx y hy => g x (.tail _ hx) y (.tail _ hy)⟩
    obtain ⟨b, hb, e⟩ := List.mem_map.1 hm
    have := g b (.tail _ hb) a (.head _) e
    exact h.1 (this ▸ hb)
theorem HInv.few {S : HS} {fl : Int -> Bool} (hI : HInv S fl) (l : List Int) (hnd : l.Nodup) (hin : ∀ n ∈ l, S.sp n ≠ none) : l.length < 1099511627776 := by
  have h := rf_bnd S.fx.n l hnd fun n hn => by
    obtain ⟨a, e, h1, _⟩ := (hI.sf n).1 (hin n hn)
    omega
  have := hI.fb
  omega
section
variable {E : Env} {w : World} {Z : List Pr} {h : Nat} {S : HS} (hE : EnvH E)
theorem SO.permZ {s : SlV} {Y Y' : List Pr} {l0 l : List Int} (h : SO E s Y l0 l w) (hp : Y.Perm Y') : SO E s Y' l0 l w := ⟨h.1, h.2.perm (hp.cons _)⟩
theorem CmpS.permZ {cmp : Value} {s : SlV} {Y Y' : List Pr} {key : Int -> Int} {l0 : List Int} (h : CmpS E cmp s Y key l0) (hp : Y.Perm Y') : CmpS E cmp s Y' key l0 :=
  fun x y l w R hx hy hS hR => h x y l w R hx hy (hS.permZ hp.symm) fun r w' hr h' => hR r w' hr (h'.permZ hp)
include hE
theorem cmpSpansS {b1 t : Nat} {s : SlV} {l0 : List Int} (hl : ∀ n ∈ l0, S.sp n ≠ none) : CmpS E (.func (.func E.f_mheap_Heap_Spans_1) #[] #[.pointer (some (Addr.mk b1 0 none))]) s (HeapP E h S :: Cells b1 t [.pointer (some ⟨h, 0, none⟩)] :: Z) S.at l0 := by
  intro x y l w R hx hy ⟨hp, H⟩ hR
  refine hE.spans1 x y _ R w ?_
  obtain ⟨X, hX⟩ := Option.ne_none_iff_exists'.1 (hl x hx)
  obtain ⟨Y, hY⟩ := Option.ne_none_iff_exists'.1 (hl y hy)
  refine spans1_spec hE (h := h) (t := t) (Z := Row E.t_int 1 s (ints .i64 l) :: Z) (H.perm ?_) hX hY fun r w' hr H' => hR r w' (by rw [HS.at_some hX, HS.at_some hY]; exact hr) ⟨hp, H'.perm ?_⟩
  · exact (List.perm_middle (l₁ := [HeapP E h S, Cells b1 t [.pointer (some ⟨h, 0, none⟩)]])).symm
  · exact List.perm_middle (l₁ := [HeapP E h S, Cells b1 t [.pointer (some ⟨h, 0, none⟩)]])
theorem hspansS_spec (H : Sat (HeapP E h S :: Z) w) (hInv : HInv S no) {K : SlV -> World -> Prop}
    (hK : ∀ s l w', l.Nodup -> (∀ n, n ∈ l ↔ S.sp n ≠ none) -> (l.map S.at).Pairwise (· < ·) -> Sat (Row E.t_int 1 s (ints .i64 l) :: HeapP E h S :: Z) w' -> K s w') : F.mheap_Heap_Spans E (some ⟨h, 0, none⟩) K w := by
  have hb := hInv.few
  have spn : ∀ n, spMap S.sp n ≠ none ↔ S.sp n ≠ none := fun n => by unfold spMap; cases S.sp n <;> simp
  unfold F.mheap_Heap_Spans T0.mheap_Heap_Spans
  refine AL_cells (vs := [.pointer (some ⟨h, 0, none⟩)]) H fun b1 w2 H2 _ => ⟨_, H2.cell0 rfl, ?_⟩
  try simp only [NC_some]
  obtain ⟨g, hI, H3⟩ := Sat.heap.1 (H2.front 1 rfl)
  refine ⟨_, (hcell (S := S) (g := g) H3).2.2.2.2.1, RNG_mk (H3.front 5 rfl) fun b7 N0 w8 H8 => ?_⟩
  have H8' := H8.nil E.t_int 1
  refine LOOP_intro (fun st w' => ∃ cur done N, Sat (RngP b7 g.sm .i64 (spMap S.sp) cur done N :: Row E.t_int 1 st.1 (ints .i64 done) :: (hres E h S g ++ Cells b1 E.t__mheap_Heap [.pointer (some ⟨h, 0, none⟩)] :: Z).eraseIdx 5) w') (fun _ w' => leftW b7 g.sm w') ⟨none, [], N0, H8'.front 1 rfl⟩ ?_
  rintro ⟨s, u⟩ _ w10 ⟨cur, done, N, H10⟩
  dsimp only at H10 ⊢
  rw [H10.rngLeft]
  refine JOIN_in (NEXT_rng H10 (fun w15 H15 hall j => JOIN_in (CND_f rfl ?_)) fun n v w16 N' hgn hnd hN H16 j => JOIN_in (CND_t rfl fun j2 => ENT_rng H16 fun v' S' hv' => ?_))
  · obtain ⟨hnd, hin⟩ := H15.rngDone
    have H15b := Sat.back2 (Ps := hres E h S g ++ Cells b1 E.t__mheap_Heap [.pointer (some ⟨h, 0, none⟩)] :: Z) 5 ((H15.rngOut).front 1 rfl) (by simp [hres])
    have H15c : Sat (hres E h S g ++ (Row E.t_int 1 s (ints .i64 done) :: Cells b1 E.t__mheap_Heap [.pointer (some ⟨h, 0, none⟩)] :: Z)) w15 := Sat.perm H15b (List.perm_middle (l₁ := hres E h S g)).symm
    have H15d := (Sat.heap.2 ⟨g, hI, H15c⟩).front 1 rfl
    have hin' : ∀ n ∈ done, S.sp n ≠ none := fun n hn => (spn n).1 (hin n hn)
    have hlen := hb done hnd hin'
    have hsl : s.len < 1099511627776 := by
      have := (H15.front 1 rfl).rowLen
      simp only [ints, List.length_map] at this
      omega
    have hC := cmpSpansS (h := h) (S := S) hE (b1 := b1) (t := E.t__mheap_Heap) (s := s) (l0 := done) (Z := Z) hin'
    refine sortFuncS_spec hC (fun P => (cmpSpansS (h := h) (S := S) hE (b1 := b1) (t := E.t__mheap_Heap) (s := s) (l0 := done) (Z := P :: Z) hin').permZ ?_) hsl (map_nodup hnd fun x hx y hy => hInv.at_inj (hin' x hx) (hin' y hy)) ⟨.refl _, H15d⟩ fun l w22 hs ⟨hp, H22⟩ => ?_
    · exact List.perm_middle (l₁ := [HeapP E h S, Cells b1 E.t__mheap_Heap [.pointer (some ⟨h, 0, none⟩)]])
    · refine hK s l w22 (hp.nodup_iff.2 hnd) (fun n => ?_) hs (H22.front 2 rfl).tail
      rw [hp.mem_iff, hall n, spn]
  · refine unInt_in ?_
    have hsub := H16.rngDone
    have hlen := hb _ hsub.1 fun n hn => (spn n).1 (hsub.2 n hn)
    have hrl := (H16.front 1 rfl).rowLen
    simp only [ints, List.length_map] at hrl
    simp only [List.length_append, List.length_singleton] at hlen
    refine AL_cells (vs := [.int .i64 n]) H16 fun b27 w28 H28 _ => APP_one (zs := #[.int .i64 0]) (bytes := 8) ((H28.front 2 rfl).front 1 rfl) rfl rfl (by simp [Value.oneCell']) (by show (s.len + 1) * 8 <= _; omega) (by omega) fun s29 w30 H30 _ => ?_
    rw [show ints .i64 done ++ [.int .i64 n] = ints .i64 (done ++ [n]) by simp [ints]] at H30
    have H30' := H30.front 1 rfl
    refine ⟨⟨_, _, _, H30'⟩, ?_⟩
    rw [H30'.rngLeft]; exact hN
end
end Go.Sh

set_option linter.all false
set_option maxRecDepth 8000
set_option maxHeartbeats 4000000
namespace Go.Sh
abbrev Act16 : AT := .cons (.int .i64) (.cons (.int .i64) (.cons (.int .u64) (.cons (.int .i64) (.cons .bool (.cons (.int .i64) (.cons (.int .u64) .nil))))))
def oW (x : ElT Act16) : Int := x.1
def oP (x : ElT Act16) : Int := x.2.1
def oN (x : ElT Act16) : Int := x.2.2.1
def oC (x : ElT Act16) : Int := x.2.2.2.1
def oB (x : ElT Act16) : Bool := x.2.2.2.2.1
def oI (x : ElT Act16) : Int := x.2.2.2.2.2.1
theorem RowG.old16 {w w' : World} {s : SlV} {z : Nat -> ElT Act16} (h : RowA w Act16 s z) (he : Ext Nothing w w') : RowA w' Act16 s z :=
  ⟨h.1, h.2.1, fun j hj => by
    obtain ⟨x, h1, h2, h3⟩ := h.2.2 j hj
    exact ⟨x, h1, fun i v hv => he.cell (h2 i v hv) fun f => f, h3⟩⟩
structure ActC (w : World) (x : Addr) (a : ElT Act16) : Prop where
  c0 : w.cell? x = some (.int .i64 (oW a))
  c1 : w.cell? (x.add 1) = some (.int .i64 (oP a))
  c2 : w.cell? (x.add 2) = some (.int .u64 (oN a))
  c3 : w.cell? (x.add 3) = some (.int .i64 (oC a))
  c4 : w.cell? (x.add 4) = some (.bool (oB a))
  c5 : w.cell? (x.add 5) = some (.int .i64 (oI a))
  n0 : 0 <= oN a
  n1 : oN a < 18446744073709551616
  i1 : oI a < 9223372036854775808
theorem act16 {w : World} {s : SlV} {z : Nat -> ElT Act16} (h : RowA w Act16 s z) {j : Nat} (hj : j < s.len) : ∃ x, s.base = some x /\ ActC w (x.add (Int.toNat (j : Int) * 7)) (z j) := by
  obtain ⟨x, h1, h2, h3, h4, h5, h6, h7, h8, _⟩ := h.2.2 j hj
  have hs : AT.size Act16 = 7 := rfl
  rw [hs] at h2
  refine ⟨x, h1, ?_⟩
  rw [Int.toNat_natCast]
  refine ⟨?_, ?_, ?_, ?_, ?_, ?_, (u64_wf h5).1, (u64_wf h5).2, (i64_wf h8).2⟩
  · have := h2 0 _ rfl; rwa [Nat.add_zero] at this
  · rw [add_add]; exact h2 1 _ rfl
  · rw [add_add]; exact h2 2 _ rfl
  · rw [add_add]; exact h2 3 _ rfl
  · rw [add_add]; exact h2 4 _ rfl
  · rw [add_add]; exact h2 5 _ rfl
theorem rowAt_argB16 {w : World} {ok : Bool -> Prop} {s : SlV} {z : Nat -> Bool} (h : RowG w .bool ok s z) : rowAt w s.base s.len (bools (argI s.len z)) := by
  cases hb : s.base with
  | none =>
    have : s.len = 0 := by
      rcases Nat.eq_zero_or_pos s.len with e | e
      · exact e
      · obtain ⟨x, hx, _⟩ := h.cellB e
        rw [hb] at hx; cases hx
    show bools (argI s.len z) = []
    rw [this]; rfl
  | some a =>
    refine ⟨by simp [bools, argI_len], fun j v hj => ?_⟩
    have hjl : j < s.len := by
      have := (List.getElem?_eq_some_iff.1 hj).1
      simpa [bools, argI_len] using this
    rw [bools_get (argI_get z hjl)] at hj
    cases hj
    obtain ⟨x, hx, hc⟩ := h.cellB hjl
    rw [hb] at hx; cases hx
    exact hc
theorem RowG.oldB16 {w w' : World} {s : SlV} {z : Nat -> Bool} (h : RowA w .bool s z) (he : Ext Nothing w w') : RowA w' .bool s z :=
  ⟨h.1, h.2.1, fun j hj => by
    obtain ⟨x, h1, h2, h3⟩ := h.2.2 j hj
    exact ⟨x, h1, fun i v hv => he.cell (h2 i v hv) fun f => f, h3⟩⟩
theorem heavy16_spec {E : Env} {Z : List Pr} {w : World} (H : Sat Z w) {a00 a01 a02 a1 : SlV} {z : Nat -> ElT Act16} (hA : ∀ w', Sat Z w' -> RowA w' Act16 a1 z)
    {K : Bool -> World -> Prop} (hK : ∀ r w', (r = false -> a00.len <= 100 /\ a01.len <= 200 /\ a02.len <= 2000) -> Sat Z w' -> K r w') : F.mallowlaw16_heavy E a00 a01 a02 a1 K w := by
  unfold F.mallowlaw16_heavy
  refine AL_cells (vs := [.slice a00.base a00.len a00.cap, .slice a01.base a01.len a01.cap, .slice a02.base a02.len a02.cap]) H fun b1 w2 H2 _ => ?_
  have hA2 := hA w2 H2.tail
  have hc1 := hA2.1
  have hc2 := hA2.2.1
  have tr : ∀ w', K true w' ↔ K true w' := fun _ => Iff.rfl
  refine LOOP_intro (fun st w' => ∃ i : Nat, st.2.1 = (i : Int) /\ i <= a1.len /\ w' = w2) (fun st _ => ((a1.len : Int) - st.2.1).toNat) ⟨0, rfl, Nat.zero_le _, rfl⟩ ?_
  rintro ⟨n, i', u⟩ _ w4 ⟨i, hi, hil, rfl⟩
  dsimp only at hi ⊢
  subst hi
  have ht : K true w4 := hK true w4 (fun e => by cases e) H2.tail
  refine CND_dec (fun hlt => ?_) fun hge => ?_
  · obtain ⟨x, hx, hc⟩ := act16 hA2 (show i < a1.len by omega)
    rw [hx]
    simp only [NC_some]
    have hb : (0 : Int) <= (i : Int) /\ (i : Int) < (a1.len : Nat) := ⟨by omega, by omega⟩
    have nx : ∀ m : Int, (∃ i2 : Nat, i64 ((i : Int) + 1) = (i2 : Int) /\ i2 <= a1.len /\ w4 = w4) /\ ((a1.len : Int) - i64 ((i : Int) + 1)).toNat < ((a1.len : Int) - (i : Int)).toNat := fun m => by
      rw [i64_id (n := (i : Int) + 1) (by omega) (by omega)]
      exact ⟨⟨i + 1, rfl, by omega, rfl⟩, by omega⟩
    refine JOIN_in ⟨hb, _, hc.c0, CND_dec (fun _ => ⟨hb, _, hc.c2, fun j => CND_intro (fun _ => ⟨hb, _, hc.c2, CND_dec (fun _ => ht) fun _ => ⟨hb, _, hc.c2, LET_intro fun m _ => nx m⟩⟩) fun _ => nx n⟩) fun _ j => CND_f rfl (nx n)⟩
  · refine CND_dec (fun _ => ht) fun _ => CND_dec (fun _ => ht) fun _ => ⟨a00, H2.cell0 rfl, CND_dec (fun _ => ht) fun g0 => ⟨a01, H2.cell rfl, CND_dec (fun _ => ht) fun g1 => ⟨a02, H2.cell rfl, hK _ _ (fun e => ?_) H2.tail⟩⟩⟩
    have := of_decide_eq_false e
    omega
def ownM (S : HS) (l : List Int) : Int -> Option Value := fun p => if 0 < S.own p /\ S.own p ∈ l then some (.int .i64 (S.own p)) else none
def ownN (S : HS) (l : List Int) : Int := cP fun p => decide (0 < S.own p /\ S.own p ∈ l)
theorem HInv.own_eq {S : HS} {fl : Int -> Bool} (hI : HInv S fl) {id : Int} {x : Nat × SI} (hx : S.sp id = some x) (p : Int) : S.own p = id ↔ x.2.base / 8192 <= p /\ p < x.2.base / 8192 + x.2.pages := by
  have h0 := hI.sp id x hx
  refine ⟨fun e => ?_, fun h => h0.2.2.2.2 p h.1 h.2⟩
  obtain ⟨_, _, _, y, hy, h1, h2⟩ := hI.ow p (by omega)
  rw [e, hx] at hy
  cases hy
  exact ⟨h1, h2⟩
theorem ownN_step {S : HS} {fl : Int -> Bool} (hI : HInv S fl) (hk : HOk S) {id : Int} {x : Nat × SI} (hx : S.sp id = some x) {l : List Int} (hn : id ∉ l) : ownN S (l ++ [id]) = ownN S l + x.2.pages /\ 0 <= x.2.base / 8192 /\ x.2.base / 8192 + x.2.pages <= 34359738368 := by
  have h0 := hI.sp id x hx
  have b0 : 0 <= x.2.base / 8192 /\ x.2.base / 8192 + x.2.pages <= 34359738368 := by
    have e1 := h0.2.2.2.2 (x.2.base / 8192) (Int.le_refl _) (by omega)
    have e2 := h0.2.2.2.2 (x.2.base / 8192 + x.2.pages - 1) (by omega) (by omega)
    have g1 := hk.tv.lim _ (hI.ow _ (by omega : 0 < S.own (x.2.base / 8192))).1
    have g2 := hk.tv.lim _ (hI.ow _ (by omega : 0 < S.own (x.2.base / 8192 + x.2.pages - 1))).1
    omega
  refine ⟨?_, b0⟩
  unfold ownN
  rw [cP_or (f := fun p => decide (0 < S.own p /\ S.own p ∈ l)) (g := inr (x.2.base / 8192) x.2.pages), cP_row b0.1 (by omega) b0.2]
  · intro p
    rw [Bool.eq_iff_iff, Bool.or_eq_true, decide_eq_true_iff, decide_eq_true_iff, inr_iff, <- hI.own_eq hx p, List.mem_append, List.mem_singleton]
    constructor
    · rintro ⟨h1, h2 | h2⟩
      · exact .inl ⟨h1, h2⟩
      · exact .inr h2
    · rintro (⟨h1, h2⟩ | h2)
      · exact ⟨h1, .inl h2⟩
      · exact ⟨by omega, .inr h2⟩
  · intro p a b
    have a := of_decide_eq_true a
    rw [inr_iff, <- hI.own_eq hx p] at b
    rw [b] at a
    exact hn a.2
theorem ownN_all {S : HS} (hI : HInv S no) {l : List Int} (h : ∀ n, n ∈ l ↔ S.sp n ≠ none) : ownN S l = S.pages := by
  rw [hI.pg]
  refine cP_congr fun p _ _ => ?_
  rw [decide_eq_decide]
  refine ⟨fun h => h.1, fun h0 => ⟨h0, (h _).2 ?_⟩⟩
  obtain ⟨_, _, _, x, hx, _⟩ := hI.ow p h0
  rw [hx]; exact fun e => by cases e
theorem ownM_all {S : HS} (hI : HInv S no) {l : List Int} (h : ∀ n, n ∈ l ↔ S.sp n ≠ none) (p : Int) : ((ownM S l p).getD (.int .i64 0)) = .int .i64 (S.own p) := by
  unfold ownM
  have h0 := hI.o0 p
  by_cases e : 0 < S.own p
  · obtain ⟨_, _, _, x, hx, _⟩ := hI.ow p e
    rw [if_pos ⟨e, (h _).2 (by rw [hx]; exact fun e => by cases e)⟩]; rfl
  · rw [if_neg fun g => e g.1, show S.own p = 0 by omega]; rfl
section
variable {E : Env} {w : World} (hE : EnvH E)
include hE
theorem acts16_spec {h : Nat} {a1 : SlV} {z : Nat -> ElT Act16} (hA : RowA w Act16 a1 z) (hT : TabAt E.g_math_bits_deBruijn64tab w) {w1 : World} {S : HS} (H : Sat [HeapP E h S, Old w] w1) (hI : HInv S no) {K : World -> Prop}
    (hK : ∀ S' w', HInv S' no -> Sat [HeapP E h S', Old w] w' -> K w') :
      LOOP (Int × Unit) (0, ()) w1 fun s13 _ w14 next15 =>
        CND (decide ((s13.1 : Int) < ((a1.len : Nat) : Int))) (
          NC a1.base fun p16 =>
          ((0 : Int) <= s13.1 /\ (s13.1 : Int) < (a1.len : Nat)) /\
          ∃ x17 : Int, w14.cell? (p16.add (Int.toNat s13.1 * 7)) = some (.int .i64 x17) /\
          CND ((x17 : Int) == 1) (
            NC a1.base fun p18 =>
            ((0 : Int) <= s13.1 /\ (s13.1 : Int) < (a1.len : Nat)) /\
            ∃ x19 : Int, w14.drew.cell? ((p18.add (Int.toNat s13.1 * 7)).add 1) = some (.int .i64 x19) /\
            NC a1.base fun p20 =>
            ((0 : Int) <= s13.1 /\ (s13.1 : Int) < (a1.len : Nat)) /\
            ∃ x21 : Int, w14.drew.cell? ((p20.add (Int.toNat s13.1 * 7)).add 2) = some (.int .u64 x21) /\
            NC a1.base fun p22 =>
            ((0 : Int) <= s13.1 /\ (s13.1 : Int) < (a1.len : Nat)) /\
            ∃ x23 : Int, w14.drew.cell? ((p22.add (Int.toNat s13.1 * 7)).add 3) = some (.int .i64 x23) /\
            NC a1.base fun p24 =>
            ((0 : Int) <= s13.1 /\ (s13.1 : Int) < (a1.len : Nat)) /\
            ∃ x25 : Bool, w14.drew.cell? ((p24.add (Int.toNat s13.1 * 7)).add 4) = some (.bool x25) /\
            F.mheap_Heap_Alloc E (some ⟨h, 0, none⟩) x19 x21 x23 x25 (fun r26 r27 w28 =>
            next15 (i64 (s13.1 + 1), ()) w28
            ) w14.drew
          ) (
            CND ((x17 : Int) == 2) (
              NC a1.base fun p29 =>
              ((0 : Int) <= s13.1 /\ (s13.1 : Int) < (a1.len : Nat)) /\
              ∃ x30 : Int, w14.drew.cell? ((p29.add (Int.toNat s13.1 * 7)).add 2) = some (.int .u64 x30) /\
              NC a1.base fun p31 =>
              ((0 : Int) <= s13.1 /\ (s13.1 : Int) < (a1.len : Nat)) /\
              ∃ x32 : Int, w14.drew.cell? ((p31.add (Int.toNat s13.1 * 7)).add 5) = some (.int .i64 x32) /\
              F.mheap_Heap_Manual E (some ⟨h, 0, none⟩) x30 x32 (fun r33 r34 w35 =>
              next15 (i64 (s13.1 + 1), ()) w35
              ) w14.drew
            ) (
              CND ((x17 : Int) == 3) (
                NC a1.base fun p36 =>
                ((0 : Int) <= s13.1 /\ (s13.1 : Int) < (a1.len : Nat)) /\
                ∃ x37 : Int, w14.cell? ((p36.add (Int.toNat s13.1 * 7)).add 5) = some (.int .i64 x37) /\
                F.mheap_Heap_Free E (some ⟨h, 0, none⟩) x37 (fun r38 w39 =>
                next15 (i64 (s13.1 + 1), ()) w39
                ) w14
              ) (
                CND ((x17 : Int) == 5) (
                  NC a1.base fun p40 =>
                  ((0 : Int) <= s13.1 /\ (s13.1 : Int) < (a1.len : Nat)) /\
                  ∃ x41 : Int, w14.cell? ((p40.add (Int.toNat s13.1 * 7)).add 1) = some (.int .i64 x41) /\
                  F.mheap_Heap_Flush E (some ⟨h, 0, none⟩) x41 (fun  w42 =>
                  next15 (i64 (s13.1 + 1), ()) w42
                  ) w14
                ) (
                  CND ((x17 : Int) == 6) (
                    NC a1.base fun p43 =>
                    ((0 : Int) <= s13.1 /\ (s13.1 : Int) < (a1.len : Nat)) /\
                    ∃ x44 : Int, w14.cell? ((p43.add (Int.toNat s13.1 * 7)).add 2) = some (.int .u64 x44) /\
                    F.mheap_Heap_Scavenge E (some ⟨h, 0, none⟩) x44 (fun r45 w46 =>
                    next15 (i64 (s13.1 + 1), ()) w46
                    ) w14
                  ) (
                    next15 (i64 (s13.1 + 1), ()) w14
                  )
                )
              )
            )
          )
        ) (K w14) := by
  have hc1 := hA.1
  have hc2 := hA.2.1
  refine LOOP_intro (fun st w' => ∃ (i : Nat) (S : HS), st.1 = (i : Int) /\ i <= a1.len /\ HInv S no /\ Sat [HeapP E h S, Old w] w') (fun st _ => ((a1.len : Int) - st.1).toNat) ⟨0, S, rfl, Nat.zero_le _, hI, H⟩ ?_
  clear H hI S
  rintro ⟨i', u⟩ _ w14 ⟨i, S, hi, hil, hI, H14⟩
  dsimp only at hi ⊢
  subst hi
  refine CND_dec (fun hlt => ?_) fun _ => hK S w14 hI H14
  have hb : (0 : Int) <= (i : Int) /\ (i : Int) < (a1.len : Nat) := ⟨by omega, by omega⟩
  have nx : ∀ S' w', HInv S' no -> Sat [HeapP E h S', Old w] w' -> (∃ (i2 : Nat) (S : HS), i64 ((i : Int) + 1) = (i2 : Int) /\ i2 <= a1.len /\ HInv S no /\ Sat [HeapP E h S, Old w] w') /\ ((a1.len : Int) - i64 ((i : Int) + 1)).toNat < ((a1.len : Int) - (i : Int)).toNat := fun S' w' hI' H' => by
    rw [i64_id (n := (i : Int) + 1) (by omega) (by omega)]
    exact ⟨⟨i + 1, S', rfl, by omega, hI', H'⟩, by omega⟩
  have hT' : ∀ w', Sat [Old w] w' -> TabAt E.g_math_bits_deBruijn64tab w' := fun w' h => hT.ext (h.old 0 rfl)
  obtain ⟨x, hx, hc⟩ := act16 (hA.old16 (H14.old 1 rfl)) (show i < a1.len by omega)
  have Hd := H14.drew
  obtain ⟨x', hx', hd⟩ := act16 (hA.old16 (Hd.old 1 rfl)) (show i < a1.len by omega)
  rw [hx] at hx'; cases hx'
  rw [hx]
  simp only [NC_some]
  refine ⟨hb, _, hc.c0, CND_eq (fun _ => ⟨hb, _, hd.c1, hb, _, hd.c2, hb, _, hd.c3, hb, _, hd.c4, ?_⟩) fun _ => CND_eq (fun _ => ⟨hb, _, hd.c2, hb, _, hd.c5, ?_⟩) fun _ => CND_eq (fun _ => ⟨hb, _, hc.c5, ?_⟩) fun _ => CND_eq (fun _ => ⟨hb, _, hc.c1, ?_⟩) fun _ => CND_eq (fun _ => ⟨hb, _, hc.c2, ?_⟩) fun _ => nx S w14 hI H14⟩
  · exact halloc_spec hE.toEnvA hT' Hd hI hc.n0 hc.n1 (fun _ w' H' => nx S w' hI H') (fun _ S2 _ hI2 w' H' => nx S2 w' hI2 H') fun _ page S2 b id X _ _ _ _ _ hI3 w' H' => nx _ w' hI3 H'
  · exact hmanual_spec hE.toEnvA hT' Hd hI hc.n0 hc.n1 hc.i1 (fun _ w' H' => nx S w' hI H') (fun _ S2 _ hI2 w' H' => nx S2 w' hI2 H') fun _ page S2 b id X _ _ _ _ _ hI3 w' H' => nx _ w' hI3 H'
  · exact hfree_spec hE.toEnvA H14 hI (fun _ => nx S w14 hI H14) (fun _ _ _ => nx S w14 hI H14) fun y a _ _ _ hI2 w' H' => nx _ w' hI2 H'
  · exact hflush_spec hE.toEnvS H14 hI (fun _ w' H' => nx S w' hI H') fun _ _ w' hI2 H' => nx _ w' hI2 H'
  · exact hscav_spec hE.toEnvA H14 hI hc.n0 hc.n1 fun S' m _ _ _ hI2 w' H' => nx S' w' hI2 H'
end
end Go.Sh
