/- The heap tells its spans in a row: a range over a map, and the sort of the row. No further condition. -/
import Derived.Test.YthhljkidhpnccaaGreatDoorA
import Derived.Test.YthhljkidhpnccaaGreatDoorF
import Derived.Test.YthhljkidhpnccaaGreatDoorH
import Derived.Test.YthhljkidhpnccaaGreatDoorB
import Derived.Test.YthhljkidhpnccaaGreatDoorU
set_option linter.all false
set_option maxRecDepth 8000
set_option maxHeartbeats 4000000
namespace Go.Sh
def SP (E : Env) (s : SlV) (Z : List Pr) (l0 : List Int) (w : World) : Prop := ∃ l : List Int, l.Perm l0 /\ Sat (Row E.t_int 1 s (ints .i64 l) :: Z) w
def CmpOk (E : Env) (cmp : Value) (s : SlV) (Z : List Pr) (l0 : List Int) : Prop := ∀ x y w (R : Value -> World -> Prop), x ∈ l0 -> y ∈ l0 -> SP E s Z l0 w -> (∀ r w', SP E s Z l0 w' -> R (.int .i64 r) w') -> DYN E.call cmp #[.int .i64 x, .int .i64 y] w R
section
variable {E : Env} {cmp : Value} {s : SlV} {Z : List Pr} {l0 : List Int} {w : World}
theorem SP.drew (h : SP E s Z l0 w) : SP E s Z l0 w.drew := let ⟨l, h1, h2⟩ := h; ⟨l, h1, h2.drew⟩
theorem SP.at (h : SP E s Z l0 w) {i : Int} (h0 : 0 <= i) (h1 : i < s.len) : ∃ p x, s.base = some p /\ w.cell? (p.add (Int.toNat i * 1)) = some (.int .i64 x) /\ x ∈ l0 := by
  obtain ⟨l, hp, hs⟩ := h
  have hl := hs.rowLen
  rw [ints, List.length_map, Nat.mul_one] at hl
  have hi : i.toNat < l.length := by omega
  obtain ⟨b, hb⟩ := hs.own.base_of (by omega)
  refine ⟨_, l[i.toNat], hb, ?_, hp.mem_iff.1 (List.getElem_mem hi)⟩
  have hg : (ints IntKind.i64 l)[i.toNat]? = some (.int .i64 l[i.toNat]) := ints_get (List.getElem?_eq_getElem hi)
  rw [Nat.mul_one]
  exact hs.own.cell hb hg
theorem cmp_two (hC : CmpOk E cmp s Z l0) (hS : SP E s Z l0 w) {i j : Int} (i0 : 0 <= i) (i1 : i < s.len) (j0 : 0 <= j) (j1 : j < s.len) {R : Int -> World -> Prop} (hR : ∀ z w', SP E s Z l0 w' -> R z w') :
    NC s.base fun p => ((0 : Int) <= i /\ (i : Int) < (s.len : Nat)) /\ ∃ x : Int, w.drew.cell? (p.add (Int.toNat i * 1)) = some (.int .i64 x) /\
    NC s.base fun q => ((0 : Int) <= j /\ (j : Int) < (s.len : Nat)) /\ ∃ y : Int, w.drew.cell? (q.add (Int.toNat j * 1)) = some (.int .i64 y) /\
    DYN E.call cmp #[.int .i64 x, .int .i64 y] w.drew fun r w' => ∃ z : Int, r = .int .i64 z /\ R z w' := by
  obtain ⟨p, x, hb, hx, hx0⟩ := hS.drew.at i0 i1
  obtain ⟨q, y, hb', hy, hy0⟩ := hS.drew.at j0 j1
  rw [hb] at hb'; cases hb'
  rw [hb]
  simp only [NC_some]
  exact ⟨⟨i0, i1⟩, x, hx, ⟨j0, j1⟩, y, hy, hC x y _ _ hx0 hy0 hS.drew fun r w' h => ⟨r, rfl, hR r w' h⟩⟩
theorem swap_two (hS : SP E s Z l0 w) {i j : Int} (i0 : 0 <= i) (i1 : i < s.len) (j0 : 0 <= j) (j1 : j < s.len) {R : World -> Prop} (hR : ∀ w', SP E s Z l0 w' -> R w') :
    NC s.base fun p => ((0 : Int) <= i /\ (i : Int) < (s.len : Nat)) /\ ∃ x : Int, w.drew.cell? (p.add (Int.toNat i * 1)) = some (.int .i64 x) /\
    NC s.base fun q => ((0 : Int) <= j /\ (j : Int) < (s.len : Nat)) /\ ∃ y : Int, w.drew.cell? (q.add (Int.toNat j * 1)) = some (.int .i64 y) /\
    NC s.base fun p' => ((0 : Int) <= j /\ (j : Int) < (s.len : Nat)) /\ stCells (p'.add (Int.toNat j * 1)) 0 [.int .i64 x] w.drew fun w1 =>
    NC s.base fun q' => ((0 : Int) <= i /\ (i : Int) < (s.len : Nat)) /\ stCells (q'.add (Int.toNat i * 1)) 0 [.int .i64 y] w1 fun w2 => R w2 := by
  obtain ⟨l, hp, hs⟩ := hS.drew
  have hl := hs.rowLen
  rw [ints, List.length_map, Nat.mul_one] at hl
  have hi : i.toNat < l.length := by omega
  have hj : j.toNat < l.length := by omega
  obtain ⟨b, hb⟩ := hs.own.base_of (by omega)
  have gi : (ints IntKind.i64 l)[i.toNat]? = some (.int .i64 l[i.toNat]) := ints_get (List.getElem?_eq_getElem hi)
  have gj : (ints IntKind.i64 l)[j.toNat]? = some (.int .i64 l[j.toNat]) := ints_get (List.getElem?_eq_getElem hj)
  rw [hb]
  simp only [NC_some, Nat.mul_one]
  refine ⟨⟨i0, i1⟩, _, hs.own.cell hb gi, ⟨j0, j1⟩, _, hs.own.cell hb gj, ⟨j0, j1⟩, ?_⟩
  refine st_row hs (j := j.toNat) rfl (by rw [ints, List.length_map]; exact hj) hb fun w1 H1 => ⟨⟨i0, i1⟩, ?_⟩
  refine st_row H1 (j := i.toNat) rfl (by rw [List.length_set, ints, List.length_map]; exact hi) hb fun w2 H2 => ?_
  refine hR w2 ⟨(l.set j.toNat l[i.toNat]).set i.toNat l[j.toNat], (List.set_set_perm hj hi).trans hp, ?_⟩
  have e : ints IntKind.i64 ((l.set j.toNat l[i.toNat]).set i.toNat l[j.toNat]) = ((ints .i64 l).set j.toNat (.int .i64 l[i.toNat])).set i.toNat (.int .i64 l[j.toNat]) := by
    unfold ints
    rw [List.map_set, List.map_set]
  rw [e]; exact H2
variable (hC : CmpOk E cmp s Z l0) (hsm : s.len < 1099511627776)
include hC hsm
theorem insertion_spec (hS : SP E s Z l0 w) {a b : Int} (a0 : 0 <= a) (ab : a <= b) (b1 : b <= s.len) {K : World -> Prop} (hK : ∀ w', SP E s Z l0 w' -> K w') : F.slices_insertionSortCmpFunc_int_ E s a b cmp K w := by
  unfold F.slices_insertionSortCmpFunc_int_
  by_cases hab : a + 1 <= b
  · rw [i64_id (n := a + 1) (by omega) (by omega)]
    refine LOOP_intro (fun st w' => a + 1 <= st.1 /\ st.1 <= b /\ SP E s Z l0 w') (fun st _ => (b - st.1).toNat) ⟨Int.le_refl _, hab, hS⟩ ?_
    rintro ⟨i, u⟩ _ w2 ⟨h1, h2, hS2⟩
    dsimp only at h1 h2 ⊢
    refine CND_dec (fun hlt => ?_) fun _ => hK w2 hS2
    have hnx : ∀ w', SP E s Z l0 w' -> (a + 1 <= i64 (i + 1) /\ i64 (i + 1) <= b /\ SP E s Z l0 w') /\ (b - i64 (i + 1)).toNat < (b - i).toNat := fun w' h => by
      rw [i64_id (n := i + 1) (by omega) (by omega)]
      exact ⟨⟨by omega, by omega, h⟩, by omega⟩
    refine LOOP_intro (fun st w' => a <= st.1 /\ st.1 <= i /\ SP E s Z l0 w') (fun st _ => (st.1 - a).toNat) ⟨by show a <= i; omega, Int.le_refl _, hS2⟩ ?_
    rintro ⟨j, u⟩ _ w5 ⟨h3, h4, hS5⟩
    dsimp only at h3 h4 ⊢
    refine CND_dec (fun hgt => ?_) fun _ => hnx _ hS5.drew
    rw [i64_id (n := j - 1) (by omega) (by omega)]
    refine cmp_two hC hS5 (by omega) (by omega) (by omega) (by omega) fun z w12 hS12 => CND_dec (fun _ => ?_) fun _ => hnx _ hS12
    exact swap_two hS12 (by omega) (by omega) (by omega) (by omega) fun w21 hS21 => ⟨⟨by show a <= j - 1; omega, by show j - 1 <= i; omega, hS21⟩, by show (j - 1 - a).toNat < (j - a).toNat; omega⟩
  · refine LOOP_intro (fun st w' => b <= st.1 /\ w' = w) (fun _ _ => 0) ⟨?_, rfl⟩ ?_
    · rw [i64_id (n := a + 1) (by omega) (by omega)]; omega
    · rintro ⟨i, u⟩ _ w2 ⟨h1, rfl⟩
      exact CND_dec (fun hlt => by dsimp only at h1 hlt; omega) fun _ => hK _ hS
theorem siftDown_spec (hS : SP E s Z l0 w) {lo hi first : Int} (h0 : 0 <= lo) (f0 : 0 <= first) (hh : 0 <= hi) (h1 : first + hi <= s.len) {K : World -> Prop} (hK : ∀ w', SP E s Z l0 w' -> K w') (hlo : lo < 1099511627776) : F.slices_siftDownCmpFunc_int_ E s lo hi first cmp K w := by
  unfold F.slices_siftDownCmpFunc_int_
  refine LOOP_intro (fun st w' => 0 <= st.1 /\ st.1 < 1099511627776 /\ SP E s Z l0 w') (fun st _ => (1099511627776 - st.1).toNat) ⟨h0, hlo, hS⟩ ?_
  rintro ⟨root, u⟩ _ w2 ⟨r0, r1, hS2⟩
  dsimp only at r0 r1 ⊢
  refine LET_intro fun child hch => ?_
  rw [i64_id (n := 2 * root) (by omega) (by omega), i64_id (n := 2 * root + 1) (by omega) (by omega)] at hch
  refine CND_dec (fun _ => hK w2 hS2) fun hlt => ?_
  refine JOIN_intro (fun st w' => root < st.1 /\ st.1 < hi /\ SP E s Z l0 w') ?_ ?_
  · refine JOIN_in ?_
    rw [i64_id (n := child + 1) (by omega) (by omega)]
    refine CND_dec (fun hc2 => ?_) fun _ j => CND_f rfl ⟨by omega, by omega, hS2.drew⟩
    rw [i64_id (n := first + child) (by omega) (by omega), i64_id (n := first + child + 1) (by omega) (by omega)]
    exact cmp_two hC hS2 (by omega) (by omega) (by omega) (by omega) fun z w16 hS16 j => CND_dec (fun _ => ⟨by show root < child + 1; omega, by show child + 1 < hi; omega, hS16⟩) fun _ => ⟨by omega, by omega, hS16⟩
  · rintro ⟨c, u⟩ _ w7 ⟨c0, c1, hS7⟩
    dsimp only at c0 c1 ⊢
    rw [i64_id (n := first + root) (by omega) (by omega), i64_id (n := first + c) (by omega) (by omega)]
    refine cmp_two hC hS7 (by omega) (by omega) (by omega) (by omega) fun z w23 hS23 => CND_not (CND_dec (fun _ => ?_) fun _ => hK w23 hS23)
    exact swap_two hS23 (by omega) (by omega) (by omega) (by omega) fun w32 hS32 => ⟨⟨by show 0 <= c; omega, by show c < _; omega, hS32⟩, by show (1099511627776 - c).toNat < (1099511627776 - root).toNat; omega⟩
theorem heapSort_spec (hS : SP E s Z l0 w) {a b : Int} (a0 : 0 <= a) (ab : a < b) (b1 : b <= s.len) {K : World -> Prop} (hK : ∀ w', SP E s Z l0 w' -> K w') : F.slices_heapSortCmpFunc_int_ E s a b cmp K w := by
  unfold F.slices_heapSortCmpFunc_int_ T0.slices_heapSortCmpFunc_int_
  rw [i64_id (n := b - a) (by omega) (by omega), i64_id (n := b - a - 1) (by omega) (by omega), Int.tdiv_eq_ediv_of_nonneg (by omega), i64_id (n := (b - a - 1) / 2) (by omega) (by omega)]
  refine ⟨by decide, LET_intro fun i hi => ?_⟩
  refine LOOP_intro (fun st w' => -1 <= st.1 /\ st.1 < b - a /\ SP E s Z l0 w') (fun st _ => (st.1 + 1).toNat) ⟨by show -1 <= i; omega, by show i < b - a; omega, hS⟩ ?_
  rintro ⟨k, u⟩ _ w3 ⟨k0, k1, hS3⟩
  dsimp only at k0 k1 ⊢
  refine CND_dec (fun hge => ?_) fun hlt => ?_
  · refine siftDown_spec hC hsm hS3 hge a0 (by omega) (by omega) (fun w5 hS5 => ?_) (by omega)
    rw [i64_id (n := k - 1) (by omega) (by omega)]
    exact ⟨⟨by show -1 <= k - 1; omega, by show k - 1 < b - a; omega, hS5⟩, by show (k - 1 + 1).toNat < (k + 1).toNat; omega⟩
  · refine LET_intro fun i2 hi2 => ?_
    refine LOOP_intro (fun st w' => -1 <= st.1 /\ st.1 < b - a /\ SP E s Z l0 w') (fun st _ => (st.1 + 1).toNat) ⟨by show -1 <= i2; omega, by show i2 < b - a; omega, hS3⟩ ?_
    rintro ⟨k, u⟩ _ w8 ⟨k0, k1, hS8⟩
    dsimp only at k0 k1 ⊢
    refine CND_dec (fun hge => ?_) fun hlt => hK w8 hS8
    rw [i64_id (n := a + k) (by omega) (by omega)]
    refine swap_two hS8 (by omega) (by omega) a0 (by omega) fun w17 hS17 => ?_
    refine siftDown_spec hC hsm hS17 (Int.le_refl 0) a0 hge (by omega) (fun w18 hS18 => ?_) (by decide)
    rw [i64_id (n := k - 1) (by omega) (by omega)]
    exact ⟨⟨by show -1 <= k - 1; omega, by show k - 1 < b - a; omega, hS18⟩, by show (k - 1 + 1).toNat < (k + 1).toNat; omega⟩
theorem reverse_spec (hS : SP E s Z l0 w) {a b : Int} (a0 : 0 <= a) (ab : a < b) (b1 : b <= s.len) {K : World -> Prop} (hK : ∀ w', SP E s Z l0 w' -> K w') : F.slices_reverseRangeCmpFunc_int_ E s a b cmp K w := by
  unfold F.slices_reverseRangeCmpFunc_int_
  rw [i64_id (n := b - 1) (by omega) (by omega)]
  refine LOOP_intro (fun st w' => 0 <= st.1 /\ st.2.1 < b /\ 0 <= st.2.1 + 1 /\ st.1 <= b /\ SP E s Z l0 w') (fun st _ => (st.2.1 - st.1).toNat) ⟨a0, by show b - 1 < b; omega, by show 0 <= b - 1 + 1; omega, by show a <= b; omega, hS⟩ ?_
  rintro ⟨i, j, u⟩ _ w2 ⟨i0, j1, j0, i1, hS2⟩
  dsimp only at i0 j1 j0 i1 ⊢
  refine CND_dec (fun hlt => ?_) fun _ => hK w2 hS2
  rw [i64_id (n := i + 1) (by omega) (by omega), i64_id (n := j - 1) (by omega) (by omega)]
  exact swap_two hS2 (by omega) (by omega) (by omega) (by omega) fun w11 hS11 => ⟨⟨by show 0 <= i + 1; omega, by show j - 1 < b; omega, by show 0 <= j - 1 + 1; omega, by show i + 1 <= b; omega, hS11⟩, by show (j - 1 - (i + 1)).toNat < (j - i).toNat; omega⟩
theorem partialInsertion_spec (hS : SP E s Z l0 w) {a b : Int} (a0 : 0 <= a) (ab : a < b) (b1 : b <= s.len) {K : Bool -> World -> Prop} (hK : ∀ r w', SP E s Z l0 w' -> K r w') : F.slices_partialInsertionSortCmpFunc_int_ E s a b cmp K w := by
  unfold F.slices_partialInsertionSortCmpFunc_int_
  rw [i64_id (n := a + 1) (by omega) (by omega)]
  refine LOOP_intro (fun st w' => a + 1 <= st.1 /\ st.1 <= b /\ 0 <= st.2.1 /\ st.2.1 <= 5 /\ SP E s Z l0 w') (fun st _ => (5 - st.2.1).toNat) ⟨Int.le_refl _, by show a + 1 <= b; omega, Int.le_refl 0, by show (0 : Int) <= 5; decide, hS⟩ ?_
  rintro ⟨i, n, u⟩ _ w2 ⟨i0, i1, n0, n1, hS2⟩
  dsimp only at i0 i1 n0 n1 ⊢
  refine CND_dec (fun hn => ?_) fun _ => hK false w2 hS2
  refine JOIN_intro (fun st w' => i <= st.1 /\ st.1 <= b /\ SP E s Z l0 w') ?_ ?_
  · refine LOOP_intro (fun st w' => i <= st.1 /\ st.1 <= b /\ SP E s Z l0 w') (fun st _ => (b - st.1).toNat) ⟨Int.le_refl _, i1, hS2⟩ ?_
    rintro ⟨k, u⟩ _ w8 ⟨k0, k1, hS8⟩
    dsimp only at k0 k1 ⊢
    refine CND_dec (fun hlt => ?_) fun _ => ⟨k0, k1, hS8.drew⟩
    rw [i64_id (n := k - 1) (by omega) (by omega), i64_id (n := k + 1) (by omega) (by omega)]
    exact cmp_two hC hS8 (by omega) (by omega) (by omega) (by omega) fun z w15 hS15 => CND_not (CND_dec (fun _ => ⟨k0, k1, hS15⟩) fun _ => ⟨⟨by show i <= k + 1; omega, by show k + 1 <= b; omega, hS15⟩, by show (b - (k + 1)).toNat < (b - k).toNat; omega⟩)
  rintro ⟨k, u⟩ _ w6 ⟨k0, k1, hS6⟩
  dsimp only at k0 k1 ⊢
  refine CND_eq (fun _ => hK true w6 hS6) fun hne => ?_
  rw [i64_id (n := b - a) (by omega) (by omega)]
  refine CND_dec (fun _ => hK false w6 hS6) fun _ => ?_
  rw [i64_id (n := k - 1) (by omega) (by omega), i64_id (n := k - a) (by omega) (by omega), i64_id (n := b - k) (by omega) (by omega), i64_id (n := k + 1) (by omega) (by omega), i64_id (n := n + 1) (by omega) (by omega)]
  have hnx : ∀ w', SP E s Z l0 w' -> (a + 1 <= k /\ k <= b /\ 0 <= n + 1 /\ n + 1 <= 5 /\ SP E s Z l0 w') /\ (5 - (n + 1)).toNat < (5 - n).toNat := fun w' h => ⟨⟨by omega, by omega, by omega, by omega, h⟩, by omega⟩
  refine swap_two hS6 (by omega) (by omega) (by omega) (by omega) fun w24 hS24 => ?_
  refine JOIN_intro (fun _ w' => SP E s Z l0 w') ?_ ?_
  · refine CND_dec (fun _ => ?_) fun _ => hS24
    refine LOOP_intro (fun st w' => 0 <= st.1 /\ st.1 < b /\ SP E s Z l0 w') (fun st _ => st.1.toNat) ⟨by show 0 <= k - 1; omega, by show k - 1 < b; omega, hS24⟩ ?_
    rintro ⟨j, u⟩ _ w29 ⟨j0, j1, hS29⟩
    dsimp only at j0 j1 ⊢
    refine CND_dec (fun hge => ?_) fun _ => hS29
    rw [i64_id (n := j - 1) (by omega) (by omega)]
    refine cmp_two hC hS29 (by omega) (by omega) (by omega) (by omega) fun z w36 hS36 => CND_not (CND_dec (fun _ => ?_) fun _ => hS36)
    exact swap_two hS36 (by omega) (by omega) (by omega) (by omega) fun w45 hS45 => ⟨⟨by show 0 <= j - 1; omega, by show j - 1 < b; omega, hS45⟩, by show (j - 1).toNat < j.toNat; omega⟩
  · intro _ _ w27 hS27
    refine CND_dec (fun _ => ?_) fun _ => hnx w27 hS27
    refine LOOP_intro (fun st w' => k + 1 <= st.1 /\ st.1 <= b /\ SP E s Z l0 w') (fun st _ => (b - st.1).toNat) ⟨Int.le_refl _, by show k + 1 <= b; omega, hS27⟩ ?_
    rintro ⟨j, u⟩ _ w47 ⟨j0, j1, hS47⟩
    dsimp only at j0 j1 ⊢
    refine CND_dec (fun hlt => ?_) fun _ => hnx _ hS47
    rw [i64_id (n := j - 1) (by omega) (by omega), i64_id (n := j + 1) (by omega) (by omega)]
    refine cmp_two hC hS47 (by omega) (by omega) (by omega) (by omega) fun z w54 hS54 => CND_not (CND_dec (fun _ => ?_) fun _ => hnx _ hS54)
    exact swap_two hS54 (by omega) (by omega) (by omega) (by omega) fun w63 hS63 => ⟨⟨by show k + 1 <= j + 1; omega, by show j + 1 <= b; omega, hS63⟩, by show (b - (j + 1)).toNat < (b - j).toNat; omega⟩
theorem partitionEqual_spec (hS : SP E s Z l0 w) {a b p : Int} (a0 : 0 <= a) (ab : a < b) (b1 : b <= s.len) (p0 : a <= p) (p1 : p < b) {K : Int -> World -> Prop} (hK : ∀ r w', a < r -> r <= b -> SP E s Z l0 w' -> K r w') : F.slices_partitionEqualCmpFunc_int_ E s a b p cmp K w := by
  unfold F.slices_partitionEqualCmpFunc_int_
  refine swap_two hS (by omega) (by omega) (by omega) (by omega) fun w8 hS8 => ?_
  rw [i64_id (n := a + 1) (by omega) (by omega), i64_id (n := b - 1) (by omega) (by omega)]
  refine LOOP_intro (fun st w' => a + 1 <= st.1 /\ st.1 <= b /\ a <= st.2.1 /\ st.2.1 < b /\ SP E s Z l0 w') (fun st _ => (st.2.1 + 1 - st.1).toNat) ⟨Int.le_refl _, by show a + 1 <= b; omega, by show a <= b - 1; omega, by show b - 1 < b; omega, hS8⟩ ?_
  rintro ⟨i, j, u⟩ _ w10 ⟨i0, i1, j0, j1, hS10⟩
  dsimp only at i0 i1 j0 j1 ⊢
  refine JOIN_intro (fun st w' => i <= st.1 /\ st.1 <= max i (j + 1) /\ SP E s Z l0 w') ?_ ?_
  · refine LOOP_intro (fun st w' => i <= st.1 /\ st.1 <= max i (j + 1) /\ st.2.1 = j /\ SP E s Z l0 w') (fun st _ => (b - st.1).toNat) ⟨Int.le_refl _, by show i <= max i (j + 1); omega, rfl, hS10⟩ ?_
    rintro ⟨k, jj, u⟩ _ w16 ⟨k0, k1, hjj, hS16⟩
    dsimp only at k0 k1 hjj ⊢
    have hjj' := hjj.symm
    subst hjj'
    refine CND_dec (fun hle => ?_) fun _ => ⟨k0, k1, hS16.drew⟩
    rw [i64_id (n := k + 1) (by omega) (by omega)]
    exact cmp_two hC hS16 (by omega) (by omega) (by omega) (by omega) fun z w23 hS23 => CND_not (CND_dec (fun _ => ⟨k0, k1, hS23⟩) fun _ => ⟨⟨by show i <= k + 1; omega, by show k + 1 <= max i (j + 1); omega, rfl, hS23⟩, by show (b - (k + 1)).toNat < (b - k).toNat; omega⟩)
  rintro ⟨i2, u⟩ _ w14 ⟨k0, k1, hS14⟩
  dsimp only at k0 k1 ⊢
  refine JOIN_intro (fun st w' => st.1 <= j /\ min j (i2 - 1) <= st.1 /\ SP E s Z l0 w') ?_ ?_
  · refine LOOP_intro (fun st w' => st.1 <= j /\ min j (i2 - 1) <= st.1 /\ SP E s Z l0 w') (fun st _ => (st.1 + 1).toNat) ⟨Int.le_refl _, by show min j (i2 - 1) <= j; omega, hS14⟩ ?_
    rintro ⟨k, u⟩ _ w29 ⟨m0, m1, hS29⟩
    dsimp only at m0 m1 ⊢
    refine CND_dec (fun hle => ?_) fun _ => ⟨m0, m1, hS29.drew⟩
    rw [i64_id (n := k - 1) (by omega) (by omega)]
    exact cmp_two hC hS29 (by omega) (by omega) (by omega) (by omega) fun z w36 hS36 => CND_dec (fun _ => ⟨⟨by show k - 1 <= j; omega, by show min j (i2 - 1) <= k - 1; omega, hS36⟩, by show (k - 1 + 1).toNat < (k + 1).toNat; omega⟩) fun _ => ⟨m0, m1, hS36⟩
  rintro ⟨j2, u⟩ _ w27 ⟨m0, m1, hS27⟩
  dsimp only at m0 m1 ⊢
  refine CND_dec (fun _ => hK i2 w27 (by omega) (by omega) hS27) fun hle => ?_
  rw [i64_id (n := i2 + 1) (by omega) (by omega), i64_id (n := j2 - 1) (by omega) (by omega)]
  exact swap_two hS27 (by omega) (by omega) (by omega) (by omega) fun w45 hS45 => ⟨⟨by show a + 1 <= i2 + 1; omega, by show i2 + 1 <= b; omega, by show a <= j2 - 1; omega, by show j2 - 1 < b; omega, hS45⟩, by show (j2 - 1 + 1 - (i2 + 1)).toNat < (j + 1 - i).toNat; omega⟩
theorem partition_spec (hS : SP E s Z l0 w) {a b p : Int} (a0 : 0 <= a) (ab : a < b) (b1 : b <= s.len) (p0 : a <= p) (p1 : p < b) {K : Int -> Bool -> World -> Prop} (hK : ∀ r t w', a <= r -> r < b -> SP E s Z l0 w' -> K r t w') : F.slices_partitionCmpFunc_int_ E s a b p cmp K w := by
  unfold F.slices_partitionCmpFunc_int_
  refine swap_two hS (by omega) (by omega) (by omega) (by omega) fun w8 hS8 => ?_
  rw [i64_id (n := a + 1) (by omega) (by omega), i64_id (n := b - 1) (by omega) (by omega)]
  have left : ∀ (i j : Int) (w10 : World) (J : Int × Unit -> World -> Prop), a + 1 <= i -> i <= b -> a <= j -> j < b -> SP E s Z l0 w10 -> (∀ k w', i <= k -> k <= max i (j + 1) -> SP E s Z l0 w' -> J (k, ()) w') ->
      LOOP (Int × Unit) (i, ()) w10 fun s12 _ w13 next14 =>
      CND (decide ((s12.1 : Int) <= j)) (
        NC s.base fun p15 =>
        ((0 : Int) <= s12.1 /\ (s12.1 : Int) < (s.len : Nat)) /\
        ∃ x16 : Int, w13.drew.cell? (p15.add (Int.toNat s12.1 * 1)) = some (.int .i64 x16) /\
        NC s.base fun p17 =>
        ((0 : Int) <= a /\ (a : Int) < (s.len : Nat)) /\
        ∃ x18 : Int, w13.drew.cell? (p17.add (Int.toNat a * 1)) = some (.int .i64 x18) /\
        DYN E.call cmp #[.int .i64 x16, .int .i64 x18] w13.drew fun r19 w20 =>
        ∃ x21 : Int, r19 = .int .i64 x21 /\
        CND (decide ((x21 : Int) < 0)) (
          next14 (i64 (s12.1 + 1), ()) w20
        ) (
          J (s12.1, ()) w20
        )
      ) (
        J (s12.1, ()) w13.drew
      ) := by
    intro i j w10 J i0 i1 j0 j1 hS10 hJ
    refine LOOP_intro (fun st w' => i <= st.1 /\ st.1 <= max i (j + 1) /\ SP E s Z l0 w') (fun st _ => (b - st.1).toNat) ⟨Int.le_refl _, by show i <= max i (j + 1); omega, hS10⟩ ?_
    rintro ⟨k, u⟩ _ w16 ⟨k0, k1, hS16⟩
    dsimp only at k0 k1 ⊢
    refine CND_dec (fun hle => ?_) fun _ => hJ k _ k0 k1 hS16.drew
    rw [i64_id (n := k + 1) (by omega) (by omega)]
    exact cmp_two hC hS16 (by omega) (by omega) (by omega) (by omega) fun z w23 hS23 => CND_dec (fun _ => ⟨⟨by show i <= k + 1; omega, by show k + 1 <= max i (j + 1); omega, hS23⟩, by show (b - (k + 1)).toNat < (b - k).toNat; omega⟩) fun _ => hJ k _ k0 k1 hS23
  have left2 : ∀ (i j : Int) (w10 : World) (J : Int × Unit -> World -> Prop), a + 1 <= i -> i <= b -> a <= j -> j < b -> SP E s Z l0 w10 -> (∀ k w', i <= k -> k <= max i (j + 1) -> SP E s Z l0 w' -> J (k, ()) w') ->
      LOOP (Int × Int × Unit) (i, j, ()) w10 fun s12 _ w13 next14 =>
      CND (decide ((s12.1 : Int) <= s12.2.1)) (
        NC s.base fun p15 =>
        ((0 : Int) <= s12.1 /\ (s12.1 : Int) < (s.len : Nat)) /\
        ∃ x16 : Int, w13.drew.cell? (p15.add (Int.toNat s12.1 * 1)) = some (.int .i64 x16) /\
        NC s.base fun p17 =>
        ((0 : Int) <= a /\ (a : Int) < (s.len : Nat)) /\
        ∃ x18 : Int, w13.drew.cell? (p17.add (Int.toNat a * 1)) = some (.int .i64 x18) /\
        DYN E.call cmp #[.int .i64 x16, .int .i64 x18] w13.drew fun r19 w20 =>
        ∃ x21 : Int, r19 = .int .i64 x21 /\
        CND (decide ((x21 : Int) < 0)) (
          next14 (i64 (s12.1 + 1), s12.2.1, ()) w20
        ) (
          J (s12.1, ()) w20
        )
      ) (
        J (s12.1, ()) w13.drew
      ) := by
    intro i j w10 J i0 i1 j0 j1 hS10 hJ
    refine LOOP_intro (fun st w' => i <= st.1 /\ st.1 <= max i (j + 1) /\ st.2.1 = j /\ SP E s Z l0 w') (fun st _ => (b - st.1).toNat) ⟨Int.le_refl _, by show i <= max i (j + 1); omega, rfl, hS10⟩ ?_
    rintro ⟨k, jj, u⟩ _ w16 ⟨k0, k1, hjj, hS16⟩
    dsimp only at k0 k1 hjj ⊢
    have hjj' := hjj.symm
    subst hjj'
    refine CND_dec (fun hle => ?_) fun _ => hJ k _ k0 k1 hS16.drew
    rw [i64_id (n := k + 1) (by omega) (by omega)]
    exact cmp_two hC hS16 (by omega) (by omega) (by omega) (by omega) fun z w23 hS23 => CND_dec (fun _ => ⟨⟨by show i <= k + 1; omega, by show k + 1 <= max i (j + 1); omega, rfl, hS23⟩, by show (b - (k + 1)).toNat < (b - k).toNat; omega⟩) fun _ => hJ k _ k0 k1 hS23
  have right : ∀ (i2 j : Int) (w14 : World) (J : Int × Unit -> World -> Prop), a + 1 <= i2 -> a <= j -> j < b -> SP E s Z l0 w14 -> (∀ k w', k <= j -> min j (i2 - 1) <= k -> SP E s Z l0 w' -> J (k, ()) w') ->
      LOOP (Int × Unit) (j, ()) w14 fun s25 _ w26 next27 =>
        CND (decide ((i2 : Int) <= s25.1)) (
          NC s.base fun p28 =>
          ((0 : Int) <= s25.1 /\ (s25.1 : Int) < (s.len : Nat)) /\
          ∃ x29 : Int, w26.drew.cell? (p28.add (Int.toNat s25.1 * 1)) = some (.int .i64 x29) /\
          NC s.base fun p30 =>
          ((0 : Int) <= a /\ (a : Int) < (s.len : Nat)) /\
          ∃ x31 : Int, w26.drew.cell? (p30.add (Int.toNat a * 1)) = some (.int .i64 x31) /\
          DYN E.call cmp #[.int .i64 x29, .int .i64 x31] w26.drew fun r32 w33 =>
          ∃ x34 : Int, r32 = .int .i64 x34 /\
          CND (!(decide ((x34 : Int) < 0))) (
            next27 (i64 (s25.1 - 1), ()) w33
          ) (
            J (s25.1, ()) w33
          )
        ) (
          J (s25.1, ()) w26.drew
        ) := by
    intro i2 j w14 J i0 j0 j1 hS14 hJ
    refine LOOP_intro (fun st w' => st.1 <= j /\ min j (i2 - 1) <= st.1 /\ SP E s Z l0 w') (fun st _ => (st.1 + 1).toNat) ⟨Int.le_refl _, by show min j (i2 - 1) <= j; omega, hS14⟩ ?_
    rintro ⟨k, u⟩ _ w29 ⟨m0, m1, hS29⟩
    dsimp only at m0 m1 ⊢
    refine CND_dec (fun hle => ?_) fun _ => hJ k _ m0 m1 hS29.drew
    rw [i64_id (n := k - 1) (by omega) (by omega)]
    exact cmp_two hC hS29 (by omega) (by omega) (by omega) (by omega) fun z w36 hS36 => CND_not (CND_dec (fun _ => hJ k _ m0 m1 hS36) fun _ => ⟨⟨by show k - 1 <= j; omega, by show min j (i2 - 1) <= k - 1; omega, hS36⟩, by show (k - 1 + 1).toNat < (k + 1).toNat; omega⟩)
  refine JOIN_intro (fun st w' => a + 1 <= st.1 /\ st.1 <= b /\ SP E s Z l0 w') (left (a + 1) (b - 1) w8 (fun st w' => a + 1 <= st.1 /\ st.1 <= b /\ SP E s Z l0 w') (Int.le_refl _) (by omega) (by omega) (by omega) hS8 fun k w' k0 k1 h => ⟨k0, by show k <= b; omega, h⟩) ?_
  rintro ⟨i, u⟩ _ w11 ⟨i0, i1, hS11⟩
  dsimp only at i0 i1 ⊢
  refine JOIN_intro (fun st w' => a <= st.1 /\ st.1 < b /\ SP E s Z l0 w') (right i (b - 1) w11 (fun st w' => a <= st.1 /\ st.1 < b /\ SP E s Z l0 w') i0 (by omega) (by omega) hS11 fun k w' k0 k1 h => ⟨by show a <= k; omega, by show k < b; omega, h⟩) ?_
  rintro ⟨j, u⟩ _ w24 ⟨j0, j1, hS24⟩
  dsimp only at j0 j1 ⊢
  refine CND_dec (fun _ => ?_) fun hle => ?_
  · exact swap_two hS24 (by omega) (by omega) (by omega) (by omega) fun w42 hS42 => hK j true w42 j0 j1 hS42
  refine swap_two hS24 (by omega) (by omega) (by omega) (by omega) fun w50 hS50 => ?_
  rw [i64_id (n := i + 1) (by omega) (by omega), i64_id (n := j - 1) (by omega) (by omega)]
  refine LOOP_intro (fun st w' => a + 1 <= st.1 /\ st.1 <= b /\ a <= st.2.1 /\ st.2.1 < b /\ SP E s Z l0 w') (fun st _ => (st.2.1 + 1 - st.1).toNat) ⟨by show a + 1 <= i + 1; omega, by show i + 1 <= b; omega, by show a <= j - 1; omega, by show j - 1 < b; omega, hS50⟩ ?_
  rintro ⟨i, j, u⟩ _ w52 ⟨i0, i1, j0, j1, hS52⟩
  dsimp only at i0 i1 j0 j1 ⊢
  refine JOIN_intro (fun st w' => i <= st.1 /\ st.1 <= max i (j + 1) /\ SP E s Z l0 w') (left2 i j w52 (fun st w' => i <= st.1 /\ st.1 <= max i (j + 1) /\ SP E s Z l0 w') i0 i1 j0 j1 hS52 fun k w' k0 k1 h => ⟨k0, k1, h⟩) ?_
  rintro ⟨i2, u⟩ _ w56 ⟨k0, k1, hS56⟩
  dsimp only at k0 k1 ⊢
  refine JOIN_intro (fun st w' => st.1 <= j /\ min j (i2 - 1) <= st.1 /\ SP E s Z l0 w') (right i2 j w56 (fun st w' => st.1 <= j /\ min j (i2 - 1) <= st.1 /\ SP E s Z l0 w') (by omega) j0 j1 hS56 fun k w' k0 k1 h => ⟨k0, k1, h⟩) ?_
  rintro ⟨j2, u⟩ _ w69 ⟨m0, m1, hS69⟩
  dsimp only at m0 m1 ⊢
  refine CND_dec (fun _ => ?_) fun hle => ?_
  · exact swap_two hS69 (by omega) (by omega) (by omega) (by omega) fun w87 hS87 => hK j2 false w87 (by omega) (by omega) hS87
  · rw [i64_id (n := i2 + 1) (by omega) (by omega), i64_id (n := j2 - 1) (by omega) (by omega)]
    exact swap_two hS69 (by omega) (by omega) (by omega) (by omega) fun w95 hS95 => ⟨⟨by show a + 1 <= i2 + 1; omega, by show i2 + 1 <= b; omega, by show a <= j2 - 1; omega, by show j2 - 1 < b; omega, hS95⟩, by show (j2 - 1 + 1 - (i2 + 1)).toNat < (j + 1 - i).toNat; omega⟩
end
end Go.Sh

set_option linter.all false
set_option maxRecDepth 8000
set_option maxHeartbeats 4000000
namespace Go.Sh
def len8 : ByteArray := ⟨#[0, 1, 2, 2, 3, 3, 3, 3, 4, 4, 4, 4, 4, 4, 4, 4, 5, 5, 5, 5, 5, 5, 5, 5, 5, 5, 5, 5, 5, 5, 5, 5, 6, 6, 6, 6, 6, 6, 6, 6, 6, 6, 6, 6, 6, 6, 6, 6, 6, 6, 6, 6, 6, 6, 6, 6, 6, 6, 6, 6, 6, 6, 6, 6, 7, 7, 7, 7, 7, 7, 7, 7, 7, 7, 7, 7, 7, 7, 7, 7, 7, 7, 7, 7, 7, 7, 7, 7, 7, 7, 7, 7, 7, 7, 7, 7, 7, 7, 7, 7, 7, 7, 7, 7, 7, 7, 7, 7, 7, 7, 7, 7, 7, 7, 7, 7, 7, 7, 7, 7, 7, 7, 7, 7, 7, 7, 7, 7, 8, 8, 8, 8, 8, 8, 8, 8, 8, 8, 8, 8, 8, 8, 8, 8, 8, 8, 8, 8, 8, 8, 8, 8, 8, 8, 8, 8, 8, 8, 8, 8, 8, 8, 8, 8, 8, 8, 8, 8, 8, 8, 8, 8, 8, 8, 8, 8, 8, 8, 8, 8, 8, 8, 8, 8, 8, 8, 8, 8, 8, 8, 8, 8, 8, 8, 8, 8, 8, 8, 8, 8, 8, 8, 8, 8, 8, 8, 8, 8, 8, 8, 8, 8, 8, 8, 8, 8, 8, 8, 8, 8, 8, 8, 8, 8, 8, 8, 8, 8, 8, 8, 8, 8, 8, 8, 8, 8, 8, 8, 8, 8, 8, 8, 8, 8, 8, 8, 8, 8, 8, 8, 8, 8, 8, 8, 8, 8]⟩
theorem len8_all : ((List.range 256).all fun i => match len8[i]? with | some b => decide (i < 2 ^ b.toNat) && (decide (i = 0) && decide (b.toNat = 0) || decide (2 ^ (b.toNat - 1) <= i) && decide (1 <= b.toNat)) && decide (b.toNat <= 8) | none => false) = true := by decide +kernel
theorem len8_at {n : Int} (h0 : 0 <= n) (h1 : n < 256) {K : Int -> Prop} (hK : ∀ b : Nat, b <= 8 -> n < 2 ^ b -> (n = 0 -> b = 0) -> (0 < n -> 1 <= b /\ 2 ^ (b - 1) <= n) -> K (b : Int)) : STRI len8 n K := by
  obtain ⟨k, rfl⟩ := Int.eq_ofNat_of_zero_le h0
  have h := List.all_eq_true.1 len8_all k (List.mem_range.2 (by omega))
  refine ⟨h0, ?_⟩
  rw [Int.toNat_natCast]
  split at h
  · rename_i b hb
    simp only [Bool.and_eq_true, Bool.or_eq_true, decide_eq_true_eq] at h
    obtain ⟨⟨h2, h3⟩, h4⟩ := h
    refine ⟨b, hb, hK b.toNat h4 (by exact_mod_cast h2) (fun e => ?_) fun e => ?_⟩
    · rcases h3 with h3 | h3
      · exact h3.2
      · have : 0 < 2 ^ (b.toNat - 1) := Nat.pow_pos (by decide)
        omega
    · rcases h3 with h3 | h3
      · omega
      · exact ⟨h3.2, by exact_mod_cast h3.1⟩
  · cases h
section
variable {E : Env} {w : World}
structure LenOf (x r : Int) : Prop where
  r0 : 0 <= r
  r1 : r <= 64
  up : x < 2 ^ r.toNat
  lo : 0 < x -> 1 <= r /\ 2 ^ (r.toNat - 1) <= x
theorem len64_spec {X : Int} (h0 : 0 <= X) (h1 : X < 18446744073709551616) {K : Int -> World -> Prop} (hK : ∀ r, LenOf X r -> K r w) : F.math_bits_Len64 E X K w := by
  unfold F.math_bits_Len64
  have e32 : (2 : Int) ^ (min (Int.toNat 32) (IntKind.bits .u64)) = 4294967296 := by decide
  have e16 : (2 : Int) ^ (min (Int.toNat 16) (IntKind.bits .u64)) = 65536 := by decide
  have e8 : (2 : Int) ^ (min (Int.toNat 8) (IntKind.bits .u64)) = 256 := by decide
  rw [e32, e16, e8]
  refine JOIN_intro (fun st w' => w' = w /\ ∃ n : Nat, st.2.1 = (n : Int) /\ n <= 32 /\ st.1 = X / 2 ^ n /\ (n = 0 ∨ 0 < st.1) /\ st.1 < 4294967296) ?_ ?_
  · refine CND_dec (fun h => ⟨by decide, LET_intro fun x hx => ?_⟩) fun h => ⟨rfl, 0, rfl, by decide, by simp, .inl rfl, by show X < _; omega⟩
    rw [Int.fdiv_eq_ediv_of_nonneg _ (by decide)] at hx
    exact ⟨rfl, 32, rfl, by decide, hx, .inr (by show 0 < x; omega), by show x < _; omega⟩
  rintro ⟨x, n', u⟩ _ w3 ⟨rfl, n, hn, hn32, hx, hz, hb⟩
  dsimp only at hn hx hz hb ⊢
  subst hn
  have x0 : 0 <= x := by rw [hx]; exact Int.ediv_nonneg h0 (Int.le_of_lt (Int.pow_pos (by decide)))
  refine JOIN_intro (fun st w' => w' = w3 /\ ∃ n : Nat, st.2.1 = (n : Int) /\ n <= 48 /\ st.1 = X / 2 ^ n /\ (n = 0 ∨ 0 < st.1) /\ st.1 < 65536) ?_ ?_
  · refine CND_dec (fun h => ⟨by decide, LET_intro fun y hy => ?_⟩) fun h => ⟨rfl, n, rfl, by omega, hx, hz, by show x < _; omega⟩
    rw [Int.fdiv_eq_ediv_of_nonneg _ (by decide)] at hy
    rw [i64_id (n := (n : Int) + 16) (by omega) (by omega)]
    refine ⟨rfl, n + 16, by show (n : Int) + 16 = ((n + 16 : Nat) : Int); omega, by omega, ?_, .inr (by show 0 < y; omega), by show y < _; omega⟩
    show y = X / 2 ^ (n + 16)
    rw [hy, hx, Int.pow_add, <- Int.ediv_ediv_of_nonneg (Int.le_of_lt (Int.pow_pos (by decide)))]; rfl
  clear hx hz hb x0 hn32
  rintro ⟨x, n', u⟩ _ w7 ⟨rfl, n, hn, hn32, hx, hz, hb⟩
  dsimp only at hn hx hz hb ⊢
  subst hn
  have x0 : 0 <= x := by rw [hx]; exact Int.ediv_nonneg h0 (Int.le_of_lt (Int.pow_pos (by decide)))
  refine JOIN_intro (fun st w' => w' = w7 /\ ∃ n : Nat, st.2.1 = (n : Int) /\ n <= 56 /\ st.1 = X / 2 ^ n /\ (n = 0 ∨ 0 < st.1) /\ st.1 < 256) ?_ ?_
  · refine CND_dec (fun h => ⟨by decide, LET_intro fun y hy => ?_⟩) fun h => ⟨rfl, n, rfl, by omega, hx, hz, by show x < _; omega⟩
    rw [Int.fdiv_eq_ediv_of_nonneg _ (by decide)] at hy
    rw [i64_id (n := (n : Int) + 8) (by omega) (by omega)]
    refine ⟨rfl, n + 8, by show (n : Int) + 8 = ((n + 8 : Nat) : Int); omega, by omega, ?_, .inr (by show 0 < y; omega), by show y < _; omega⟩
    show y = X / 2 ^ (n + 8)
    rw [hy, hx, Int.pow_add, <- Int.ediv_ediv_of_nonneg (Int.le_of_lt (Int.pow_pos (by decide)))]; rfl
  clear hx hz hb x0 hn32
  rintro ⟨x, n', u⟩ _ w11 ⟨rfl, n, hn, hn32, hx, hz, hb⟩
  dsimp only at hn hx hz hb ⊢
  subst hn
  have p0 : (0 : Int) < 2 ^ n := Int.pow_pos (by decide)
  have x0 : 0 <= x := by rw [hx]; exact Int.ediv_nonneg h0 (Int.le_of_lt p0)
  have ew : IntKind.wrap .u8 x = x := by show x % 256 = x; omega
  rw [ew]
  refine (show STRI len8 x _ from len8_at x0 hb fun b hb8 hup hz0 hlo => LET_intro fun r hr => ?_)
  rw [i64_id (n := (b : Int)) (by omega) (by omega), i64_id (n := (n : Int) + (b : Int)) (by omega) (by omega)] at hr
  subst hr
  have et : ((n : Int) + (b : Int)).toNat = b + n := by omega
  refine hK _ ⟨by omega, by omega, ?_, fun hX => ?_⟩
  · rw [et, Int.pow_add]
    have := (Int.ediv_lt_iff_lt_mul p0).1 (hx ▸ hup)
    exact this
  · by_cases hn0 : n = 0
    · subst hn0
      have ex : x = X := by rw [hx]; simp
      have := hlo (by omega)
      refine ⟨by omega, ?_⟩
      rw [et, Nat.add_zero]
      rw [<- ex]; exact this.2
    · have hx1 : 0 < x := hz.resolve_left hn0
      have hl := hlo hx1
      refine ⟨by omega, ?_⟩
      rw [et, show b + n - 1 = (b - 1) + n by omega, Int.pow_add]
      have : 2 ^ (b - 1) <= X / 2 ^ n := hx ▸ hl.2
      exact (Int.le_ediv_iff_mul_le p0).1 this
theorem len_spec {X : Int} (h0 : 0 <= X) (h1 : X < 18446744073709551616) {K : Int -> World -> Prop} (hK : ∀ r, LenOf X r -> K r w) : F.math_bits_Len E X K w := by
  unfold F.math_bits_Len T0.math_bits_Len
  exact len64_spec h0 h1 hK
theorem and_le (a : Int) {b : Int} (h0 : 0 <= b) (h1 : b < 18446744073709551616) : 0 <= bitK .u64 0 a b /\ bitK .u64 0 a b <= b := by
  obtain ⟨k, rfl⟩ := Int.eq_ofNat_of_zero_le h0
  have e : bitK .u64 0 a (k : Int) = ((BitVec.ofInt 64 a &&& BitVec.ofInt 64 (k : Int)).toNat : Int) := by
    show IntKind.wrap .u64 ((BitVec.ofInt 64 a &&& BitVec.ofInt 64 (k : Int)).toNat : Int) = _
    exact wrapW (BitVec.isLt _)
  rw [e, BitVec.toNat_and, BitVec.ofInt_natCast, BitVec.toNat_ofNat]
  have h2 : ((BitVec.ofInt 64 a).toNat &&& k % 2 ^ 64) <= k % 2 ^ 64 := Nat.and_le_right
  have h3 : k % 2 ^ 64 = k := Nat.mod_eq_of_lt (by omega)
  rw [h3] at h2 ⊢
  omega
theorem npow_spec {n : Int} (h0 : 1 <= n) (h1 : n < 1099511627776) {K : Int -> World -> Prop} (hK : ∀ m, n < m -> m <= 2 * n -> K m w) : F.slices_nextPowerOfTwo E n K w := by
  unfold F.slices_nextPowerOfTwo T0.slices_nextPowerOfTwo
  rw [u64_id (n := n) (by omega) (by omega)]
  refine len_spec (by omega) (by omega) fun r hr => ⟨hr.r0, LET_intro fun t ht => ?_⟩
  obtain ⟨k, rfl⟩ := Int.eq_ofNat_of_zero_le hr.r0
  have hlo := hr.lo (by omega)
  have hup := hr.up
  rw [Int.toNat_natCast] at hlo hup ht
  have hk1 : 1 <= k := by omega
  have e2 : (2 : Int) ^ k = 2 * 2 ^ (k - 1) := by
    rw [show k = (k - 1) + 1 by omega, Int.pow_succ]; simp; omega
  have hle : (2 : Int) ^ k <= 2 * n := by rw [e2]; omega
  have hk64 : k < 64 := by
    refine Classical.byContradiction fun g => ?_
    have : k = 64 := by have := hr.r1; omega
    subst this
    have : (2 : Int) ^ 64 = 18446744073709551616 := by decide
    omega
  rw [show min k (IntKind.bits .u64) = k by show min k 64 = k; omega, Int.one_mul, u64_id (by omega) (by omega)] at ht
  subst ht
  exact hK _ (by omega) hle
end
section
variable {E : Env} {cmp : Value} {s : SlV} {Z : List Pr} {l0 : List Int} {w : World}
theorem next_spec {b t : Nat} {x : Int} (H : Sat (Cells b t [.int .u64 x] :: Z) w) {K : Int -> World -> Prop} (hK : ∀ y w', Sat (Cells b t [.int .u64 y] :: Z) w' -> K y w') : F.slices_xorshift_Next E (some ⟨b, 0, none⟩) K w := by
  unfold F.slices_xorshift_Next
  simp only [NC_some]
  have H1 := H.drew
  refine ⟨_, H1.cell0 rfl, _, H1.cell0 rfl, by decide, st_cell0 H1 (o := 0) rfl (by simp) fun w6 H6 => ?_⟩
  have H7 := H6.drew
  refine ⟨_, H7.cell0 rfl, _, H7.cell0 rfl, by decide, st_cell0 H7 (o := 0) rfl (by simp) fun w12 H12 => ?_⟩
  have H13 := H12.drew
  refine ⟨_, H13.cell0 rfl, _, H13.cell0 rfl, by decide, st_cell0 H13 (o := 0) rfl (by simp) fun w18 H18 => ?_⟩
  exact ⟨_, H18.cell0 rfl, hK _ w18 H18⟩
theorem SP.add {P : Pr} {w' : World} (h : ∃ l : List Int, l.Perm l0 /\ Sat (P :: Row E.t_int 1 s (ints .i64 l) :: Z) w') : SP E s (P :: Z) l0 w' := let ⟨l, h1, h2⟩ := h; ⟨l, h1, h2.perm (.swap _ _ _)⟩
theorem SP.out {P : Pr} {w' : World} (h : SP E s (P :: Z) l0 w') : ∃ l : List Int, l.Perm l0 /\ Sat (P :: Row E.t_int 1 s (ints .i64 l) :: Z) w' := let ⟨l, h1, h2⟩ := h; ⟨l, h1, h2.perm (.swap _ _ _)⟩
theorem SP.drop {P : Pr} {w' : World} (h : SP E s (P :: Z) l0 w') : SP E s Z l0 w' := let ⟨l, h1, h2⟩ := h; ⟨l, h1, (h2.perm (.swap _ _ _)).tail⟩
theorem breakPatterns_spec (hsm : s.len < 1099511627776) (hS : SP E s Z l0 w) {a b : Int} (a0 : 0 <= a) (ab : a < b) (b1 : b <= s.len) {K : World -> Prop} (hK : ∀ w', SP E s Z l0 w' -> K w') : F.slices_breakPatternsCmpFunc_int_ E s a b cmp K w := by
  unfold F.slices_breakPatternsCmpFunc_int_ T0.slices_breakPatternsCmpFunc_int_
  rw [i64_id (n := b - a) (by omega) (by omega)]
  refine CND_dec (fun h8 => ?_) fun _ => hK w hS
  obtain ⟨l, hp, H⟩ := hS
  refine AL_cells (vs := [.int .u64 0]) H fun b1' w2 H2 _ => st_cell0 H2 (o := 0) rfl (by simp) fun w3 H3 => ?_
  rw [Int.tdiv_eq_ediv_of_nonneg (by omega), i64_id (n := (b - a) / 4) (by omega) (by omega), i64_id (n := (b - a) / 4 * 2) (by omega) (by omega), i64_id (n := a + (b - a) / 4 * 2) (by omega) (by omega), i64_id (n := a + (b - a) / 4 * 2 - 1) (by omega) (by omega), i64_id (n := a + (b - a) / 4 * 2 + 1) (by omega) (by omega)]
  refine npow_spec (n := b - a) (by omega) (by omega) fun m m0 m1 => ⟨by decide, LET_intro fun idx hidx => ?_⟩
  refine LOOP_intro (fun st w' => idx <= st.1 /\ st.1 <= idx + 3 /\ ∃ x, SP E s (Cells b1' E.t_slices_xorshift [.int .u64 x] :: Z) l0 w') (fun st _ => (idx + 3 - st.1).toNat) ⟨Int.le_refl _, by show idx <= idx + 3; omega, _, SP.add ⟨l, hp, H3⟩⟩ ?_
  rintro ⟨i, u⟩ _ w8 ⟨i0, i1, x, hS8⟩
  dsimp only at i0 i1 ⊢
  refine ⟨by decide, CND_dec (fun hle => ?_) fun _ => hK w8 hS8.drop⟩
  obtain ⟨l8, hp8, H8⟩ := hS8.out
  refine next_spec H8 fun y w11 H11 => LET_intro fun other ho => ?_
  rw [u64_id (n := m - 1) (by omega) (by omega)] at ho
  have hal := and_le y (b := m - 1) (by omega) (by omega)
  rw [i64_id (by omega) (by omega)] at ho
  have hS11 : SP E s (Cells b1' E.t_slices_xorshift [.int .u64 y] :: Z) l0 w11 := SP.add ⟨l8, hp8, H11⟩
  refine JOIN_intro (fun st w' => 0 <= st.1 /\ st.1 < b - a /\ w' = w11) ?_ ?_
  · refine CND_dec (fun h => LET_intro fun o2 ho2 => ?_) fun h => ⟨by show 0 <= other; omega, by show other < b - a; omega, rfl⟩
    rw [i64_id (n := other - (b - a)) (by omega) (by omega)] at ho2
    exact ⟨by show 0 <= o2; omega, by show o2 < b - a; omega, rfl⟩
  rintro ⟨o, u⟩ _ w15 ⟨o0, o1, rfl⟩
  dsimp only at o0 o1 ⊢
  rw [i64_id (n := a + o) (by omega) (by omega), i64_id (n := i + 1) (by omega) (by omega)]
  exact swap_two hS11 (by omega) (by omega) (by omega) (by omega) fun w24 hS24 => ⟨⟨by show idx <= i + 1; omega, by show i + 1 <= idx + 3; omega, y, hS24⟩, by show (idx + 3 - (i + 1)).toNat < (idx + 3 - i).toNat; omega⟩
def SPc (E : Env) (s : SlV) (Z : List Pr) (l0 : List Int) (b : Nat) (w : World) : Prop := ∃ n, SP E s (Cells b E.t_int [.int .i64 n] :: Z) l0 w
theorem order2_spec (hC : ∀ P, CmpOk E cmp s (P :: Z) l0) {b : Nat} (hS : SPc E s Z l0 b w) {i j : Int} (i0 : 0 <= i) (i1 : i < s.len) (j0 : 0 <= j) (j1 : j < s.len) {K : Int -> Int -> World -> Prop}
    (hK : ∀ x y w', (x = i /\ y = j) ∨ (x = j /\ y = i) -> SPc E s Z l0 b w' -> K x y w') : F.slices_order2CmpFunc_int_ E s i j (some ⟨b, 0, none⟩) cmp K w := by
  obtain ⟨n, hS⟩ := hS
  unfold F.slices_order2CmpFunc_int_
  refine cmp_two (hC _) hS j0 j1 i0 i1 fun z w6 hS6 => CND_dec (fun _ => ?_) fun _ => hK i j w6 (.inl ⟨rfl, rfl⟩) ⟨n, hS6⟩
  obtain ⟨l, hp, H⟩ := hS6.out
  simp only [NC_some]
  refine ⟨_, H.cell0 rfl, st_cell0 H (o := 0) rfl (by simp) fun w11 H11 => hK j i w11 (.inr ⟨rfl, rfl⟩) ⟨_, SP.add ⟨l, hp, H11⟩⟩⟩
theorem median_spec (hC : ∀ P, CmpOk E cmp s (P :: Z) l0) {b : Nat} (hS : SPc E s Z l0 b w) {i j k : Int} (i0 : 0 <= i) (i1 : i < s.len) (j0 : 0 <= j) (j1 : j < s.len) (k0 : 0 <= k) (k1 : k < s.len) {K : Int -> World -> Prop}
    (hK : ∀ x w', x = i ∨ x = j ∨ x = k -> SPc E s Z l0 b w' -> K x w') : F.slices_medianCmpFunc_int_ E s i j k (some ⟨b, 0, none⟩) cmp K w := by
  unfold F.slices_medianCmpFunc_int_ T0.slices_medianCmpFunc_int_
  refine order2_spec hC hS i0 i1 j0 j1 fun x y w3 h3 hS3 => ?_
  refine order2_spec hC hS3 (i := y) (j := k) (by omega) (by omega) k0 k1 fun x2 y2 w6 h6 hS6 => ?_
  refine order2_spec hC hS6 (i := x) (j := x2) (by omega) (by omega) (by omega) (by omega) fun x3 y3 w9 h9 hS9 => hK y3 w9 (by omega) hS9
theorem choosePivot_spec (hC : ∀ P, CmpOk E cmp s (P :: Z) l0) (hsm : s.len < 1099511627776) (hS : SP E s Z l0 w) {a b : Int} (a0 : 0 <= a) (ab : a + 12 < b) (b1 : b <= s.len) {K : Int -> Int -> World -> Prop}
    (hK : ∀ p h w', a <= p -> p < b -> SP E s Z l0 w' -> K p h w') : F.slices_choosePivotCmpFunc_int_ E s a b cmp K w := by
  unfold F.slices_choosePivotCmpFunc_int_ T0.slices_choosePivotCmpFunc_int_
  obtain ⟨l, hp, H⟩ := hS
  refine AL_cells (vs := [.int .i64 0]) H fun bb w2 H2 _ => ?_
  rw [i64_id (n := b - a) (by omega) (by omega), Int.tdiv_eq_ediv_of_nonneg (by omega), i64_id (n := (b - a) / 4) (by omega) (by omega), i64_id (n := (b - a) / 4 * 1) (by omega) (by omega), i64_id (n := (b - a) / 4 * 2) (by omega) (by omega), i64_id (n := (b - a) / 4 * 3) (by omega) (by omega),
    i64_id (n := a + (b - a) / 4 * 1) (by omega) (by omega), i64_id (n := a + (b - a) / 4 * 2) (by omega) (by omega), i64_id (n := a + (b - a) / 4 * 3) (by omega) (by omega)]
  refine ⟨by decide, LET_intro fun i hi => ⟨by decide, LET_intro fun j hj => ⟨by decide, LET_intro fun k hk => ?_⟩⟩⟩
  have hS2 : SPc E s Z l0 bb w2 := ⟨0, SP.add ⟨l, hp, H2⟩⟩
  refine JOIN_intro (fun st w' => a <= st.1 /\ st.1 < b /\ SPc E s Z l0 bb w') ?_ ?_
  · refine CND_dec (fun h8 => ?_) fun _ => by omega
    refine JOIN_intro (fun st w' => (a <= st.1 /\ st.1 < b) /\ (a <= st.2.1 /\ st.2.1 < b) /\ (a <= st.2.2.1 /\ st.2.2.1 < b) /\ SPc E s Z l0 bb w') ?_ ?_
    · refine CND_dec (fun h50 => ?_) fun _ => ⟨⟨by show a <= i; omega, by show i < b; omega⟩, ⟨by show a <= j; omega, by show j < b; omega⟩, ⟨by show a <= k; omega, by show k < b; omega⟩, hS2⟩
      unfold F.slices_medianAdjacentCmpFunc_int_ T0.slices_medianAdjacentCmpFunc_int_
      rw [i64_id (n := i - 1) (by omega) (by omega), i64_id (n := i + 1) (by omega) (by omega), i64_id (n := j - 1) (by omega) (by omega), i64_id (n := j + 1) (by omega) (by omega), i64_id (n := k - 1) (by omega) (by omega), i64_id (n := k + 1) (by omega) (by omega)]
      refine median_spec hC hS2 (by omega) (by omega) (by omega) (by omega) (by omega) (by omega) fun x w13 hx hS13 => ?_
      refine median_spec hC hS13 (by omega) (by omega) (by omega) (by omega) (by omega) (by omega) fun y w15 hy hS15 => ?_
      refine median_spec hC hS15 (by omega) (by omega) (by omega) (by omega) (by omega) (by omega) fun z w17 hz hS17 => ?_
      exact ⟨⟨by show a <= x; omega, by show x < b; omega⟩, ⟨by show a <= y; omega, by show y < b; omega⟩, ⟨by show a <= z; omega, by show z < b; omega⟩, hS17⟩
    · rintro ⟨x, y, z, u⟩ _ w11 ⟨⟨x0, x1⟩, ⟨y0, y1⟩, ⟨z0, z1⟩, hS11⟩
      dsimp only at x0 x1 y0 y1 z0 z1 ⊢
      refine median_spec hC hS11 (by omega) (by omega) (by omega) (by omega) (by omega) (by omega) fun q w19 hq hS19 => ⟨by show a <= q; omega, by show q < b; omega, hS19⟩
  · rintro ⟨p, u⟩ _ w8 ⟨p0, p1, n, hS8⟩
    dsimp only at p0 p1 ⊢
    obtain ⟨l8, hp8, H8⟩ := hS8.out
    refine ⟨n, H8.cell0 rfl, CND_eq (fun _ => hK p 1 w8 p0 p1 hS8.drop) fun _ => CND_eq (fun _ => hK p 2 w8 p0 p1 hS8.drop) fun _ => hK p 0 w8 p0 p1 hS8.drop⟩
theorem pdq_spec (hC : CmpOk E cmp s Z l0) (hC' : ∀ P, CmpOk E cmp s (P :: Z) l0) (hsm : s.len < 1099511627776) : ∀ (n0 : Nat) {a b lim : Int} {w : World} {K : World -> Prop}, SP E s Z l0 w -> 0 <= a -> a <= b -> b <= s.len -> b - a < n0 -> (∀ w', SP E s Z l0 w' -> K w') -> F.slices_pdqsortCmpFunc_int_ E n0 s a b lim cmp K w
  | 0, a, b, lim, w, K, _, _, _, _, h, _ => by omega
  | n0 + 1, a, b, lim, w, K, hS, a0, ab, b1, hf, hK => by
    unfold F.slices_pdqsortCmpFunc_int_
    refine LOOP_intro (fun st w' => a <= st.1 /\ st.1 <= st.2.1 /\ st.2.1 <= b /\ SP E s Z l0 w') (fun st _ => (st.2.1 - st.1).toNat) ⟨Int.le_refl _, ab, Int.le_refl _, hS⟩ ?_
    rintro ⟨x, y, lm, wb, wp, u⟩ _ w2 ⟨x0, xy, y1, hS2⟩
    dsimp only at x0 xy y1 ⊢
    rw [i64_id (n := y - x) (by omega) (by omega)]
    refine CND_dec (fun _ => insertion_spec hC hsm hS2 (by omega) xy (by omega) hK) fun h12 => CND_eq (fun _ => heapSort_spec hC hsm hS2 (by omega) (by omega) (by omega) hK) fun _ => ?_
    refine JOIN_intro (fun _ w' => SP E s Z l0 w') (CND_not (CND_intro (fun _ => hS2) fun _ => breakPatterns_spec hsm hS2 (by omega) (by omega) (by omega) fun w9 hS9 => hS9)) ?_
    rintro ⟨lm2, u⟩ _ w8 hS8
    dsimp only
    refine choosePivot_spec hC' hsm hS8 (by omega) (by omega) (by omega) fun p hint w12 p0 p1 hS12 => ?_
    refine JOIN_intro (fun st w' => x <= st.1 /\ st.1 < y /\ SP E s Z l0 w') (CND_eq (fun _ => reverse_spec hC hsm hS12 (by omega) (by omega) (by omega) fun w16 hS16 => LET_intro fun q hq => ?_) fun _ => ⟨p0, p1, hS12⟩) ?_
    · rw [i64_id (n := y - 1) (by omega) (by omega), i64_id (n := p - x) (by omega) (by omega), i64_id (by omega) (by omega)] at hq
      exact ⟨by show x <= q; omega, by show q < y; omega, hS16⟩
    rintro ⟨q, hint2, u⟩ _ w15 ⟨q0, q1, hS15⟩
    dsimp only at q0 q1 ⊢
    refine JOIN_intro (fun _ w' => SP E s Z l0 w') ?_ ?_
    · refine JOIN_intro (fun _ w' => SP E s Z l0 w') (CND_intro (fun _ => CND_intro (fun _ => hS15) fun _ => hS15) fun _ => hS15) ?_
      rintro ⟨t, u⟩ _ w23 hS23
      exact CND_intro (fun _ => partialInsertion_spec hC hsm hS23 (by omega) (by omega) (by omega) fun r w25 hS25 => CND_intro (fun _ => hK w25 hS25) fun _ => hS25) fun _ => hS23
    intro _ _ w20 hS20
    refine JOIN_intro (fun _ w' => SP E s Z l0 w') ?_ ?_
    · refine CND_dec (fun hpos => ?_) fun _ => hS20.drew
      rw [i64_id (n := x - 1) (by omega) (by omega)]
      exact cmp_two hC hS20 (by omega) (by omega) (by omega) (by omega) fun z w34 hS34 => hS34
    rintro ⟨t, u⟩ _ w28 hS28
    refine CND_intro (fun _ => ?_) fun _ => ?_
    · exact partitionEqual_spec hC hsm hS28 (by omega) (by omega) (by omega) q0 q1 fun r w37 r0 r1 hS37 => ⟨⟨by show a <= r; omega, by show r <= y; omega, y1, hS37⟩, by show (y - r).toNat < (y - x).toNat; omega⟩
    · refine partition_spec hC hsm hS28 (by omega) (by omega) (by omega) q0 q1 fun r t w40 r0 r1 hS40 => ⟨by decide, LET_intro fun bal _ => ?_⟩
      rw [i64_id (n := r + 1) (by omega) (by omega)]
      refine CND_dec (fun _ => ?_) fun _ => ?_
      · exact pdq_spec hC hC' hsm n0 hS40 (by omega) (by omega) (by omega) (by omega) fun w42 hS42 => ⟨⟨by show a <= r + 1; omega, by show r + 1 <= y; omega, y1, hS42⟩, by show (y - (r + 1)).toNat < (y - x).toNat; omega⟩
      · exact pdq_spec hC hC' hsm n0 hS40 (by omega) (by omega) (by omega) (by omega) fun w43 hS43 => ⟨⟨by show a <= x; omega, by show x <= r; omega, by show r <= b; omega, hS43⟩, by show (r - x).toNat < (y - x).toNat; omega⟩
theorem sortFunc_spec (hC : CmpOk E cmp s Z l0) (hC' : ∀ P, CmpOk E cmp s (P :: Z) l0) (hsm : s.len < 1099511627776) (hS : SP E s Z l0 w) {K : World -> Prop} (hK : ∀ w', SP E s Z l0 w' -> K w') : F.slices_SortFunc___int_int_ E s cmp K w := by
  unfold F.slices_SortFunc___int_int_ T0.slices_SortFunc___int_int_
  rw [u64_id (n := (s.len : Int)) (by omega) (by omega)]
  exact len_spec (by omega) (by omega) fun r _ => ⟨s.len + 1, pdq_spec hC hC' hsm _ hS (Int.le_refl 0) (by omega) (Int.le_refl _) (by omega) hK⟩
end
end Go.Sh

set_option linter.all false
set_option maxRecDepth 8000
set_option maxHeartbeats 4000000
namespace Go.Sh
structure EnvH (E : Env) : Prop extends EnvA E where
  spans1 : ∀ x y p (R : Value -> World -> Prop) w, F.mheap_Heap_Spans_1 E x y p (fun r w' => R (.int .i64 r) w') w -> E.call E.f_mheap_Heap_Spans_1 #[.int .i64 x, .int .i64 y, .pointer p] w R noP
def MapX (b : Nat) (es : Array MapEntry) (c : Nat) : Pr where
  holds D w := (∀ i, D i ↔ i = b) /\ w.heap[b]? = some (.map es c)
  loc h he hS := ⟨h.1, he.obj h.2 (hS _ ((h.1 _).2 rfl))⟩
  lt h hk := by have := (h.1 _).1 hk; subst this; exact block_lt h.2
section
variable {E : Env} {w : World} {Z : List Pr}
theorem Sat.mapFix {b : Nat} {k : IntKind} {g : Int -> Option Value} (H : Sat (MapF b k g :: Z) w) : ∃ es c m, MapI k es c m /\ (∀ i, aget m i = g i) /\ Sat (MapX b es c :: Z) w := by
  obtain ⟨D, h, hs⟩ := H.step
  obtain ⟨es, c, m, h1, h2, h3⟩ := h.2
  exact ⟨es, c, m, h2, h3, hs w D _ (Ext.refl _ _) ⟨h.1, h1⟩ fun _ hk => .inl hk⟩
theorem Sat.mapFree {b : Nat} {k : IntKind} {g : Int -> Option Value} {es : Array MapEntry} {c : Nat} {m : List (Int × Value)} (H : Sat (MapX b es c :: Z) w) (h2 : MapI k es c m) (h3 : ∀ i, aget m i = g i) : Sat (MapF b k g :: Z) w := by
  obtain ⟨D, h, hs⟩ := H.step
  exact hs w D _ (Ext.refl _ _) ⟨h.1, es, c, m, h.2, h2, h3⟩ fun _ hk => .inl hk
theorem Sat.mapX {b : Nat} {es : Array MapEntry} {c : Nat} (H : Sat (MapX b es c :: Z) w) : w.heap[b]? = some (.map es c) := let ⟨_, h⟩ := H.head; h.2
theorem unInt_in {k : IntKind} {n : Int} {K : Int -> Prop} (h : K n) : unInt k (.int k n) K := by cases k <;> exact h
theorem cmp64_spec {x y : Int} {K : Int -> World -> Prop} (hK : ∀ r, (r < 0 ↔ x < y) -> K r w) : F.cmp_Compare_uint64_ E x y K w := by
  unfold F.cmp_Compare_uint64_ T0.cmp_Compare_uint64_ F.cmp_isNaN_uint64_
  simp only [bne_self_eq_false, CND_false]
  refine CND_dec (fun h => hK _ ⟨fun _ => h, fun _ => by decide⟩) fun h => CND_dec (fun h2 => hK _ ⟨fun h => absurd h (by decide), fun h3 => absurd h3 h⟩) fun h2 => hK _ ⟨fun h => absurd h (by decide), fun h3 => absurd h3 h⟩
theorem SP.perm {s : SlV} {Y Y' : List Pr} {l0 : List Int} (h : SP E s Y l0 w) (hp : Y.Perm Y') : SP E s Y' l0 w := let ⟨l, h1, h2⟩ := h; ⟨l, h1, h2.perm (hp.cons _)⟩
theorem CmpOk.perm {cmp : Value} {s : SlV} {Y Y' : List Pr} {l0 : List Int} (h : CmpOk E cmp s Y l0) (hp : Y.Perm Y') : CmpOk E cmp s Y' l0 :=
  fun x y w R hx hy hS hR => h x y w R hx hy (hS.perm hp.symm) fun r w' h' => hR r w' (h'.perm hp)
variable {h : Nat} {S : HS} (hE : EnvH E)
include hE
theorem spans1_spec {b1 t : Nat} (H : Sat (HeapP E h S :: Cells b1 t [.pointer (some ⟨h, 0, none⟩)] :: Z) w) {x y : Int} {X Y : Nat × SI} (hx : S.sp x = some X) (hy : S.sp y = some Y) {K : Int -> World -> Prop}
    (hK : ∀ r w', (r < 0 ↔ X.2.base < Y.2.base) -> Sat (HeapP E h S :: Cells b1 t [.pointer (some ⟨h, 0, none⟩)] :: Z) w' -> K r w') : F.mheap_Heap_Spans_1 E x y (some ⟨b1, 0, none⟩) K w := by
  unfold F.mheap_Heap_Spans_1 T0.mheap_Heap_Spans_1
  try simp only [NC_some]
  obtain ⟨g, hI, H1⟩ := Sat.heap.1 H.drew
  obtain ⟨es, c, m, hm, hg, H2⟩ := (H1.front 5 rfl).mapFix
  have H3 : Sat ([Cells h E.t_mheap_Heap (hcells g S.hint S.pages), VmemP E g.m S.V, TreeV E g.t S.T, ArenaP E g.a S.ks S.own, FixP E g.f S.fx, MapX g.sm es c, Many (spR E S.sp) g.ids, Many (fun i : Nat => CacheP E (g.cb i) (S.ca i)) (List.range 64), Cells b1 t [.pointer (some ⟨h, 0, none⟩)]] ++ Z) w.drew :=
    Sat.back (Ps := hres E h S g ++ Cells b1 t [.pointer (some ⟨h, 0, none⟩)] :: Z) 5 H2 (by simp [hres])
  have facts : ∀ {w' : World}, Sat ([Cells h E.t_mheap_Heap (hcells g S.hint S.pages), VmemP E g.m S.V, TreeV E g.t S.T, ArenaP E g.a S.ks S.own, FixP E g.f S.fx, MapX g.sm es c, Many (spR E S.sp) g.ids, Many (fun i : Nat => CacheP E (g.cb i) (S.ca i)) (List.range 64), Cells b1 t [.pointer (some ⟨h, 0, none⟩)]] ++ Z) w' ->
      w'.cell? ((Addr.mk h 0 none).add 4) = some (.map (some g.sm)) /\ w'.cell? (Addr.mk b1 0 none) = some (.pointer (some ⟨h, 0, none⟩)) /\ w'.heap[g.sm]? = some (.map es c) := fun h' =>
    ⟨(hcell (S := S) (g := g) h').2.2.2.2.1, (h'.front 8 rfl).cell0 rfl, (h'.front 5 rfl).mapX⟩
  have open1 : ∀ {w' : World} {z : Int} {U : Nat × SI}, S.sp z = some U -> Sat ([Cells h E.t_mheap_Heap (hcells g S.hint S.pages), VmemP E g.m S.V, TreeV E g.t S.T, ArenaP E g.a S.ks S.own, FixP E g.f S.fx, MapX g.sm es c, Many (spR E S.sp) g.ids, Many (fun i : Nat => CacheP E (g.cb i) (S.ca i)) (List.range 64), Cells b1 t [.pointer (some ⟨h, 0, none⟩)]] ++ Z) w' ->
      ∀ {R : Int -> Int -> Int -> Int -> Bool -> Int -> Int -> Int -> Bool -> Bool -> World -> Prop}, (∀ r2 r3 r4 r5 r6 r7 r8 r9 r10 w2, Sat ([Cells h E.t_mheap_Heap (hcells g S.hint S.pages), VmemP E g.m S.V, TreeV E g.t S.T, ArenaP E g.a S.ks S.own, FixP E g.f S.fx, MapX g.sm es c, Many (spR E S.sp) g.ids, Many (fun i : Nat => CacheP E (g.cb i) (S.ca i)) (List.range 64), Cells b1 t [.pointer (some ⟨h, 0, none⟩)]] ++ Z) w2 ->
        R U.2.base r2 r3 r4 r5 r6 r7 r8 r9 r10 w2) -> F.span_Span_Info E (some ⟨U.1, 0, none⟩) R w' := by
    intro w' z U hz h' R hR
    have hmem : z ∈ g.ids := (hI.mem z).2 (by rw [hz]; exact fun h => by cases h)
    obtain ⟨i, hi⟩ := List.mem_iff_getElem?.1 hmem
    have h1 := (h'.front 6 rfl).manyGet hi
    have e : spR E S.sp z = SpanP E U.1 U.2 := by unfold spR; rw [hz]
    rw [e] at h1
    refine spinfo_spec h1 fun w2 h2 => hR _ _ _ _ _ _ _ _ _ _ ?_
    rw [<- e] at h2
    exact Sat.back (Ps := [Cells h E.t_mheap_Heap (hcells g S.hint S.pages), VmemP E g.m S.V, TreeV E g.t S.T, ArenaP E g.a S.ks S.own, FixP E g.f S.fx, MapX g.sm es c, Many (spR E S.sp) g.ids, Many (fun i : Nat => CacheP E (g.cb i) (S.ca i)) (List.range 64), Cells b1 t [.pointer (some ⟨h, 0, none⟩)]] ++ Z) 6 (Sat.manyBack h2 hi) (by simp)
  obtain ⟨f1, f2, f3⟩ := facts H3
  have lk : ∀ (z : Int) {U : Nat × SI}, S.sp z = some U -> ((aget m z).getD (.pointer none)) = .pointer (some ⟨U.1, 0, none⟩) := fun z U hz => by rw [hg]; unfold spMap; rw [hz]; rfl
  refine ⟨_, f2, ?_⟩
  try simp only [NC_some]
  refine ⟨_, f1, LKP_intro f3 hm ?_⟩
  refine ⟨_, lk x hx, ?_⟩
  try simp only [NC_some]
  refine ⟨_, f2, ?_⟩
  try simp only [NC_some]
  refine ⟨_, f1, LKP_intro f3 hm ?_⟩
  refine ⟨_, lk y hy, ?_⟩
  refine open1 hx H3 fun _ _ _ _ _ _ _ _ _ w27 H27 => ?_
  obtain ⟨g1, g2, g3⟩ := facts H27
  refine ⟨⟨_, g3⟩, g1, g2, g1, g2, open1 hy H27 fun _ _ _ _ _ _ _ _ _ w38 H38 => ?_⟩
  obtain ⟨k1, k2, k3⟩ := facts H38
  refine ⟨k1, k2, k1, k2, cmp64_spec fun r hr => ⟨k1, k2, k1, k2, hK r _ hr ?_⟩⟩
  have h1 := (H38.front 5 rfl).mapFree (g := spMap S.sp) hm hg
  exact Sat.heap.2 ⟨g, hI, Sat.back (Ps := hres E h S g ++ Cells b1 t [.pointer (some ⟨h, 0, none⟩)] :: Z) 5 h1 (by simp [hres])⟩
theorem cmpSpans {b1 t : Nat} {s : SlV} {l0 : List Int} (hl : ∀ n ∈ l0, S.sp n ≠ none) : CmpOk E (.func (.func E.f_mheap_Heap_Spans_1) #[] #[.pointer (some (Addr.mk b1 0 none))]) s (HeapP E h S :: Cells b1 t [.pointer (some ⟨h, 0, none⟩)] :: Z) l0 := by
  intro x y w R hx hy ⟨l, hp, H⟩ hR
  refine hE.spans1 x y _ R w ?_
  obtain ⟨X, hX⟩ := Option.ne_none_iff_exists'.1 (hl x hx)
  obtain ⟨Y, hY⟩ := Option.ne_none_iff_exists'.1 (hl y hy)
  refine spans1_spec hE (h := h) (t := t) (Z := Row E.t_int 1 s (ints .i64 l) :: Z) (H.perm ?_) hX hY fun r w' _ H' => hR r w' ⟨l, hp, H'.perm ?_⟩
  · exact (List.perm_middle (l₁ := [HeapP E h S, Cells b1 t [.pointer (some ⟨h, 0, none⟩)]])).symm
  · exact List.perm_middle (l₁ := [HeapP E h S, Cells b1 t [.pointer (some ⟨h, 0, none⟩)]])
theorem hspans_spec (H : Sat (HeapP E h S :: Z) w) (hb : ∀ l : List Int, l.Nodup -> (∀ n ∈ l, S.sp n ≠ none) -> l.length < 1099511627776) {K : SlV -> World -> Prop}
    (hK : ∀ s l w', l.Nodup -> (∀ n, n ∈ l ↔ S.sp n ≠ none) -> Sat (Row E.t_int 1 s (ints .i64 l) :: HeapP E h S :: Z) w' -> K s w') : F.mheap_Heap_Spans E (some ⟨h, 0, none⟩) K w := by
  have spn : ∀ n, spMap S.sp n ≠ none ↔ S.sp n ≠ none := fun n => by unfold spMap; cases S.sp n <;> simp
  unfold F.mheap_Heap_Spans T0.mheap_Heap_Spans
  refine AL_cells (vs := [.pointer (some ⟨h, 0, none⟩)]) H fun b1 w2 H2 _ => ⟨_, H2.cell0 rfl, ?_⟩
  try simp only [NC_some]
  obtain ⟨g, hI, H3⟩ := Sat.heap.1 (H2.front 1 rfl)
  refine ⟨_, (hcell (S := S) (g := g) H3).2.2.2.2.1, RNG_mk (H3.front 5 rfl) fun b7 N0 w8 H8 => ?_⟩
  have H8' := H8.nil E.t_int 1
  refine LOOP_intro (fun st w' => ∃ cur done N, Sat (RngP b7 g.sm .i64 (spMap S.sp) cur done N :: Row E.t_int 1 st.1 (ints .i64 done) :: (hres E h S g ++ Cells b1 E.t__mheap_Heap [.pointer (some ⟨h, 0, none⟩)] :: Z).eraseIdx 5) w') (fun _ w' => leftW b7 g.sm w') ⟨none, [], N0, H8'.front 1 rfl⟩ ?_
  rintro ⟨s, u⟩ _ w10 ⟨cur, done, N, H10⟩
  dsimp only at H10 ⊢
  rw [H10.rngLeft]
  refine JOIN_in (NEXT_rng H10 (fun w15 H15 hall j => JOIN_in (CND_f rfl ?_)) fun n v w16 N' hgn hnd hN H16 j => JOIN_in (CND_t rfl fun j2 => ENT_rng H16 fun v' S' hv' => ?_))
  · obtain ⟨hnd, hin⟩ := H15.rngDone
    have H15b := Sat.back2 (Ps := hres E h S g ++ Cells b1 E.t__mheap_Heap [.pointer (some ⟨h, 0, none⟩)] :: Z) 5 ((H15.rngOut).front 1 rfl) (by simp [hres])
    have H15c : Sat (hres E h S g ++ (Row E.t_int 1 s (ints .i64 done) :: Cells b1 E.t__mheap_Heap [.pointer (some ⟨h, 0, none⟩)] :: Z)) w15 := Sat.perm H15b (List.perm_middle (l₁ := hres E h S g)).symm
    have H15d := (Sat.heap.2 ⟨g, hI, H15c⟩).front 1 rfl
    have hin' : ∀ n ∈ done, S.sp n ≠ none := fun n hn => (spn n).1 (hin n hn)
    have hlen := hb done hnd hin'
    have hsl : s.len < 1099511627776 := by
      have := (H15.front 1 rfl).rowLen
      simp only [ints, List.length_map] at this
      omega
    have hC := cmpSpans (h := h) (S := S) hE (b1 := b1) (t := E.t__mheap_Heap) (s := s) (l0 := done) (Z := Z) hin'
    refine sortFunc_spec hC (fun P => (cmpSpans (h := h) (S := S) hE (b1 := b1) (t := E.t__mheap_Heap) (s := s) (l0 := done) (Z := P :: Z) hin').perm ?_) hsl ⟨done, .refl _, H15d⟩ fun w22 ⟨l, hp, H22⟩ => ?_
    · exact List.perm_middle (l₁ := [HeapP E h S, Cells b1 E.t__mheap_Heap [.pointer (some ⟨h, 0, none⟩)]])
    · refine hK s l w22 (hp.nodup_iff.2 hnd) (fun n => ?_) (H22.front 2 rfl).tail
      rw [hp.mem_iff, hall n, spn]
  · refine unInt_in ?_
    have hsub := H16.rngDone
    have hlen := hb _ hsub.1 fun n hn => (spn n).1 (hsub.2 n hn)
    have hrl := (H16.front 1 rfl).rowLen
    simp only [ints, List.length_map] at hrl
    simp only [List.length_append, List.length_singleton] at hlen
    refine AL_cells (vs := [.int .i64 n]) H16 fun b27 w28 H28 _ => APP_one (zs := #[.int .i64 0]) (bytes := 8) ((H28.front 2 rfl).front 1 rfl) rfl rfl (by simp [Value.oneCell']) (by show (s.len + 1) * 8 <= _; omega) (by omega) fun s29 w30 H30 _ => ?_
    rw [show ints .i64 done ++ [.int .i64 n] = ints .i64 (done ++ [n]) by simp [ints]] at H30
    have H30' := H30.front 1 rfl
    refine ⟨⟨_, _, _, H30'⟩, ?_⟩
    rw [H30'.rngLeft]; exact hN
end
end Go.Sh

set_option linter.all false
namespace Go.Sh
open Go.Proofs
theorem envS : EnvS env where
  at1 := by
    intro i p1 p2 K w h
    refine ⟨(fits99 #[.int .i64 i, .pointer p1, .pointer p2] w (fun v w' => ∃ b, v = .bool b /\ K b w') noP ?_).1, (fits99 #[.int .i64 i, .pointer p1, .pointer p2] w (fun v w' => ∃ b, v = .bool b /\ K b w') noP ?_).2⟩ <;>
    exact (show F.stretch_Set_at_1 env i p1 p2 (fun b w' => ∃ b', Value.bool b = .bool b' /\ K b' w') w from at1_mono (fun b w' h => ⟨b, rfl, h⟩) h)
  mono := ground_mono
theorem envA : EnvA env where
  toEnvS := envS
  set1 := by
    intro x y p1 p2 R w h
    refine ⟨(fits76 #[.int .u64 x, .int .u64 y, .pointer p1, .pointer p2] w R noP ?_).1, (fits76 #[.int .u64 x, .int .u64 y, .pointer p1, .pointer p2] w R noP ?_).2⟩ <;>
    exact h
theorem envH : EnvH env where
  toEnvA := envA
  spans1 := by
    intro x y p R w h
    refine ⟨(fits35 #[.int .i64 x, .int .i64 y, .pointer p] w R noP ?_).1, (fits35 #[.int .i64 x, .int .i64 y, .pointer p] w R noP ?_).2⟩ <;>
    exact h
end Go.Sh
