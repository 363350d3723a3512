/- The heap tells its spans in a row: a range over a map, and the sort of the row. No further condition. -/
import Derived.Test.YtbmbflhcebdjgaaGreatDoorA
import Derived.Test.YtbmbflhcebdjgaaGreatDoorF
import Derived.Test.YtbmbflhcebdjgaaGreatDoorH
import Derived.Test.YtbmbflhcebdjgaaGreatDoorB
import Derived.Test.YtbmbflhcebdjgaaGreatDoorU
set_option linter.all false
set_option maxRecDepth 8000
set_option maxHeartbeats 4000000
namespace Go.Sh
def SP (E : Env) (s : SlV) (Z : List Pr) (l0 : List Int) (w : World) : Prop := ∃ l : List Int, l.Perm l0 /\ Sat (Row E.t_int 1 s (ints .i64 l) :: Z) w
def CmpOk (E : Env) (cmp : Value) (s : SlV) (Z : List Pr) (l0 : List Int) : Prop := ∀ x y w (R : Value -> World -> Prop), x ∈ l0 -> y ∈ l0 -> SP E s Z l0 w -> (∀ r w', SP E s Z l0 w' -> R (.int .i64 r) w') -> DYN E.call cmp #[.int .i64 x, .int .i64 y] w R
section
variable {E : Env} {cmp : Value} {s : SlV} {Z : List Pr} {l0 : List Int} {w : World}
variable (hC : CmpOk E cmp s Z l0) (hsm : s.len < 1099511627776)
include hC hsm
end
end Go.Sh

set_option linter.all false
set_option maxRecDepth 8000
set_option maxHeartbeats 4000000
namespace Go.Sh
def len8 : ByteArray := ⟨#[0, 1, 2, 2, 3, 3, 3, 3, 4, 4, 4, 4, 4, 4, 4, 4, 5, 5, 5, 5, 5, 5, 5, 5, 5, 5, 5, 5, 5, 5, 5, 5, 6, 6, 6, 6, 6, 6, 6, 6, 6, 6, 6, 6, 6, 6, 6, 6, 6, 6, 6, 6, 6, 6, 6, 6, 6, 6, 6, 6, 6, 6, 6, 6, 7, 7, 7, 7, 7, 7, 7, 7, 7, 7, 7, 7, 7, 7, 7, 7, 7, 7, 7, 7, 7, 7, 7, 7, 7, 7, 7, 7, 7, 7, 7, 7, 7, 7, 7, 7, 7, 7, 7, 7, 7, 7, 7, 7, 7, 7, 7, 7, 7, 7, 7, 7, 7, 7, 7, 7, 7, 7, 7, 7, 7, 7, 7, 7, 8, 8, 8, 8, 8, 8, 8, 8, 8, 8, 8, 8, 8, 8, 8, 8, 8, 8, 8, 8, 8, 8, 8, 8, 8, 8, 8, 8, 8, 8, 8, 8, 8, 8, 8, 8, 8, 8, 8, 8, 8, 8, 8, 8, 8, 8, 8, 8, 8, 8, 8, 8, 8, 8, 8, 8, 8, 8, 8, 8, 8, 8, 8, 8, 8, 8, 8, 8, 8, 8, 8, 8, 8, 8, 8, 8, 8, 8, 8, 8, 8, 8, 8, 8, 8, 8, 8, 8, 8, 8, 8, 8, 8, 8, 8, 8, 8, 8, 8, 8, 8, 8, 8, 8, 8, 8, 8, 8, 8, 8, 8, 8, 8, 8, 8, 8, 8, 8, 8, 8, 8, 8, 8, 8, 8, 8, 8, 8]⟩
theorem len8_all : ((List.range 256).all fun i => match len8[i]? with | some b => decide (i < 2 ^ b.toNat) && (decide (i = 0) && decide (b.toNat = 0) || decide (2 ^ (b.toNat - 1) <= i) && decide (1 <= b.toNat)) && decide (b.toNat <= 8) | none => false) = true := by decide +kernel
theorem len8_at {n : Int} (h0 : 0 <= n) (h1 : n < 256) {K : Int -> Prop} (hK : ∀ b : Nat, b <= 8 -> n < 2 ^ b -> (n = 0 -> b = 0) -> (0 < n -> 1 <= b /\ 2 ^ (b - 1) <= n) -> K (b : Int)) : STRI len8 n K := by
  obtain ⟨k, rfl⟩ := Int.eq_ofNat_of_zero_le h0
  have h := List.all_eq_true.1 len8_all k (List.mem_range.2 (by omega))
  refine ⟨h0, ?_⟩
  rw [Int.toNat_natCast]
  split at h
  · rename_i b hb
    simp only [Bool.and_eq_true, Bool.or_eq_true, decide_eq_true_eq] at h
    obtain ⟨⟨h2, h3⟩, h4⟩ := h
    refine ⟨b, hb, hK b.toNat h4 (by exact_mod_cast h2) (fun e => ?_) fun e => ?_⟩
    · rcases h3 with h3 | h3
      · exact h3.2
      · have : 0 < 2 ^ (b.toNat - 1) := Nat.pow_pos (by decide)
        omega
    · rcases h3 with h3 | h3
      · omega
      · exact ⟨h3.2, by exact_mod_cast h3.1⟩
  · cases h
section
variable {E : Env} {w : World}
structure LenOf (x r : Int) : Prop where
  r0 : 0 <= r
  r1 : r <= 64
  up : x < 2 ^ r.toNat
  lo : 0 < x -> 1 <= r /\ 2 ^ (r.toNat - 1) <= x
theorem len64_spec {X : Int} (h0 : 0 <= X) (h1 : X < 18446744073709551616) {K : Int -> World -> Prop} (hK : ∀ r, LenOf X r -> K r w) : F.math_bits_Len64 E X K w := by
  unfold F.math_bits_Len64
  have e32 : (2 : Int) ^ (min (Int.toNat 32) (IntKind.bits .u64)) = 4294967296 := by decide
  have e16 : (2 : Int) ^ (min (Int.toNat 16) (IntKind.bits .u64)) = 65536 := by decide
  have e8 : (2 : Int) ^ (min (Int.toNat 8) (IntKind.bits .u64)) = 256 := by decide
  rw [e32, e16, e8]
  refine JOIN_intro (fun st w' => w' = w /\ ∃ n : Nat, st.2.1 = (n : Int) /\ n <= 32 /\ st.1 = X / 2 ^ n /\ (n = 0 ∨ 0 < st.1) /\ st.1 < 4294967296) ?_ ?_
  · refine CND_dec (fun h => ⟨by decide, LET_intro fun x hx => ?_⟩) fun h => ⟨rfl, 0, rfl, by decide, by simp, .inl rfl, by show X < _; omega⟩
    rw [Int.fdiv_eq_ediv_of_nonneg _ (by decide)] at hx
    exact ⟨rfl, 32, rfl, by decide, hx, .inr (by show 0 < x; omega), by show x < _; omega⟩
  rintro ⟨x, n', u⟩ _ w3 ⟨rfl, n, hn, hn32, hx, hz, hb⟩
  dsimp only at hn hx hz hb ⊢
  subst hn
  have x0 : 0 <= x := by rw [hx]; exact Int.ediv_nonneg h0 (Int.le_of_lt (Int.pow_pos (by decide)))
  refine JOIN_intro (fun st w' => w' = w3 /\ ∃ n : Nat, st.2.1 = (n : Int) /\ n <= 48 /\ st.1 = X / 2 ^ n /\ (n = 0 ∨ 0 < st.1) /\ st.1 < 65536) ?_ ?_
  · refine CND_dec (fun h => ⟨by decide, LET_intro fun y hy => ?_⟩) fun h => ⟨rfl, n, rfl, by omega, hx, hz, by show x < _; omega⟩
    rw [Int.fdiv_eq_ediv_of_nonneg _ (by decide)] at hy
    rw [i64_id (n := (n : Int) + 16) (by omega) (by omega)]
    refine ⟨rfl, n + 16, by show (n : Int) + 16 = ((n + 16 : Nat) : Int); omega, by omega, ?_, .inr (by show 0 < y; omega), by show y < _; omega⟩
    show y = X / 2 ^ (n + 16)
    rw [hy, hx, Int.pow_add, <- Int.ediv_ediv_of_nonneg (Int.le_of_lt (Int.pow_pos (by decide)))]; rfl
  clear hx hz hb x0 hn32
  rintro ⟨x, n', u⟩ _ w7 ⟨rfl, n, hn, hn32, hx, hz, hb⟩
  dsimp only at hn hx hz hb ⊢
  subst hn
  have x0 : 0 <= x := by rw [hx]; exact Int.ediv_nonneg h0 (Int.le_of_lt (Int.pow_pos (by decide)))
  refine JOIN_intro (fun st w' => w' = w7 /\ ∃ n : Nat, st.2.1 = (n : Int) /\ n <= 56 /\ st.1 = X / 2 ^ n /\ (n = 0 ∨ 0 < st.1) /\ st.1 < 256) ?_ ?_
  · refine CND_dec (fun h => ⟨by decide, LET_intro fun y hy => ?_⟩) fun h => ⟨rfl, n, rfl, by omega, hx, hz, by show x < _; omega⟩
    rw [Int.fdiv_eq_ediv_of_nonneg _ (by decide)] at hy
    rw [i64_id (n := (n : Int) + 8) (by omega) (by omega)]
    refine ⟨rfl, n + 8, by show (n : Int) + 8 = ((n + 8 : Nat) : Int); omega, by omega, ?_, .inr (by show 0 < y; omega), by show y < _; omega⟩
    show y = X / 2 ^ (n + 8)
    rw [hy, hx, Int.pow_add, <- Int.ediv_ediv_of_nonneg (Int.le_of_lt (Int.pow_pos (by decide)))]; rfl
  clear hx hz hb x0 hn32
  rintro ⟨x, n', u⟩ _ w11 ⟨rfl, n, hn, hn32, hx, hz, hb⟩
  dsimp only at hn hx hz hb ⊢
  subst hn
  have p0 : (0 : Int) < 2 ^ n := Int.pow_pos (by decide)
  have x0 : 0 <= x := by rw [hx]; exact Int.ediv_nonneg h0 (Int.le_of_lt p0)
  have ew : IntKind.wrap .u8 x = x := by show x % 256 = x; omega
  rw [ew]
  refine (show STRI len8 x _ from len8_at x0 hb fun b hb8 hup hz0 hlo => LET_intro fun r hr => ?_)
  rw [i64_id (n := (b : Int)) (by omega) (by omega), i64_id (n := (n : Int) + (b : Int)) (by omega) (by omega)] at hr
  subst hr
  have et : ((n : Int) + (b : Int)).toNat = b + n := by omega
  refine hK _ ⟨by omega, by omega, ?_, fun hX => ?_⟩
  · rw [et, Int.pow_add]
    have := (Int.ediv_lt_iff_lt_mul p0).1 (hx ▸ hup)
    exact this
  · by_cases hn0 : n = 0
    · subst hn0
      have ex : x = X := by rw [hx]; simp
      have := hlo (by omega)
      refine ⟨by omega, ?_⟩
      rw [et, Nat.add_zero]
      rw [<- ex]; exact this.2
    · have hx1 : 0 < x := hz.resolve_left hn0
      have hl := hlo hx1
      refine ⟨by omega, ?_⟩
      rw [et, show b + n - 1 = (b - 1) + n by omega, Int.pow_add]
      have : 2 ^ (b - 1) <= X / 2 ^ n := hx ▸ hl.2
      exact (Int.le_ediv_iff_mul_le p0).1 this
theorem len_spec {X : Int} (h0 : 0 <= X) (h1 : X < 18446744073709551616) {K : Int -> World -> Prop} (hK : ∀ r, LenOf X r -> K r w) : F.math_bits_Len E X K w := by
  unfold F.math_bits_Len T0.math_bits_Len
  exact len64_spec h0 h1 hK
theorem and_le (a : Int) {b : Int} (h0 : 0 <= b) (h1 : b < 18446744073709551616) : 0 <= bitK .u64 0 a b /\ bitK .u64 0 a b <= b := by
  obtain ⟨k, rfl⟩ := Int.eq_ofNat_of_zero_le h0
  have e : bitK .u64 0 a (k : Int) = ((BitVec.ofInt 64 a &&& BitVec.ofInt 64 (k : Int)).toNat : Int) := by
    show IntKind.wrap .u64 ((BitVec.ofInt 64 a &&& BitVec.ofInt 64 (k : Int)).toNat : Int) = _
    exact wrapW (BitVec.isLt _)
  rw [e, BitVec.toNat_and, BitVec.ofInt_natCast, BitVec.toNat_ofNat]
  have h2 : ((BitVec.ofInt 64 a).toNat &&& k % 2 ^ 64) <= k % 2 ^ 64 := Nat.and_le_right
  have h3 : k % 2 ^ 64 = k := Nat.mod_eq_of_lt (by omega)
  rw [h3] at h2 ⊢
  omega
theorem npow_spec {n : Int} (h0 : 1 <= n) (h1 : n < 1099511627776) {K : Int -> World -> Prop} (hK : ∀ m, n < m -> m <= 2 * n -> K m w) : F.slices_nextPowerOfTwo E n K w := by
  unfold F.slices_nextPowerOfTwo T0.slices_nextPowerOfTwo
  rw [u64_id (n := n) (by omega) (by omega)]
  refine len_spec (by omega) (by omega) fun r hr => ⟨hr.r0, LET_intro fun t ht => ?_⟩
  obtain ⟨k, rfl⟩ := Int.eq_ofNat_of_zero_le hr.r0
  have hlo := hr.lo (by omega)
  have hup := hr.up
  rw [Int.toNat_natCast] at hlo hup ht
  have hk1 : 1 <= k := by omega
  have e2 : (2 : Int) ^ k = 2 * 2 ^ (k - 1) := by
    rw [show k = (k - 1) + 1 by omega, Int.pow_succ]; simp; omega
  have hle : (2 : Int) ^ k <= 2 * n := by rw [e2]; omega
  have hk64 : k < 64 := by
    refine Classical.byContradiction fun g => ?_
    have : k = 64 := by have := hr.r1; omega
    subst this
    have : (2 : Int) ^ 64 = 18446744073709551616 := by decide
    omega
  rw [show min k (IntKind.bits .u64) = k by show min k 64 = k; omega, Int.one_mul, u64_id (by omega) (by omega)] at ht
  subst ht
  exact hK _ (by omega) hle
end
section
variable {E : Env} {cmp : Value} {s : SlV} {Z : List Pr} {l0 : List Int} {w : World}
theorem next_spec {b t : Nat} {x : Int} (H : Sat (Cells b t [.int .u64 x] :: Z) w) {K : Int -> World -> Prop} (hK : ∀ y w', Sat (Cells b t [.int .u64 y] :: Z) w' -> K y w') : F.slices_xorshift_Next E (some ⟨b, 0, none⟩) K w := by
  unfold F.slices_xorshift_Next
  simp only [NC_some]
  have H1 := H.drew
  refine ⟨_, H1.cell0 rfl, _, H1.cell0 rfl, by decide, st_cell0 H1 (o := 0) rfl (by simp) fun w6 H6 => ?_⟩
  have H7 := H6.drew
  refine ⟨_, H7.cell0 rfl, _, H7.cell0 rfl, by decide, st_cell0 H7 (o := 0) rfl (by simp) fun w12 H12 => ?_⟩
  have H13 := H12.drew
  refine ⟨_, H13.cell0 rfl, _, H13.cell0 rfl, by decide, st_cell0 H13 (o := 0) rfl (by simp) fun w18 H18 => ?_⟩
  exact ⟨_, H18.cell0 rfl, hK _ w18 H18⟩
end
end Go.Sh

set_option linter.all false
set_option maxRecDepth 8000
set_option maxHeartbeats 4000000
namespace Go.Sh
structure EnvH (E : Env) : Prop extends EnvA E where
  spans1 : ∀ x y p (R : Value -> World -> Prop) w, F.mheap_Heap_Spans_1 E x y p (fun r w' => R (.int .i64 r) w') w -> E.call E.f_mheap_Heap_Spans_1 #[.int .i64 x, .int .i64 y, .pointer p] w R noP
def MapX (b : Nat) (es : Array MapEntry) (c : Nat) : Pr where
  holds D w := (∀ i, D i ↔ i = b) /\ w.heap[b]? = some (.map es c)
  loc h he hS := ⟨h.1, he.obj h.2 (hS _ ((h.1 _).2 rfl))⟩
  lt h hk := by have := (h.1 _).1 hk; subst this; exact block_lt h.2
section
variable {E : Env} {w : World} {Z : List Pr}
theorem Sat.mapFix {b : Nat} {k : IntKind} {g : Int -> Option Value} (H : Sat (MapF b k g :: Z) w) : ∃ es c m, MapI k es c m /\ (∀ i, aget m i = g i) /\ Sat (MapX b es c :: Z) w := by
  obtain ⟨D, h, hs⟩ := H.step
  obtain ⟨es, c, m, h1, h2, h3⟩ := h.2
  exact ⟨es, c, m, h2, h3, hs w D _ (Ext.refl _ _) ⟨h.1, h1⟩ fun _ hk => .inl hk⟩
theorem Sat.mapFree {b : Nat} {k : IntKind} {g : Int -> Option Value} {es : Array MapEntry} {c : Nat} {m : List (Int × Value)} (H : Sat (MapX b es c :: Z) w) (h2 : MapI k es c m) (h3 : ∀ i, aget m i = g i) : Sat (MapF b k g :: Z) w := by
  obtain ⟨D, h, hs⟩ := H.step
  exact hs w D _ (Ext.refl _ _) ⟨h.1, es, c, m, h.2, h2, h3⟩ fun _ hk => .inl hk
theorem Sat.mapX {b : Nat} {es : Array MapEntry} {c : Nat} (H : Sat (MapX b es c :: Z) w) : w.heap[b]? = some (.map es c) := let ⟨_, h⟩ := H.head; h.2
theorem unInt_in {k : IntKind} {n : Int} {K : Int -> Prop} (h : K n) : unInt k (.int k n) K := by cases k <;> exact h
theorem cmp64_spec {x y : Int} {K : Int -> World -> Prop} (hK : ∀ r, (r < 0 ↔ x < y) -> K r w) : F.cmp_Compare_uint64_ E x y K w := by
  unfold F.cmp_Compare_uint64_ T0.cmp_Compare_uint64_ F.cmp_isNaN_uint64_
  simp only [bne_self_eq_false, CND_false]
  refine CND_dec (fun h => hK _ ⟨fun _ => h, fun _ => by decide⟩) fun h => CND_dec (fun h2 => hK _ ⟨fun h => absurd h (by decide), fun h3 => absurd h3 h⟩) fun h2 => hK _ ⟨fun h => absurd h (by decide), fun h3 => absurd h3 h⟩
variable {h : Nat} {S : HS} (hE : EnvH E)
include hE
theorem spans1_spec {b1 t : Nat} (H : Sat (HeapP E h S :: Cells b1 t [.pointer (some ⟨h, 0, none⟩)] :: Z) w) {x y : Int} {X Y : Nat × SI} (hx : S.sp x = some X) (hy : S.sp y = some Y) {K : Int -> World -> Prop}
    (hK : ∀ r w', (r < 0 ↔ X.2.base < Y.2.base) -> Sat (HeapP E h S :: Cells b1 t [.pointer (some ⟨h, 0, none⟩)] :: Z) w' -> K r w') : F.mheap_Heap_Spans_1 E x y (some ⟨b1, 0, none⟩) K w := by
  unfold F.mheap_Heap_Spans_1 T0.mheap_Heap_Spans_1
  try simp only [NC_some]
  obtain ⟨g, hI, H1⟩ := Sat.heap.1 H.drew
  obtain ⟨es, c, m, hm, hg, H2⟩ := (H1.front 5 rfl).mapFix
  have H3 : Sat ([Cells h E.t_mheap_Heap (hcells g S.hint S.pages), VmemP E g.m S.V, TreeV E g.t S.T, ArenaP E g.a S.ks S.own, FixP E g.f S.fx, MapX g.sm es c, Many (spR E S.sp) g.ids, Many (fun i : Nat => CacheP E (g.cb i) (S.ca i)) (List.range 64), Cells b1 t [.pointer (some ⟨h, 0, none⟩)]] ++ Z) w.drew :=
    Sat.back (Ps := hres E h S g ++ Cells b1 t [.pointer (some ⟨h, 0, none⟩)] :: Z) 5 H2 (by simp [hres])
  have facts : ∀ {w' : World}, Sat ([Cells h E.t_mheap_Heap (hcells g S.hint S.pages), VmemP E g.m S.V, TreeV E g.t S.T, ArenaP E g.a S.ks S.own, FixP E g.f S.fx, MapX g.sm es c, Many (spR E S.sp) g.ids, Many (fun i : Nat => CacheP E (g.cb i) (S.ca i)) (List.range 64), Cells b1 t [.pointer (some ⟨h, 0, none⟩)]] ++ Z) w' ->
      w'.cell? ((Addr.mk h 0 none).add 4) = some (.map (some g.sm)) /\ w'.cell? (Addr.mk b1 0 none) = some (.pointer (some ⟨h, 0, none⟩)) /\ w'.heap[g.sm]? = some (.map es c) := fun h' =>
    ⟨(hcell (S := S) (g := g) h').2.2.2.2.1, (h'.front 8 rfl).cell0 rfl, (h'.front 5 rfl).mapX⟩
  have open1 : ∀ {w' : World} {z : Int} {U : Nat × SI}, S.sp z = some U -> Sat ([Cells h E.t_mheap_Heap (hcells g S.hint S.pages), VmemP E g.m S.V, TreeV E g.t S.T, ArenaP E g.a S.ks S.own, FixP E g.f S.fx, MapX g.sm es c, Many (spR E S.sp) g.ids, Many (fun i : Nat => CacheP E (g.cb i) (S.ca i)) (List.range 64), Cells b1 t [.pointer (some ⟨h, 0, none⟩)]] ++ Z) w' ->
      ∀ {R : Int -> Int -> Int -> Int -> Bool -> Int -> Int -> Int -> Bool -> Bool -> World -> Prop}, (∀ r2 r3 r4 r5 r6 r7 r8 r9 r10 w2, Sat ([Cells h E.t_mheap_Heap (hcells g S.hint S.pages), VmemP E g.m S.V, TreeV E g.t S.T, ArenaP E g.a S.ks S.own, FixP E g.f S.fx, MapX g.sm es c, Many (spR E S.sp) g.ids, Many (fun i : Nat => CacheP E (g.cb i) (S.ca i)) (List.range 64), Cells b1 t [.pointer (some ⟨h, 0, none⟩)]] ++ Z) w2 ->
        R U.2.base r2 r3 r4 r5 r6 r7 r8 r9 r10 w2) -> F.span_Span_Info E (some ⟨U.1, 0, none⟩) R w' := by
    intro w' z U hz h' R hR
    have hmem : z ∈ g.ids := (hI.mem z).2 (by rw [hz]; exact fun h => by cases h)
    obtain ⟨i, hi⟩ := List.mem_iff_getElem?.1 hmem
    have h1 := (h'.front 6 rfl).manyGet hi
    have e : spR E S.sp z = SpanP E U.1 U.2 := by unfold spR; rw [hz]
    rw [e] at h1
    refine spinfo_spec h1 fun w2 h2 => hR _ _ _ _ _ _ _ _ _ _ ?_
    rw [<- e] at h2
    exact Sat.back (Ps := [Cells h E.t_mheap_Heap (hcells g S.hint S.pages), VmemP E g.m S.V, TreeV E g.t S.T, ArenaP E g.a S.ks S.own, FixP E g.f S.fx, MapX g.sm es c, Many (spR E S.sp) g.ids, Many (fun i : Nat => CacheP E (g.cb i) (S.ca i)) (List.range 64), Cells b1 t [.pointer (some ⟨h, 0, none⟩)]] ++ Z) 6 (Sat.manyBack h2 hi) (by simp)
  obtain ⟨f1, f2, f3⟩ := facts H3
  have lk : ∀ (z : Int) {U : Nat × SI}, S.sp z = some U -> ((aget m z).getD (.pointer none)) = .pointer (some ⟨U.1, 0, none⟩) := fun z U hz => by rw [hg]; unfold spMap; rw [hz]; rfl
  refine ⟨_, f2, ?_⟩
  try simp only [NC_some]
  refine ⟨_, f1, LKP_intro f3 hm ?_⟩
  refine ⟨_, lk x hx, ?_⟩
  try simp only [NC_some]
  refine ⟨_, f2, ?_⟩
  try simp only [NC_some]
  refine ⟨_, f1, LKP_intro f3 hm ?_⟩
  refine ⟨_, lk y hy, ?_⟩
  refine open1 hx H3 fun _ _ _ _ _ _ _ _ _ w27 H27 => ?_
  obtain ⟨g1, g2, g3⟩ := facts H27
  refine ⟨⟨_, g3⟩, g1, g2, g1, g2, open1 hy H27 fun _ _ _ _ _ _ _ _ _ w38 H38 => ?_⟩
  obtain ⟨k1, k2, k3⟩ := facts H38
  refine ⟨k1, k2, k1, k2, cmp64_spec fun r hr => ⟨k1, k2, k1, k2, hK r _ hr ?_⟩⟩
  have h1 := (H38.front 5 rfl).mapFree (g := spMap S.sp) hm hg
  exact Sat.heap.2 ⟨g, hI, Sat.back (Ps := hres E h S g ++ Cells b1 t [.pointer (some ⟨h, 0, none⟩)] :: Z) 5 h1 (by simp [hres])⟩
end
end Go.Sh

set_option linter.all false
namespace Go.Sh
open Go.Proofs
theorem envS : EnvS env where
  at1 := by
    intro i p1 p2 K w h
    refine ⟨(fits104 #[.int .i64 i, .pointer p1, .pointer p2] w (fun v w' => ∃ b, v = .bool b /\ K b w') noP ?_).1, (fits104 #[.int .i64 i, .pointer p1, .pointer p2] w (fun v w' => ∃ b, v = .bool b /\ K b w') noP ?_).2⟩ <;>
    exact (show F.stretch_Set_at_1 env i p1 p2 (fun b w' => ∃ b', Value.bool b = .bool b' /\ K b' w') w from at1_mono (fun b w' h => ⟨b, rfl, h⟩) h)
  mono := ground_mono
theorem envA : EnvA env where
  toEnvS := envS
  set1 := by
    intro x y p1 p2 R w h
    refine ⟨(fits62 #[.int .u64 x, .int .u64 y, .pointer p1, .pointer p2] w R noP ?_).1, (fits62 #[.int .u64 x, .int .u64 y, .pointer p1, .pointer p2] w R noP ?_).2⟩ <;>
    exact h
theorem envH : EnvH env where
  toEnvA := envA
  spans1 := by
    intro x y p R w h
    refine ⟨(fits37 #[.int .i64 x, .int .i64 y, .pointer p] w R noP ?_).1, (fits37 #[.int .i64 x, .int .i64 y, .pointer p] w R noP ?_).2⟩ <;>
    exact h
end Go.Sh
