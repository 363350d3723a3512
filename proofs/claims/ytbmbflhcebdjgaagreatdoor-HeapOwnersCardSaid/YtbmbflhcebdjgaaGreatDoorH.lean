/- The heap: what holds of it, and what each function does to it. No further condition. -/
import Derived.Test.YtbmbflhcebdjgaaGreatDoorB
import Derived.Test.YtbmbflhcebdjgaaGreatDoorC
import Derived.Test.YtbmbflhcebdjgaaGreatDoorR
import Derived.Test.YtbmbflhcebdjgaaGreatDoorY
set_option linter.all false
set_option maxRecDepth 8000
set_option maxHeartbeats 2000000
namespace Go.Sh
theorem ctell_spec {E : Env} {w : World} {Z : List Pr} {c : Nat} {S : CS} (H : Sat (CacheP E c S :: Z) w) {K : Int -> Int -> Int -> World -> Prop}
    (hK : ∀ r0 r1 r2 w', (S.empty -> r0 = 0 /\ r1 = 0 /\ r2 = 0) -> (¬ S.empty -> r0 = S.base /\ r1 = W S.has /\ r2 = W S.rel) -> Sat (CacheP E c S :: Z) w' -> K r0 r1 r2 w') : F.pcache_Cache_Tell E (some ⟨c, 0, none⟩) K w :=
  ptell_spec H (fun h => hK _ _ _ w (fun _ => ⟨rfl, rfl, rfl⟩) (fun h' => absurd h h') H) fun h w' H' => hK _ _ _ w' (fun h' => absurd h' h) (fun _ => ⟨rfl, rfl, rfl⟩) H'
structure HS where
  V : VS
  T : TV
  ca : Nat -> CS
  ks : Iv
  own : Int -> Int
  fx : FX
  sp : Int -> Option (Nat × SI)
  hint : Int
  pages : Int
structure HG where
  m : Nat
  t : Nat
  a : Nat
  f : Nat
  sm : Nat
  cb : Nat -> Nat
  ids : List Int
def ptrs (cb : Nat -> Nat) : List Value := (List.range 64).map fun i => .pointer (some ⟨cb i, 0, none⟩)
def hcells (g : HG) (hint pages : Int) : List Value := .pointer (some ⟨g.m, 0, none⟩) :: .pointer (some ⟨g.t, 0, none⟩) :: .pointer (some ⟨g.a, 0, none⟩) :: .pointer (some ⟨g.f, 0, none⟩) :: .map (some g.sm) :: (ptrs g.cb ++ [.int .u64 hint, .int .u64 pages])
def spMap (sp : Int -> Option (Nat × SI)) : Int -> Option Value := fun id => (sp id).map fun x => .pointer (some ⟨x.1, 0, none⟩)
def spR (E : Env) (sp : Int -> Option (Nat × SI)) (id : Int) : Pr := match sp id with
  | some x => SpanP E x.1 x.2
  | none => Emp
def hres (E : Env) (h : Nat) (S : HS) (g : HG) : List Pr :=
  [Cells h E.t_mheap_Heap (hcells g S.hint S.pages), VmemP E g.m S.V, TreeV E g.t S.T, ArenaP E g.a S.ks S.own, FixP E g.f S.fx, MapF g.sm .i64 (spMap S.sp), Many (spR E S.sp) g.ids, Many (fun i : Nat => CacheP E (g.cb i) (S.ca i)) (List.range 64)]
structure HIds (S : HS) (g : HG) : Prop where
  nd : g.ids.Nodup
  mem : ∀ id, id ∈ g.ids ↔ S.sp id ≠ none
def HeapP (E : Env) (h : Nat) (S : HS) : Pr := Ex fun g : HG => Where (HIds S g) (Star (hres E h S g))
theorem ptrs_len (cb : Nat -> Nat) : (ptrs cb).length = 64 := by simp [ptrs]
theorem hc_cache (g : HG) (x y : Int) {i : Nat} (hi : i < 64) : (hcells g x y)[5 + i]? = some (.pointer (some ⟨g.cb i, 0, none⟩)) := by
  unfold hcells
  rw [show 5 + i = i + 1 + 1 + 1 + 1 + 1 by omega]
  simp only [List.getElem?_cons_succ]
  rw [List.getElem?_append_left (by rw [ptrs_len]; exact hi)]
  simp [ptrs, hi]
theorem hc_hint (g : HG) (x y : Int) : (hcells g x y)[69]? = some (.int .u64 x) := by
  unfold hcells
  rw [show 69 = 64 + 1 + 1 + 1 + 1 + 1 from rfl]
  simp only [List.getElem?_cons_succ]
  rw [List.getElem?_append_right (by rw [ptrs_len]; exact Nat.le_refl _), ptrs_len]; rfl
theorem hc_pages (g : HG) (x y : Int) : (hcells g x y)[70]? = some (.int .u64 y) := by
  unfold hcells
  rw [show 70 = 65 + 1 + 1 + 1 + 1 + 1 from rfl]
  simp only [List.getElem?_cons_succ]
  rw [List.getElem?_append_right (by rw [ptrs_len]; decide), ptrs_len]; rfl
theorem hc_len (g : HG) (x y : Int) : (hcells g x y).length = 71 := by simp [hcells, ptrs_len]
theorem hc_setHint (g : HG) (x y z : Int) : (hcells g x y).set 69 (.int .u64 z) = hcells g z y := by
  unfold hcells
  rw [show 69 = 64 + 1 + 1 + 1 + 1 + 1 from rfl]
  simp only [List.set_cons_succ]
  rw [List.set_append_right _ _ (by rw [ptrs_len]; exact Nat.le_refl _), ptrs_len]; rfl
theorem hc_setPages (g : HG) (x y z : Int) : (hcells g x y).set 70 (.int .u64 z) = hcells g x z := by
  unfold hcells
  rw [show 70 = 65 + 1 + 1 + 1 + 1 + 1 from rfl]
  simp only [List.set_cons_succ]
  rw [List.set_append_right _ _ (by rw [ptrs_len]; decide), ptrs_len]; rfl
section
variable {E : Env} {h : Nat} {S : HS} {Z : List Pr} {w : World} {g : HG}
theorem Sat.heap : Sat (HeapP E h S :: Z) w ↔ ∃ g, HIds S g /\ Sat (hres E h S g ++ Z) w := by
  unfold HeapP
  rw [Sat.ex]
  constructor
  · rintro ⟨g, h⟩
    rw [Sat.where, Sat.star] at h
    exact ⟨g, h⟩
  · rintro ⟨g, h⟩
    refine ⟨g, ?_⟩
    rw [Sat.where, Sat.star]
    exact h
theorem hcell (H : Sat (Cells h E.t_mheap_Heap (hcells g S.hint S.pages) :: Z) w) :
    w.cell? (Addr.mk h 0 none) = some (.pointer (some ⟨g.m, 0, none⟩)) /\ w.cell? ((Addr.mk h 0 none).add 1) = some (.pointer (some ⟨g.t, 0, none⟩)) /\ w.cell? ((Addr.mk h 0 none).add 2) = some (.pointer (some ⟨g.a, 0, none⟩)) /\
    w.cell? ((Addr.mk h 0 none).add 3) = some (.pointer (some ⟨g.f, 0, none⟩)) /\ w.cell? ((Addr.mk h 0 none).add 4) = some (.map (some g.sm)) /\ w.cell? ((Addr.mk h 0 none).add 69) = some (.int .u64 S.hint) /\ w.cell? ((Addr.mk h 0 none).add 70) = some (.int .u64 S.pages) /\
    ∀ i, i < 64 -> w.cell? ((Addr.mk h 0 none).add (i + 5)) = some (.pointer (some ⟨g.cb i, 0, none⟩)) :=
  ⟨H.cell0 rfl, H.cell rfl, H.cell rfl, H.cell rfl, H.cell rfl, H.cell (by rw [Nat.zero_add]; exact hc_hint g _ _), H.cell (by rw [Nat.zero_add]; exact hc_pages g _ _), fun i hi => H.cell (by rw [Nat.zero_add, Nat.add_comm]; exact hc_cache g _ _ hi)⟩
theorem hspan_spec (H : Sat (HeapP E h S :: Z) w) {id : Int} {K : Option Addr -> Int -> World -> Prop} (hk0 : S.sp id = none -> K none 35 w) (hk1 : ∀ x, S.sp id = some x -> K (some ⟨x.1, 0, none⟩) 0 w) : F.mheap_Heap_Span E (some ⟨h, 0, none⟩) id K w := by
  obtain ⟨g, hI, H⟩ := Sat.heap.1 H
  unfold F.mheap_Heap_Span
  simp only [NC_some]
  refine ⟨_, (hcell (S := S) (g := g) H).2.2.2.2.1, LKP_sl (H.front 5 rfl) fun es _ => ?_⟩
  unfold spMap
  cases hs : S.sp id with
  | none => exact ⟨none, rfl, CND_t rfl (hk0 hs)⟩
  | some x => exact ⟨_, rfl, CND_f rfl (hk1 x hs)⟩
theorem Sat.heapSpan (H : Sat (HeapP E h S :: Z) w) {id : Int} {x : Nat × SI} (hx : S.sp id = some x) : ∃ R : List Pr, Sat (SpanP E x.1 x.2 :: R) w /\ ∀ {w'}, Sat (SpanP E x.1 x.2 :: R) w' -> Sat (HeapP E h S :: Z) w' := by
  obtain ⟨g, hI, H⟩ := Sat.heap.1 H
  have hm : id ∈ g.ids := (hI.mem id).2 (by rw [hx]; exact fun h => by cases h)
  obtain ⟨i, hi⟩ := List.mem_iff_getElem?.1 hm
  have H1 := (H.front 6 rfl).manyGet hi
  have e : spR E S.sp id = SpanP E x.1 x.2 := by unfold spR; rw [hx]
  rw [e] at H1
  refine ⟨_, H1, fun {w'} h' => Sat.heap.2 ⟨g, hI, ?_⟩⟩
  rw [<- e] at h'
  have h2 := Sat.manyBack h' hi
  exact Sat.back (Ps := hres E h S g ++ Z) 6 h2 (by simp [hres])
theorem hof_spec (H : Sat (HeapP E h S :: Z) w) {x : Int} (h0 : 0 <= x) (hx : x < 18446744073709551616) {K : Int -> World -> Prop} (hK : ∀ w', Sat (HeapP E h S :: Z) w' -> K (S.own (x / 8192)) w') : F.mheap_Heap_Of E (some ⟨h, 0, none⟩) x K w := by
  obtain ⟨g, hI, H⟩ := Sat.heap.1 H
  unfold F.mheap_Heap_Of T0.mheap_Heap_Of
  simp only [NC_some]
  refine ⟨_, (hcell (S := S) (g := g) H).2.2.1, aat_sat (H.front 3 rfl) h0 hx fun w' H' => hK w' (Sat.heap.2 ⟨g, hI, ?_⟩)⟩
  exact Sat.back (Ps := hres E h S g ++ Z) 3 H' (by simp [hres])
theorem hmem_spec (H : Sat (HeapP E h S :: Z) w) {K : Option Addr -> World -> Prop} (hK : ∀ m R, Sat (VmemP E m S.V :: R) w -> (∀ {V' : VS} {w'}, Sat (VmemP E m V' :: R) w' -> Sat (HeapP E h { S with V := V' } :: Z) w') -> K (some ⟨m, 0, none⟩) w) : F.mheap_Heap_Mem E (some ⟨h, 0, none⟩) K w := by
  obtain ⟨g, hI, H⟩ := Sat.heap.1 H
  unfold F.mheap_Heap_Mem
  simp only [NC_some]
  refine ⟨_, (hcell (S := S) (g := g) H).1, hK g.m _ (H.front 1 rfl) fun {V' w'} h' => Sat.heap.2 ⟨g, ⟨hI.nd, hI.mem⟩, ?_⟩⟩
  exact Sat.back (Ps := hres E h S g ++ Z) 1 h' (by simp [hres])
theorem is_spec {p : Int} {K : Bool -> World -> Prop} (hK : K (decide (0 <= p /\ p < 64)) w) : F.mheap_is E p K w := by
  unfold F.mheap_is
  refine CND_dec (fun h => ?_) fun h => ?_
  · have : decide (p < 64) = decide (0 <= p /\ p < 64) := decide_eq_decide.2 (by omega)
    rw [this]; exact hK
  · rw [decide_eq_false (by omega)] at hK; exact hK
theorem own_bit {C : CS} (hI : CInv C) {r0 r1 : Int} (h0 : C.empty -> r0 = 0 /\ r1 = 0) (h1 : ¬ C.empty -> r0 = C.base /\ r1 = W C.has) {p : Int} (hp : 0 <= p) (hp2 : p < 34359738368) {K : Bool -> Prop} (hK : K (C.own p)) :
    CND (decide ((p : Int) ≥ r0)) (CND (decide (((u64 (p - r0)) : Int) < 64)) ((0 : Int) <= (u64 (p - r0)) /\ K (((bitK .u64 0 (Int.fdiv r1 (2 ^ (min (Int.toNat (u64 (p - r0))) (IntKind.bits .u64)))) 1) : Int) == 1)) (K false)) (K false) := by
  by_cases he : C.empty
  · obtain ⟨rfl, rfl⟩ := h0 he
    have hf : C.own p = false := by
      unfold CS.own; rw [he]; simp
    rw [hf] at hK
    refine CND_dec (fun _ => CND_dec (fun h => ⟨by rw [u64_id (by omega) (by omega)]; omega, ?_⟩) fun _ => hK) fun _ => hK
    rw [Int.zero_fdiv, show bitK .u64 0 0 1 = 0 by decide]
    exact hK
  · obtain ⟨rfl, rfl⟩ := h1 he
    have hb0 := hI.b0
    have hb1 := hI.b1
    have hf : ¬ (C.base <= p /\ p < C.base + 64) -> C.own p = false := fun h => by
      unfold CS.own; rw [inr_f.2 h]; rfl
    refine CND_dec (fun hge => ?_) fun hlt => ?_
    · rw [u64_id (n := p - C.base) (by omega) (by omega)]
      refine CND_dec (fun h => ⟨by omega, ?_⟩) fun h => ?_
      · rw [W_get _ (by omega) h]
        have e : C.own p = C.has (p - C.base).toNat := by
          unfold CS.own; rw [inr_iff.2 (by omega)]; rfl
        rw [e] at hK
        cases hh : C.has (p - C.base).toNat
        · rw [hh] at hK; exact hK
        · rw [hh] at hK; exact hK
      · rw [hf (by omega)] at hK; exact hK
    · rw [hf (by omega)] at hK; exact hK
theorem own_bit2 {C : CS} (hI : CInv C) {r0 r1 : Int} (h0 : C.empty -> r0 = 0 /\ r1 = 0) (h1 : ¬ C.empty -> r0 = C.base /\ r1 = W C.has) {p : Int} (hp : 0 <= p) (hp2 : p < 34359738368) {A B : Prop} (hK : CND (C.own p) A B) :
    CND (decide ((p : Int) ≥ r0)) (CND (decide (((u64 (p - r0)) : Int) < 64)) ((0 : Int) <= (u64 (p - r0)) /\ ∀ j : Nat -> Value, CND (((bitK .u64 0 (Int.fdiv r1 (2 ^ (min (Int.toNat (u64 (p - r0))) (IntKind.bits .u64)))) 1) : Int) == 1) A B) (∀ j : Nat -> Value, CND false A B)) (∀ j : Nat -> Value, CND false A B) :=
  own_bit hI h0 h1 hp hp2 (K := fun b => ∀ j : Nat -> Value, CND b A B) fun _ => hK
theorem Sat.cacheAt (H : Sat (hres E h S g ++ Z) w) {i : Nat} (hi : i < 64) : ∃ R, Sat (CacheP E (g.cb i) (S.ca i) :: R) w /\ ∀ {w'}, Sat (CacheP E (g.cb i) (S.ca i) :: R) w' -> Sat (hres E h S g ++ Z) w' := by
  have hg : (List.range 64)[i]? = some i := List.getElem?_range hi
  refine ⟨_, (H.front 7 rfl).manyGet hg, fun {w'} h' => ?_⟩
  exact Sat.back (Ps := hres E h S g ++ Z) 7 (Sat.manyBack h' hg) (by simp [hres])
theorem getD_ptrs (cb : Nat -> Nat) {i : Nat} (hi : i < 64) : List.getD ((List.range 64).map fun i => some (Addr.mk (cb i) 0 none)) i none = some ⟨cb i, 0, none⟩ := by
  rw [List.getD_eq_getElem?_getD, List.getElem?_map, List.getElem?_range hi]; rfl
variable (hE : EnvA E)
include hE
theorem howner_spec (H : Sat (HeapP E h S :: Z) w) {p : Int} (h0 : 0 <= p) (hp : p < 18446744073709551616) {K : Int -> Int -> World -> Prop}
    (hk0 : (34359738368 <= p ∨ ¬ mem S.ks (p / 512)) -> ∀ w', Sat (HeapP E h S :: Z) w' -> K 0 0 w')
    (hk3 : p < 34359738368 -> mem S.ks (p / 512) -> 0 < S.own p -> ∀ w', Sat (HeapP E h S :: Z) w' -> K 3 (S.own p) w')
    (hk2 : p < 34359738368 -> mem S.ks (p / 512) -> ¬ 0 < S.own p -> ∀ i : Nat, i < 64 -> (S.ca i).own p = true -> (∀ j, j < i -> (S.ca j).own p = false) -> ∀ w', Sat (HeapP E h S :: Z) w' -> K 2 i w')
    (hk1 : p < 34359738368 -> mem S.ks (p / 512) -> ¬ 0 < S.own p -> (∀ i, i < 64 -> (S.ca i).own p = false) -> ∀ w', Sat (HeapP E h S :: Z) w' -> K 1 0 w') : F.mheap_Heap_Owner E (some ⟨h, 0, none⟩) p K w := by
  obtain ⟨g, hI, H⟩ := Sat.heap.1 H
  have back : ∀ {w'}, Sat (hres E h S g ++ Z) w' -> Sat (HeapP E h S :: Z) w' := fun h' => Sat.heap.2 ⟨g, hI, h'⟩
  unfold F.mheap_Heap_Owner T0.mheap_Heap_Owner
  refine JOIN_in (CND_dec (fun hge j => CND_t rfl (hk0 (.inl hge) _ (back H))) fun hlt => ?_)
  rw [u64_id (n := p * 8192) (by omega) (by omega)]
  simp only [NC_some]
  refine ⟨_, (hcell (S := S) (g := g) H).2.2.1, ahas_sat hE (H.front 3 rfl) (by omega) (by omega) fun w7 r hr H7' j => ?_⟩
  rw [show p * 8192 / 4194304 = p / 512 by omega] at hr
  have H7 : Sat (hres E h S g ++ Z) w7 := Sat.back (Ps := hres E h S g ++ Z) 3 H7' (by simp [hres])
  cases r
  · exact CND_t rfl (hk0 (.inr fun hm => by cases hr.2 hm) _ (back H7))
  have hm := hr.1 rfl
  refine CND_f rfl (hof_spec (back H7) (by omega) (by omega) fun w9 H9' => ?_)
  rw [show p * 8192 / 8192 = p by omega]
  obtain ⟨g2, hI2, H9⟩ := Sat.heap.1 H9'
  have back : ∀ {w'}, Sat (hres E h S g2 ++ Z) w' -> Sat (HeapP E h S :: Z) w' := fun h' => Sat.heap.2 ⟨g2, hI2, h'⟩
  refine CND_dec (fun hpos => hk3 (by omega) hm hpos _ (back H9)) fun hnp => ?_
  have hcc := (hcell (S := S) (g := g2) H9).2.2.2.2.2.2.2
  simp only [add_add, Nat.reduceAdd]
  repeat (refine ⟨_, hcc _ (by decide), ?_⟩)
  have hL : ∀ i : Nat, i < 64 -> List.getD ((List.range 64).map fun i => some (Addr.mk (g2.cb i) 0 none)) i none = some ⟨g2.cb i, 0, none⟩ := fun i hi => getD_ptrs g2.cb hi
  refine LOOP_intro (fun st w' => ∃ i : Nat, st.1 = (i : Int) /\ i <= 64 /\ (∀ j, j < i -> (S.ca j).own p = false) /\ Sat (hres E h S g2 ++ Z) w') (fun st _ => (64 - st.1).toNat) ⟨0, rfl, by decide, fun j hj => by omega, H9⟩ ?_
  rintro ⟨i', v⟩ _ w76 ⟨i, hi, hi64, hno, H76⟩
  dsimp only at hi ⊢
  subst hi
  refine CND_dec (fun hlt64 => ⟨⟨by omega, by omega⟩, ?_⟩) fun hge64 => hk1 (by omega) hm hnp (fun j hj => hno j (by omega)) _ (back H76)
  have hi : i < 64 := by omega
  obtain ⟨R, hc, hb⟩ := H76.cacheAt hi
  rw [Int.toNat_natCast]
  have e := hL i hi
  refine (show _ = _ from e) ▸ ?_
  refine ctell_spec hc fun r0 r1 r2 w81 g0 g1 H81 => JOIN_in ?_
  obtain ⟨hCI, _⟩ := Sat.cache.1 H81
  refine own_bit2 hCI (fun h => ⟨(g0 h).1, (g0 h).2.1⟩) (fun h => ⟨(g1 h).1, (g1 h).2.1⟩) h0 (by omega) ?_
  refine CND_intro (fun e => hk2 (by omega) hm hnp i hi e hno _ (back (hb H81))) fun e => ?_
  rw [i64_id (n := (i : Int) + 1) (by omega) (by omega)]
  refine ⟨⟨i + 1, by omega, by omega, fun j hj => ?_, hb H81⟩, by omega⟩
  rcases Nat.lt_or_eq_of_le (Nat.le_of_lt_succ hj) with q | q
  · exact hno j q
  · subst q; exact e
end
end Go.Sh

set_option linter.all false
set_option maxRecDepth 4000
set_option maxHeartbeats 1000000
namespace Go.Sh
theorem cu_or {u v z : Int -> Bool} : ∀ n : Nat, (∀ k : Int, 0 <= k -> k < n -> z k = (u k || v k)) -> (∀ k : Int, 0 <= k -> k < n -> ¬ (u k = true /\ v k = true)) -> cu z n = cu u n + cu v n
  | 0, _, _ => rfl
  | n + 1, h1, h2 => by
    simp only [cu]
    rw [cu_or n (fun k a b => h1 k a (by omega)) fun k a b => h2 k a (by omega), h1 n (by omega) (by omega)]
    have := h2 n (by omega) (by omega)
    cases hu : u n <;> cases hv : v n
    · simp
    · simp; omega
    · simp; omega
    · exact absurd ⟨hu, hv⟩ this
theorem cu_congr {u v : Int -> Bool} : ∀ n : Nat, (∀ k : Int, 0 <= k -> k < n -> u k = v k) -> cu u n = cu v n
  | 0, _ => rfl
  | n + 1, h => by simp only [cu]; rw [cu_congr n fun k a b => h k a (by omega), h n (by omega) (by omega)]
def cP (f : Int -> Bool) : Int := cr f 0 34359738368
theorem cP_congr {f g : Int -> Bool} (h : ∀ p, 0 <= p -> p < 34359738368 -> f p = g p) : cP f = cP g := by
  unfold cP cr
  exact cu_congr _ fun k a b => h _ (by omega) (by omega)
theorem cP_or {f g h : Int -> Bool} (hh : ∀ p, h p = (f p || g p)) (hd : ∀ p, f p = true -> g p = true -> False) : cP h = cP f + cP g := by
  unfold cP cr
  exact cu_or _ (fun k _ _ => hh _) fun k _ _ e => hd _ e.1 e.2
theorem cP_bnd (f : Int -> Bool) : 0 <= cP f /\ cP f <= 34359738368 := by
  unfold cP
  exact cr_bnd f 0 (by decide)
theorem cP_iv {f : Int -> Bool} {l : Iv} (h : Ok l) (hl : ∀ p, mem l p ↔ f p = true) (hlim : ∀ p, f p = true -> p < 34359738368) : cP f = tot l := by
  unfold cP
  rw [cr_cnt h hl (by decide)]
  exact cnt_all h.lts fun n hn => ⟨mem_pos h hn, by have := hlim n ((hl n).1 hn); omega⟩
theorem cP_NT {f : Int -> Bool} {l : Iv} (h : Ok l) (hl : ∀ p, mem l p ↔ f p = true) (hlim : ∀ p, f p = true -> p < 34359738368) : NT f = cP f := by
  rw [NT_eq h hl, cP_iv h hl hlim]
theorem cP_zero {f : Int -> Bool} (h : ∀ p, f p = false) : cP f = 0 := by
  unfold cP
  exact cr_none fun m _ _ => h m
theorem cP_row {x n : Int} (h0 : 0 <= x) (hn : 0 <= n) (hb : x + n <= 34359738368) : cP (inr x n) = n := by
  by_cases e : n = 0
  · subst e
    exact cP_zero fun p => inr_f.2 (by omega)
  · rw [cP_iv (l := [(x, x + n)]) ⟨h0, by show x < x + n; omega, by show x + n < _; omega, fun q hq => (by cases hq), trivial⟩ (fun p => ?_) fun p hp => by have := inr_iff.1 hp; omega]
    · show x + n - x + 0 = n; omega
    · rw [inr_iff, mem_cons]
      exact ⟨fun h => h.elim (fun h => h) fun h => absurd h (mem_nil p), fun h => .inl h⟩
theorem cP_mono {f g : Int -> Bool} (h : ∀ p, f p = true -> g p = true) : cP f <= cP g := by
  have e : cP g = cP f + cP (fun p => g p && !f p) := cP_or (fun p => by cases hf : f p <;> cases hg : g p <;> simp; exact absurd (h p hf) (by rw [hg]; decide)) fun p a b => by rw [a] at b; simp at b
  have := cP_bnd fun p => g p && !f p
  omega
theorem cP_pos {f : Int -> Bool} {p : Int} (hp : f p = true) (h0 : 0 <= p) (h1 : p < 34359738368) : 1 <= cP f := by
  have := cP_mono (f := inr p 1) (g := f) fun q hq => by
    have := inr_iff.1 hq
    rw [show q = p by omega]; exact hp
  rw [cP_row h0 (by decide) (by omega)] at this
  exact this
theorem cP_cache {u : Nat -> Bool} {B : Int} (h0 : 0 <= B) (h1 : B + 64 <= 34359738368) : cP (fun p => inr B 64 p && u (p - B).toNat) = cN u 64 := by
  have key : ∀ n : Nat, n <= 64 -> cP (fun p => inr B n p && u (p - B).toNat) = cN u n := by
    intro n
    induction n with
    | zero => intro _; exact cP_zero fun p => by rw [inr_f.2 (by omega)]; rfl
    | succ n ih =>
      intro hn
      simp only [cN]
      rw [cP_or (f := fun p => inr B n p && u (p - B).toNat) (g := fun p => inr (B + n) 1 p && u n) (fun p => ?_) fun p a b => ?_, ih (by omega)]
      · have e : cP (fun p => inr (B + n) 1 p && u n) = ((u n).toNat : Nat) := by
          cases hu : u n
          · rw [cP_zero fun p => by simp]; rfl
          · rw [show (fun p => inr (B + n) 1 p && true) = inr (B + n) 1 from funext fun p => by simp, cP_row (by omega) (by decide) (by omega)]; rfl
        rw [e]; simp
      · have e : inr B ((n + 1 : Nat) : Int) p = (inr B n p || inr (B + n) 1 p) := by rw [Bool.eq_iff_iff, Bool.or_eq_true, inr_iff, inr_iff, inr_iff]; omega
        rw [e]
        cases h1 : inr B n p
        · cases h2 : inr (B + n) 1 p
          · rfl
          · have := inr_iff.1 h2
            rw [show (p - B).toNat = n by omega]; simp
        · have := inr_iff.1 h1
          rw [show inr (B + n) 1 p = false from inr_f.2 (by omega)]; simp
      · rw [Bool.and_eq_true] at a b
        have h1 := inr_iff.1 a.1
        have h2 := inr_iff.1 b.1
        omega
  exact key 64 (Nat.le_refl _)
def pagesL : Iv -> Iv
  | [] => []
  | p :: r => (p.1 * 512, p.2 * 512) :: pagesL r
theorem pagesL_mem {q : Int × Int} : ∀ {l : Iv}, q ∈ pagesL l -> ∃ p ∈ l, q = (p.1 * 512, p.2 * 512)
  | p :: r, h => by
    rcases List.mem_cons.1 h with h | h
    · exact ⟨p, List.mem_cons_self, h⟩
    · obtain ⟨p', h1, h2⟩ := pagesL_mem h
      exact ⟨p', List.mem_cons_of_mem _ h1, h2⟩
theorem pagesL_ok : ∀ {l : Iv}, Ok l -> (∀ q ∈ l, q.2 <= 67108864) -> Ok (pagesL l)
  | [], _, _ => trivial
  | p :: r, h, hb => by
    obtain ⟨h0, h1, h2, h3, h4⟩ := h
    have := hb p List.mem_cons_self
    refine ⟨by show 0 <= p.1 * 512; omega, by show p.1 * 512 < p.2 * 512; omega, by show p.2 * 512 < _; omega, fun q hq => ?_, pagesL_ok h4 fun q hq => hb q (List.mem_cons_of_mem _ hq)⟩
    obtain ⟨p', g1, rfl⟩ := pagesL_mem hq
    have := h3 p' g1
    show p.2 * 512 < p'.1 * 512
    omega
theorem pagesL_iff {l : Iv} {p : Int} : mem (pagesL l) p ↔ mem l (p / 512) := by
  induction l with
  | nil => exact ⟨fun h => absurd h (mem_nil _), fun h => absurd h (mem_nil _)⟩
  | cons q r ih =>
    show mem ((q.1 * 512, q.2 * 512) :: pagesL r) p ↔ _
    rw [mem_cons, mem_cons, ih]
    show (q.1 * 512 <= p /\ p < q.2 * 512) ∨ _ ↔ _
    have : (q.1 * 512 <= p /\ p < q.2 * 512) ↔ (q.1 <= p / 512 /\ p / 512 < q.2) := by omega
    rw [this]
theorem pagesL_tot (l : Iv) : tot (pagesL l) = tot l * 512 := by
  induction l with
  | nil => rfl
  | cons q r ih =>
    show q.2 * 512 - q.1 * 512 + tot (pagesL r) = (q.2 - q.1 + tot r) * 512
    rw [ih]; omega
theorem cP_arenas {ks : Iv} (h : Ok ks) {f : Int -> Bool} (hf : ∀ p, mem ks (p / 512) ↔ f p = true) (hlim : ∀ p, f p = true -> p < 34359738368) : cP f = tot ks * 512 := by
  rw [<- pagesL_tot]
  refine cP_iv (pagesL_ok h fun q hq => ?_) (fun p => pagesL_iff.trans (hf p)) hlim
  have h1 := h.mem hq
  have := hlim ((q.2 - 1) * 512) ((hf _).1 ⟨q, hq, by omega, by omega⟩)
  omega
end Go.Sh

set_option linter.all false
set_option maxRecDepth 8000
set_option maxHeartbeats 2000000
namespace Go.Sh
def no : Int -> Bool := fun _ => false
theorem any64 {f : Nat -> Bool} : (List.range 64).any f = true ↔ ∃ i, i < 64 /\ f i = true := by
  rw [List.any_eq_true]
  exact ⟨fun ⟨i, h1, h2⟩ => ⟨i, List.mem_range.1 h1, h2⟩, fun ⟨i, h1, h2⟩ => ⟨i, List.mem_range.2 h1, h2⟩⟩
def HS.cached (S : HS) (p : Int) : Bool := (List.range 64).any fun i => (S.ca i).own p
def HS.gone (S : HS) (p : Int) : Bool := S.T.rl p || (List.range 64).any fun i => (S.ca i).ownR p
theorem cached_iff {S : HS} {p : Int} : S.cached p = true ↔ ∃ i, i < 64 /\ (S.ca i).own p = true := any64
theorem gone_iff {S : HS} {p : Int} : S.gone p = true ↔ S.T.rl p = true ∨ ∃ i, i < 64 /\ (S.ca i).ownR p = true := by
  unfold HS.gone
  rw [Bool.or_eq_true, any64]
structure HOk (S : HS) : Prop where
  tv : TVok S.T
  vv : VOk S.V
  ci : ∀ i, i < 64 -> CInv (S.ca i)
  ok : Ok S.ks
  fx : FInv S.fx
theorem Sat.hok {E : Env} {h : Nat} {S : HS} {Z : List Pr} {w : World} (H : Sat (HeapP E h S :: Z) w) : HOk S := by
  obtain ⟨g, hI, H⟩ := Sat.heap.1 H
  refine ⟨(H.front 2 rfl).tvok, (H.front 1 rfl).vok, fun i hi => ?_, (H.front 3 rfl).arenaOk, ?_⟩
  · obtain ⟨R, h1, _⟩ := H.cacheAt hi
    exact (Sat.cache.1 h1).1
  · obtain ⟨_, _, _, h1, _⟩ := Sat.fix.1 (H.front 4 rfl)
    exact h1
structure HInv (S : HS) (fl : Int -> Bool) : Prop where
  cr : ∀ i, i < 64 -> ∀ p, (S.ca i).own p = true -> S.T.inn p = true /\ S.T.fr p = false /\ S.own p = 0 /\ fl p = false
  cd : ∀ i j p, i < 64 -> j < 64 -> (S.ca i).own p = true -> (S.ca j).own p = true -> i = j
  fn : ∀ p, S.T.fr p = true -> S.own p = 0 /\ fl p = false
  ow : ∀ p, 0 < S.own p -> S.T.inn p = true /\ S.T.fr p = false /\ fl p = false /\ ∃ x, S.sp (S.own p) = some x /\ x.2.base / 8192 <= p /\ p < x.2.base / 8192 + x.2.pages
  o0 : ∀ p, 0 <= S.own p
  li : ∀ p, fl p = true -> S.T.inn p = true
  cv : ∀ p, S.T.inn p = true -> S.T.fr p = true ∨ S.cached p = true ∨ 0 < S.own p ∨ fl p = true
  ks : ∀ p, mem S.ks (p / 512) ↔ S.T.inn p = true
  la : ∀ p, mem S.V.laid p ↔ S.T.inn p = true
  rd : ∀ p, fl p = false -> (mem S.V.ready p ↔ S.T.inn p = true /\ S.gone p = false)
  sp : ∀ id x, S.sp id = some x -> 0 < id /\ x.2.base % 8192 = 0 /\ 0 < x.2.pages /\ x.2.state ≠ 0 /\ ∀ p, x.2.base / 8192 <= p -> p < x.2.base / 8192 + x.2.pages -> S.own p = id
  sf : ∀ id, S.sp id ≠ none ↔ ∃ a : Nat, id = (a : Int) + 1 /\ a < S.fx.n /\ a ∉ S.fx.bk
  fb : S.fx.n <= 34359738368
  pg : S.pages = cP fun p => decide (0 < S.own p)
  h0 : 0 <= S.hint
  h1 : S.hint <= 34359738368
theorem own_iff {C : CS} {p : Int} : C.own p = true ↔ (C.base <= p /\ p < C.base + 64) /\ C.has (p - C.base).toNat = true := by
  unfold CS.own
  rw [Bool.and_eq_true, inr_iff]
theorem ownR_iff {C : CS} {p : Int} : C.ownR p = true ↔ (C.base <= p /\ p < C.base + 64) /\ C.rel (p - C.base).toNat = true := by
  unfold CS.ownR
  rw [Bool.and_eq_true, inr_iff]
theorem ownR_own {C : CS} (h : CInv C) {p : Int} (hp : C.ownR p = true) : C.own p = true := by
  rw [ownR_iff] at hp
  exact own_iff.2 ⟨hp.1, h.rh _ hp.2⟩
theorem own_emp {C : CS} (h : C.empty) (p : Int) : C.own p = false := by
  unfold CS.own
  rw [h]; simp
theorem own_nil (p : Int) : CS.nil.own p = false := own_emp (fun _ => rfl) p
theorem ownR_nil (p : Int) : CS.nil.ownR p = false := by unfold CS.ownR CS.nil; simp
theorem not_tf {b : Bool} (h : ¬ b = true) : b = false := by cases b; rfl; exact absurd rfl h
theorem tf_not {b : Bool} (h : b = false) : ¬ b = true := by rw [h]; decide
theorem take_fr {T : TV} {x n p : Int} : (T.take x n).fr p = true ↔ T.fr p = true /\ ¬ (x <= p /\ p < x + n) := by
  show (T.fr p && !inr x n p) = true ↔ _
  rw [Bool.and_eq_true, <- inr_iff]; cases inr x n p <;> simp
theorem take_rl {T : TV} {x n p : Int} : (T.take x n).rl p = true ↔ T.rl p = true /\ ¬ (x <= p /\ p < x + n) := by
  show (T.rl p && !inr x n p) = true ↔ _
  rw [Bool.and_eq_true, <- inr_iff]; cases inr x n p <;> simp
def filled (T : TV) (q : Int) : CS := ⟨q / 64 * 64, fun i => decide (i < 64) && T.fr (q / 64 * 64 + i), fun i => decide (i < 64) && T.rl (q / 64 * 64 + i)⟩
def HS.setca (S : HS) (i : Nat) (c : CS) : HS := { S with ca := fun j => if j = i then c else S.ca j }
def HS.fill (S : HS) (i : Nat) (q : Int) : HS := { S with T := S.T.take (q / 64 * 64) 64, ca := fun j => if j = i then filled S.T q else S.ca j }
theorem filled_own {T : TV} {q p : Int} : (filled T q).own p = true ↔ (q / 64 * 64 <= p /\ p < q / 64 * 64 + 64) /\ T.fr p = true := by
  rw [own_iff]
  show (q / 64 * 64 <= p /\ p < q / 64 * 64 + 64) /\ (decide _ && T.fr _) = true ↔ _
  constructor
  · rintro ⟨h1, h2⟩
    rw [Bool.and_eq_true] at h2
    have h3 := h2.2
    have e : q / 64 * 64 + ((p - q / 64 * 64).toNat : Int) = p := by omega
    refine ⟨h1, ?_⟩
    rw [<- e]; exact h3
  · rintro ⟨h1, h2⟩
    refine ⟨h1, ?_⟩
    rw [Bool.and_eq_true]
    have e : q / 64 * 64 + ((p - q / 64 * 64).toNat : Int) = p := by omega
    exact ⟨decide_eq_true (show (p - q / 64 * 64).toNat < 64 by omega), by show T.fr (q / 64 * 64 + ((p - q / 64 * 64).toNat : Int)) = true; rw [e]; exact h2⟩
theorem filled_ownR {T : TV} {q p : Int} : (filled T q).ownR p = true ↔ (q / 64 * 64 <= p /\ p < q / 64 * 64 + 64) /\ T.rl p = true := by
  rw [ownR_iff]
  show (q / 64 * 64 <= p /\ p < q / 64 * 64 + 64) /\ (decide _ && T.rl _) = true ↔ _
  constructor
  · rintro ⟨h1, h2⟩
    rw [Bool.and_eq_true] at h2
    have h3 := h2.2
    have e : q / 64 * 64 + ((p - q / 64 * 64).toNat : Int) = p := by omega
    refine ⟨h1, ?_⟩
    rw [<- e]; exact h3
  · rintro ⟨h1, h2⟩
    refine ⟨h1, ?_⟩
    rw [Bool.and_eq_true]
    have e : q / 64 * 64 + ((p - q / 64 * 64).toNat : Int) = p := by omega
    exact ⟨decide_eq_true (show (p - q / 64 * 64).toNat < 64 by omega), by show T.rl (q / 64 * 64 + ((p - q / 64 * 64).toNat : Int)) = true; rw [e]; exact h2⟩
variable {S : HS} {fl : Int -> Bool}
theorem HInv.fill (hI : HInv S no) (hk : HOk S) {i : Nat} (hi : i < 64) (he : (S.ca i).empty) (q : Int) : HInv (S.fill i q) no := by
  have hfr : ∀ p, (S.T.take (q / 64 * 64) 64).fr p = true ↔ S.T.fr p = true /\ ¬ (q / 64 * 64 <= p /\ p < q / 64 * 64 + 64) := fun p => take_fr
  have hrl : ∀ p, (S.T.take (q / 64 * 64) 64).rl p = true ↔ S.T.rl p = true /\ ¬ (q / 64 * 64 <= p /\ p < q / 64 * 64 + 64) := fun p => take_rl
  have hown : ∀ j p, ((S.fill i q).ca j).own p = true -> (j = i /\ (q / 64 * 64 <= p /\ p < q / 64 * 64 + 64) /\ S.T.fr p = true) ∨ (j ≠ i /\ (S.ca j).own p = true) := fun j p h => by
    have h : (if j = i then filled S.T q else S.ca j).own p = true := h
    by_cases e : j = i
    · rw [if_pos e] at h; exact .inl ⟨e, filled_own.1 h⟩
    · rw [if_neg e] at h; exact .inr ⟨e, h⟩
  have e1 : (S.fill i q).ca i = filled S.T q := if_pos rfl
  have e2 : ∀ j, j ≠ i -> (S.fill i q).ca j = S.ca j := fun j h => if_neg h
  refine ⟨fun j hj p hp => ?_, fun a b p ha hb h1 h2 => ?_, fun p hp => hI.fn p ((hfr p).1 hp).1, fun p hp => ?_, hI.o0, fun p hp => (by cases hp), fun p hp => ?_, hI.ks, hI.la, fun p _ => ?_, hI.sp, hI.sf, hI.fb, hI.pg, hI.h0, hI.h1⟩
  · rcases hown j p hp with ⟨_, h1, h2⟩ | ⟨e, h1⟩
    · exact ⟨hk.tv.fi p h2, not_tf fun h => ((hfr p).1 h).2 h1, (hI.fn p h2).1, rfl⟩
    · obtain ⟨g1, g2, g3, g4⟩ := hI.cr j hj p h1
      exact ⟨g1, not_tf fun h => (tf_not g2) ((hfr p).1 h).1, g3, g4⟩
  · rcases hown a p h1 with ⟨ea, g1, g2⟩ | ⟨ea, g1⟩ <;> rcases hown b p h2 with ⟨eb, k1, k2⟩ | ⟨eb, k1⟩
    · omega
    · exact absurd g2 (tf_not (hI.cr b hb p k1).2.1)
    · exact absurd k2 (tf_not (hI.cr a ha p g1).2.1)
    · exact hI.cd a b p ha hb g1 k1
  · obtain ⟨g1, g2, g3, g4⟩ := hI.ow p hp
    exact ⟨g1, not_tf fun h => (tf_not g2) ((hfr p).1 h).1, g3, g4⟩
  · rcases hI.cv p hp with h | h | h | h
    · by_cases g : q / 64 * 64 <= p /\ p < q / 64 * 64 + 64
      · refine .inr (.inl (cached_iff.2 ⟨i, hi, ?_⟩))
        rw [e1]; exact filled_own.2 ⟨g, h⟩
      · exact .inl ((hfr p).2 ⟨h, g⟩)
    · obtain ⟨j, hj, h⟩ := cached_iff.1 h
      refine .inr (.inl (cached_iff.2 ⟨j, hj, ?_⟩))
      rw [e2 j fun e => by rw [e, own_emp he] at h; cases h]; exact h
    · exact .inr (.inr (.inl h))
    · exact .inr (.inr (.inr h))
  · have e0 := hI.rd p rfl
    have : (S.fill i q).gone p = S.gone p := by
      rw [Bool.eq_iff_iff, gone_iff, gone_iff]
      constructor
      · rintro (h | ⟨j, hj, h⟩)
        · exact .inl ((hrl p).1 h).1
        · by_cases e : j = i
          · rw [e, e1] at h; exact .inl (filled_ownR.1 h).2
          · rw [e2 j e] at h; exact .inr ⟨j, hj, h⟩
      · rintro (h | ⟨j, hj, h⟩)
        · by_cases g : q / 64 * 64 <= p /\ p < q / 64 * 64 + 64
          · refine .inr ⟨i, hi, ?_⟩
            rw [e1]; exact filled_ownR.2 ⟨g, h⟩
          · exact .inl ((hrl p).2 ⟨h, g⟩)
        · refine .inr ⟨j, hj, ?_⟩
          rw [e2 j fun e => by have := ownR_own (hk.ci j hj) h; rw [e, own_emp he] at this; cases this]; exact h
    rw [this]; exact e0
def HS.calloc (S : HS) (i k n : Nat) : HS := S.setca i ((S.ca i).alloc k n)
def HS.talloc (S : HS) (page n : Int) : HS := { S with T := S.T.take page n }
theorem alloc_own {C : CS} {k n : Nat} {p : Int} (hk : k + n <= 64) : (C.alloc k n).own p = true ↔ C.own p = true /\ ¬ (C.base + k <= p /\ p < C.base + k + n) := by
  rw [own_iff, own_iff]
  show (C.base <= p /\ p < C.base + 64) /\ (C.has (p - C.base).toNat && !(decide (k <= (p - C.base).toNat) && decide ((p - C.base).toNat < k + n))) = true ↔ _
  constructor
  · rintro ⟨h1, h2⟩
    rw [Bool.and_eq_true] at h2
    refine ⟨⟨h1, h2.1⟩, fun h3 => ?_⟩
    have h4 := h2.2
    rw [decide_eq_true (show k <= (p - C.base).toNat by omega), decide_eq_true (show (p - C.base).toNat < k + n by omega)] at h4
    cases h4
  · rintro ⟨⟨h1, h2⟩, h3⟩
    refine ⟨h1, ?_⟩
    rw [Bool.and_eq_true]
    refine ⟨h2, ?_⟩
    by_cases g : k <= (p - C.base).toNat
    · rw [decide_eq_false (show ¬ (p - C.base).toNat < k + n by omega)]; simp
    · rw [decide_eq_false g]; rfl
theorem alloc_ownR {C : CS} {k n : Nat} {p : Int} (hk : k + n <= 64) : (C.alloc k n).ownR p = true ↔ C.ownR p = true /\ ¬ (C.base + k <= p /\ p < C.base + k + n) := by
  rw [ownR_iff, ownR_iff]
  show (C.base <= p /\ p < C.base + 64) /\ (C.rel (p - C.base).toNat && !(decide (k <= (p - C.base).toNat) && decide ((p - C.base).toNat < k + n))) = true ↔ _
  constructor
  · rintro ⟨h1, h2⟩
    rw [Bool.and_eq_true] at h2
    refine ⟨⟨h1, h2.1⟩, fun h3 => ?_⟩
    have h4 := h2.2
    rw [decide_eq_true (show k <= (p - C.base).toNat by omega), decide_eq_true (show (p - C.base).toNat < k + n by omega)] at h4
    cases h4
  · rintro ⟨⟨h1, h2⟩, h3⟩
    refine ⟨h1, ?_⟩
    rw [Bool.and_eq_true]
    refine ⟨h2, ?_⟩
    by_cases g : k <= (p - C.base).toNat
    · rw [decide_eq_false (show ¬ (p - C.base).toNat < k + n by omega)]; simp
    · rw [decide_eq_false g]; rfl
theorem HInv.calloc (hI : HInv S no) (hk : HOk S) {i : Nat} (hi : i < 64) {k n : Nat} (hr : runAt (S.ca i).has k n) (hkn : k + n <= 64) : HInv (S.calloc i k n) (inr ((S.ca i).base + k) n) := by
  have hin : ∀ p, (S.ca i).base + k <= p -> p < (S.ca i).base + k + n -> (S.ca i).own p = true := fun p h1 h2 => by
    refine own_iff.2 ⟨by omega, ?_⟩
    have := hr ((p - (S.ca i).base).toNat - k) (by omega)
    rwa [show k + ((p - (S.ca i).base).toNat - k) = (p - (S.ca i).base).toNat by omega] at this
  have e1 : (S.calloc i k n).ca i = (S.ca i).alloc k n := if_pos rfl
  have e2 : ∀ j, j ≠ i -> (S.calloc i k n).ca j = S.ca j := fun j h => if_neg h
  have hsub : ∀ j p, ((S.calloc i k n).ca j).own p = true -> (S.ca j).own p = true /\ (j = i -> ¬ ((S.ca i).base + k <= p /\ p < (S.ca i).base + k + n)) := fun j p h => by
    by_cases e : j = i
    · subst e; rw [e1, alloc_own hkn] at h; exact ⟨h.1, fun _ => h.2⟩
    · rw [e2 j e] at h; exact ⟨h, fun g => absurd g e⟩
  refine ⟨fun j hj p hp => ?_, fun a b p ha hb h1 h2 => hI.cd a b p ha hb (hsub a p h1).1 (hsub b p h2).1, fun p hp => ?_, fun p hp => ?_, hI.o0, fun p hp => ?_, fun p hp => ?_, hI.ks, hI.la, fun p hp => ?_, hI.sp, hI.sf, hI.fb, hI.pg, hI.h0, hI.h1⟩
  · obtain ⟨h1, h2⟩ := hsub j p hp
    obtain ⟨g1, g2, g3, g4⟩ := hI.cr j hj p h1
    refine ⟨g1, g2, g3, inr_f.2 fun h => ?_⟩
    have := hI.cd j i p hj hi h1 (hin p h.1 h.2)
    exact h2 this h
  · exact ⟨(hI.fn p hp).1, inr_f.2 fun h => by have := (hI.cr i hi p (hin p h.1 h.2)).2.1; rw [show S.T.fr p = true from hp] at this; cases this⟩
  · obtain ⟨g1, g2, g3, g4⟩ := hI.ow p hp
    exact ⟨g1, g2, inr_f.2 fun h => by have := (hI.cr i hi p (hin p h.1 h.2)).2.2.1; have hp : 0 < S.own p := hp; omega, g4⟩
  · have h := inr_iff.1 hp
    exact (hI.cr i hi p (hin p h.1 h.2)).1
  · rcases hI.cv p hp with h | h | h | h
    · exact .inl h
    · obtain ⟨j, hj, h⟩ := cached_iff.1 h
      by_cases g : (S.ca i).base + k <= p /\ p < (S.ca i).base + k + n
      · exact .inr (.inr (.inr (inr_iff.2 g)))
      · refine .inr (.inl (cached_iff.2 ⟨j, hj, ?_⟩))
        by_cases e : j = i
        · subst e; rw [e1, alloc_own hkn]; exact ⟨h, g⟩
        · rw [e2 j e]; exact h
    · exact .inr (.inr (.inl h))
    · cases h
  · have hp := inr_f.1 hp
    have e := hI.rd p rfl
    have : (S.calloc i k n).gone p = S.gone p := by
      rw [Bool.eq_iff_iff, gone_iff, gone_iff]
      constructor
      · rintro (h | ⟨j, hj, h⟩)
        · exact .inl h
        · refine .inr ⟨j, hj, ?_⟩
          by_cases e : j = i
          · subst e; rw [e1, alloc_ownR hkn] at h; exact h.1
          · rw [e2 j e] at h; exact h
      · rintro (h | ⟨j, hj, h⟩)
        · exact .inl h
        · refine .inr ⟨j, hj, ?_⟩
          by_cases e : j = i
          · subst e; rw [e1, alloc_ownR hkn]; exact ⟨h, hp⟩
          · rw [e2 j e]; exact h
    rw [this]; exact e
theorem HInv.talloc (hI : HInv S no) (hk : HOk S) {page n : Int} (hr : rowB S.T.fr page n) : HInv (S.talloc page n) (inr page n) := by
  have hfr : ∀ p, (S.T.take page n).fr p = true ↔ S.T.fr p = true /\ ¬ (page <= p /\ p < page + n) := fun p => take_fr
  have hrl : ∀ p, (S.T.take page n).rl p = true ↔ S.T.rl p = true /\ ¬ (page <= p /\ p < page + n) := fun p => take_rl
  refine ⟨fun j hj p hp => ?_, hI.cd, fun p hp => ?_, fun p hp => ?_, hI.o0, fun p hp => ?_, fun p hp => ?_, hI.ks, hI.la, fun p hp => ?_, hI.sp, hI.sf, hI.fb, hI.pg, hI.h0, hI.h1⟩
  · obtain ⟨g1, g2, g3, g4⟩ := hI.cr j hj p hp
    exact ⟨g1, not_tf fun h => (tf_not g2) ((hfr p).1 h).1, g3, inr_f.2 fun h => (tf_not g2) (hr p h.1 h.2)⟩
  · obtain ⟨h1, h2⟩ := (hfr p).1 hp
    exact ⟨(hI.fn p h1).1, inr_f.2 h2⟩
  · obtain ⟨g1, g2, g3, g4⟩ := hI.ow p hp
    exact ⟨g1, not_tf fun h => (tf_not g2) ((hfr p).1 h).1, inr_f.2 fun h => (tf_not g2) (hr p h.1 h.2), g4⟩
  · have h := inr_iff.1 hp
    exact hk.tv.fi p (hr p h.1 h.2)
  · rcases hI.cv p hp with h | h | h | h
    · by_cases g : page <= p /\ p < page + n
      · exact .inr (.inr (.inr (inr_iff.2 g)))
      · exact .inl ((hfr p).2 ⟨h, g⟩)
    · exact .inr (.inl h)
    · exact .inr (.inr (.inl h))
    · cases h
  · have hp := inr_f.1 hp
    have e := hI.rd p rfl
    have : (S.talloc page n).gone p = S.gone p := by
      rw [Bool.eq_iff_iff, gone_iff, gone_iff]
      constructor
      · rintro (h | h)
        · exact .inl ((hrl p).1 h).1
        · exact .inr h
      · rintro (h | h)
        · exact .inl ((hrl p).2 ⟨h, hp⟩)
        · exact .inr h
    rw [this]; exact e
theorem HInv.memV (hI : HInv S fl) {V : VS} (h1 : V.laid = S.V.laid) (h2 : V.ready = S.V.ready) : HInv { S with V := V } fl :=
  ⟨hI.cr, hI.cd, hI.fn, hI.ow, hI.o0, hI.li, hI.cv, hI.ks, fun p => by rw [<- hI.la, <- h1], fun p hp => (show _ = _ from congrArg (fun l => Go.Sh.mem l p) h2) ▸ hI.rd p hp, hI.sp, hI.sf, hI.fb, hI.pg, hI.h0, hI.h1⟩
theorem HInv.commit (hI : HInv S fl) (hk : HOk S) {page n : Int} (h0 : 0 <= page) (hn : 0 < n) (hb : page + n <= 34359738368) (hfl : ∀ p, page <= p -> p < page + n -> fl p = true) : HInv { S with V := commitV S.V page n } fl := by
  have ma : ∀ p, Go.Sh.mem (addL S.V.ready page (page + n)) p ↔ Go.Sh.mem S.V.ready p ∨ (page <= p /\ p < page + n) := fun p => mem_addL hk.vv.ok2 (by omega) h0 (by omega) p
  refine ⟨hI.cr, hI.cd, hI.fn, hI.ow, hI.o0, hI.li, hI.cv, hI.ks, hI.la, fun p hp => ?_, hI.sp, hI.sf, hI.fb, hI.pg, hI.h0, hI.h1⟩
  refine Iff.trans (ma p) ?_
  refine Iff.trans ⟨fun h => h.elim (fun h => h) fun h => ?_, fun h => .inl h⟩ (hI.rd p hp)
  have := hfl p h.1 h.2
  rw [hp] at this; cases this
theorem commit_ready (hk : HOk S) {page n : Int} (h0 : 0 <= page) (hn : 0 < n) (hb : page + n <= 34359738368) : ∀ p, page <= p -> p < page + n -> mem (commitV S.V page n).ready p := fun p h1 h2 =>
  (mem_addL hk.vv.ok2 (by omega) h0 (by omega) p).2 (.inr ⟨h1, h2⟩)
def HS.grown (S : HS) (V : VS) (at_ N : Int) : HS := { S with V := V, T := S.T.grow (at_ / 512) (N / 512), ks := addL S.ks (at_ / 512) ((at_ + N) / 512), hint := at_ + N }
theorem HInv.grown (hI : HInv S no) (hk : HOk S) {V : VS} {at_ N : Int} (h0 : 0 <= at_) (hn : 0 < N) (hb : at_ + N <= 34359738368) (m1 : at_ % 512 = 0) (m2 : N % 512 = 0) (hfree : ∀ p, at_ <= p -> p < at_ + N -> S.T.inn p = false)
    (hl : V.laid = addL S.V.laid at_ (at_ + N)) (hr : V.ready = S.V.ready) : HInv (S.grown V at_ N) no := by
  have ma : ∀ p, Go.Sh.mem (addL S.V.laid at_ (at_ + N)) p ↔ Go.Sh.mem S.V.laid p ∨ (at_ <= p /\ p < at_ + N) := fun p => mem_addL hk.vv.ok1 (by omega) h0 (by omega) p
  have mk : ∀ p, Go.Sh.mem (addL S.ks (at_ / 512) ((at_ + N) / 512)) p ↔ Go.Sh.mem S.ks p ∨ (at_ / 512 <= p /\ p < (at_ + N) / 512) := fun p => mem_addL hk.ok (by omega) (by omega) (by omega) p
  have e : ∀ p, inr (at_ / 512 * 512) (N / 512 * 512) p = true ↔ at_ <= p /\ p < at_ + N := fun p => by rw [inr_iff]; omega
  have hin : ∀ p, (S.grown V at_ N).T.inn p = true ↔ S.T.inn p = true ∨ (at_ <= p /\ p < at_ + N) := fun p => by
    show (S.T.inn p || inr (at_ / 512 * 512) (N / 512 * 512) p) = true ↔ _
    rw [Bool.or_eq_true, e]
  have hfr : ∀ p, (S.grown V at_ N).T.fr p = true ↔ S.T.fr p = true ∨ (at_ <= p /\ p < at_ + N) := fun p => by
    show (S.T.fr p || inr (at_ / 512 * 512) (N / 512 * 512) p) = true ↔ _
    rw [Bool.or_eq_true, e]
  have hrl : ∀ p, (S.grown V at_ N).T.rl p = true ↔ S.T.rl p = true ∨ (at_ <= p /\ p < at_ + N) := fun p => by
    show (S.T.rl p || inr (at_ / 512 * 512) (N / 512 * 512) p) = true ↔ _
    rw [Bool.or_eq_true, e]
  have hno : ∀ p, S.T.inn p = true -> ¬ (at_ <= p /\ p < at_ + N) := fun p h g => by rw [hfree p g.1 g.2] at h; cases h
  refine ⟨fun j hj p hp => ?_, hI.cd, fun p hp => ?_, fun p hp => ?_, hI.o0, fun p hp => (by cases hp), fun p hp => ?_, fun p => ?_, fun p => ?_, fun p hp => ?_, hI.sp, hI.sf, hI.fb, hI.pg, by show 0 <= at_ + N; omega, hb⟩
  · obtain ⟨g1, g2, g3, g4⟩ := hI.cr j hj p hp
    exact ⟨(hin p).2 (.inl g1), not_tf fun h => ((hfr p).1 h).elim (tf_not g2) (hno p g1), g3, g4⟩
  · rcases (hfr p).1 hp with h | h
    · exact hI.fn p h
    · refine ⟨?_, rfl⟩
      have := hI.o0 p
      have : ¬ 0 < S.own p := fun g => hno p (hI.ow p g).1 h
      show S.own p = 0
      omega
  · obtain ⟨g1, g2, g3, g4⟩ := hI.ow p hp
    exact ⟨(hin p).2 (.inl g1), not_tf fun h => ((hfr p).1 h).elim (tf_not g2) (hno p g1), g3, g4⟩
  · rcases (hin p).1 hp with h | h
    · rcases hI.cv p h with h | h | h | h
      · exact .inl ((hfr p).2 (.inl h))
      · exact .inr (.inl h)
      · exact .inr (.inr (.inl h))
      · exact .inr (.inr (.inr h))
    · exact .inl ((hfr p).2 (.inr h))
  · rw [hin, <- hI.ks p]
    refine (mk (p / 512)).trans ?_
    have : (at_ / 512 <= p / 512 /\ p / 512 < (at_ + N) / 512) ↔ (at_ <= p /\ p < at_ + N) := by omega
    rw [this]
  · rw [hin, <- hI.la p]
    show Go.Sh.mem V.laid p ↔ _
    rw [hl]; exact ma p
  · show Go.Sh.mem V.ready p ↔ _
    rw [hr, hI.rd p rfl, hin]
    have key : (S.grown V at_ N).gone p = true ↔ S.gone p = true ∨ (at_ <= p /\ p < at_ + N) := by
      rw [gone_iff, gone_iff, hrl]
      exact ⟨fun h => h.elim (fun h => h.elim (fun h => .inl (.inl h)) .inr) fun h => .inl (.inr h), fun h => h.elim (fun h => h.elim (fun h => .inl (.inl h)) .inr) fun h => .inl (.inr h)⟩
    constructor
    · rintro ⟨h1, h2⟩
      exact ⟨.inl h1, not_tf fun h => (key.1 h).elim (tf_not h2) (hno p h1)⟩
    · rintro ⟨h1, h2⟩
      have h3 := fun h => (tf_not h2) (key.2 h)
      rcases h1 with h1 | h1
      · exact ⟨h1, not_tf fun h => h3 (.inl h)⟩
      · exact absurd (.inr h1) h3
end Go.Sh

set_option linter.all false
set_option maxRecDepth 8000
set_option maxHeartbeats 2000000
namespace Go.Sh
variable {S : HS} {fl : Int -> Bool}
theorem HInv.flOut (hI : HInv S fl) (hk : HOk S) {p : Int} (hp : fl p = true) : S.T.fr p = false /\ S.T.rl p = false /\ S.own p = 0 /\ S.gone p = false /\ S.cached p = false := by
  have h1 : S.T.fr p = false := not_tf fun h => (tf_not (hI.fn p h).2) hp
  have h2 : S.T.rl p = false := not_tf fun h => (tf_not h1) (hk.tv.rf p h)
  have h3 : S.cached p = false := not_tf fun h => by
    obtain ⟨i, hi, h⟩ := cached_iff.1 h
    exact (tf_not (hI.cr i hi p h).2.2.2) hp
  refine ⟨h1, h2, ?_, not_tf fun h => ?_, h3⟩
  · have := hI.o0 p
    have : ¬ 0 < S.own p := fun h => (tf_not (hI.ow p h).2.2.1) hp
    omega
  · rcases gone_iff.1 h with h | ⟨i, hi, h⟩
    · exact (tf_not h2) h
    · exact (tf_not h3) (cached_iff.2 ⟨i, hi, ownR_own (hk.ci i hi) h⟩)
theorem HInv.ownOut (hI : HInv S fl) (hk : HOk S) {p : Int} (hp : 0 < S.own p) : S.T.rl p = false /\ S.gone p = false /\ S.cached p = false := by
  obtain ⟨g1, g2, g3, _⟩ := hI.ow p hp
  have h2 : S.T.rl p = false := not_tf fun h => (tf_not g2) (hk.tv.rf p h)
  have h3 : S.cached p = false := not_tf fun h => by
    obtain ⟨i, hi, h⟩ := cached_iff.1 h
    have := (hI.cr i hi p h).2.2.1
    omega
  refine ⟨h2, not_tf fun h => ?_, h3⟩
  rcases gone_iff.1 h with h | ⟨i, hi, h⟩
  · exact (tf_not h2) h
  · exact (tf_not h3) (cached_iff.2 ⟨i, hi, ownR_own (hk.ci i hi) h⟩)
theorem HInv.ready (hI : HInv S fl) (hk : HOk S) {p : Int} (hp : 0 < S.own p) : mem S.V.ready p := by
  obtain ⟨g1, g2, g3, _⟩ := hI.ow p hp
  exact (hI.rd p g3).2 ⟨g1, (hI.ownOut hk hp).2.1⟩
def HS.putback (S : HS) (page n : Int) : HS := { S with T := ⟨S.T.inn, fun p => S.T.fr p || inr page n p, fun p => S.T.rl p || (inr page n p && !inL S.V.ready p)⟩ }
theorem HInv.putback {page n : Int} (hI : HInv S (inr page n)) (hk : HOk S) : HInv (S.putback page n) no := by
  have hfr : ∀ p, (S.putback page n).T.fr p = true ↔ S.T.fr p = true ∨ inr page n p = true := fun p => by
    show (S.T.fr p || inr page n p) = true ↔ _
    rw [Bool.or_eq_true]
  refine ⟨fun j hj p hp => ?_, hI.cd, fun p hp => ?_, fun p hp => ?_, hI.o0, fun p hp => (by cases hp), fun p hp => ?_, hI.ks, hI.la, fun p _ => ?_, hI.sp, hI.sf, hI.fb, hI.pg, hI.h0, hI.h1⟩
  · obtain ⟨g1, g2, g3, g4⟩ := hI.cr j hj p hp
    exact ⟨g1, not_tf fun h => ((hfr p).1 h).elim (tf_not g2) (tf_not g4), g3, rfl⟩
  · rcases (hfr p).1 hp with h | h
    · exact ⟨(hI.fn p h).1, rfl⟩
    · exact ⟨(hI.flOut hk h).2.2.1, rfl⟩
  · obtain ⟨g1, g2, g3, g4⟩ := hI.ow p hp
    exact ⟨g1, not_tf fun h => ((hfr p).1 h).elim (tf_not g2) (tf_not g3), rfl, g4⟩
  · rcases hI.cv p hp with h | h | h | h
    · exact .inl ((hfr p).2 (.inl h))
    · exact .inr (.inl h)
    · exact .inr (.inr (.inl h))
    · exact .inl ((hfr p).2 (.inr h))
  · have hg : (S.putback page n).gone p = true ↔ S.gone p = true ∨ (inr page n p = true /\ ¬ mem S.V.ready p) := by
      rw [gone_iff, gone_iff]
      show (S.T.rl p || (inr page n p && !inL S.V.ready p)) = true ∨ _ ↔ _
      rw [Bool.or_eq_true, Bool.and_eq_true, Bool.not_eq_true', <- inL_iff]
      have e : (inL S.V.ready p = false) ↔ ¬ (inL S.V.ready p = true) := by cases inL S.V.ready p <;> simp
      rw [e]
      constructor
      · rintro ((h | h) | h)
        · exact .inl (.inl h)
        · exact .inr h
        · exact .inl (.inr h)
      · rintro ((h | h) | h)
        · exact .inl (.inl h)
        · exact .inr h
        · exact .inl (.inr h)
    show mem S.V.ready p ↔ S.T.inn p = true /\ _
    cases hf : inr page n p with
    | false =>
      rw [hI.rd p hf]
      have : (S.putback page n).gone p = S.gone p := by
        rw [Bool.eq_iff_iff, hg, hf]
        exact ⟨fun h => h.elim (fun h => h) fun h => (by cases h.1), .inl⟩
      rw [this]
    | true =>
      have h2 := (hI.flOut hk hf).2.2.2.1
      rw [hf] at hg
      constructor
      · intro h
        exact ⟨hI.li p hf, not_tf fun g => (hg.1 g).elim (tf_not h2) fun g => g.2 h⟩
      · rintro ⟨_, h⟩
        exact Classical.byContradiction fun g => (tf_not h) (hg.2 (.inr ⟨rfl, g⟩))
def HS.keep (S : HS) (id : Int) (x : Nat × SI) (page n : Int) (fx : FX) : HS :=
  { S with fx := fx, sp := fun i => if i = id then some x else S.sp i, own := fun p => if page <= p /\ p < page + n then id else S.own p, pages := S.pages + n }
def Next (S : HS) (id : Int) (fx : FX) : Prop := (S.fx.bk = [] /\ id = (S.fx.n : Int) + 1 /\ fx = ⟨S.fx.n + 1, []⟩) ∨ ∃ a r, S.fx.bk = a :: r /\ id = (a : Int) + 1 /\ fx = ⟨S.fx.n, r⟩
theorem HInv.many (hI : HInv S fl) (hk : HOk S) (hb : S.fx.bk = []) : ∀ k : Nat, k <= S.fx.n -> (k : Int) <= cP fun p => decide (0 < S.own p /\ S.own p <= k)
  | 0, _ => (cP_bnd _).1
  | k + 1, hkn => by
    have ih := hI.many hk hb k (by omega)
    have hl : S.sp ((k : Int) + 1) ≠ none := (hI.sf _).2 ⟨k, rfl, by omega, by rw [hb]; exact fun h => (by cases h)⟩
    obtain ⟨x, hx⟩ : ∃ x, S.sp ((k : Int) + 1) = some x := by
      cases h : S.sp ((k : Int) + 1) with
      | none => exact absurd h hl
      | some x => exact ⟨x, rfl⟩
    obtain ⟨h1, h2, h3, h4, h5⟩ := hI.sp _ x hx
    have ho := h5 (x.2.base / 8192) (by omega) (by omega)
    have e : cP (fun p => decide (0 < S.own p /\ S.own p <= ((k + 1 : Nat) : Int))) = cP (fun p => decide (0 < S.own p /\ S.own p <= (k : Int))) + cP (fun p => decide (S.own p = (k : Int) + 1)) := by
      refine cP_or (fun p => ?_) fun p a b => ?_
      · rw [Bool.eq_iff_iff, Bool.or_eq_true, decide_eq_true_eq, decide_eq_true_eq, decide_eq_true_eq]; omega
      · have a := of_decide_eq_true a
        have b := of_decide_eq_true b
        omega
    obtain ⟨o1, o2, o3, o4⟩ := hI.ow (x.2.base / 8192) (by omega)
    have hl := hk.tv.lim _ o1
    have : 1 <= cP (fun p => decide (S.own p = (k : Int) + 1)) := cP_pos (p := x.2.base / 8192) (decide_eq_true ho) hl.1 hl.2
    rw [e]; omega
theorem Next.live {id : Int} {X : FX} (h : Next S id X) (hk : HOk S) (hI : HInv S fl) : 0 < id /\ S.sp id = none /\ ∀ j : Int, (∃ a : Nat, j = (a : Int) + 1 /\ a < X.n /\ a ∉ X.bk) ↔ j = id ∨ S.sp j ≠ none := by
  rcases h with ⟨h1, rfl, rfl⟩ | ⟨a, r, h1, rfl, rfl⟩
  · refine ⟨by omega, Classical.byContradiction fun g => ?_, fun j => ?_⟩
    · obtain ⟨a, e, h2, _⟩ := (hI.sf _).1 g
      omega
    · rw [hI.sf]
      constructor
      · rintro ⟨a, e, h2, h3⟩
        have h2 : a < S.fx.n + 1 := h2
        by_cases g : a = S.fx.n
        · subst g; exact .inl e
        · exact .inr ⟨a, e, by omega, by rw [h1]; exact h3⟩
      · rintro (e | ⟨a, e, h2, h3⟩)
        · exact ⟨S.fx.n, e, Nat.lt_succ_self _, fun h => by cases h⟩
        · exact ⟨a, e, Nat.lt_succ_of_lt h2, fun h => by cases h⟩
  · have hnd := hk.fx.nd
    have hlt := hk.fx.lt
    rw [h1] at hnd hlt
    refine ⟨by omega, Classical.byContradiction fun g => ?_, fun j => ?_⟩
    · obtain ⟨b, e, h2, h3⟩ := (hI.sf _).1 g
      have : b = a := by omega
      subst this
      rw [h1] at h3
      exact h3 List.mem_cons_self
    · rw [hI.sf]
      constructor
      · rintro ⟨b, e, h2, h3⟩
        by_cases g : b = a
        · subst g; exact .inl e
        · exact .inr ⟨b, e, h2, by rw [h1]; exact fun h => (List.mem_cons.1 h).elim g h3⟩
      · rintro (e | ⟨b, e, h2, h3⟩)
        · exact ⟨a, e, hlt a List.mem_cons_self, (List.nodup_cons.1 hnd).1⟩
        · rw [h1] at h3
          exact ⟨b, e, h2, fun h => h3 (List.mem_cons_of_mem _ h)⟩
theorem own_pages {S : HS} (f : Int -> Int) {id page n : Int} (hid : 0 < id) (h0 : 0 <= page) (hn : 0 <= n) (hb : page + n <= 34359738368) (hz : ∀ p, page <= p -> p < page + n -> ¬ 0 < f p) :
    cP (fun p => decide (0 < if page <= p /\ p < page + n then id else f p)) = cP (fun p => decide (0 < f p)) + n := by
  rw [show cP (fun p => decide (0 < f p)) + n = cP (fun p => decide (0 < f p)) + cP (inr page n) by rw [cP_row h0 hn hb]]
  refine cP_or (fun p => ?_) fun p a b => ?_
  · rw [Bool.eq_iff_iff, Bool.or_eq_true, decide_eq_true_eq, decide_eq_true_eq, inr_iff]
    by_cases g : page <= p /\ p < page + n
    · rw [if_pos g]; exact ⟨fun _ => .inr g, fun _ => hid⟩
    · rw [if_neg g]; exact ⟨.inl, fun h => h.elim (fun h => h) fun h => absurd h g⟩
  · have b := inr_iff.1 b
    exact hz p b.1 b.2 (of_decide_eq_true a)
theorem HInv.keep {page n : Int} (hI : HInv S (inr page n)) (hk : HOk S) (h0 : 0 <= page) (hn : 0 < n) (hb : page + n <= 34359738368) (hr : ∀ p, page <= p -> p < page + n -> mem S.V.ready p)
    {id : Int} {X : FX} (hX : Next S id X) {x : Nat × SI} (x1 : x.2.base = page * 8192) (x2 : x.2.pages = n) (x3 : x.2.state ≠ 0) : HInv (S.keep id x page n X) no := by
  obtain ⟨hid, hnone, hlive⟩ := hX.live hk hI
  have hout : ∀ p, page <= p -> p < page + n -> inr page n p = true := fun p a b => inr_iff.2 ⟨a, b⟩
  have hownS : ∀ p, S.own p = id -> False := fun p e => by
    obtain ⟨_, _, _, y, hy, _⟩ := hI.ow p (by omega)
    rw [e, hnone] at hy; cases hy
  have ho : ∀ p, (S.keep id x page n X).own p = if page <= p /\ p < page + n then id else S.own p := fun p => rfl
  have hs : ∀ i, (S.keep id x page n X).sp i = if i = id then some x else S.sp i := fun p => rfl
  refine ⟨fun j hj p hp => ?_, hI.cd, fun p hp => ?_, fun p hp => ?_, fun p => ?_, fun p hp => (by cases hp), fun p hp => ?_, hI.ks, hI.la, fun p _ => ?_, fun i y hy => ?_, fun i => ?_, ?_, ?_, hI.h0, hI.h1⟩
  · obtain ⟨g1, g2, g3, g4⟩ := hI.cr j hj p hp
    refine ⟨g1, g2, ?_, rfl⟩
    rw [ho, if_neg (inr_f.1 g4)]; exact g3
  · obtain ⟨g1, g2⟩ := hI.fn p hp
    refine ⟨?_, rfl⟩
    rw [ho, if_neg (inr_f.1 g2)]; exact g1
  · rw [ho] at hp ⊢
    by_cases g : page <= p /\ p < page + n
    · rw [if_pos g] at hp ⊢
      have hf := hout p g.1 g.2
      refine ⟨hI.li p hf, (hI.flOut hk hf).1, rfl, x, ?_, by omega, by omega⟩
      rw [hs, if_pos rfl]
    · rw [if_neg g] at hp ⊢
      obtain ⟨g1, g2, g3, y, g4, g5⟩ := hI.ow p hp
      refine ⟨g1, g2, rfl, y, ?_, g5⟩
      rw [hs, if_neg fun e => hownS p e]; exact g4
  · rw [ho]
    have := hI.o0 p
    split <;> omega
  · rcases hI.cv p hp with h | h | h | h
    · exact .inl h
    · exact .inr (.inl h)
    · refine .inr (.inr (.inl ?_))
      rw [ho]; split <;> omega
    · refine .inr (.inr (.inl ?_))
      rw [ho, if_pos (inr_iff.1 h)]; exact hid
  · cases hf : inr page n p with
    | false => exact hI.rd p hf
    | true =>
      have hf2 := inr_iff.1 hf
      exact ⟨fun _ => ⟨hI.li p hf, (hI.flOut hk hf).2.2.2.1⟩, fun _ => hr p hf2.1 hf2.2⟩
  · rw [hs] at hy
    by_cases g : i = id
    · rw [if_pos g] at hy; cases hy
      subst g
      refine ⟨hid, by omega, by omega, x3, fun p a b => ?_⟩
      rw [ho, if_pos (by omega)]
    · rw [if_neg g] at hy
      obtain ⟨k1, k2, k3, k4, k5⟩ := hI.sp i y hy
      refine ⟨k1, k2, k3, k4, fun p a b => ?_⟩
      have h5 := k5 p a b
      rw [ho, if_neg fun h => ?_]
      · exact h5
      · have := (hI.flOut hk (hout p h.1 h.2)).2.2.1
        omega
  · rw [hs]
    rw [show (S.keep id x page n X).fx = X from rfl, hlive i]
    by_cases g : i = id
    · rw [if_pos g]; exact ⟨fun _ => .inl g, fun _ h => by cases h⟩
    · rw [if_neg g]; exact ⟨.inr, fun h => h.elim (fun h => absurd h g) fun h => h⟩
  · show X.n <= 34359738368
    rcases hX with ⟨h1, rfl, rfl⟩ | ⟨a, r, h1, rfl, rfl⟩
    · have h2 := hI.many hk h1 S.fx.n (Nat.le_refl _)
      have h3 : cP (fun p => decide (0 < S.own p /\ S.own p <= (S.fx.n : Int)) || inr page n p) = cP (fun p => decide (0 < S.own p /\ S.own p <= (S.fx.n : Int))) + cP (inr page n) := cP_or (fun p => rfl) fun p a b => by
        have a := of_decide_eq_true a
        have := (hI.flOut hk b).2.2.1
        omega
      rw [cP_row h0 (by omega) hb] at h3
      have := (cP_bnd fun p => decide (0 < S.own p /\ S.own p <= (S.fx.n : Int)) || inr page n p).2
      show S.fx.n + 1 <= _
      omega
    · exact hI.fb
  · show S.pages + n = cP fun p => decide (0 < if page <= p /\ p < page + n then id else S.own p)
    rw [own_pages (S := S) S.own hid h0 (by omega) hb fun p a b => by have := (hI.flOut hk (hout p a b)).2.2.1; omega, <- hI.pg]
def HS.free (S : HS) (a : Nat) (page n : Int) : HS :=
  { S with T := S.T.give page n, fx := ⟨S.fx.n, a :: S.fx.bk⟩, sp := fun i => if i = (a : Int) + 1 then none else S.sp i, own := fun p => if page <= p /\ p < page + n then 0 else S.own p, pages := S.pages - n }
theorem HInv.free (hI : HInv S no) (hk : HOk S) {a : Nat} {x : Nat × SI} (hx : S.sp ((a : Int) + 1) = some x) : HInv (S.free a (x.2.base / 8192) x.2.pages) no := by
  obtain ⟨k1, k2, k3, k4, k5⟩ := hI.sp _ x hx
  generalize hpg : x.2.base / 8192 = page at *
  generalize hn : x.2.pages = n at *
  have hin : ∀ p, page <= p -> p < page + n -> 0 < S.own p := fun p h1 h2 => by rw [k5 p h1 h2]; exact k1
  have hiff : ∀ p, S.own p = (a : Int) + 1 ↔ page <= p /\ p < page + n := fun p => by
    refine ⟨fun e => ?_, fun h => k5 p h.1 h.2⟩
    obtain ⟨_, _, _, y, h1, h2, h3⟩ := hI.ow p (by omega)
    rw [e, hx] at h1; cases h1
    omega
  have ho : ∀ p, (S.free a page n).own p = if page <= p /\ p < page + n then 0 else S.own p := fun p => rfl
  have hs : ∀ i, (S.free a page n).sp i = if i = (a : Int) + 1 then none else S.sp i := fun p => rfl
  have hfr : ∀ p, (S.free a page n).T.fr p = true ↔ S.T.fr p = true ∨ (page <= p /\ p < page + n) := fun p => by
    show (S.T.fr p || inr page n p) = true ↔ _
    rw [Bool.or_eq_true, inr_iff]
  have hl0 := hk.tv.lim _ (hI.ow page (hin page (by omega) (by omega))).1
  have hl1 := hk.tv.lim _ (hI.ow (page + n - 1) (hin _ (by omega) (by omega))).1
  refine ⟨fun j hj p hp => ?_, hI.cd, fun p hp => ?_, fun p hp => ?_, fun p => ?_, fun p hp => (by cases hp), fun p hp => ?_, hI.ks, hI.la, hI.rd, fun i y hy => ?_, fun i => ?_, hI.fb, ?_, hI.h0, hI.h1⟩
  · obtain ⟨g1, g2, g3, g4⟩ := hI.cr j hj p hp
    refine ⟨g1, not_tf fun h => ((hfr p).1 h).elim (tf_not g2) fun h => ?_, ?_, rfl⟩
    · have := hin p h.1 h.2; omega
    · rw [ho]; split
      · rfl
      · exact g3
  · refine ⟨?_, rfl⟩
    rw [ho]
    rcases (hfr p).1 hp with h | h
    · split
      · rfl
      · exact (hI.fn p h).1
    · rw [if_pos h]
  · rw [ho] at hp ⊢
    by_cases g : page <= p /\ p < page + n
    · rw [if_pos g] at hp; omega
    · rw [if_neg g] at hp ⊢
      obtain ⟨g1, g2, g3, y, g4, g5⟩ := hI.ow p hp
      refine ⟨g1, not_tf fun h => ((hfr p).1 h).elim (tf_not g2) g, rfl, y, ?_, g5⟩
      rw [hs, if_neg fun e => g ((hiff p).1 e)]; exact g4
  · rw [ho]; split
    · exact Int.le_refl 0
    · exact hI.o0 p
  · by_cases g : page <= p /\ p < page + n
    · exact .inl ((hfr p).2 (.inr g))
    · rcases hI.cv p hp with h | h | h | h
      · exact .inl ((hfr p).2 (.inl h))
      · exact .inr (.inl h)
      · refine .inr (.inr (.inl ?_))
        rw [ho, if_neg g]; exact h
      · exact .inr (.inr (.inr h))
  · rw [hs] at hy
    by_cases g : i = (a : Int) + 1
    · rw [if_pos g] at hy; cases hy
    · rw [if_neg g] at hy
      obtain ⟨q1, q2, q3, q4, q5⟩ := hI.sp i y hy
      refine ⟨q1, q2, q3, q4, fun p h1 h2 => ?_⟩
      have h5 := q5 p h1 h2
      rw [ho, if_neg fun h => ?_]
      · exact h5
      · have := k5 p h.1 h.2
        omega
  · rw [hs]
    have := hI.sf i
    show _ ↔ ∃ b : Nat, i = (b : Int) + 1 /\ b < S.fx.n /\ b ∉ a :: S.fx.bk
    by_cases g : i = (a : Int) + 1
    · rw [if_pos g]
      refine ⟨fun h => absurd rfl h, fun ⟨b, e, _, h⟩ => absurd ?_ h⟩
      rw [show b = a by omega]; exact List.mem_cons_self
    · rw [if_neg g, this]
      constructor
      · rintro ⟨b, e, h1, h2⟩
        exact ⟨b, e, h1, fun h => (List.mem_cons.1 h).elim (fun h => g (by omega)) h2⟩
      · rintro ⟨b, e, h1, h2⟩
        exact ⟨b, e, h1, fun h => h2 (List.mem_cons_of_mem _ h)⟩
  · show S.pages - n = cP fun p => decide (0 < if page <= p /\ p < page + n then 0 else S.own p)
    have e := own_pages (S := S) (fun p => if page <= p /\ p < page + n then 0 else S.own p) (id := (a : Int) + 1) k1 hl0.1 (by omega) (by omega) (page := page) (n := n) fun p h1 h2 => by
      show ¬ 0 < if page <= p /\ p < page + n then (0 : Int) else S.own p
      rw [if_pos ⟨h1, h2⟩]; omega
    have e2 : cP (fun p => decide (0 < if page <= p /\ p < page + n then (a : Int) + 1 else if page <= p /\ p < page + n then 0 else S.own p)) = cP fun p => decide (0 < S.own p) := cP_congr fun p _ _ => by
      by_cases g : page <= p /\ p < page + n
      · rw [if_pos g, k5 p g.1 g.2]
      · rw [if_neg g, if_neg g]
    rw [e2] at e
    have := hI.pg
    omega
def HS.flush (S : HS) (i : Nat) : HS := { S with T := S.T.flush (S.ca i), ca := fun j => if j = i then CS.nil else S.ca j }
theorem HInv.flush (hI : HInv S no) (hk : HOk S) {i : Nat} (hi : i < 64) : HInv (S.flush i) no := by
  have e1 : (S.flush i).ca i = CS.nil := if_pos rfl
  have e2 : ∀ j, j ≠ i -> (S.flush i).ca j = S.ca j := fun j h => if_neg h
  have hsub : ∀ j p, ((S.flush i).ca j).own p = true -> j ≠ i /\ (S.ca j).own p = true := fun j p h => by
    by_cases e : j = i
    · rw [e, e1, own_nil] at h; cases h
    · rw [e2 j e] at h; exact ⟨e, h⟩
  have hfr : ∀ p, (S.flush i).T.fr p = true ↔ S.T.fr p = true ∨ (S.ca i).own p = true := fun p => by
    show (S.T.fr p || (S.ca i).own p) = true ↔ _
    rw [Bool.or_eq_true]
  have hrl : ∀ p, (S.flush i).T.rl p = true ↔ S.T.rl p = true ∨ (S.ca i).ownR p = true := fun p => by
    show (S.T.rl p || (S.ca i).ownR p) = true ↔ _
    rw [Bool.or_eq_true]
  refine ⟨fun j hj p hp => ?_, fun a b p ha hb h1 h2 => hI.cd a b p ha hb (hsub a p h1).2 (hsub b p h2).2, fun p hp => ?_, fun p hp => ?_, hI.o0, fun p hp => (by cases hp), fun p hp => ?_, hI.ks, hI.la, fun p _ => ?_, hI.sp, hI.sf, hI.fb, hI.pg, hI.h0, hI.h1⟩
  · obtain ⟨h1, h2⟩ := hsub j p hp
    obtain ⟨g1, g2, g3, g4⟩ := hI.cr j hj p h2
    exact ⟨g1, not_tf fun h => ((hfr p).1 h).elim (tf_not g2) fun h => h1 (hI.cd j i p hj hi h2 h), g3, g4⟩
  · rcases (hfr p).1 hp with h | h
    · exact hI.fn p h
    · exact ⟨(hI.cr i hi p h).2.2.1, rfl⟩
  · obtain ⟨g1, g2, g3, g4⟩ := hI.ow p hp
    have hp : 0 < S.own p := hp
    exact ⟨g1, not_tf fun h => ((hfr p).1 h).elim (tf_not g2) fun h => by have := (hI.cr i hi p h).2.2.1; omega, g3, g4⟩
  · rcases hI.cv p hp with h | h | h | h
    · exact .inl ((hfr p).2 (.inl h))
    · obtain ⟨j, hj, h⟩ := cached_iff.1 h
      by_cases e : j = i
      · subst e; exact .inl ((hfr p).2 (.inr h))
      · refine .inr (.inl (cached_iff.2 ⟨j, hj, ?_⟩))
        rw [e2 j e]; exact h
    · exact .inr (.inr (.inl h))
    · exact .inr (.inr (.inr h))
  · have e0 := hI.rd p rfl
    have : (S.flush i).gone p = S.gone p := by
      rw [Bool.eq_iff_iff, gone_iff, gone_iff, hrl]
      constructor
      · rintro ((h | h) | ⟨j, hj, h⟩)
        · exact .inl h
        · exact .inr ⟨i, hi, h⟩
        · by_cases e : j = i
          · rw [e, e1, ownR_nil] at h; cases h
          · rw [e2 j e] at h; exact .inr ⟨j, hj, h⟩
      · rintro (h | ⟨j, hj, h⟩)
        · exact .inl (.inl h)
        · by_cases e : j = i
          · subst e; exact .inl (.inr h)
          · refine .inr ⟨j, hj, ?_⟩
            rw [e2 j e]; exact h
    rw [this]; exact e0
def HS.scav (S : HS) (p k : Int) : HS := { S with T := S.T.scav p k, V := releaseV S.V p k }
theorem HInv.idle (hI : HInv S no) (hk : HOk S) {p : Int} (hp : S.T.idle p = true) : S.T.fr p = true /\ S.T.rl p = false /\ mem S.V.ready p /\ S.own p = 0 /\ S.cached p = false := by
  have hp : (S.T.fr p && !S.T.rl p) = true := hp
  rw [Bool.and_eq_true, Bool.not_eq_true'] at hp
  have hc : S.cached p = false := not_tf fun h => by
    obtain ⟨i, hi, h⟩ := cached_iff.1 h
    exact (tf_not (hI.cr i hi p h).2.1) hp.1
  refine ⟨hp.1, hp.2, (hI.rd p rfl).2 ⟨hk.tv.fi p hp.1, not_tf fun h => ?_⟩, (hI.fn p hp.1).1, hc⟩
  rcases gone_iff.1 h with h | ⟨i, hi, h⟩
  · exact (tf_not hp.2) h
  · exact (tf_not hc) (cached_iff.2 ⟨i, hi, ownR_own (hk.ci i hi) h⟩)
theorem HInv.scav (hI : HInv S no) (hk : HOk S) {x k : Int} (hn : 0 < k) (hr : rowB S.T.idle x k) : HInv (S.scav x k) no := by
  have hrl : ∀ p, (S.scav x k).T.rl p = true ↔ S.T.rl p = true ∨ (x <= p /\ p < x + k) := fun p => by
    show (S.T.rl p || inr x k p) = true ↔ _
    rw [Bool.or_eq_true, inr_iff]
  refine ⟨hI.cr, hI.cd, hI.fn, hI.ow, hI.o0, hI.li, hI.cv, hI.ks, hI.la, fun p _ => ?_, hI.sp, hI.sf, hI.fb, hI.pg, hI.h0, hI.h1⟩
  have e0 := hI.rd p rfl
  have hg : (S.scav x k).gone p = true ↔ S.gone p = true ∨ (x <= p /\ p < x + k) := by
    rw [gone_iff, gone_iff, hrl]
    exact ⟨fun h => h.elim (fun h => h.elim (fun h => .inl (.inl h)) .inr) fun h => .inl (.inr h), fun h => h.elim (fun h => h.elim (fun h => .inl (.inl h)) .inr) fun h => .inl (.inr h)⟩
  refine (mem_cutL (by omega) : mem (cutL S.V.ready x (x + k)) p ↔ _).trans ?_
  rw [e0]
  constructor
  · rintro ⟨⟨h1, h2⟩, h3⟩
    exact ⟨h1, not_tf fun h => (hg.1 h).elim (tf_not h2) h3⟩
  · rintro ⟨h1, h2⟩
    have h3 := fun h => (tf_not h2) (hg.2 h)
    exact ⟨⟨h1, not_tf fun h => h3 (.inl h)⟩, fun h => h3 (.inr h)⟩
theorem HInv.counts (hI : HInv S no) (hk : HOk S) : cP S.T.inn = tot S.ks * 512 /\ cP S.T.inn = tot S.V.ready + cP S.gone /\ S.pages <= tot S.V.ready := by
  have hlim : ∀ p, S.T.inn p = true -> p < 34359738368 := fun p h => (hk.tv.lim p h).2
  have hgi : ∀ p, S.gone p = true -> S.T.inn p = true := fun p h => by
    rcases gone_iff.1 h with h | ⟨i, hi, h⟩
    · exact hk.tv.fi p (hk.tv.rf p h)
    · exact (hI.cr i hi p (ownR_own (hk.ci i hi) h)).1
  have er : cP (inL S.V.ready) = tot S.V.ready := cP_iv hk.vv.ok2 (fun p => inL_iff.symm) fun p h => by
    have := hk.vv.lim p (hk.vv.rl p (inL_iff.1 h)); omega
  refine ⟨cP_arenas hk.ok hI.ks hlim, ?_, ?_⟩
  · rw [<- er]
    refine cP_or (fun p => ?_) fun p a b => ?_
    · rw [Bool.eq_iff_iff, Bool.or_eq_true, inL_iff, hI.rd p rfl]
      constructor
      · intro h
        cases g : S.gone p with
        | false => exact .inl ⟨h, rfl⟩
        | true => exact .inr rfl
      · rintro (h | h)
        · exact h.1
        · exact hgi p h
    · rw [inL_iff, hI.rd p rfl] at a
      exact (tf_not a.2) b
  · rw [<- er, hI.pg]
    exact cP_mono fun p h => inL_iff.2 (hI.ready hk (of_decide_eq_true h))
end Go.Sh

set_option linter.all false
set_option maxRecDepth 8000
set_option maxHeartbeats 2000000
namespace Go.Sh
theorem Sat.rest {Ps Z : List Pr} {w : World} (H : Sat (Ps ++ Z) w) : Sat Z w := by
  induction Ps with
  | nil => exact H
  | cons P Ps ih => exact ih H.tail
section
variable {E : Env} {h : Nat} {S : HS} {Z : List Pr} {w : World} {g : HG}
theorem HIds.same {S' : HS} (hI : HIds S g) (e : S'.sp = S.sp) : HIds S' g := ⟨hI.nd, fun id => by rw [hI.mem, e]⟩
theorem Sat.cacheTree (H : Sat (hres E h S g ++ Z) w) {i : Nat} (hi : i < 64) : ∃ R, (∀ {w'}, Sat R w' -> Sat Z w') /\ Sat (CacheP E (g.cb i) (S.ca i) :: TreeV E g.t S.T :: R) w /\
    ∀ {w' c' T'}, Sat (CacheP E (g.cb i) c' :: TreeV E g.t T' :: R) w' -> Sat (hres E h { S with T := T', ca := fun j => if j = i then c' else S.ca j } g ++ Z) w' := by
  have hg : (List.range 64)[i]? = some i := List.getElem?_range hi
  have h1 := (H.front 7 rfl).manyGet hg
  have h2 := h1.front2 3 rfl
  refine ⟨_, fun {w'} q => ?_, h2, fun {w' c' T'} h' => ?_⟩
  · exact Sat.rest (Ps := [Many (fun i : Nat => CacheP E (g.cb i) (S.ca i)) ((List.range 64).eraseIdx i), Cells h E.t_mheap_Heap (hcells g S.hint S.pages), VmemP E g.m S.V, ArenaP E g.a S.ks S.own, FixP E g.f S.fx, MapF g.sm .i64 (spMap S.sp), Many (spR E S.sp) g.ids]) q
  have b1 := Sat.back2 (P0 := CacheP E (g.cb i) c') (Ps := Many (fun i : Nat => CacheP E (g.cb i) (S.ca i)) ((List.range 64).eraseIdx i) :: ((hres E h S g ++ Z).eraseIdx 7)) 3 h' (by simp [hres])
  have b2 : Sat (CacheP E (g.cb i) c' :: Many (fun i : Nat => CacheP E (g.cb i) (S.ca i)) ((List.range 64).eraseIdx i) :: ((hres E h { S with T := T', ca := fun j => if j = i then c' else S.ca j } g ++ Z).eraseIdx 7)) w' := b1
  have e : Many (fun i : Nat => CacheP E (g.cb i) (S.ca i)) ((List.range 64).eraseIdx i) = Many (fun j : Nat => CacheP E (g.cb j) (if j = i then c' else S.ca j)) ((List.range 64).eraseIdx i) :=
    Many.congr fun x hx => by rw [if_neg (erase_ne hi hx)]
  rw [e, show CacheP E (g.cb i) c' = (fun j : Nat => CacheP E (g.cb j) (if j = i then c' else S.ca j)) i by show _ = CacheP E (g.cb i) (if i = i then c' else S.ca i); rw [if_pos rfl]] at b2
  exact Sat.back (Ps := hres E h { S with T := T', ca := fun j => if j = i then c' else S.ca j } g ++ Z) 7 (Sat.manyBack b2 hg) (by simp [hres])
theorem ca_same {ca : Nat -> CS} {i : Nat} : (fun j => if j = i then ca i else ca j) = ca := funext fun j => by
  by_cases e : j = i
  · rw [if_pos e, e]
  · rw [if_neg e]
theorem Sat.theTree (H : Sat (hres E h S g ++ Z) w) : ∃ R, (∀ {w'}, Sat R w' -> Sat Z w') /\ Sat (TreeV E g.t S.T :: R) w /\ ∀ {w' T'}, Sat (TreeV E g.t T' :: R) w' -> Sat (hres E h { S with T := T' } g ++ Z) w' :=
  ⟨_, fun {w'} q => Sat.rest (Ps := [Cells h E.t_mheap_Heap (hcells g S.hint S.pages), VmemP E g.m S.V, ArenaP E g.a S.ks S.own, FixP E g.f S.fx, MapF g.sm .i64 (spMap S.sp), Many (spR E S.sp) g.ids, Many (fun i : Nat => CacheP E (g.cb i) (S.ca i)) (List.range 64)]) q,
    H.front 2 rfl, fun {w' T'} h' => Sat.back (Ps := hres E h S g ++ Z) 2 h' (by simp [hres])⟩
def HS.new (V : VS) : HS := ⟨V, TV.nil, fun _ => CS.nil, [], fun _ => 0, ⟨0, []⟩, fun _ => none, 0, 0⟩
theorem HInv.new {V : VS} (h1 : V.laid = []) (h2 : V.ready = []) : HInv (HS.new V) no := by
  have hn : ∀ p, ¬ mem ([] : Iv) p := mem_nil
  refine ⟨fun i hi p hp => ?_, fun a b p ha hb q1 q2 => ?_, fun p hp => (by cases hp), fun p hp => absurd hp (by show ¬ (0 : Int) < 0; decide), fun _ => Int.le_refl 0, fun p hp => (by cases hp), fun p hp => (by cases hp), fun p => ⟨fun q => absurd q (hn _), fun q => (by cases q)⟩, fun p => ?_, fun p _ => ?_, fun id x hx => (by cases hx), fun id => ⟨fun q => absurd rfl q, fun ⟨a, _, q, _⟩ => absurd q (Nat.not_lt_zero a)⟩, Nat.zero_le _, ?_, Int.le_refl 0, by show (0 : Int) <= _; decide⟩
  · have hp : CS.nil.own p = true := hp
    rw [own_nil] at hp; cases hp
  · have q1 : CS.nil.own p = true := q1
    rw [own_nil] at q1; cases q1
  · show mem V.laid p ↔ _
    rw [h1]; exact ⟨fun q => absurd q (hn _), fun q => (by cases q)⟩
  · show mem V.ready p ↔ _
    rw [h2]; exact ⟨fun q => absurd q (hn _), fun q => (by cases q.1)⟩
  · exact (cP_zero fun p => rfl).symm
theorem range_snoc (n : Nat) : List.range (n + 1) = List.range n ++ [n] := List.range_succ
theorem ptrs_cells (cb : Nat -> Nat) (k : Nat) (x y : Value) (v0 v1 v2 v3 v4 : Value) (b : Nat) (hk : k < 64) :
    (v0 :: v1 :: v2 :: v3 :: v4 :: (((List.range 64).map fun i => Value.pointer (if i < k then some ⟨cb i, 0, none⟩ else none)) ++ [x, y])).set (0 + (5 + k)) (.pointer (some ⟨b, 0, none⟩))
      = v0 :: v1 :: v2 :: v3 :: v4 :: (((List.range 64).map fun i => Value.pointer (if i < k + 1 then some ⟨if i = k then b else cb i, 0, none⟩ else none)) ++ [x, y]) := by
  rw [show 0 + (5 + k) = k + 1 + 1 + 1 + 1 + 1 by omega]
  simp only [List.set_cons_succ]
  rw [List.set_append_left _ _ (by simp; exact hk)]
  have key : ((List.range 64).map fun i => Value.pointer (if i < k then some ⟨cb i, 0, none⟩ else none)).set k (.pointer (some ⟨b, 0, none⟩)) = (List.range 64).map fun i => Value.pointer (if i < k + 1 then some ⟨if i = k then b else cb i, 0, none⟩ else none) := by
    apply List.ext_getElem?
    intro i
    rw [List.getElem?_set]
    by_cases e : k = i
    · subst e
      rw [if_pos rfl, if_pos (by simp; exact hk), List.getElem?_map, List.getElem?_range hk]
      simp
    · rw [if_neg e, List.getElem?_map, List.getElem?_map]
      by_cases g : i < 64
      · rw [List.getElem?_range g]
        simp only [Option.map_some, Option.some.injEq, Value.pointer.injEq]
        have : (i < k) ↔ (i < k + 1) := by omega
        by_cases g2 : i < k
        · rw [if_pos g2, if_pos (this.1 g2), if_neg fun q => e q.symm]
        · rw [if_neg g2, if_neg fun q => g2 (this.2 q)]
      · rw [List.getElem?_eq_none (by simp; omega)]; rfl
  rw [key]
theorem hnew_spec {m : Nat} {V : VS} (H : Sat (VmemP E m V :: Z) w) {K : Option Addr -> World -> Prop} (hK : ∀ h w', Sat (HeapP E h (HS.new V) :: Z) w' -> K (some ⟨h, 0, none⟩) w') : F.mheap_New E (some ⟨m, 0, none⟩) K w := by
  unfold F.mheap_New T0.mheap_New
  refine vnew_sat H fun w2 t H2 => anew_sat H2 fun w4 a H4 => AL_map H4 .i64 fun b5 w6 H6 _ => ?_
  refine AL_cells (vs := .pointer (some ⟨m, 0, none⟩) :: .pointer (some ⟨t, 0, none⟩) :: .pointer (some ⟨a, 0, none⟩) :: .pointer none :: .map (some b5) :: (((List.range 64).map fun i => Value.pointer none) ++ [.int .u64 0, .int .u64 0])) H6 fun b7 w8 H8 _ => ?_
  refine fnew_spec H8 fun f w11 H11 => ?_
  refine st_cell (H11.front 1 rfl) (o := 0) (m := 3) rfl (by simp) fun w12 H12 => ?_
  have H12' : Sat (Cells b7 E.t_mheap_Heap (.pointer (some ⟨m, 0, none⟩) :: .pointer (some ⟨t, 0, none⟩) :: .pointer (some ⟨a, 0, none⟩) :: .pointer (some ⟨f, 0, none⟩) :: .map (some b5) :: (((List.range 64).map fun i => Value.pointer none) ++ [.int .u64 0, .int .u64 0])) ::
      FixP E f ⟨0, []⟩ :: MapF b5 .i64 (fun _ => none) :: ArenaP E a [] (fun _ => 0) :: TreeV E t TV.nil :: VmemP E m V :: Z) w12 := H12
  clear H12
  refine LOOP_intro (fun st w' => ∃ (k : Nat) (cb : Nat -> Nat), st.1 = (k : Int) /\ k <= 64 /\ Sat (Many (fun i : Nat => CacheP E (cb i) CS.nil) (List.range k) :: Cells b7 E.t_mheap_Heap (.pointer (some ⟨m, 0, none⟩) :: .pointer (some ⟨t, 0, none⟩) :: .pointer (some ⟨a, 0, none⟩) :: .pointer (some ⟨f, 0, none⟩) :: .map (some b5) :: (((List.range 64).map fun i => Value.pointer (if i < k then some ⟨cb i, 0, none⟩ else none)) ++ [.int .u64 0, .int .u64 0])) ::
      FixP E f ⟨0, []⟩ :: MapF b5 .i64 (fun _ => none) :: ArenaP E a [] (fun _ => 0) :: TreeV E t TV.nil :: VmemP E m V :: Z) w') (fun st _ => (64 - st.1).toNat) ⟨0, fun _ => 0, rfl, by decide, ?_⟩ ?_
  · exact H12'.manyNil _
  rintro ⟨k', v⟩ _ w14 ⟨k, cb, hk, hk64, H14⟩
  dsimp only at hk ⊢
  subst hk
  refine CND_dec (fun hlt => ?_) fun hge => ?_
  · refine pnew_spec H14.drew fun w17 c H17 => ⟨⟨by omega, by omega⟩, ?_⟩
    have hk2 : k < 64 := by omega
    rw [Int.toNat_natCast, Nat.mul_one, add_add, i64_id (n := (k : Int) + 1) (by omega) (by omega)]
    refine st_cell (H17.front 2 rfl) (o := 0) (m := 5 + k) rfl (by simp; omega) fun w18 H18 => ?_
    rw [ptrs_cells cb k _ _ _ _ _ _ _ c hk2] at H18
    refine ⟨⟨k + 1, fun i => if i = k then c else cb i, by omega, by omega, ?_⟩, by omega⟩
    have h1 := H18.front2 1 rfl
    have h2 : Sat (CacheP E c CS.nil :: Many (fun i : Nat => CacheP E (cb i) CS.nil) (List.range k) :: Cells b7 E.t_mheap_Heap (.pointer (some ⟨m, 0, none⟩) :: .pointer (some ⟨t, 0, none⟩) :: .pointer (some ⟨a, 0, none⟩) :: .pointer (some ⟨f, 0, none⟩) :: .map (some b5) :: (((List.range 64).map fun i => Value.pointer (if i < k + 1 then some ⟨if i = k then c else cb i, 0, none⟩ else none)) ++ [.int .u64 0, .int .u64 0])) ::
        FixP E f ⟨0, []⟩ :: MapF b5 .i64 (fun _ => none) :: ArenaP E a [] (fun _ => 0) :: TreeV E t TV.nil :: VmemP E m V :: Z) w18 := H18.perm (List.perm_middle (l₁ := [_, _]) |>.symm)
    rw [range_snoc]
    have e : Many (fun i : Nat => CacheP E (cb i) CS.nil) (List.range k) = Many (fun i : Nat => CacheP E (if i = k then c else cb i) CS.nil) (List.range k) := Many.congr fun x hx => by rw [if_neg (by have := List.mem_range.1 hx; omega)]
    rw [e, show CacheP E c CS.nil = (fun i : Nat => CacheP E (if i = k then c else cb i) CS.nil) k by show _ = CacheP E (if k = k then c else cb k) CS.nil; rw [if_pos rfl]] at h2
    exact h2.manySnoc
  · have e : k = 64 := by omega
    subst e
    refine hK b7 w14 (Sat.heap.2 ⟨⟨m, t, a, f, b5, cb, []⟩, ⟨List.nodup_nil, fun id => ⟨fun q => (by cases q), fun q => absurd rfl q⟩⟩, ?_⟩)
    have e : ((List.range 64).map fun i => Value.pointer (if i < 64 then some ⟨cb i, 0, none⟩ else none)) = ptrs cb := by
      unfold ptrs
      exact List.map_congr_left fun i hi => by rw [if_pos (List.mem_range.1 hi)]
    rw [e] at H14
    have H15 := H14.manyNil (spR E fun _ => none)
    refine H15.perm ?_
    show List.Perm _ ((Cells b7 E.t_mheap_Heap (hcells ⟨m, t, a, f, b5, cb, []⟩ 0 0) :: VmemP E m V :: TreeV E t TV.nil :: ArenaP E a [] (fun _ => 0) :: FixP E f ⟨0, []⟩ :: MapF b5 .i64 (fun _ => none) :: Many (spR E fun _ => none) [] :: Many (fun i : Nat => CacheP E (cb i) CS.nil) (List.range 64) :: []) ++ Z)
    refine List.Perm.append_right (l₁ := [Many (spR E fun _ => none) [], Many (fun i : Nat => CacheP E (cb i) CS.nil) (List.range 64), Cells b7 E.t_mheap_Heap (hcells ⟨m, t, a, f, b5, cb, []⟩ 0 0), FixP E f ⟨0, []⟩, MapF b5 .i64 (fun _ => none), ArenaP E a [] (fun _ => 0), TreeV E t TV.nil, VmemP E m V]) Z ?_
    exact (List.perm_append_comm (l₁ := [Many (spR E fun _ => none) [], Many (fun i : Nat => CacheP E (cb i) CS.nil) (List.range 64)]) (l₂ := [Cells b7 E.t_mheap_Heap (hcells ⟨m, t, a, f, b5, cb, []⟩ 0 0), FixP E f ⟨0, []⟩, MapF b5 .i64 (fun _ => none), ArenaP E a [] (fun _ => 0), TreeV E t TV.nil, VmemP E m V])).trans (.cons _ ((List.reverse_perm [VmemP E m V, TreeV E t TV.nil, ArenaP E a [] (fun _ => 0), MapF b5 .i64 (fun _ => none), FixP E f ⟨0, []⟩]).append_right _ |>.trans (.cons _ (.cons _ (.cons _ (.swap _ _ _))))))
end
end Go.Sh

set_option linter.all false
set_option maxRecDepth 8000
set_option maxHeartbeats 2000000
namespace Go.Sh
theorem low_nat {x c : Nat} (h1 : x.testBit c = true) (h2 : ∀ i, i < c -> x.testBit i = false) (i : Nat) : (x &&& (x - 1)).testBit i = (x.testBit i && !(i == c)) := by
  have hm : x % 2 ^ (c + 1) = 2 ^ c := by
    apply Nat.eq_of_testBit_eq
    intro j
    rw [Nat.testBit_mod_two_pow, Nat.testBit_two_pow]
    by_cases e : c = j
    · subst e; simp [h1]
    · rw [decide_eq_false e]
      by_cases g : j < c
      · rw [h2 j g]; simp
      · rw [decide_eq_false (show ¬ j < c + 1 by omega)]; rfl
  have hx : x = 2 ^ (c + 1) * (x / 2 ^ (c + 1)) + 2 ^ c := by
    have := Nat.div_add_mod x (2 ^ (c + 1))
    rw [hm] at this; exact this.symm
  generalize hy : x / 2 ^ (c + 1) = y at hx
  have p1 : 2 ^ c < 2 ^ (c + 1) := Nat.pow_lt_pow_right (by decide) (by omega)
  have p0 : 0 < 2 ^ c := Nat.pow_pos (by decide)
  have hx1 : x - 1 = 2 ^ (c + 1) * y + (2 ^ c - 1) := by omega
  rw [Nat.testBit_and, hx1]
  conv => lhs; lhs; rw [hx]
  conv => rhs; lhs; rw [hx]
  rw [Nat.testBit_two_pow_mul_add _ p1, Nat.testBit_two_pow_mul_add _ (by omega : 2 ^ c - 1 < 2 ^ (c + 1))]
  by_cases g : i < c + 1
  · rw [if_pos g, if_pos g, Nat.testBit_two_pow, Nat.testBit_two_pow_sub_one]
    by_cases e : c = i
    · subst e; simp
    · rw [decide_eq_false e]; simp
  · rw [if_neg g, if_neg g]
    have : (i == c) = false := by simp; omega
    rw [this]; simp
theorem W_low1 {u : Nat -> Bool} {c : Nat} (hc : c < 64) (h1 : u c = true) (h2 : ∀ i, i < c -> u i = false) : bitK .u64 0 (W u) (u64 (W u - 1)) = W (fun i => u i && !(i == c)) := by
  have hlt : wN u 64 < 2 ^ 64 := wN_lt u 64
  have hb : (wN u 64).testBit c = true := by rw [wN_bit, h1]; simp [hc]
  have hz : wN u 64 ≠ 0 := fun e => by rw [e] at hb; simp at hb
  have e : u64 (W u - 1) = ((wN u 64 - 1 : Nat) : Int) := by
    unfold W
    rw [u64_id (by omega) (by omega)]; omega
  rw [e]
  unfold W
  rw [bkN (by omega) (by omega)]
  congr 1
  apply Nat.eq_of_testBit_eq
  intro i
  rw [low_nat hb (fun j hj => by rw [wN_bit, h2 j hj]; simp), wN_bit, wN_bit]
  cases decide (i < 64) <;> simp
theorem cN_low {u : Nat -> Bool} {c : Nat} (h1 : u c = true) : ∀ n, (c < n -> cN u n = cN (fun i => u i && !(i == c)) n + 1) /\ (n <= c -> cN u n = cN (fun i => u i && !(i == c)) n)
  | 0 => ⟨fun h => absurd h (Nat.not_lt_zero c), fun _ => rfl⟩
  | n + 1 => by
    obtain ⟨i1, i2⟩ := cN_low h1 n
    simp only [cN]
    refine ⟨fun h => ?_, fun h => ?_⟩
    · by_cases e : n = c
      · subst e
        rw [i2 (Nat.le_refl _), h1]; simp
      · rw [i1 (by omega)]
        have : (n == c) = false := by simp [e]
        rw [this]; simp; omega
    · rw [i2 (by omega)]
      have : (n == c) = false := by simp; omega
      rw [this]; simp
theorem W_lowest {u : Nat -> Bool} (h : W u ≠ 0) : ∃ c, c < 64 /\ u c = true /\ ∀ i, i < c -> u i = false := by
  have hex : ∃ c, c < 64 /\ u c = true := by
    refine Classical.byContradiction fun g => h (W_eq_zero.2 fun i hi => ?_)
    cases hu : u i with
    | false => rfl
    | true => exact absurd ⟨i, hi, hu⟩ g
  have key : ∀ n : Nat, (∃ c, c < n /\ u c = true) -> ∃ c, c < n /\ u c = true /\ ∀ i, i < c -> u i = false := by
    intro n
    induction n with
    | zero => rintro ⟨c, hc, _⟩; omega
    | succ n ih =>
      rintro ⟨c, hc, hu⟩
      by_cases g : ∃ c, c < n /\ u c = true
      · obtain ⟨c', h1, h2, h3⟩ := ih g
        exact ⟨c', by omega, h2, h3⟩
      · have : c = n := by
          refine Classical.byContradiction fun e => g ⟨c, by omega, hu⟩
        subst this
        refine ⟨c, hc, hu, fun i hi => ?_⟩
        cases hui : u i with
        | false => rfl
        | true => exact absurd ⟨i, hi, hui⟩ g
  exact key 64 hex
def sumR (ca : Nat -> CS) : Nat -> Int
  | 0 => 0
  | k + 1 => sumR ca k + cN (ca k).rel 64
theorem sumR_le (ca : Nat -> CS) (k : Nat) : ∀ m, sumR ca k <= sumR ca (k + m)
  | 0 => Int.le_refl _
  | m + 1 => by
    show _ <= sumR ca (k + m) + _
    have := sumR_le ca k m
    omega
section
variable {E : Env} {h : Nat} {S : HS} {Z : List Pr} {w : World} {g : HG}
theorem HInv.sumR (hI : HInv S no) (hk : HOk S) : NT S.T.rl + Go.Sh.sumR S.ca 64 = cP S.gone := by
  have key : ∀ k : Nat, k <= 64 -> NT S.T.rl + Go.Sh.sumR S.ca k = cP (fun p => S.T.rl p || (List.range k).any fun i => (S.ca i).ownR p) := by
    intro k
    induction k with
    | zero =>
      intro _
      obtain ⟨l, h1, h2⟩ := hk.tv.cr
      have e : (fun p => S.T.rl p || (List.range 0).any fun i => (S.ca i).ownR p) = S.T.rl := funext fun p => by simp
      rw [e, cP_NT h1 h2 fun p hp => (hk.tv.lim p (hk.tv.fi p (hk.tv.rf p hp))).2]
      show cP S.T.rl + 0 = _
      omega
    | succ k ih =>
      intro hk1
      have ci := hk.ci k (by omega)
      rw [cP_or (f := fun p => S.T.rl p || (List.range k).any fun i => (S.ca i).ownR p) (g := (S.ca k).ownR) (fun p => by rw [range_snoc, List.any_append]; simp [Bool.or_assoc]) fun p a b => ?_, <- ih (by omega)]
      · have e : cP (S.ca k).ownR = cN (S.ca k).rel 64 := by
          have hb0 := ci.b0
          have hb1 := ci.b1
          have := ci.b64
          exact cP_cache hb0 (by omega)
        rw [e]
        show _ + (Go.Sh.sumR S.ca k + _) = _
        omega
      · rw [Bool.or_eq_true] at a
        have ho := ownR_own ci b
        obtain ⟨g1, g2, g3, g4⟩ := hI.cr k (by omega) p ho
        rcases a with a | a
        · exact (tf_not g2) (hk.tv.rf p a)
        · rw [List.any_eq_true] at a
          obtain ⟨i, hi, hr⟩ := a
          have hi := List.mem_range.1 hi
          have := hI.cd i k p (by omega) (by omega) (ownR_own (hk.ci i (by omega)) hr) ho
          omega
  exact key 64 (Nat.le_refl _)
theorem hpages_spec (H : Sat (HeapP E h S :: Z) w) (hI : HInv S no) {K : Int -> Int -> Int -> World -> Prop} (hK : ∀ w', Sat (HeapP E h S :: Z) w' -> K (cP S.T.inn) S.pages (cP S.gone) w') : F.mheap_Heap_Pages E (some ⟨h, 0, none⟩) K w := by
  have hok := H.hok
  have hsum := hI.sumR hok
  obtain ⟨c1, c2, c3⟩ := hI.counts hok
  have cb1 := cP_bnd S.gone
  have cb2 := cP_bnd S.T.inn
  have hnt : 0 <= NT S.T.rl := by
    obtain ⟨l, h1, h2⟩ := hok.tv.cr
    rw [NT_eq h1 h2]; exact tot_nonneg h1
  obtain ⟨g, hId, H⟩ := Sat.heap.1 H
  unfold F.mheap_Heap_Pages T0.mheap_Heap_Pages
  simp only [NC_some]
  refine ⟨_, (hcell (S := S) (g := g) H).2.1, vreleased_sat (H.front 2 rfl) ?_⟩
  have hcc := (hcell (S := S) (g := g) H).2.2.2.2.2.2.2
  simp only [add_add, Nat.reduceAdd]
  repeat (refine ⟨_, hcc _ (by decide), ?_⟩)
  have hL : ∀ i : Nat, i < 64 -> List.getD ((List.range 64).map fun i => some (Addr.mk (g.cb i) 0 none)) i none = some ⟨g.cb i, 0, none⟩ := fun i hi => getD_ptrs g.cb hi
  refine LOOP_intro (fun st w' => ∃ i : Nat, st.2.1 = (i : Int) /\ i <= 64 /\ st.1 = NT S.T.rl + Go.Sh.sumR S.ca i /\ Sat (hres E h S g ++ Z) w') (fun st _ => (64 - st.2.1).toNat) ⟨0, rfl, by decide, (Int.add_zero _).symm, H⟩ ?_
  rintro ⟨cnt, i', v⟩ _ w76 ⟨i, hi, hi64, hc, H76⟩
  dsimp only at hi hc ⊢
  subst hi
  refine CND_dec (fun hlt64 => ⟨⟨by omega, by omega⟩, ?_⟩) fun hge64 => ?_
  · have hi : i < 64 := by omega
    obtain ⟨R, hcr, hb⟩ := H76.cacheAt hi
    rw [Int.toNat_natCast]
    have e := hL i hi
    refine (show _ = _ from e) ▸ ?_
    refine ctell_spec hcr fun r0 r1 r2 w81 g0 g1 H81 => ?_
    have ci := hok.ci i hi
    have hr2 : r2 = W (S.ca i).rel := by
      by_cases he : (S.ca i).empty
      · rw [(g0 he).2.2]
        refine (W_eq_zero.2 fun k _ => not_tf fun q => ?_).symm
        have := ci.rh k q
        rw [he k] at this; cases this
      · exact (g1 he).2.2
    subst hr2
    have hs1 : Go.Sh.sumR S.ca (i + 1) = Go.Sh.sumR S.ca i + cN (S.ca i).rel 64 := rfl
    have hs2 := sumR_le S.ca (i + 1) (64 - (i + 1))
    rw [show i + 1 + (64 - (i + 1)) = 64 by omega] at hs2
    have hs3 : 0 <= Go.Sh.sumR S.ca i := by
      have := sumR_le S.ca 0 i
      rw [Nat.zero_add] at this; exact this
    refine LOOP_intro (fun st w' => ∃ u, st.2.1 = W u /\ NT S.T.rl + Go.Sh.sumR S.ca i <= st.1 /\ st.1 + cN u 64 = NT S.T.rl + Go.Sh.sumR S.ca (i + 1) /\ Sat (hres E h S g ++ Z) w') (fun st _ => st.2.1.toNat) ⟨(S.ca i).rel, rfl, by show _ <= cnt; omega, by show cnt + _ = _; omega, hb H81⟩ ?_
    rintro ⟨c2', r, v⟩ _ w82 ⟨u, hu, hle, hcu, H82⟩
    dsimp only at hu hle hcu ⊢
    subst hu
    refine CND_ne (fun hne => ?_) fun hz => ?_
    · obtain ⟨c, hc64, hc1, hc2⟩ := W_lowest hne
      rw [W_low1 hc64 hc1 hc2]
      have hcn := (cN_low hc1 64).1 hc64
      refine LET_intro fun r80 e80 => ?_
      subst e80
      rw [u64_id (n := c2' + 1) (by omega) (by omega)]
      refine ⟨⟨_, rfl, by show _ <= c2' + 1; omega, by show c2' + 1 + _ = _; omega, H82⟩, ?_⟩
      show (W fun i => u i && !(i == c)).toNat < (W u).toNat
      rw [<- W_low1 hc64 hc1 hc2]
      have hb := W_bnd u
      have hz : W u ≠ 0 := hne
      have e : bitK .u64 0 (W u) (u64 (W u - 1)) = ((wN u 64 &&& (wN u 64 - 1) : Nat) : Int) := by
        have hlt : wN u 64 < 2 ^ 64 := wN_lt u 64
        have e : u64 (W u - 1) = ((wN u 64 - 1 : Nat) : Int) := by
          unfold W at hz ⊢
          rw [u64_id (by omega) (by omega)]; omega
        rw [e]
        unfold W
        rw [bkN (by omega) (by omega)]
      rw [e, Int.toNat_natCast]
      have : wN u 64 &&& (wN u 64 - 1) <= wN u 64 - 1 := Nat.and_le_right
      unfold W at hz ⊢
      rw [Int.toNat_natCast]
      omega
    · have h0 : cN u 64 = 0 := by
        have h1 := W_eq_zero.1 hz
        have : ∀ n, n <= 64 -> cN u n = 0 := by
          intro n
          induction n with
          | zero => intro _; rfl
          | succ n ih => intro hn; simp only [cN]; rw [ih (by omega), h1 n (by omega)]; rfl
        exact this 64 (Nat.le_refl _)
      rw [i64_id (n := (i : Int) + 1) (by omega) (by omega)]
      exact ⟨⟨i + 1, by omega, by omega, by show c2' = _; omega, H82⟩, by show (64 - ((i : Int) + 1)).toNat < (64 - (i : Int)).toNat; omega⟩
  · have e : i = 64 := by omega
    subst e
    have Hd := H76.drew
    refine ⟨_, (hcell (S := S) (g := g) Hd).2.2.1, _, (hcell (S := S) (g := g) Hd).2.2.2.2.2.2.1, acount_sat (Hd.front 3 rfl) ⟨(hcell (S := S) (g := g) Hd).2.2.2.2.2.2.1, ?_⟩⟩
    rw [u64_id (n := tot S.ks * 512) (by omega) (by omega), <- c1, hc, hsum]
    exact hK _ (Sat.heap.2 ⟨g, hId, Hd⟩)
variable (hE : EnvS E)
include hE
theorem hflush_spec (H : Sat (HeapP E h S :: Z) w) (hI : HInv S no) {p : Int} {K : World -> Prop} (hk0 : ¬ (0 <= p /\ p < 64) -> ∀ w', Sat (HeapP E h S :: Z) w' -> K w')
    (hk1 : 0 <= p -> p < 64 -> ∀ w', HInv (S.flush p.toNat) no -> Sat (HeapP E h (S.flush p.toNat) :: Z) w' -> K w') : F.mheap_Heap_Flush E (some ⟨h, 0, none⟩) p K w := by
  have hok := H.hok
  unfold F.mheap_Heap_Flush T0.mheap_Heap_Flush
  refine is_spec (CND_dec (fun hp => ?_) fun hp => hk0 hp w H)
  simp only [NC_some]
  obtain ⟨g, hId, H⟩ := Sat.heap.1 H
  have Hd := H.drew
  obtain ⟨i, rfl⟩ : ∃ i : Nat, p = (i : Int) := ⟨p.toNat, by omega⟩
  have hi : i < 64 := by omega
  rw [Int.toNat_natCast] at hk1 ⊢
  refine ⟨by omega, _, by rw [Nat.mul_one, add_add, Nat.add_comm]; exact (hcell (S := S) (g := g) Hd).2.2.2.2.2.2.2 i hi, _, (hcell (S := S) (g := g) Hd).2.1, ?_⟩
  obtain ⟨R, _, h1, hb⟩ := Hd.cacheTree hi
  exact pflush_spec hE h1 (fun q hq => ⟨(hI.cr i hi q hq).1, (hI.cr i hi q hq).2.1⟩) fun w' H' => hk1 hp.1 hp.2 w' (hI.flush hok hi) (Sat.heap.2 ⟨g, ⟨hId.nd, hId.mem⟩, hb H'⟩)
end
end Go.Sh

set_option linter.all false
set_option maxRecDepth 8000
set_option maxHeartbeats 2000000
namespace Go.Sh
def Filled (S : HS) (i : Nat) (S1 : HS) : Prop := ((S.ca i).empty /\ ∃ q, firstB S.T 1 q /\ S1 = S.fill i q) ∨ ((¬ (S.ca i).empty ∨ ∀ q, S.T.fr q = false) /\ S1 = S)
def Tried (S : HS) (p n : Int) (S1 : HS) : Prop := (¬ (0 <= p /\ p < 64 /\ n < 16) /\ S1 = S) ∨ ∃ i : Nat, i < 64 /\ p = i /\ n < 16 /\ Filled S i S1 /\ ∀ k, ¬ runAt (S1.ca i).has k n.toNat
def Got (S : HS) (p n page : Int) (S2 : HS) : Prop :=
  (∃ S1, ∃ i k : Nat, i < 64 /\ p = i /\ n < 16 /\ Filled S i S1 /\ runAt (S1.ca i).has k n.toNat /\ (∀ j, runAt (S1.ca i).has j n.toNat -> k <= j) /\ k + n.toNat <= 64 /\ page = (S1.ca i).base + k /\ S2 = S1.calloc i k n.toNat) ∨
  ∃ S1, Tried S p n S1 /\ firstB S1.T n page /\ S2 = S1.talloc page n
section
variable {E : Env} {h : Nat} {S : HS} {Z : List Pr} {w : World} {g : HG}
theorem len_le_tot : ∀ {l : Iv}, Ok l -> (l.length : Int) <= tot l
  | [], _ => Int.le_refl _
  | p :: r, h => by
    have := len_le_tot h.tail
    have := h.2.1
    show ((r.length + 1 : Nat) : Int) <= p.2 - p.1 + tot r
    omega
variable (hE : EnvA E)
include hE
theorem hgot_spec (hT : ∀ w', Sat Z w' -> TabAt E.g_math_bits_deBruijn64tab w') (H : Sat (HeapP E h S :: Z) w) (hI : HInv S no) {p n : Int} (n0 : 1 <= n) (n1 : n <= 134217728) {K : Int -> Bool -> World -> Prop}
    (hk1 : ∀ page S2, Got S p n page S2 -> HInv S2 (inr page n) -> 0 <= page -> page + n <= 34359738368 -> ∀ w', Sat (HeapP E h S2 :: Z) w' -> K page true w')
    (hk0 : ∀ S1, Tried S p n S1 -> HInv S1 no -> (∀ q, ¬ rowB S1.T.fr q n) -> ∀ w', Sat (HeapP E h S1 :: Z) w' -> K 0 false w') : F.mheap_Heap_got E (some ⟨h, 0, none⟩) p n K w := by
  have hok := H.hok
  obtain ⟨g, hId, H⟩ := Sat.heap.1 H
  unfold F.mheap_Heap_got T0.mheap_Heap_got
  simp only [NC_some]
  have htree : ∀ S1 w3, Tried S p n S1 -> HInv S1 no -> S1.sp = S.sp -> S1.V = S.V -> S1.ks = S.ks -> S1.own = S.own -> S1.fx = S.fx -> S1.hint = S.hint -> S1.pages = S.pages -> Sat (hres E h S1 g ++ Z) w3 ->
      ∃ x25 : (Option Addr), w3.cell? ((Addr.mk h 0 none).add 1) = some (.pointer x25) /\ F.radix_Tree_Alloc E x25 n (fun r26 r27 r28 w29 => K r26 ((r28 : Int) == 0) w29) w3 := by
    intro S1 w3 ht hI1 e1 e2 e3 e4 e5 e6 e7 H3
    have hId1 : HIds S1 g := hId.same e1
    have hok1 := (Sat.heap.2 ⟨g, hId1, H3⟩ : Sat (HeapP E h S1 :: Z) w3).hok
    obtain ⟨R, _, h1, hb⟩ := H3.theTree
    refine ⟨_, (hcell (S := S1) (g := g) H3).2.1, valloc_sat hE.toEnvS h1 (by omega) (by omega) (fun e => by omega) (fun _ hno w' H' => ?_) fun _ page hf w' H' => ?_⟩
    · exact hk0 S1 ht hI1 hno w' (Sat.heap.2 ⟨g, ⟨hId1.nd, hId1.mem⟩, hb H'⟩)
    · exact hk1 page (S1.talloc page n) (.inr ⟨S1, ht, hf, rfl⟩) (hI1.talloc hok1 hf.2.2.1) hf.1 hf.2.1 w' (Sat.heap.2 ⟨g, ⟨hId1.nd, hId1.mem⟩, hb H'⟩)
  refine JOIN_in (JOIN_in (is_spec (CND_dec (fun hp j => CND_dec (fun hn => ?_) fun hn j => ?_) fun hp j => CND_f rfl fun j => ?_)))
  · obtain ⟨i, rfl⟩ : ∃ i : Nat, p = (i : Int) := ⟨p.toNat, by omega⟩
    have hi : i < 64 := by omega
    rw [Int.toNat_natCast]
    refine ⟨by omega, _, by rw [Nat.mul_one, add_add, Nat.add_comm]; exact (hcell (S := S) (g := g) H).2.2.2.2.2.2.2 i hi, ?_⟩
    have hrest : ∀ S1 w13, Filled S i S1 -> HInv S1 no -> S1.sp = S.sp -> S1.V = S.V -> S1.ks = S.ks -> S1.own = S.own -> S1.fx = S.fx -> S1.hint = S.hint -> S1.pages = S.pages -> Sat (hres E h S1 g ++ Z) w13 ->
        F.pcache_Cache_Alloc E (some ⟨g.cb i, 0, none⟩) (i64 n) (fun r20 r21 r22 w23 => CND ((r22 : Int) == 0) (K r20 true w23) (∀ j : Nat -> Value, ∃ x25 : (Option Addr), w23.cell? ((Addr.mk h 0 none).add 1) = some (.pointer x25) /\ F.radix_Tree_Alloc E x25 n (fun r26 r27 r28 w29 => K r26 ((r28 : Int) == 0) w29) w23)) w13 := by
      intro S1 w13 hfl hI1 e1 e2 e3 e4 e5 e6 e7 H13
      have hId1 : HIds S1 g := hId.same e1
      have hok1 := (Sat.heap.2 ⟨g, hId1, H13⟩ : Sat (HeapP E h S1 :: Z) w13).hok
      obtain ⟨R, hR, h1, hb⟩ := H13.cacheTree hi
      rw [i64_id (n := n) (by omega) (by omega)]
      refine palloc_spec (hT _ (hR h1.tail.tail)) h1 (by omega) (by omega) (fun hbad => by omega) (fun _ _ hno => CND_f rfl fun j => ?_) fun _ _ k hrun hmin h64 w' H' => CND_t rfl ?_
      · exact htree S1 w13 (.inr ⟨i, hi, rfl, hn, hfl, hno⟩) hI1 e1 e2 e3 e4 e5 e6 e7 H13
      · have hci := hok1.ci i hi
        have q0 := hci.b0
        have q1 := hci.b1
        have q2 := hci.b64
        have hInv := hI1.calloc hok1 hi hrun h64
        rw [show ((n.toNat : Nat) : Int) = n by omega] at hInv
        refine hk1 ((S1.ca i).base + k) (S1.calloc i k n.toNat) (.inl ⟨S1, i, k, hi, rfl, hn, hfl, hrun, hmin, h64, rfl, rfl⟩) hInv (by omega) (by omega) w' (Sat.heap.2 ⟨g, ⟨hId1.nd, hId1.mem⟩, hb H'⟩)
    obtain ⟨R, hR, h1, hb⟩ := H.cacheTree hi
    refine JOIN_in (pempty_spec h1 (fun he => CND_t rfl ⟨_, (hcell (S := S) (g := g) H).2.1, ?_⟩) fun he => CND_f rfl fun j => ?_)
    · refine pfill_spec hE.toEnvS h1 (fun hne => absurd he hne) (fun _ hno w' H' j => ?_) fun _ q hq w' H' j => ?_
      · have h2 := hb H'
        rw [ca_same] at h2
        exact hrest S w' (.inr ⟨.inr hno, rfl⟩) hI rfl rfl rfl rfl rfl rfl rfl h2
      · exact hrest (S.fill i q) w' (.inl ⟨he, q, hq, rfl⟩) (hI.fill hok hi he q) rfl rfl rfl rfl rfl rfl rfl (hb H')
    · exact hrest S w (.inr ⟨.inl he, rfl⟩) hI rfl rfl rfl rfl rfl rfl rfl H
  · exact htree S w (.inl ⟨by omega, rfl⟩) hI rfl rfl rfl rfl rfl rfl rfl H
  · exact htree S w (.inl ⟨by omega, rfl⟩) hI rfl rfl rfl rfl rfl rfl rfl H
def upN (n : Int) : Int := (n + 511) / 512 * 512
def Grew (S : HS) (n : Int) (S1 : HS) : Prop := (∀ r, S.V.rf ≠ true :: r) /\ ∃ at_, Chosen S.V S.hint (upN n) at_ /\ S1 = S.grown { S.V with rf := S.V.rf.tail, pl := S.V.pl.tail, laid := addL S.V.laid at_ (at_ + upN n) } at_ (upN n)
def NoGrow (S : HS) (n : Int) (S1 : HS) : Prop := (∃ r, S.V.rf = true :: r /\ S1 = { S with V := { S.V with rf := r } }) ∨ ((∀ r, S.V.rf ≠ true :: r) /\ Unplaced S.V S.hint (upN n) /\ S1 = { S with V := { S.V with rf := S.V.rf.tail, pl := S.V.pl.tail } })
theorem hgrow_spec (H : Sat (HeapP E h S :: Z) w) (hI : HInv S no) {n : Int} (n0 : 1 <= n) (n1 : n <= 134217728) {K : Int -> World -> Prop}
    (hk1 : ∀ S1, Grew S n S1 -> HInv S1 no -> (∃ at_, rowB S1.T.fr at_ n) -> ∀ w', Sat (HeapP E h S1 :: Z) w' -> K 0 w') (hk0 : ∀ S1, NoGrow S n S1 -> HInv S1 no -> ∀ w', Sat (HeapP E h S1 :: Z) w' -> K 13 w') :
    F.mheap_Heap_grow E (some ⟨h, 0, none⟩) n K w := by
  have hok := H.hok
  have hh0 := hI.h0
  have hh1 := hI.h1
  obtain ⟨g, hId, H⟩ := Sat.heap.1 H
  unfold F.mheap_Heap_grow T0.mheap_Heap_grow
  refine ⟨by decide, LET_intro fun N hN => ?_⟩
  rw [u64_id (n := n + 512) (by omega) (by omega), u64_id (n := n + 512 - 1) (by omega) (by omega), Int.tdiv_eq_ediv_of_nonneg (by omega), u64_id (n := (n + 512 - 1) / 512) (by omega) (by omega), u64_id (by omega) (by omega)] at hN
  have hN : N = upN n := by unfold upN; omega
  subst hN
  have hup : upN n % 512 = 0 /\ n <= upN n /\ upN n <= 134217728 := by unfold upN; omega
  obtain ⟨u1, u2, u3⟩ := hup
  have u4 : upN n < n + 512 := by unfold upN; omega
  simp only [NC_some]
  have Hd := H.drew
  refine ⟨_, (hcell (S := S) (g := g) Hd).1, _, (hcell (S := S) (g := g) Hd).2.2.2.2.2.1, ?_⟩
  have bk : ∀ {V' : VS} {w'}, Sat (VmemP E g.m V' :: (hres E h S g ++ Z).eraseIdx 1) w' -> Sat (hres E h { S with V := V' } g ++ Z) w' := fun {V' w'} h' => Sat.back (Ps := hres E h S g ++ Z) 1 h' (by simp [hres])
  refine reserve_spec hE.toEnvS (Hd.front 1 rfl) hh0 (by omega) (by omega) (by omega) (fun hbad => by omega) (fun _ r hr w' H' => CND_t rfl ?_) (fun _ hr hu w' H' => CND_t rfl ?_) fun _ hr at_ hc w8 H8 => CND_f rfl ?_
  · exact hk0 _ (.inl ⟨r, hr, rfl⟩) (hI.memV rfl rfl) w' (Sat.heap.2 ⟨g, ⟨hId.nd, hId.mem⟩, bk H'⟩)
  · exact hk0 _ (.inr ⟨hr, hu, rfl⟩) (hI.memV rfl rfl) w' (Sat.heap.2 ⟨g, ⟨hId.nd, hId.mem⟩, bk H'⟩)
  obtain ⟨f1, f2, f3, f4⟩ := hc.fits hok.vv.ok1 (by omega)
  have a0 : 0 <= at_ := by
    rcases hc with ⟨p, r, h1, h2, rfl⟩ | ⟨_, ⟨_, h1, _⟩ | ⟨_, _, h1, _⟩⟩
    · obtain ⟨g', hVI, _⟩ := Sat.vmem.1 (Hd.front 1 rfl : Sat (VmemP E g.m S.V :: _) _)
      exact (hVI.plw at_ (by rw [h1]; exact List.mem_cons_self)).1
    · have := h1.low; omega
    · have := h1.low; omega
  have hfree : ∀ p, at_ <= p -> p < at_ + upN n -> S.T.inn p = false := fun p h1 h2 => not_tf fun hp => (cnt_none hok.vv.ok1 (by omega)).1 f4 p h1 h2 ((hI.la p).2 hp)
  have H9 := bk H8
  rw [u64_id (n := at_ + upN n) (by omega) (by omega)]
  refine st_cell H9 (o := 0) (m := 69) rfl (by rw [hc_len]; decide) fun w10 H10 => ?_
  rw [Nat.zero_add, hc_setHint] at H10
  have H10' : Sat (hres E h { S with V := { S.V with rf := S.V.rf.tail, pl := S.V.pl.tail, laid := addL S.V.laid at_ (at_ + upN n) }, hint := at_ + upN n } g ++ Z) w10 := H10
  clear H10
  rw [Int.tdiv_eq_ediv_of_nonneg (by omega), Int.tdiv_eq_ediv_of_nonneg (by omega), u64_id (n := at_ / 512) (by omega) (by omega), u64_id (n := upN n / 512) (by omega) (by omega)]
  refine ⟨_, (hcell (S := { S with V := { S.V with rf := S.V.rf.tail, pl := S.V.pl.tail, laid := addL S.V.laid at_ (at_ + upN n) }, hint := at_ + upN n }) (g := g) H10').2.1, by decide, by decide, ?_⟩
  obtain ⟨R, _, h1, hb⟩ := H10'.theTree
  refine vgrow_sat hE.toEnvS h1 (by omega) (by omega) (by omega) (by omega) (fun hbad => by unfold growBad at hbad; omega) (fun _ hex => ?_) fun _ _ w14 H14 => ?_
  · obtain ⟨p, q1, q2, q3⟩ := hex
    have : S.T.inn p = true := q3
    rw [hfree p (by omega) (by omega)] at this; cases this
  have H15 := (hb H14).drew
  generalize hS3 : ({ S with V := { S.V with rf := S.V.rf.tail, pl := S.V.pl.tail, laid := addL S.V.laid at_ (at_ + upN n) }, hint := at_ + upN n, T := S.T.grow (at_ / 512) (upN n / 512) } : HS) = S3
  have e3 : S3.hint = at_ + upN n := by rw [<- hS3]
  have H16 : Sat (hres E h S3 g ++ Z) w14.drew := by rw [<- hS3]; exact H15
  clear H15
  have c69 := (hcell (S := S3) (g := g) H16).2.2.2.2.2.1
  rw [e3] at c69
  refine ⟨_, (hcell (S := S3) (g := g) H16).2.2.1, by decide, _, c69, by decide, ?_⟩
  rw [Int.tdiv_eq_ediv_of_nonneg (by omega), u64_id (n := (at_ + upN n) / 512) (by omega) (by omega)]
  refine amany_sat hE (H16.front 3 rfl) (by omega) (by omega) (by omega) fun w19 H19 => ?_
  have H20 : Sat (hres E h { S3 with ks := addL S3.ks (at_ / 512) ((at_ + upN n) / 512) } g ++ Z) w19 := Sat.back (Ps := hres E h S3 g ++ Z) 3 H19 (by simp [hres])
  have c69' := (hcell (S := { S3 with ks := addL S3.ks (at_ / 512) ((at_ + upN n) / 512) }) (g := g) H20).2.2.2.2.2.1
  have e3' : ({ S3 with ks := addL S3.ks (at_ / 512) ((at_ + upN n) / 512) } : HS).hint = at_ + upN n := e3
  rw [e3'] at c69'
  refine ⟨c69', ?_⟩
  subst hS3
  refine hk1 _ ⟨hr, at_, hc, rfl⟩ (hI.grown hok a0 (by omega) (by omega) f1 u1 hfree rfl rfl) ⟨at_, fun m q1 q2 => ?_⟩ w19 (Sat.heap.2 ⟨g, ⟨hId.nd, hId.mem⟩, H20⟩)
  show (S.T.fr m || inr (at_ / 512 * 512) (upN n / 512 * 512) m) = true
  rw [Bool.or_eq_true, inr_iff]
  exact .inr (by omega)
def partT (S : HS) (page n : Int) : TV := ⟨S.T.inn, fun p => S.T.fr p || inr page n p, fun p => S.T.rl p || (inr page n p && !inL S.V.ready p)⟩
omit hE in
theorem part_back {S : HS} {page x y : Int} (h1 : page <= x) (h2 : x <= y) (hno : ∀ p, x <= p -> p < y -> ¬ mem S.V.ready p) : (partT S page (x - page)).back x (y - x) = partT S page (y - page) := by
  have e : ∀ p, inr page (y - page) p = (inr page (x - page) p || inr x (y - x) p) := fun p => by rw [Bool.eq_iff_iff, Bool.or_eq_true, inr_iff, inr_iff, inr_iff]; omega
  unfold partT TV.back
  refine (TV.mk.injEq ..).mpr ⟨rfl, funext fun p => ?_, funext fun p => ?_⟩
  · show (S.T.fr p || inr page (x - page) p || inr x (y - x) p) = _
    rw [e, Bool.or_assoc]
  · show (S.T.rl p || (inr page (x - page) p && !inL S.V.ready p) || inr x (y - x) p) = _
    rw [e]
    cases g : inr x (y - x) p
    · simp
    · have g := inr_iff.1 g
      have : inL S.V.ready p = false := not_tf fun q => hno p (by omega) (by omega) (inL_iff.1 q)
      rw [this]; simp
omit hE in
theorem part_give {S : HS} {page x y : Int} (h1 : page <= x) (h2 : x <= y) (hall : ∀ p, x <= p -> p < y -> mem S.V.ready p) : (partT S page (x - page)).give x (y - x) = partT S page (y - page) := by
  have e : ∀ p, inr page (y - page) p = (inr page (x - page) p || inr x (y - x) p) := fun p => by rw [Bool.eq_iff_iff, Bool.or_eq_true, inr_iff, inr_iff, inr_iff]; omega
  unfold partT TV.give
  refine (TV.mk.injEq ..).mpr ⟨rfl, funext fun p => ?_, funext fun p => ?_⟩
  · show (S.T.fr p || inr page (x - page) p || inr x (y - x) p) = _
    rw [e, Bool.or_assoc]
  · show (S.T.rl p || (inr page (x - page) p && !inL S.V.ready p)) = _
    rw [e]
    cases g : inr x (y - x) p
    · simp
    · have g := inr_iff.1 g
      rw [inL_iff.2 (hall p (by omega) (by omega))]; simp
theorem hback_spec {page n : Int} (H : Sat (HeapP E h S :: Z) w) (hI : HInv S (inr page n)) (p0 : 0 <= page) (n0 : 1 <= n) (pb : page + n <= 34359738368) {K : World -> Prop} (hK : HInv (S.putback page n) no -> ∀ w', Sat (HeapP E h (S.putback page n) :: Z) w' -> K w') :
    F.mheap_Heap_back E (some ⟨h, 0, none⟩) page n K w := by
  have hok := H.hok
  have hInv := hI.putback hok
  obtain ⟨g, hId, H⟩ := Sat.heap.1 H
  unfold F.mheap_Heap_back T0.mheap_Heap_back F.vmem_Mem_Ready T0.vmem_Mem_Ready
  simp only [NC_some]
  rw [u64_id (n := page + n) (by omega) (by omega)]
  refine ⟨_, (hcell (S := S) (g := g) H).1, ?_⟩
  simp only [NC_some]
  rw [show (Addr.mk g.m 0 none).add 5 = ⟨g.m, 5, none⟩ by rw [add_eq]]
  obtain ⟨gv, hVI, HV⟩ := Sat.vmem.1 (H.front 1 rfl : Sat (VmemP E g.m S.V :: _) w)
  refine within_sl hE.toEnvS (HV.front2 1 rfl) (o := 5) rfl rfl p0 (by omega : page + n < 18446744073709551616) fun s' w3 H3 _ => ?_
  have H3' : Sat (vres E g.m S.V gv ++ (Row E.t_stretch_One 2 s' (flat (withinL S.V.ready page (page + n))) :: (hres E h S g ++ Z).eraseIdx 1)) w3 :=
    Sat.addMid (vres E g.m S.V gv) (H3.perm (.cons _ (.cons _ (perm_front (i := 1) rfl).symm)))
  have H4 := Sat.vmem.2 ⟨gv, hVI, H3'⟩
  have H5 : Sat (Row E.t_stretch_One 2 s' (flat (withinL S.V.ready page (page + n))) :: VmemP E g.m S.V :: (hres E h S g ++ Z).eraseIdx 1) w3 := H4.perm (.swap _ _ _)
  have H6 : Sat (hres E h S g ++ (Row E.t_stretch_One 2 s' (flat (withinL S.V.ready page (page + n))) :: Z)) w3 := by
    have h1 : Sat (Row E.t_stretch_One 2 s' (flat (withinL S.V.ready page (page + n))) :: (hres E h S g ++ Z)) w3 := H5.perm (.cons _ (perm_front (i := 1) rfl).symm)
    exact Sat.addMid (hres E h S g) h1
  clear H5 H4 H3' H3 HV
  have hokW := Ok_withinL hok.vv.ok2 (a := page) (b := page + n) (by omega)
  have hmem : ∀ q, mem (withinL S.V.ready page (page + n)) q ↔ mem S.V.ready q /\ page <= q /\ q < page + n := fun q => mem_withinL
  have hin : ∀ q ∈ withinL S.V.ready page (page + n), page <= q.1 /\ q.1 < q.2 /\ q.2 <= page + n := withinL_in hok.vv.ok2 (by omega)
  generalize hl : withinL S.V.ready page (page + n) = l at H6 hokW hmem hin
  have hlen : s'.len = l.length := by
    have := ((H6.front 8 rfl : Sat (Row E.t_stretch_One 2 s' (flat l) :: _) _)).own.len
    rw [flat_length] at this; omega
  have hsmall : (l.length : Int) <= n := by
    have h1 := len_le_tot hokW
    have h2 := cnt_all hokW.lts (a := page) (b := page + n) fun q hq => ((hmem q).1 hq).2
    have h3 := cnt_split hokW (a := page) (b := page + n) (by omega)
    omega
  have hinn : ∀ p, page <= p -> p < page + n -> S.T.inn p = true := fun p a b => hI.li p (inr_iff.2 ⟨a, b⟩)
  have hrow : ∀ {x y : Int}, page <= x -> x < y -> y <= page + n -> inRow (partT S page (x - page)) x (y - x) := fun {x y} a b c => ⟨by omega, by omega, fun m q1 q2 => hinn m (by omega) (by omega)⟩
  have hfree : ∀ {x y : Int}, page <= x -> y <= page + n -> ∀ m, x <= m -> m < x + (y - x) -> (partT S page (x - page)).fr m = false := fun {x y} a c m q1 q2 => by
    show (S.T.fr m || inr page (x - page) m) = false
    rw [(hI.flOut hok (inr_iff.2 ⟨by omega, by omega⟩)).1, inr_f.2 (by omega)]; rfl
  have stepB : ∀ {x y : Int} {Y : List Pr} {w5 : World} {K5 : Int -> World -> Prop}, page <= x -> x <= y -> y <= page + n -> (∀ p, x <= p -> p < y -> ¬ mem S.V.ready p) -> Sat (hres E h { S with T := partT S page (x - page) } g ++ Y) w5 ->
      (∀ r w6, Sat (hres E h { S with T := partT S page (y - page) } g ++ Y) w6 -> K5 r w6) -> F.radix_Tree_Back E (some ⟨g.t, 0, none⟩) x (y - x) K5 w5 := by
    intro x y Y w5 K5 h1 h2 h3 hno H5 hK5
    obtain ⟨R, _, q1, qb⟩ := H5.theTree
    refine vback_sat hE.toEnvS q1 (by omega) (by omega) (by omega) (by omega) (fun hb w6 H6 => ?_) (fun _ hex w6 H6 => ?_) fun _ _ w6 H6 => ?_
    · have : x = y := Classical.byContradiction fun e => hb (hrow h1 (by omega) h3)
      subst this
      exact hK5 _ _ (qb H6)
    · obtain ⟨m, q1, q2, q3⟩ := hex
      rw [hfree h1 h3 m q1 q2] at q3; cases q3
    · rw [part_back h1 h2 hno] at H6
      exact hK5 _ _ (qb H6)
  have stepG : ∀ {x y : Int} {Y : List Pr} {w5 : World} {K5 : Int -> World -> Prop}, page <= x -> x < y -> y <= page + n -> (∀ p, x <= p -> p < y -> mem S.V.ready p) -> Sat (hres E h { S with T := partT S page (x - page) } g ++ Y) w5 ->
      (∀ r w6, Sat (hres E h { S with T := partT S page (y - page) } g ++ Y) w6 -> K5 r w6) -> F.radix_Tree_Give E (some ⟨g.t, 0, none⟩) x (y - x) K5 w5 := by
    intro x y Y w5 K5 h1 h2 h3 hall H5 hK5
    obtain ⟨R, _, q1, qb⟩ := H5.theTree
    refine vgive_sat hE.toEnvS q1 (by omega) (by omega) (by omega) (by omega) (fun hb w6 H6 => absurd (hrow h1 h2 h3) hb) (fun _ hex w6 H6 => ?_) fun _ _ w6 H6 => ?_
    · obtain ⟨m, q1, q2, q3⟩ := hex
      rw [hfree h1 h3 m q1 q2] at q3; cases q3
    · rw [part_give h1 (by omega) hall] at H6
      exact hK5 _ _ (qb H6)
  refine LOOP_intro (fun st w' => ∃ i : Nat, st.2.1 = (i : Int) /\ i <= l.length /\ page <= st.1 /\ st.1 <= page + n /\ (∀ j q, j < i -> l[j]? = some q -> q.2 <= st.1) /\ (∀ j q, i <= j -> l[j]? = some q -> st.1 <= q.1) /\
      Sat (hres E h { S with T := partT S page (st.1 - page) } g ++ (Row E.t_stretch_One 2 s' (flat l) :: Z)) w') (fun st _ => ((l.length : Int) - st.2.1).toNat) ⟨0, rfl, Nat.zero_le _, Int.le_refl _, by show page <= _; omega, fun j q hj => absurd hj (Nat.not_lt_zero j), fun j q _ hq => (hin q (List.mem_of_getElem? hq)).1, ?_⟩ ?_
  · have e : partT S page (page - page) = S.T := by
      unfold partT
      have : ∀ p, inr page (page - page) p = false := fun p => inr_f.2 (by omega)
      simp only [this, Bool.or_false, Bool.false_and]
    show Sat (hres E h { S with T := partT S page (page - page) } g ++ _) w3
    rw [e]; exact H6
  rintro ⟨at_, i', v⟩ _ w6 ⟨i, hi, hil, ha0, ha1, hlo, hhi, H6⟩
  dsimp only at hi ha0 ha1 hlo hhi H6 ⊢
  subst hi
  rw [hlen]
  refine CND_dec (fun hlt => ?_) fun hge => ?_
  · have hil : i < l.length := by omega
    obtain ⟨x, hx⟩ : ∃ x, l[i]? = some x := ⟨_, List.getElem?_eq_getElem hil⟩
    obtain ⟨x1, x2, x3⟩ := hin x (List.mem_of_getElem? hx)
    have x4 := hhi i x (Nat.le_refl _) hx
    obtain ⟨bb, hbb, k1, k2⟩ := (H6.front 8 rfl : Sat (Row E.t_stretch_One 2 s' (flat l) :: _) _).own.cells2 hx
    rw [hbb]
    simp only [NC_some, Int.toNat_natCast]
    refine ⟨⟨by omega, by omega⟩, x.1, by rw [add_eq, add_eq, Nat.zero_add, Nat.add_zero]; exact k1, x.2, by rw [add_eq, add_eq, Nat.zero_add]; exact k2, ?_⟩
    refine AL_cells (vs := [.int .u64 0, .int .u64 0]) H6 fun b11 w12 H12 _ => ?_
    refine st_all (news := [.int .u64 x.1, .int .u64 x.2]) H12 rfl (by simp [Value.oneCell']) fun w13 H13 => ?_
    have H13d := H13.drew
    have hC : ∀ {w'} {Y : List Pr}, Sat (Cells b11 E.t_stretch_One [.int .u64 x.1, .int .u64 x.2] :: Y) w' -> w'.cell? (Addr.mk b11 0 none) = some (.int .u64 x.1) /\ w'.cell? ((Addr.mk b11 0 none).add 1) = some (.int .u64 x.2) := fun h => ⟨h.cell0 rfl, h.cell rfl⟩
    have toC : ∀ {w'} {S' : HS}, Sat (hres E h S' g ++ (Cells b11 E.t_stretch_One [.int .u64 x.1, .int .u64 x.2] :: Row E.t_stretch_One 2 s' (flat l) :: Z)) w' -> Sat (Cells b11 E.t_stretch_One [.int .u64 x.1, .int .u64 x.2] :: (hres E h S' g ++ (Row E.t_stretch_One 2 s' (flat l) :: Z))) w' := fun {w' S'} h => h.perm List.perm_middle
    have ofC : ∀ {w'} {S' : HS}, Sat (Cells b11 E.t_stretch_One [.int .u64 x.1, .int .u64 x.2] :: (hres E h S' g ++ (Row E.t_stretch_One 2 s' (flat l) :: Z))) w' -> Sat (hres E h S' g ++ (Cells b11 E.t_stretch_One [.int .u64 x.1, .int .u64 x.2] :: Row E.t_stretch_One 2 s' (flat l) :: Z)) w' := fun {w' S'} q => Sat.addMid (hres E h S' g) q
    have H14 := ofC H13d
    refine ⟨_, (hcell (S := { S with T := partT S page (at_ - page) }) (g := g) H14).2.1, _, (hC H13d).1, ?_⟩
    rw [u64_id (n := x.1 - at_) (by omega) (by omega)]
    refine stepB ha0 x4 (by omega) (fun p q1 q2 hm => ?_) H14 fun r w18 H18 => ?_
    · obtain ⟨y, hy, y1, y2⟩ := (hmem p).2 ⟨hm, by omega, by omega⟩
      obtain ⟨j, hj⟩ := List.mem_iff_getElem?.1 hy
      rcases Nat.lt_trichotomy j i with g1 | g1 | g1
      · have := hlo j y g1 hj; omega
      · subst g1; rw [hx] at hj; cases hj; omega
      · have := hokW.lt g1 hx hj; omega
    have H18d := H18.drew
    refine ⟨(hC (toC H18)).1, _, (hcell (S := { S with T := partT S page (x.1 - page) }) (g := g) H18d).2.1, _, (hC (toC H18d)).1, _, (hC (toC H18d)).2, _, (hC (toC H18d)).1, ?_⟩
    rw [u64_id (n := x.2 - x.1) (by omega) (by omega)]
    refine stepG (by omega) x2 x3 (fun p q1 q2 => ((hmem p).1 ⟨x, List.mem_of_getElem? hx, q1, q2⟩).1) H18d fun r w25 H25 => ?_
    have H25c := toC H25
    refine ⟨(hC H25c).1, (hC H25c).2, _, (hC H25c).2, ?_⟩
    rw [i64_id (n := (i : Int) + 1) (by omega) (by omega)]
    refine ⟨⟨i + 1, by omega, by omega, by show page <= x.2; omega, x3, fun j q hj hq => ?_, fun j q hj hq => ?_, H25c.tail⟩, by show ((l.length : Int) - ((i : Int) + 1)).toNat < ((l.length : Int) - (i : Int)).toNat; omega⟩
    · rcases Nat.lt_or_eq_of_le (Nat.le_of_lt_succ hj) with g1 | g1
      · have := hlo j q g1 hq
        show q.2 <= x.2
        omega
      · subst g1; rw [hx] at hq; cases hq; exact Int.le_refl _
    · have := hokW.lt (show i < j by omega) hx hq
      show x.2 <= q.1
      omega
  · have e : i = l.length := by omega
    subst e
    refine ⟨_, (hcell (S := { S with T := partT S page (at_ - page) }) (g := g) H6).2.1, ?_⟩
    rw [u64_id (n := page + n - at_) (by omega) (by omega)]
    refine stepB ha0 ha1 (Int.le_refl _) (fun p q1 q2 hm => ?_) H6 fun r w30 H30 => ?_
    · obtain ⟨y, hy, y1, y2⟩ := (hmem p).2 ⟨hm, by omega, by omega⟩
      obtain ⟨j, hj⟩ := List.mem_iff_getElem?.1 hy
      have hjl : j < l.length := by
        obtain ⟨h1, _⟩ := List.getElem?_eq_some_iff.1 hj
        exact h1
      have := hlo j y hjl hj
      omega
    · rw [show page + n - page = n by omega] at H30
      exact hK hInv w30 (Sat.heap.2 ⟨g, ⟨hId.nd, hId.mem⟩, Sat.dropMid (hres E h (S.putback page n) g) H30⟩)
end
end Go.Sh

set_option linter.all false
set_option maxRecDepth 8000
set_option maxHeartbeats 2000000
namespace Go.Sh
def Taken (S : HS) (p n page : Int) (S1 : HS) : Prop :=
  Got S p n page S1 ∨ ∃ S0 S0', Tried S p n S0 /\ (∀ q, ¬ rowB S0.T.fr q n) /\ Grew S0 n S0' /\ firstB S0'.T n page /\ S1 = S0'.talloc page n
def allReady (S : HS) (page n : Int) : Prop := ∀ q, page <= q -> q < page + n -> mem S.V.ready q
def Made (S1 : HS) (page n : Int) (S2 : HS) : Prop := (allReady S1 page n /\ S2 = S1) ∨ (¬ allReady S1 page n /\ (∀ r, S1.V.rf ≠ true :: r) /\ S2 = { S1 with V := commitV S1.V page n })
def Found (S : HS) (p n page : Int) (S2 : HS) : Prop := ∃ S1, Taken S p n page S1 /\ Made S1 page n S2
def Lost (S : HS) (p n : Int) (S2 : HS) : Prop :=
  (∃ S0, Tried S p n S0 /\ (∀ q, ¬ rowB S0.T.fr q n) /\ NoGrow S0 n S2) ∨
  ∃ S1 page r, Taken S p n page S1 /\ ¬ allReady S1 page n /\ S1.V.rf = true :: r /\ S2 = ({ S1 with V := { S1.V with rf := r } } : HS).putback page n
section
variable {E : Env} {h : Nat} {S : HS} {Z : List Pr} {w : World} {g : HG}
theorem HInv.pgs {S : HS} {fl : Int -> Bool} (hI : HInv S fl) : 0 <= S.pages /\ S.pages <= 34359738368 := by
  rw [hI.pg]; exact cP_bnd _
theorem Sat.theMem (H : Sat (HeapP E h S :: Z) w) : ∃ m R, w.cell? (Addr.mk h 0 none) = some (.pointer (some ⟨m, 0, none⟩)) /\ Sat (VmemP E m S.V :: R) w /\
    ∀ {V' : VS} {w'}, Sat (VmemP E m V' :: R) w' -> Sat (HeapP E h { S with V := V' } :: Z) w' := by
  obtain ⟨g, hI, H⟩ := Sat.heap.1 H
  refine ⟨g.m, _, (hcell (S := S) (g := g) H).1, H.front 1 rfl, fun {V' w'} h' => Sat.heap.2 ⟨g, ⟨hI.nd, hI.mem⟩, ?_⟩⟩
  exact Sat.back (Ps := hres E h S g ++ Z) 1 h' (by simp [hres])
theorem Sat.theTree2 (H : Sat (HeapP E h S :: Z) w) : ∃ t R, w.cell? ((Addr.mk h 0 none).add 1) = some (.pointer (some ⟨t, 0, none⟩)) /\ Sat (TreeV E t S.T :: R) w /\
    ∀ {T' : TV} {w'}, Sat (TreeV E t T' :: R) w' -> Sat (HeapP E h { S with T := T' } :: Z) w' := by
  obtain ⟨g, hI, H⟩ := Sat.heap.1 H
  refine ⟨g.t, _, (hcell (S := S) (g := g) H).2.1, H.front 2 rfl, fun {V' w'} h' => Sat.heap.2 ⟨g, ⟨hI.nd, hI.mem⟩, ?_⟩⟩
  exact Sat.back (Ps := hres E h S g ++ Z) 2 h' (by simp [hres])
variable (hE : EnvA E)
include hE
theorem hfind_spec (hT : ∀ w', Sat Z w' -> TabAt E.g_math_bits_deBruijn64tab w') (H : Sat (HeapP E h S :: Z) w) (hI : HInv S no) {p n : Int} (n0 : 1 <= n) (n1 : n <= 134217728) {K : Int -> Int -> World -> Prop}
    (hk1 : ∀ page S2, Found S p n page S2 -> HInv S2 (inr page n) -> 0 <= page -> page + n <= 34359738368 -> allReady S2 page n -> ∀ w', Sat (HeapP E h S2 :: Z) w' -> K page 0 w')
    (hk0 : ∀ S2, Lost S p n S2 -> HInv S2 no -> ∀ w', Sat (HeapP E h S2 :: Z) w' -> K 0 13 w') : F.mheap_Heap_find E (some ⟨h, 0, none⟩) p n K w := by
  unfold F.mheap_Heap_find T0.mheap_Heap_find
  refine AL_cells (vs := [.pointer (some ⟨h, 0, none⟩)]) H fun b1 w2 H2 _ => AL_cells (vs := [.int .u64 n]) H2 fun b3 w4 H4 _ => AL_cells (vs := [.int .i64 0]) H4 fun b5 w6 H6 _ => ?_
  have H7 := H6.front 3 rfl
  have hC1 : ∀ {w'} {S' : HS} {x : Int} {Y : List Pr}, Sat (HeapP E h S' :: Cells b5 E.t_api_Errno [.int .i64 x] :: Cells b3 E.t_uint64 [.int .u64 n] :: Cells b1 E.t__mheap_Heap [.pointer (some ⟨h, 0, none⟩)] :: Y) w' ->
      w'.cell? (Addr.mk b1 0 none) = some (.pointer (some ⟨h, 0, none⟩)) /\ w'.cell? (Addr.mk b3 0 none) = some (.int .u64 n) /\ w'.cell? (Addr.mk b5 0 none) = some (.int .i64 x) := fun q => ⟨(q.front 3 rfl).cell0 rfl, (q.front 2 rfl).cell0 rfl, (q.front 1 rfl).cell0 rfl⟩
  have hst : ∀ {w'} {S' : HS} {x y : Int} {Y : List Pr} {K' : World -> Prop}, Sat (HeapP E h S' :: Cells b5 E.t_api_Errno [.int .i64 x] :: Cells b3 E.t_uint64 [.int .u64 n] :: Cells b1 E.t__mheap_Heap [.pointer (some ⟨h, 0, none⟩)] :: Y) w' ->
      (∀ w'', Sat (HeapP E h S' :: Cells b5 E.t_api_Errno [.int .i64 y] :: Cells b3 E.t_uint64 [.int .u64 n] :: Cells b1 E.t__mheap_Heap [.pointer (some ⟨h, 0, none⟩)] :: Y) w'' -> K' w'') -> stCells (Addr.mk b5 0 none) 0 [.int .i64 y] w' K' := fun {w' S' x y Y K'} q hq => by
    refine st_cell0 (q.front 1 rfl) (o := 0) rfl (by simp) fun w'' q' => hq w'' ?_
    exact q'.perm (.swap _ _ _)
  have hdone : ∀ {w'} {S' : HS} {x : Int}, Sat (HeapP E h S' :: Cells b5 E.t_api_Errno [.int .i64 x] :: Cells b3 E.t_uint64 [.int .u64 n] :: Cells b1 E.t__mheap_Heap [.pointer (some ⟨h, 0, none⟩)] :: Z) w' -> Sat (HeapP E h S' :: Z) w' := fun {w' S' x} q => by
    have q1 := (q.front 1 rfl).tail
    have q2 := (q1.front 1 rfl).tail
    exact (q2.front 1 rfl).tail
  have hT' : ∀ w', Sat (Cells b5 E.t_api_Errno [.int .i64 0] :: Cells b3 E.t_uint64 [.int .u64 n] :: Cells b1 E.t__mheap_Heap [.pointer (some ⟨h, 0, none⟩)] :: Z) w' -> TabAt E.g_math_bits_deBruijn64tab w' := fun w' q => hT w' q.tail.tail.tail
  refine ⟨_, (hC1 H7).1, _, (hC1 H7).2.1, ?_⟩
  have hrest : ∀ page S1, Taken S p n page S1 -> HInv S1 (inr page n) -> 0 <= page -> page + n <= 34359738368 -> ∀ x w14, Sat (HeapP E h S1 :: Cells b5 E.t_api_Errno [.int .i64 x] :: Cells b3 E.t_uint64 [.int .u64 n] :: Cells b1 E.t__mheap_Heap [.pointer (some ⟨h, 0, none⟩)] :: Z) w14 ->
    AL (.cells #[.int .u64 0] E.t_uint64) w14 fun b32 w33 =>
    stCells (Addr.mk b32 0 none) 0 [.int .u64 page] w33 fun w34 =>
    ∃ x35 : (Option Addr), w34.drew.cell? (Addr.mk b1 0 none) = some (.pointer x35) /\
    NC x35 fun p36 =>
    ∃ x37 : (Option Addr), w34.drew.cell? p36 = some (.pointer x37) /\
    ∃ x38 : Int, w34.drew.cell? (Addr.mk b3 0 none) = some (.int .u64 x38) /\
    F.vmem_Mem_Commit E x37 page x38 (fun r39 w40 =>
    w40.cell? (Addr.mk b1 0 none) = some (.pointer x35) /\
    CND ((r39 : Int) != 0) (
      stCells (Addr.mk b5 0 none) 0 [.int .i64 13] w40 fun w41 =>
      F.mheap_Heap_find_1 E (some (Addr.mk b5 0 none)) (some (Addr.mk b1 0 none)) (some (Addr.mk b32 0 none)) (some (Addr.mk b3 0 none)) (fun w42 =>
        ∃ x43 : Int, w42.cell? (Addr.mk b5 0 none) = some (.int .i64 x43) /\
        K 0 x43 w42
      ) w41
    ) (
      stCells (Addr.mk b5 0 none) 0 [.int .i64 0] w40 fun w44 =>
      F.mheap_Heap_find_1 E (some (Addr.mk b5 0 none)) (some (Addr.mk b1 0 none)) (some (Addr.mk b32 0 none)) (some (Addr.mk b3 0 none)) (fun w45 =>
        ∃ x46 : Int, w45.cell? (Addr.mk b5 0 none) = some (.int .i64 x46) /\
        K page x46 w45
      ) w44
    )
    ) w34.drew := by
    intro page S1 hk hI1 q0 q1 x w14 H14
    have hok1 := H14.hok
    refine AL_cells (vs := [.int .u64 0]) H14 fun b32 w33 H33 _ => st_cell0 H33 (o := 0) rfl (by simp) fun w34 H34 => ?_
    have H35 : Sat (HeapP E h S1 :: Cells b5 E.t_api_Errno [.int .i64 x] :: Cells b3 E.t_uint64 [.int .u64 n] :: Cells b1 E.t__mheap_Heap [.pointer (some ⟨h, 0, none⟩)] :: Cells b32 E.t_uint64 [.int .u64 page] :: Z) w34 := H34.perm ((perm_front (l := HeapP E h S1 :: Cells b5 E.t_api_Errno [.int .i64 x] :: Cells b3 E.t_uint64 [.int .u64 n] :: Cells b1 E.t__mheap_Heap [.pointer (some ⟨h, 0, none⟩)] :: Cells b32 E.t_uint64 [.int .u64 page] :: Z) (i := 4) rfl).symm)
    have H36 := H35.drew
    obtain ⟨m, R, c0, hm, hb⟩ := H36.theMem
    refine ⟨_, (hC1 H36).1, ?_⟩
    simp only [NC_some]
    refine ⟨_, c0, _, (hC1 H36).2.1, ?_⟩
    have hC32 : ∀ {w'} {S' : HS} {x : Int}, Sat (HeapP E h S' :: Cells b5 E.t_api_Errno [.int .i64 x] :: Cells b3 E.t_uint64 [.int .u64 n] :: Cells b1 E.t__mheap_Heap [.pointer (some ⟨h, 0, none⟩)] :: Cells b32 E.t_uint64 [.int .u64 page] :: Z) w' -> w'.cell? (Addr.mk b32 0 none) = some (.int .u64 page) := fun q => (q.front 4 rfl).cell0 rfl
    have hdone' : ∀ {w'} {S' : HS} {x : Int}, Sat (HeapP E h S' :: Cells b5 E.t_api_Errno [.int .i64 x] :: Cells b3 E.t_uint64 [.int .u64 n] :: Cells b1 E.t__mheap_Heap [.pointer (some ⟨h, 0, none⟩)] :: Cells b32 E.t_uint64 [.int .u64 page] :: Z) w' -> Sat (HeapP E h S' :: Z) w' := fun {w' S' x} q => by
      have q1 := (q.front 1 rfl).tail
      have q2 := (q1.front 1 rfl).tail
      have q3 := (q2.front 1 rfl).tail
      exact (q3.front 1 rfl).tail
    have hfl : ∀ q, page <= q -> q < page + n -> inr page n q = true := fun q a b => inr_iff.2 ⟨a, b⟩
    have hlaid : cnt S1.V.laid page (page + n) = n := by
      have := (cnt_full hok1.vv.ok1 (a := page) (b := page + n) (by omega)).2 fun q a b => (hI1.la q).2 (hI1.li q (hfl q a b))
      omega
    have hfull := cnt_full hok1.vv.ok2 (a := page) (b := page + n) (by omega)
    have hready : cnt S1.V.ready page (page + n) = n ↔ allReady S1 page n := ⟨fun e => hfull.1 (by omega), fun e => by have := hfull.2 e; omega⟩
    have same : ({ S1 with V := S1.V } : HS) = S1 := rfl
    have hgood : ∀ S2 w40, Made S1 page n S2 -> HInv S2 (inr page n) -> allReady S2 page n -> Sat (HeapP E h S2 :: Cells b5 E.t_api_Errno [.int .i64 x] :: Cells b3 E.t_uint64 [.int .u64 n] :: Cells b1 E.t__mheap_Heap [.pointer (some ⟨h, 0, none⟩)] :: Cells b32 E.t_uint64 [.int .u64 page] :: Z) w40 ->
        stCells (Addr.mk b5 0 none) 0 [.int .i64 0] w40 fun w44 =>
        F.mheap_Heap_find_1 E (some (Addr.mk b5 0 none)) (some (Addr.mk b1 0 none)) (some (Addr.mk b32 0 none)) (some (Addr.mk b3 0 none)) (fun w45 =>
          ∃ x46 : Int, w45.cell? (Addr.mk b5 0 none) = some (.int .i64 x46) /\
          K page x46 w45) w44 := by
      intro S2 w40 hm2 hI2 hr2 H40
      refine hst H40 fun w44 H44 => ?_
      unfold F.mheap_Heap_find_1 T0.mheap_Heap_find_1
      simp only [NC_some]
      exact ⟨_, (hC1 H44).2.2, CND_f rfl ⟨_, (hC1 H44).2.2, hk1 page S2 ⟨S1, hk, hm2⟩ hI2 q0 q1 hr2 w44 (hdone' H44)⟩⟩
    refine commit_spec hE.toEnvS hm q0 (by omega) (by omega) (by omega) (fun hbad => absurd ⟨by omega, q1⟩ hbad) (fun _ hl => absurd hlaid hl) (fun _ _ hr w40 hw40 => ?_) (fun _ _ hr r hrf w40 H40 => ?_) fun _ _ hr hrf w40 H40 => ?_
    · have H40 := H36.nothing hw40
      exact ⟨(hC1 H40).1, CND_f rfl (hgood S1 w40 (.inl ⟨hready.1 hr, rfl⟩) hI1 (hready.1 hr) H40)⟩
    · have H41 := hb H40
      refine ⟨(hC1 H41).1, CND_t rfl (hst H41 fun w42 H42 => ?_)⟩
      unfold F.mheap_Heap_find_1 T0.mheap_Heap_find_1
      simp only [NC_some]
      refine ⟨_, (hC1 H42).2.2, CND_t rfl ⟨_, (hC1 H42).1, _, hC32 H42, _, (hC1 H42).2.1, ?_⟩⟩
      have hI2 : HInv { S1 with V := { S1.V with rf := r } } (inr page n) := hI1.memV rfl rfl
      refine hback_spec hE H42 hI2 q0 n0 q1 fun hI3 w43 H43 => ⟨_, (hC1 H43).2.2, ?_⟩
      exact hk0 _ (.inr ⟨S1, page, r, hk, fun e => hr (hready.2 e), hrf, rfl⟩) hI3 w43 (hdone' H43)
    · have H41 := hb H40
      have hI2 : HInv { S1 with V := commitV S1.V page n } (inr page n) := hI1.commit hok1 q0 (by omega) q1 hfl
      exact ⟨(hC1 H41).1, CND_f rfl (hgood _ w40 (.inr ⟨fun e => hr (hready.2 e), hrf, rfl⟩) hI2 (commit_ready hok1 q0 (by omega) q1) H41)⟩
  refine hgot_spec hE hT' H7 hI n0 n1 (fun page S1 hg hI1 q0 q1 w11 H11 => JOIN_in (CND_f rfl fun j => hrest page S1 (.inl hg) hI1 q0 q1 0 w11 H11)) fun S0 ht hI0 hno w11 H11 => JOIN_in (CND_t rfl ⟨_, (hC1 H11).1, _, (hC1 H11).2.1, ?_⟩)
  refine hgrow_spec hE H11 hI0 n0 n1 (fun S0' hg hI1 hrow w18 H18 => ?_) fun S2 hng hI2 w18 H18 => ?_
  · refine hst H18 fun w19 H19 => ⟨_, (hC1 H19).2.2, CND_f rfl ?_⟩
    have H20 := H19.drew
    have hok1 := H20.hok
    obtain ⟨t, R, c1, ht1, hb⟩ := H20.theTree2
    refine ⟨_, (hC1 H20).1, ?_⟩
    simp only [NC_some]
    refine ⟨_, c1, _, (hC1 H20).2.1, ?_⟩
    refine valloc_sat hE.toEnvS ht1 (by omega) (by omega) (fun e => by omega) (fun _ hno2 w' H' => ?_) fun _ page hf w31 H31 => ?_
    · obtain ⟨a, ha⟩ := hrow
      exact absurd ha (hno2 a)
    · have H32 := hb H31
      exact ⟨(hC1 H32).1, fun j => hrest page (S0'.talloc page n) (.inr ⟨S0, S0', ht, hno, hg, hf, rfl⟩) (hI1.talloc hok1 hf.2.2.1) hf.1 hf.2.1 0 w31 H32⟩
  · refine hst H18 fun w19 H19 => ⟨_, (hC1 H19).2.2, CND_t rfl ?_⟩
    have H20 := H19.drew
    refine ⟨_, (hC1 H20).2.2, hst H20 fun w22 H22 => ⟨_, (hC1 H22).2.2, ?_⟩⟩
    exact hk0 S2 (.inl ⟨S0, ht, hno, hng⟩) hI2 w22 (hdone H22)
theorem hkeep_spec {page n : Int} {b : Nat} {I : SI} (H : Sat (SpanP E b I :: HeapP E h S :: Z) w) (hI : HInv S (inr page n)) (p0 : 0 <= page) (n0 : 1 <= n) (pb : page + n <= 34359738368) (hr : allReady S page n)
    (i1 : I.base = page * 8192) (i2 : I.pages = n) (i3 : I.state ≠ 0) {K : Int -> World -> Prop}
    (hK : ∀ id X, Next S id X -> HInv (S.keep id (b, I) page n X) no -> ∀ w', Sat (HeapP E h (S.keep id (b, I) page n X) :: Z) w' -> K id w') : F.mheap_Heap_keep E (some ⟨h, 0, none⟩) (some ⟨b, 0, none⟩) K w := by
  have hok := (H.front 1 rfl : Sat (HeapP E h S :: _) w).hok
  have hfb := hI.fb
  obtain ⟨g, hId, H0⟩ := Sat.heap.1 (H.front 1 rfl : Sat (HeapP E h S :: SpanP E b I :: Z) w)
  unfold F.mheap_Heap_keep T0.mheap_Heap_keep
  simp only [NC_some]
  refine ⟨_, (hcell (S := S) (g := g) H0).2.2.2.1, ?_⟩
  have hrest : ∀ id X, Next S id X -> ∀ w4, Sat (hres E h { S with fx := X } g ++ (SpanP E b I :: Z)) w4 ->
      ∃ x6 : (Option Nat), w4.cell? ((Addr.mk h 0 none).add 4) = some (.map x6) /\
      MUPD .i64 id (.pointer (some ⟨b, 0, none⟩)) x6 w4 fun w7 =>
      F.span_Span_Info E (some ⟨b, 0, none⟩) (fun r8 r9 r10 r11 r12 r13 r14 r15 r16 r17 w18 =>
      AL (.cells #[.int .u64 0, .int .i64 0, .int .i64 0, .int .i64 0, .bool false, .int .i64 0, .int .i64 0, .int .i64 0, .bool false, .bool false] E.t_api_Info) w18 fun b19 w20 =>
      stCells (Addr.mk b19 0 none) 0 [.int .u64 r8, .int .i64 r9, .int .i64 r10, .int .i64 r11, .bool r12, .int .i64 r13, .int .i64 r14, .int .i64 r15, .bool r16, .bool r17] w20 fun w21 =>
      ∃ x23 : (Option Addr), w21.drew.cell? ((Addr.mk h 0 none).add 2) = some (.pointer x23) /\
      ∃ x24 : Int, w21.drew.cell? (Addr.mk b19 0 none) = some (.int .u64 x24) /\
      8192 ≠ (0 : Int) /\
      ∃ x25 : Int, w21.drew.cell? ((Addr.mk b19 0 none).add 1) = some (.int .i64 x25) /\
      F.arena_Map_Set E x23 (u64 (Int.tdiv x24 8192)) (u64 (x25)) id (fun r26 w27 =>
      w27.cell? ((Addr.mk b19 0 none).add 1) = some (.int .i64 x25) /\
      w27.cell? (Addr.mk b19 0 none) = some (.int .u64 x24) /\
      ∃ x29 : Int, w27.drew.cell? ((Addr.mk h 0 none).add 70) = some (.int .u64 x29) /\
      ∃ x30 : Int, w27.drew.cell? ((Addr.mk b19 0 none).add 1) = some (.int .i64 x30) /\
      stCells ((Addr.mk h 0 none).add 70) 0 [.int .u64 (u64 (x29 + (u64 (x30))))] w27.drew fun w32 =>
      K id w32
      ) w21.drew
      ) w7 := by
    intro id X hX w4 H4
    obtain ⟨hid, hnone, hlive⟩ := hX.live hok hI
    refine ⟨_, (hcell (S := { S with fx := X }) (g := g) H4).2.2.2.2.1, MUPD_sl (H4.front 5 rfl) fun w7 H7 => ?_⟩
    have e : (fun i => if i = id then some (Value.pointer (some ⟨b, 0, none⟩)) else spMap S.sp i) = spMap fun i => if i = id then some (b, I) else S.sp i := funext fun i => by
      unfold spMap
      by_cases q : i = id
      · dsimp only; rw [if_pos q, if_pos q]; rfl
      · dsimp only; rw [if_neg q, if_neg q]
    have H7' : Sat (MapF g.sm .i64 (fun i => if i = id then some (Value.pointer (some ⟨b, 0, none⟩)) else spMap S.sp i) :: (hres E h { S with fx := X } g ++ (SpanP E b I :: Z)).eraseIdx 5) w7 := H7
    rw [e] at H7'
    have H8 : Sat (SpanP E b I :: MapF g.sm .i64 (spMap fun i => if i = id then some (b, I) else S.sp i) :: [Cells h E.t_mheap_Heap (hcells g S.hint S.pages), VmemP E g.m S.V, TreeV E g.t S.T, ArenaP E g.a S.ks S.own, FixP E g.f X, Many (spR E S.sp) g.ids, Many (fun i : Nat => CacheP E (g.cb i) (S.ca i)) (List.range 64)] ++ Z) w7 :=
      H7'.front 8 rfl
    refine spinfo_spec H8 fun w18 H18 => ?_
    refine AL_cells (vs := [.int .u64 0, .int .i64 0, .int .i64 0, .int .i64 0, .bool false, .int .i64 0, .int .i64 0, .int .i64 0, .bool false, .bool false]) H18 fun b19 w20 H20 _ => ?_
    refine st_all (news := [.int .u64 I.base, .int .i64 I.pages, .int .i64 I.state, .int .i64 I.cls, .bool I.noptr, .int .i64 I.elem, .int .i64 I.slots, .int .i64 I.used, .bool I.f8, .bool I.f9]) H20 rfl (by simp [Value.oneCell']) fun w21 H21 => ?_
    have hids : id ∉ g.ids := fun q => (hId.mem id).1 q hnone
    have hMany : Many (spR E S.sp) g.ids = Many (spR E fun i => if i = id then some (b, I) else S.sp i) g.ids := Many.congr fun i hi => by
      unfold spR
      dsimp only
      rw [if_neg fun q => hids (by rw [<- q]; exact hi)]
    have hone : SpanP E b I = spR E (fun i => if i = id then some (b, I) else S.sp i) id := by unfold spR; dsimp only; rw [if_pos rfl]
    generalize hsp : (fun i => if i = id then some (b, I) else S.sp i) = sp' at H21 hMany hone
    have H22 : Sat (Cells b19 E.t_api_Info [.int .u64 I.base, .int .i64 I.pages, .int .i64 I.state, .int .i64 I.cls, .bool I.noptr, .int .i64 I.elem, .int .i64 I.slots, .int .i64 I.used, .bool I.f8, .bool I.f9] :: (hres E h { S with fx := X, sp := sp' } { g with ids := id :: g.ids } ++ Z)) w21 := by
      rw [hMany, hone] at H21
      have q1 : Sat (spR E sp' id :: Many (spR E sp') g.ids :: [Cells b19 E.t_api_Info [.int .u64 I.base, .int .i64 I.pages, .int .i64 I.state, .int .i64 I.cls, .bool I.noptr, .int .i64 I.elem, .int .i64 I.slots, .int .i64 I.used, .bool I.f8, .bool I.f9], MapF g.sm .i64 (spMap sp'), Cells h E.t_mheap_Heap (hcells g S.hint S.pages), VmemP E g.m S.V, TreeV E g.t S.T, ArenaP E g.a S.ks S.own, FixP E g.f X, Many (fun i : Nat => CacheP E (g.cb i) (S.ca i)) (List.range 64)] ++ Z) w21 :=
        (H21.front 1 rfl).front2 7 rfl
      have q2 := Sat.manyCons.2 q1
      refine q2.perm ?_
      show List.Perm _ (Cells b19 E.t_api_Info [.int .u64 I.base, .int .i64 I.pages, .int .i64 I.state, .int .i64 I.cls, .bool I.noptr, .int .i64 I.elem, .int .i64 I.slots, .int .i64 I.used, .bool I.f8, .bool I.f9] :: ([Cells h E.t_mheap_Heap (hcells g S.hint S.pages), VmemP E g.m S.V, TreeV E g.t S.T, ArenaP E g.a S.ks S.own, FixP E g.f X, MapF g.sm .i64 (spMap sp'), Many (spR E sp') (id :: g.ids), Many (fun i : Nat => CacheP E (g.cb i) (S.ca i)) (List.range 64)] ++ Z))
      refine List.Perm.trans (.swap _ _ _) (.cons _ ?_)
      refine List.Perm.append_right (l₁ := [Many (spR E sp') (id :: g.ids), MapF g.sm .i64 (spMap sp'), Cells h E.t_mheap_Heap (hcells g S.hint S.pages), VmemP E g.m S.V, TreeV E g.t S.T, ArenaP E g.a S.ks S.own, FixP E g.f X, Many (fun i : Nat => CacheP E (g.cb i) (S.ca i)) (List.range 64)]) Z ?_
      refine List.Perm.trans (.swap _ _ _) ?_
      refine List.Perm.trans (List.perm_middle (a := MapF g.sm .i64 (spMap sp')) (l₁ := []) |>.symm) ?_
      have p1 : List.Perm (MapF g.sm .i64 (spMap sp') :: Many (spR E sp') (id :: g.ids) :: ([Cells h E.t_mheap_Heap (hcells g S.hint S.pages), VmemP E g.m S.V, TreeV E g.t S.T, ArenaP E g.a S.ks S.own, FixP E g.f X] ++ [Many (fun i : Nat => CacheP E (g.cb i) (S.ca i)) (List.range 64)])) ([Cells h E.t_mheap_Heap (hcells g S.hint S.pages), VmemP E g.m S.V, TreeV E g.t S.T, ArenaP E g.a S.ks S.own, FixP E g.f X] ++ (MapF g.sm .i64 (spMap sp') :: Many (spR E sp') (id :: g.ids) :: [Many (fun i : Nat => CacheP E (g.cb i) (S.ca i)) (List.range 64)])) := by
        refine List.Perm.trans (.cons _ List.perm_middle.symm) ?_
        exact List.perm_middle.symm
      exact p1
    have H23 := H22.drew
    have hB : ∀ {w'} {Y : List Pr}, Sat (Cells b19 E.t_api_Info [.int .u64 I.base, .int .i64 I.pages, .int .i64 I.state, .int .i64 I.cls, .bool I.noptr, .int .i64 I.elem, .int .i64 I.slots, .int .i64 I.used, .bool I.f8, .bool I.f9] :: Y) w' -> w'.cell? (Addr.mk b19 0 none) = some (.int .u64 I.base) /\ w'.cell? ((Addr.mk b19 0 none).add 1) = some (.int .i64 I.pages) := fun q => ⟨q.cell0 rfl, q.cell rfl⟩
    have hA := (hcell (S := { S with fx := X, sp := sp' }) (g := { g with ids := id :: g.ids }) H23.tail).2.2.1
    refine ⟨_, hA, _, (hB H23).1, by decide, _, (hB H23).2, ?_⟩
    have e1 : u64 (Int.tdiv I.base 8192) = page := by rw [i1, Int.tdiv_eq_ediv_of_nonneg (by omega), show page * 8192 / 8192 = page by omega, u64_id (by omega) (by omega)]
    have e2 : u64 I.pages = n := by rw [i2, u64_id (by omega) (by omega)]
    rw [e1, e2]
    have H24 := H23.front 4 rfl
    refine aset_sat hE H24 p0 (by omega) (by omega) (by omega) ⟨by omega, by omega, pb, fun q q1 q2 => (hI.ks q).2 (hI.li q (inr_iff.2 ⟨q1, q2⟩))⟩ fun w27 H27 => ?_
    have H28 : Sat (Cells b19 E.t_api_Info [.int .u64 I.base, .int .i64 I.pages, .int .i64 I.state, .int .i64 I.cls, .bool I.noptr, .int .i64 I.elem, .int .i64 I.slots, .int .i64 I.used, .bool I.f8, .bool I.f9] :: (hres E h { S with fx := X, sp := sp', own := fun p => if page <= p /\ p < page + n then id else S.own p } { g with ids := id :: g.ids } ++ Z)) w27 :=
      Sat.back (Ps := Cells b19 E.t_api_Info [.int .u64 I.base, .int .i64 I.pages, .int .i64 I.state, .int .i64 I.cls, .bool I.noptr, .int .i64 I.elem, .int .i64 I.slots, .int .i64 I.used, .bool I.f8, .bool I.f9] :: (hres E h { S with fx := X, sp := sp' } { g with ids := id :: g.ids } ++ Z)) 4 H27 (by simp [hres])
    have H29 := H28.drew
    have hP := (hcell (S := { S with fx := X, sp := sp', own := fun p => if page <= p /\ p < page + n then id else S.own p }) (g := { g with ids := id :: g.ids }) H29.tail).2.2.2.2.2.2.1
    refine ⟨(hB H28).2, (hB H28).1, _, hP, _, (hB H29).2, ?_⟩
    rw [e2]
    have hpg := hI.pg
    have hcb := cP_bnd fun p => decide (0 < S.own p)
    show stCells _ 0 [.int .u64 (u64 (S.pages + n))] _ _
    rw [u64_id (n := S.pages + n) (by omega) (by omega)]
    refine st_cell H29.tail (o := 0) (m := 70) rfl (by rw [hc_len]; decide) fun w32 H32 => ?_
    rw [Nat.zero_add, hc_setPages] at H32
    have hInv := hI.keep hok p0 (by omega) pb hr hX (x := (b, I)) i1 i2 i3
    refine hK id X hX hInv w32 (Sat.heap.2 ⟨{ g with ids := id :: g.ids }, ⟨List.nodup_cons.2 ⟨hids, hId.nd⟩, fun i => ?_⟩, ?_⟩)
    · show i ∈ id :: g.ids ↔ (if i = id then some (b, I) else S.sp i) ≠ none
      rw [List.mem_cons, hId.mem]
      by_cases q : i = id
      · rw [if_pos q]; exact ⟨fun _ h => (by cases h), fun _ => .inl q⟩
      · rw [if_neg q]; exact ⟨fun h => h.elim (fun h => absurd h q) fun h => h, .inr⟩
    · subst hsp
      exact H32
  have bk : ∀ {X : FX} {w'}, Sat (FixP E g.f X :: (hres E h S g ++ (SpanP E b I :: Z)).eraseIdx 4) w' -> Sat (hres E h { S with fx := X } g ++ (SpanP E b I :: Z)) w' := fun {X w'} q => Sat.back (Ps := hres E h S g ++ (SpanP E b I :: Z)) 4 q (by simp [hres])
  refine ftake_spec (H0.front 4 rfl) (by omega) (fun hb w4 H4 => ?_) fun a r hb w4 H4 => ?_
  · exact hrest _ _ (.inl ⟨hb, rfl, rfl⟩) w4 (bk H4)
  · exact hrest _ _ (.inr ⟨a, r, hb, rfl, rfl⟩) w4 (bk H4)
theorem halloc_spec (hT : ∀ w', Sat Z w' -> TabAt E.g_math_bits_deBruijn64tab w') (H : Sat (HeapP E h S :: Z) w) (hI : HInv S no) {p n c : Int} {np : Bool} (n0 : 0 <= n) (n1 : n < 18446744073709551616) {K : Int -> Int -> World -> Prop}
    (hk0 : spBad 0 n c -> ∀ w', Sat (HeapP E h S :: Z) w' -> K 0 1 w')
    (hk1 : ¬ spBad 0 n c -> ∀ S2, Lost S p n S2 -> HInv S2 no -> ∀ w', Sat (HeapP E h S2 :: Z) w' -> K 0 13 w')
    (hk2 : ¬ spBad 0 n c -> ∀ page S2 b id X, Found S p n page S2 -> HInv S2 (inr page n) -> 0 <= page -> page + n <= 34359738368 -> Next S2 id X -> HInv (S2.keep id (b, spOf page n c np) page n X) no -> ∀ w', Sat (HeapP E h (S2.keep id (b, spOf page n c np) page n X) :: Z) w' -> K id 0 w') :
    F.mheap_Heap_Alloc E (some ⟨h, 0, none⟩) p n c np K w := by
  unfold F.mheap_Heap_Alloc T0.mheap_Heap_Alloc
  refine spnew_spec H (by decide) n0 n1 (fun hb w' H' => CND_t rfl (hk0 hb w' H')) fun hgood b0 w3 H3 => CND_f rfl ?_
  have hg := hgood
  unfold spBad at hg
  have hn : 1 <= n /\ n <= 134217728 := by
    by_cases e : c = 0
    · omega
    · have hcb := cls_bnd (c := c) (by omega) (by omega)
      omega
  refine hfind_spec hE hT H3.tail hI hn.1 hn.2 (fun page S2 hf hI2 q0 q1 hr w6 H6 => CND_f rfl ?_) fun S2 hl hI2 w6 H6 => CND_t rfl (hk1 hgood S2 hl hI2 w6 H6)
  refine spnew_spec H6 q0 n0 n1 (fun hb w' H' => ?_) fun _ b w9 H9 => ?_
  · exfalso
    unfold spBad at hb
    omega
  · refine hkeep_spec hE H9 hI2 q0 hn.1 q1 hr rfl rfl (by show (1 : Int) ≠ 0; decide) fun id X hX hI3 w11 H11 => hk2 hgood page S2 b id X hf hI2 q0 q1 hX hI3 w11 H11
theorem hfree_spec (H : Sat (HeapP E h S :: Z) w) (hI : HInv S no) {id : Int} {K : Int -> World -> Prop} (hk0 : S.sp id = none -> K 35 w) (hk1 : ∀ x, S.sp id = some x -> 0 < x.2.used -> K 33 w)
    (hk2 : ∀ x, ∀ a : Nat, S.sp id = some x -> ¬ 0 < x.2.used -> id = (a : Int) + 1 -> HInv (S.free a (x.2.base / 8192) x.2.pages) no -> ∀ w', Sat (HeapP E h (S.free a (x.2.base / 8192) x.2.pages) :: Z) w' -> K 0 w') :
    F.mheap_Heap_Free E (some ⟨h, 0, none⟩) id K w := by
  have hok := H.hok
  obtain ⟨g, hId, H⟩ := Sat.heap.1 H
  unfold F.mheap_Heap_Free T0.mheap_Heap_Free
  simp only [NC_some]
  refine ⟨_, (hcell (S := S) (g := g) H).2.2.2.2.1, LKP_sl (H.front 5 rfl) fun es _ => ?_⟩
  unfold spMap
  cases hs : S.sp id with
  | none => exact ⟨none, rfl, CND_t rfl (hk0 hs)⟩
  | some x =>
    refine ⟨some ⟨x.1, 0, none⟩, rfl, CND_f rfl ?_⟩
    obtain ⟨a, rfl, ha1, ha2⟩ := (hI.sf id).1 (by rw [hs]; exact fun h => (by cases h))
    obtain ⟨k1, k2, k3, k4, k5⟩ := hI.sp _ x hs
    have hInv := hI.free hok hs
    have hm : (a : Int) + 1 ∈ g.ids := (hId.mem _).2 (by rw [hs]; exact fun h => (by cases h))
    obtain ⟨i, hi⟩ := List.mem_iff_getElem?.1 hm
    have H1 := (H.front 6 rfl).manyGet hi
    have e : spR E S.sp ((a : Int) + 1) = SpanP E x.1 x.2 := by unfold spR; rw [hs]
    rw [e] at H1
    refine spdie_spec H1 (fun hbad => ?_) fun hgood w8 H8 => CND_f rfl ?_
    · rcases hbad with q | q
      · exact absurd q k4
      · exact CND_t rfl (hk1 x hs q)
    refine spinfo_spec H8 fun w19 H19 => ?_
    have H20 := H19.tail
    have hpage : ∀ q, x.2.base / 8192 <= q -> q < x.2.base / 8192 + x.2.pages -> S.own q = (a : Int) + 1 := k5
    have hown := hI.ow (x.2.base / 8192) (by rw [hpage _ (by omega) (by omega)]; exact k1)
    have hown2 := hI.ow (x.2.base / 8192 + x.2.pages - 1) (by rw [hpage _ (by omega) (by omega)]; exact k1)
    have l0 := hok.tv.lim _ hown.1
    have l1 := hok.tv.lim _ hown2.1
    generalize hsp : (fun i => if i = (a : Int) + 1 then none else S.sp i) = sp'
    have hnd : (a : Int) + 1 ∉ g.ids.eraseIdx i := fun q => by
      have hnd := (perm_front hi).nodup_iff.1 hId.nd
      exact (List.nodup_cons.1 hnd).1 q
    have hMany : Many (spR E S.sp) (g.ids.eraseIdx i) = Many (spR E sp') (g.ids.eraseIdx i) := Many.congr fun j hj => by
      rw [<- hsp]
      unfold spR
      dsimp only
      rw [if_neg fun q => hnd (by rw [<- q]; exact hj)]
    rw [hMany] at H20
    have H21 : Sat ([Cells h E.t_mheap_Heap (hcells g S.hint S.pages), VmemP E g.m S.V, TreeV E g.t S.T, ArenaP E g.a S.ks S.own, FixP E g.f S.fx, MapF g.sm .i64 (spMap S.sp), Many (spR E sp') (g.ids.eraseIdx i), Many (fun i : Nat => CacheP E (g.cb i) (S.ca i)) (List.range 64)] ++ Z) w19 :=
      Sat.back (Ps := [Cells h E.t_mheap_Heap (hcells g S.hint S.pages), VmemP E g.m S.V, TreeV E g.t S.T, ArenaP E g.a S.ks S.own, FixP E g.f S.fx, MapF g.sm .i64 (spMap S.sp), Emp, Many (fun i : Nat => CacheP E (g.cb i) (S.ca i)) (List.range 64)] ++ Z) 6 H20 (by simp)
    refine AL_cells (vs := [.int .u64 0, .int .i64 0, .int .i64 0, .int .i64 0, .bool false, .int .i64 0, .int .i64 0, .int .i64 0, .bool false, .bool false]) H21 fun b20 w21 H21 _ => ?_
    refine st_all (news := [.int .u64 x.2.base, .int .i64 x.2.pages, .int .i64 0, .int .i64 x.2.cls, .bool x.2.noptr, .int .i64 x.2.elem, .int .i64 x.2.slots, .int .i64 0, .bool x.2.f8, .bool x.2.f9]) H21 rfl (by simp [Value.oneCell']) fun w22 H22 => ?_
    have H23 := H22.drew
    have hh : ∀ {w'} {S' : HS} {Y : List Pr}, Sat (Cells h E.t_mheap_Heap (hcells g S'.hint S'.pages) :: Y) w' -> w'.cell? ((Addr.mk h 0 none).add 1) = some (.pointer (some ⟨g.t, 0, none⟩)) /\ w'.cell? ((Addr.mk h 0 none).add 2) = some (.pointer (some ⟨g.a, 0, none⟩)) /\ w'.cell? ((Addr.mk h 0 none).add 3) = some (.pointer (some ⟨g.f, 0, none⟩)) /\ w'.cell? ((Addr.mk h 0 none).add 4) = some (.map (some g.sm)) /\ w'.cell? ((Addr.mk h 0 none).add 70) = some (.int .u64 S'.pages) := fun {w' S' Y} q =>
      ⟨(hcell (S := S') (g := g) q).2.1, (hcell (S := S') (g := g) q).2.2.1, (hcell (S := S') (g := g) q).2.2.2.1, (hcell (S := S') (g := g) q).2.2.2.2.1, (hcell (S := S') (g := g) q).2.2.2.2.2.2.1⟩
    refine ⟨_, H23.cell0 rfl, by decide, _, H23.cell rfl, _, (hh (S' := S) H23.tail).2.1, ?_⟩
    have e1 : u64 (Int.tdiv x.2.base 8192) = x.2.base / 8192 := by rw [Int.tdiv_eq_ediv_of_nonneg (by omega), u64_id (by omega) (by omega)]
    have e2 : u64 x.2.pages = x.2.pages := u64_id (by omega) (by omega)
    simp only [e1, e2]
    generalize hpg : x.2.base / 8192 = page at *
    generalize hn : x.2.pages = n at *
    have H24 := H23.tail
    refine aset_sat hE (H24.front 3 rfl) l0.1 (by omega) (by omega) (by omega) ⟨by omega, Int.le_refl 0, by omega, fun q q1 q2 => (hI.ks q).2 (hI.ow q (by rw [hpage q q1 q2]; exact k1)).1⟩ fun w28 H28 => ?_
    have H29 : Sat ([Cells h E.t_mheap_Heap (hcells g S.hint S.pages), VmemP E g.m S.V, TreeV E g.t S.T, ArenaP E g.a S.ks (fun p => if page <= p /\ p < page + n then 0 else S.own p), FixP E g.f S.fx, MapF g.sm .i64 (spMap S.sp), Many (spR E sp') (g.ids.eraseIdx i), Many (fun i : Nat => CacheP E (g.cb i) (S.ca i)) (List.range 64)] ++ Z) w28 :=
      Sat.back (Ps := [Cells h E.t_mheap_Heap (hcells g S.hint S.pages), VmemP E g.m S.V, TreeV E g.t S.T, ArenaP E g.a S.ks S.own, FixP E g.f S.fx, MapF g.sm .i64 (spMap S.sp), Many (spR E sp') (g.ids.eraseIdx i), Many (fun i : Nat => CacheP E (g.cb i) (S.ca i)) (List.range 64)] ++ Z) 3 H28 (by simp)
    refine ⟨_, (hh (S' := S) H29).1, ?_⟩
    refine vgive_sat hE.toEnvS (H29.front 2 rfl) l0.1 (by omega) (by omega) (by omega) (fun hb w' H' => ?_) (fun _ hex w' H' => ?_) fun _ _ w32 H32 => ?_
    · exact absurd ⟨by omega, by omega, fun m q1 q2 => (hI.ow m (by rw [hpage m q1 q2]; exact k1)).1⟩ hb
    · obtain ⟨m, q1, q2, q3⟩ := hex
      have := (hI.ow m (by rw [hpage m q1 q2]; exact k1)).2.1
      rw [this] at q3; cases q3
    have H33 : Sat ([Cells h E.t_mheap_Heap (hcells g S.hint S.pages), VmemP E g.m S.V, TreeV E g.t (S.T.give page n), ArenaP E g.a S.ks (fun p => if page <= p /\ p < page + n then 0 else S.own p), FixP E g.f S.fx, MapF g.sm .i64 (spMap S.sp), Many (spR E sp') (g.ids.eraseIdx i), Many (fun i : Nat => CacheP E (g.cb i) (S.ca i)) (List.range 64)] ++ Z) w32 :=
      Sat.back (Ps := [Cells h E.t_mheap_Heap (hcells g S.hint S.pages), VmemP E g.m S.V, TreeV E g.t S.T, ArenaP E g.a S.ks (fun p => if page <= p /\ p < page + n then 0 else S.own p), FixP E g.f S.fx, MapF g.sm .i64 (spMap S.sp), Many (spR E sp') (g.ids.eraseIdx i), Many (fun i : Nat => CacheP E (g.cb i) (S.ca i)) (List.range 64)] ++ Z) 2 H32 (by simp)
    refine ⟨_, (hh (S' := S) H33).2.2.1, fgive_spec (H33.front 4 rfl) ha1 ha2 fun w36 H36 => ?_⟩
    have H37 : Sat ([Cells h E.t_mheap_Heap (hcells g S.hint S.pages), VmemP E g.m S.V, TreeV E g.t (S.T.give page n), ArenaP E g.a S.ks (fun p => if page <= p /\ p < page + n then 0 else S.own p), FixP E g.f ⟨S.fx.n, a :: S.fx.bk⟩, MapF g.sm .i64 (spMap S.sp), Many (spR E sp') (g.ids.eraseIdx i), Many (fun i : Nat => CacheP E (g.cb i) (S.ca i)) (List.range 64)] ++ Z) w36 :=
      Sat.back (Ps := [Cells h E.t_mheap_Heap (hcells g S.hint S.pages), VmemP E g.m S.V, TreeV E g.t (S.T.give page n), ArenaP E g.a S.ks (fun p => if page <= p /\ p < page + n then 0 else S.own p), FixP E g.f S.fx, MapF g.sm .i64 (spMap S.sp), Many (spR E sp') (g.ids.eraseIdx i), Many (fun i : Nat => CacheP E (g.cb i) (S.ca i)) (List.range 64)] ++ Z) 4 H36 (by simp)
    have hp0 : 0 <= S.pages - n /\ S.pages - n < 18446744073709551616 := by
      have h1 := hInv.pgs
      rw [show (S.free a page n).pages = S.pages - n from rfl] at h1
      omega
    refine ⟨_, (hh (S' := S) H37).2.2.2.2, ?_⟩
    rw [u64_id (n := S.pages - n) hp0.1 hp0.2]
    refine st_cell H37 (o := 0) (m := 70) rfl (by rw [hc_len]; decide) fun w40 H40 => ?_
    rw [Nat.zero_add, hc_setPages] at H40
    refine ⟨_, (hh (S' := { S with pages := S.pages - n }) H40).2.2.2.1, MDEL_sl (H40.front 5 rfl) fun w43 H43 => ?_⟩
    have hk3 := hk2 x a hs (fun q => hgood (.inr q)) rfl
    rw [hpg, hn] at hk3
    refine hk3 hInv w43 (Sat.heap.2 ⟨{ g with ids := g.ids.eraseIdx i }, ⟨?_, fun j => ?_⟩, ?_⟩)
    · exact (List.nodup_cons.1 ((perm_front hi).nodup_iff.1 hId.nd)).2
    · show j ∈ g.ids.eraseIdx i ↔ (if j = (a : Int) + 1 then none else S.sp j) ≠ none
      by_cases q : j = (a : Int) + 1
      · rw [if_pos q, q]; exact ⟨fun h => absurd h hnd, fun h => absurd rfl h⟩
      · rw [if_neg q, <- hId.mem]
        have := (perm_front hi).mem_iff (a := j)
        rw [this, List.mem_cons]
        exact ⟨.inr, fun h => h.elim (fun h => absurd h q) fun h => h⟩
    · have em : (fun i => if i = (a : Int) + 1 then none else spMap S.sp i) = spMap sp' := funext fun j => by
        rw [<- hsp]
        unfold spMap
        by_cases q : j = (a : Int) + 1
        · dsimp only; rw [if_pos q, if_pos q]; rfl
        · dsimp only; rw [if_neg q, if_neg q]
      have H44 : Sat (MapF g.sm .i64 (fun i => if i = (a : Int) + 1 then none else spMap S.sp i) :: ([Cells h E.t_mheap_Heap (hcells g S.hint (S.pages - n)), VmemP E g.m S.V, TreeV E g.t (S.T.give page n), ArenaP E g.a S.ks (fun p => if page <= p /\ p < page + n then 0 else S.own p), FixP E g.f ⟨S.fx.n, a :: S.fx.bk⟩, MapF g.sm .i64 (spMap S.sp), Many (spR E sp') (g.ids.eraseIdx i), Many (fun i : Nat => CacheP E (g.cb i) (S.ca i)) (List.range 64)] ++ Z).eraseIdx 5) w43 := H43
      rw [em] at H44
      have H45 := Sat.back (Ps := [Cells h E.t_mheap_Heap (hcells g S.hint (S.pages - n)), VmemP E g.m S.V, TreeV E g.t (S.T.give page n), ArenaP E g.a S.ks (fun p => if page <= p /\ p < page + n then 0 else S.own p), FixP E g.f ⟨S.fx.n, a :: S.fx.bk⟩, MapF g.sm .i64 (spMap S.sp), Many (spR E sp') (g.ids.eraseIdx i), Many (fun i : Nat => CacheP E (g.cb i) (S.ca i)) (List.range 64)] ++ Z) 5 H44 (by simp)
      subst hsp
      exact H45
end
end Go.Sh
