/- What the law's functions do. No further condition. -/
import Derived.Test.YthhljkidhpnccaaGreatDoorL
import Derived.Test.YthhljkidhpnccaaGreatDoorQ
import Derived.Test.YthhljkidhpnccaaGreatDoorH
set_option linter.all false
set_option maxRecDepth 8000
set_option maxHeartbeats 4000000
namespace Go.Sh
structure ST where
  S : HS
  row : Nat -> List Int
  pool : Nat -> Int -> Bool
  out : Int -> Option Int
structure SG where
  sl : Nat -> SlV
  pb : Nat -> Nat
  ob : Nat
def stcells (h : Nat) (sl : Nat -> SlV) (pb : Nat -> Nat) (ob : Nat) : List Value :=
  .pointer (some ⟨h, 0, none⟩) :: (((List.range 256).map fun k => slV (sl k)) ++ ((List.range 4).map fun o => Value.map (some (pb o))) ++ [.map (some ob)])
def poolM (sp : Int -> Option (Nat × SI)) (p : Int -> Bool) : Int -> Option Value := fun id => if p id = true then (sp id).map fun x => .pointer (some ⟨x.1, 0, none⟩) else none
def outM (o : Int -> Option Int) : Int -> Option Value := fun a => (o a).map fun n => .int .u64 n
def rowR (E : Env) (sl : Nat -> SlV) (row : Nat -> List Int) (k : Nat) : Pr := Row E.t_uint64 1 (sl k) (ints .u64 (row k))
def poolR (sp : Int -> Option (Nat × SI)) (pb : Nat -> Nat) (pool : Nat -> Int -> Bool) (o : Nat) : Pr := MapF (pb o) .i64 (poolM sp (pool o))
def stres (E : Env) (b h : Nat) (T : ST) (g : SG) : List Pr :=
  [Cells b E.t_stack_Stacks (stcells h g.sl g.pb g.ob), HeapP E h T.S, Many (rowR E g.sl T.row) (List.range 256), Many (poolR T.S.sp g.pb T.pool) (List.range 4), MapF g.ob .u64 (outM T.out)]
theorem sc_len (h : Nat) (sl : Nat -> SlV) (pb : Nat -> Nat) (ob : Nat) : (stcells h sl pb ob).length = 262 := by simp [stcells]
theorem sc_row (h : Nat) (sl : Nat -> SlV) (pb : Nat -> Nat) (ob : Nat) {k : Nat} (hk : k < 256) : (stcells h sl pb ob)[k + 1]? = some (slV (sl k)) := by
  unfold stcells
  rw [List.getElem?_cons_succ, List.append_assoc, List.getElem?_append_left (by simpa using hk)]
  simp [hk]
theorem sc_pool (h : Nat) (sl : Nat -> SlV) (pb : Nat -> Nat) (ob : Nat) {o : Nat} (ho : o < 4) : (stcells h sl pb ob)[257 + o]? = some (.map (some (pb o))) := by
  unfold stcells
  rw [show 257 + o = (256 + o) + 1 by omega, List.getElem?_cons_succ, List.append_assoc, List.getElem?_append_right (by simp), List.getElem?_append_left (by simp; omega)]
  simp [ho]
theorem sc_out (h : Nat) (sl : Nat -> SlV) (pb : Nat -> Nat) (ob : Nat) : (stcells h sl pb ob)[261]? = some (.map (some ob)) := by
  unfold stcells
  rw [show 261 = 260 + 1 from rfl, List.getElem?_cons_succ, List.getElem?_append_right (by simp)]
  simp
theorem map_set {α : Type} (f : Nat -> α) (n k : Nat) (v : α) : ((List.range n).map f).set k v = (List.range n).map fun j => if j = k then v else f j := by
  refine List.ext_getElem (by simp) fun i h1 h2 => ?_
  simp only [List.length_set, List.length_map, List.length_range] at h1
  simp only [List.getElem_set, List.getElem_map, List.getElem_range]
  by_cases e : k = i
  · rw [if_pos e, if_pos e.symm]
  · rw [if_neg e, if_neg (fun h => e h.symm)]
theorem sc_set (h : Nat) (sl : Nat -> SlV) (pb : Nat -> Nat) (ob : Nat) {k : Nat} (hk : k < 256) (s : SlV) : (stcells h sl pb ob).set (k + 1) (slV s) = stcells h (fun j => if j = k then s else sl j) pb ob := by
  unfold stcells
  rw [List.set_cons_succ, List.append_assoc, List.set_append_left _ _ (by simpa using hk), map_set, <- List.append_assoc]
  congr 3
  refine List.map_congr_left fun j _ => ?_
  show _ = slV (if j = k then s else sl j)
  split <;> rfl
section
variable {E : Env} {w : World} {Z : List Pr} {b h : Nat} {T : ST} {g : SG}
theorem stcell (H : Sat (Cells b E.t_stack_Stacks (stcells h g.sl g.pb g.ob) :: Z) w) : w.cell? (Addr.mk b 0 none) = some (.pointer (some ⟨h, 0, none⟩)) /\ (∀ k, k < 256 -> w.cell? ((Addr.mk b 0 none).add (k + 1)) = some (.slice (g.sl k).base (g.sl k).len (g.sl k).cap)) /\
    (∀ o, o < 4 -> w.cell? ((Addr.mk b 0 none).add (257 + o)) = some (.map (some (g.pb o)))) /\ w.cell? ((Addr.mk b 0 none).add 261) = some (.map (some g.ob)) :=
  ⟨H.cell0 rfl, fun k hk => H.cell (by rw [Nat.zero_add]; exact sc_row _ _ _ _ hk), fun o ho => H.cell (by rw [Nat.zero_add]; exact sc_pool _ _ _ _ ho), H.cell (by rw [Nat.zero_add]; exact sc_out _ _ _ _)⟩
theorem Sat.stRow (H : Sat (stres E b h T g ++ Z) w) {k : Nat} (hk : k < 256) : ∃ (M : Pr) (R : List Pr), Sat (Row E.t_uint64 1 (g.sl k) (ints .u64 (T.row k)) :: M :: Cells b E.t_stack_Stacks (stcells h g.sl g.pb g.ob) :: R) w /\
    ∀ {s : SlV} {l : List Int} {w'}, Sat (Row E.t_uint64 1 s (ints .u64 l) :: M :: Cells b E.t_stack_Stacks ((stcells h g.sl g.pb g.ob).set (k + 1) (slV s)) :: R) w' ->
      Sat (stres E b h { T with row := fun j => if j = k then l else T.row j } { g with sl := fun j => if j = k then s else g.sl j } ++ Z) w' := by
  have hg : (List.range 256)[k]? = some k := List.getElem?_range hk
  have H2 := (H.front 2 rfl).manyGet hg
  refine ⟨_, _, H2, fun {s l w'} h' => ?_⟩
  rw [sc_set _ _ _ _ hk] at h'
  have e1 : Row E.t_uint64 1 s (ints .u64 l) = rowR E (fun j => if j = k then s else g.sl j) (fun j => if j = k then l else T.row j) k := by unfold rowR; simp
  have e2 : Many (rowR E g.sl T.row) ((List.range 256).eraseIdx k) = Many (rowR E (fun j => if j = k then s else g.sl j) (fun j => if j = k then l else T.row j)) ((List.range 256).eraseIdx k) := Many.congr fun j hj => by
    have : j ≠ k := fun e => nodup_erase List.nodup_range hg (e ▸ hj)
    unfold rowR; simp [this]
  rw [e1, e2] at h'
  exact (Sat.manyBack h' hg).perm ((List.Perm.swap _ _ _).trans (.cons _ (.swap _ _ _)))
theorem stTail (H : Sat (stres E b h T g ++ Z) w) : Sat Z w := H.tail.tail.tail.tail.tail
theorem Sat.stPool (H : Sat (stres E b h T g ++ Z) w) {o : Nat} (ho : o < 4) : ∃ (M : Pr) (R : List Pr), Sat (MapF (g.pb o) .i64 (poolM T.S.sp (T.pool o)) :: M :: Cells b E.t_stack_Stacks (stcells h g.sl g.pb g.ob) :: HeapP E h T.S :: R) w /\
    ∀ {S2 : HS} {q : Int -> Bool} {w'}, (∀ j, j ≠ o -> ∀ id, T.pool j id = true -> (S2.sp id).map (·.1) = (T.S.sp id).map (·.1)) ->
      Sat (MapF (g.pb o) .i64 (poolM S2.sp q) :: M :: Cells b E.t_stack_Stacks (stcells h g.sl g.pb g.ob) :: HeapP E h S2 :: R) w' ->
      Sat (stres E b h { T with S := S2, pool := fun j => if j = o then q else T.pool j } g ++ Z) w' := by
  have hg : (List.range 4)[o]? = some o := List.getElem?_range ho
  have H2 := (H.front 3 rfl).manyGet hg
  refine ⟨_, _, H2, fun {S2 q w'} hp h' => ?_⟩
  have e1 : MapF (g.pb o) .i64 (poolM S2.sp q) = poolR S2.sp g.pb (fun j => if j = o then q else T.pool j) o := by unfold poolR; simp
  have e2 : Many (poolR T.S.sp g.pb T.pool) ((List.range 4).eraseIdx o) = Many (poolR S2.sp g.pb (fun j => if j = o then q else T.pool j)) ((List.range 4).eraseIdx o) := Many.congr fun j hj => by
    have hne : j ≠ o := fun e => nodup_erase List.nodup_range hg (e ▸ hj)
    unfold poolR
    simp only [hne, if_false]
    congr 1
    funext id
    unfold poolM
    by_cases g : T.pool j id = true
    · rw [if_pos g, if_pos g]
      have := hp j hne id g
      cases h1 : S2.sp id <;> cases h2 : T.S.sp id <;> rw [h1, h2] at this <;> simp at this ⊢
      exact this.symm
    · rw [if_neg g, if_neg g]
  rw [e1, e2] at h'
  exact (Sat.manyBack h' hg).perm ((List.Perm.swap _ _ _).trans (.cons _ ((List.Perm.swap _ _ _).trans (.cons _ (.swap _ _ _)))))
theorem Sat.stHeap (H : Sat (stres E b h T g ++ Z) w) : ∃ R : List Pr, Sat (HeapP E h T.S :: R) w /\ (∀ {w'}, Sat R w' -> Sat Z w') /\
    ∀ {S2 : HS} {w'}, (∀ j, j < 4 -> ∀ id, T.pool j id = true -> (S2.sp id).map (·.1) = (T.S.sp id).map (·.1)) -> Sat (HeapP E h S2 :: R) w' -> Sat (stres E b h { T with S := S2 } g ++ Z) w' := by
  refine ⟨_, H.front 1 rfl, fun h => h.tail.tail.tail.tail, fun {S2 w'} hp h' => ?_⟩
  have h2 := Sat.back (Ps := stres E b h T g ++ Z) 1 h' (by simp [stres])
  have e2 : Many (poolR T.S.sp g.pb T.pool) (List.range 4) = Many (poolR S2.sp g.pb T.pool) (List.range 4) := Many.congr fun j hj => by
    unfold poolR
    congr 1
    funext id
    unfold poolM
    by_cases g : T.pool j id = true
    · rw [if_pos g, if_pos g]
      have := hp j (List.mem_range.1 hj) id g
      cases h1 : S2.sp id <;> cases h2 : T.S.sp id <;> rw [h1, h2] at this <;> simp at this ⊢
      exact this.symm
    · rw [if_neg g, if_neg g]
  have e3 : (stres E b h T g ++ Z).set 1 (HeapP E h S2) = stres E b h { T with S := S2 } g ++ Z := by
    show [Cells b E.t_stack_Stacks (stcells h g.sl g.pb g.ob), HeapP E h S2, Many (rowR E g.sl T.row) (List.range 256), Many (poolR T.S.sp g.pb T.pool) (List.range 4), MapF g.ob .u64 (outM T.out)] ++ Z = _
    rw [e2]; rfl
  rw [e3] at h2
  exact h2
theorem Sat.stOut (H : Sat (stres E b h T g ++ Z) w) : ∃ R : List Pr, Sat (MapF g.ob .u64 (outM T.out) :: R) w /\ ∀ {o : Int -> Option Int} {w'}, Sat (MapF g.ob .u64 (outM o) :: R) w' -> Sat (stres E b h { T with out := o } g ++ Z) w' :=
  ⟨_, H.front 4 rfl, fun {o w'} h' => Sat.back (Ps := stres E b h T g ++ Z) 4 h' (by simp [stres])⟩
end
end Go.Sh

set_option linter.all false
set_option maxRecDepth 8000
set_option maxHeartbeats 4000000
namespace Go.Sh
def byO (o : Nat) : Int := 2048 * 2 ^ o
theorem byO_bnd {o : Nat} (h : o < 4) : 2048 <= byO o /\ byO o <= 16384 /\ (4 * 8192 / byO o = [16, 8, 4, 2].getD o 0) /\ 2 <= 4 * 8192 / byO o /\ 4 * 8192 / byO o <= 16 := by
  match o, h with
  | 0, _ => decide
  | 1, _ => decide
  | 2, _ => decide
  | 3, _ => decide
theorem lost_sp {S S2 : HS} {n : Int} (h : Lost S (-1) n S2) : S2.sp = S.sp := by
  rcases h with ⟨S0, htr, _, ⟨r, _, rfl⟩ | ⟨_, _, rfl⟩⟩ | ⟨S1, page, r, ht, _, _, rfl⟩
  · rw [tried_m1 htr]
  · rw [tried_m1 htr]
  · rcases ht with ht | ⟨S0, S0', htr, _, ⟨_, at_, _, rfl⟩, _, rfl⟩
    · obtain ⟨rfl, _⟩ := got_m1 ht; rfl
    · obtain rfl := tried_m1 htr; rfl
theorem SpU.full {I : SI} {U : Nat -> Bool} (h : SpU I U) (ha : ∀ i : Nat, (i : Int) < I.slots -> U i = true) : I.used = I.slots := by
  have hs := h.sl
  have e := cN_full (u := U) (m := I.slots.toNat) (fun i => ⟨fun hi => by have := h.lim i hi; omega, fun hi => ha i (by omega)⟩) 64
  rw [h.cnt, e]; omega
theorem Sat.rowPop2 {F : List Pr} {w : World} {t : Nat} {s : SlV} {vs : List Value} {v : Value} (H : Sat (Row t 1 s (vs ++ [v]) :: F) w) : Sat (Row t 1 ⟨s.base, s.len - 1, s.cap⟩ vs :: F) w := by
  obtain ⟨D, h, hs⟩ := H.step
  have ho := h.2
  have hl : vs.length + 1 = s.len := by have := ho.len; rw [List.length_append] at this; simpa using this
  refine hs w D _ (Ext.refl _ _) ⟨h.1, ⟨by simp only; omega, by have := ho.cap; simp only; omega, ho.top, ?_⟩⟩ fun _ hk => .inl hk
  rcases ho.row with ⟨h1, h2⟩ | ⟨b, cs, h1, h2, h3, h4, h5⟩
  · exact .inl ⟨h1, h2⟩
  · refine .inr ⟨b, cs, h1, h2, h3, h4, ?_⟩
    have : ((cs.toList.take (s.len * 1)).take ((s.len - 1) * 1)) = vs := by
      rw [h5, List.take_left' (by omega)]
    rw [<- this, List.take_take, show min ((s.len - 1) * 1) (s.len * 1) = (s.len - 1) * 1 by omega]
theorem unPtr_in {a : Option Addr} {K : Option Addr -> Prop} (h : K a) : unPtr (.pointer a) K := h
section
variable {E : Env} {w : World} {Z : List Pr} {b h : Nat} {T : ST} {g : SG}
theorem stbytes_spec {o : Nat} (ho : o < 4) {K : Int -> World -> Prop} (hK : K (byO o) w) : F.stack_bytes E o K w := by
  unfold F.stack_bytes
  refine ⟨by omega, LET_intro fun t ht => ?_⟩
  have : t = byO o := by
    rw [ht]
    match o, ho with
    | 0, _ => decide
    | 1, _ => decide
    | 2, _ => decide
    | 3, _ => decide
  rw [this]; exact hK
theorem stpop_spec {t : Nat} {cs : List Value} {k : Nat} {s : SlV} {l : List Int} {x : Int} {M : Pr} {R : List Pr} (hc : cs[k + 1]? = some (slV s)) (H : Sat (Row E.t_uint64 1 s (ints .u64 (l ++ [x])) :: M :: Cells b t cs :: R) w) {K : Int -> World -> Prop}
    (hK : ∀ s' w', Sat (Row E.t_uint64 1 s' (ints .u64 l) :: M :: Cells b t (cs.set (k + 1) (slV s')) :: R) w' -> K x w') : F.stack_row_pop E (some ((Addr.mk b 0 none).add (k + 1))) K w := by
  unfold F.stack_row_pop
  simp only [NC_some]
  have hl := H.rowLen
  simp only [ints, List.length_map, List.length_append, List.length_singleton, Nat.mul_one] at hl
  have hcap := H.own.cap
  have htop := H.own.top
  have cell : w.cell? ((Addr.mk b 0 none).add (k + 1)) = some (.slice s.base s.len s.cap) := (H.front 2 rfl).cell (by rw [Nat.zero_add]; exact hc)
  refine ⟨s, cell, LET_intro fun n hn => ⟨s, cell, ?_⟩⟩
  have hn2 : n = ((l.length : Nat) : Int) := by rw [hn, i64_id (by omega) (by omega)]; omega
  subst hn2
  refine H.rowCell (j := l.length) (v := .int .u64 x) (by simp [ints]) fun a ha hca => ⟨⟨by omega, by omega⟩, x, by rw [Int.toNat_natCast, Nat.mul_one]; exact hca, s, cell, ⟨by omega, by omega⟩, ?_⟩
  have H2 := Sat.rowPop2 (vs := ints .u64 l) (v := .int .u64 x) (by rw [show ints .u64 l ++ [.int .u64 x] = ints .u64 (l ++ [x]) by simp [ints]]; exact H)
  rw [slB_zero, Int.toNat_natCast, show l.length = s.len - 1 by omega]
  refine st_cell (H2.front 2 rfl) (v := slV ⟨s.base, s.len - 1, s.cap⟩) (o := 0) (m := k + 1) rfl (by have := (List.getElem?_eq_some_iff.1 hc).1; omega) fun w11 H11 => ?_
  rw [Nat.zero_add] at H11
  exact hK _ w11 (H11.perm ((List.Perm.swap _ _ _).trans (.cons _ (.swap _ _ _))))
def Pick (sp : Int -> Option (Nat × SI)) (pool : Int -> Bool) (x : Option Addr) (done : List Int) : Prop :=
  (x = none /\ ∀ id ∈ done, ∀ y, sp id = some y -> y.2.used = y.2.slots) ∨
  ∃ id y, x = some ⟨y.1, 0, none⟩ /\ pool id = true /\ sp id = some y /\ y.2.used ≠ y.2.slots /\ ∀ id' ∈ done, ∀ y', sp id' = some y' -> y'.2.used ≠ y'.2.slots -> y.2.base <= y'.2.base
variable (hE : EnvA E)
include hE
theorem sttake_spec (hT : ∀ w', Sat Z w' -> TabAt E.g_math_bits_deBruijn64tab w') (H : Sat (stres E b h T g ++ Z) w) (hI : HInv T.S no) {o : Nat} (ho : o < 4) (hpl : ∀ j, j < 4 -> ∀ id, T.pool j id = true -> T.S.sp id ≠ none) {U : Int -> Nat -> Bool}
    (hp : ∀ id x, T.pool o id = true -> T.S.sp id = some x -> SpU x.2 (U id) /\ x.2.state = 2) {K : Int -> Int -> World -> Prop}
    (hk1 : ∀ id x n, T.pool o id = true -> T.S.sp id = some x -> ((n : Nat) : Int) < x.2.slots -> U id n = false -> (∀ i, i < n -> U id i = true) -> (∀ id' x', T.pool o id' = true -> T.S.sp id' = some x' -> x'.2.used ≠ x'.2.slots -> x.2.base <= x'.2.base) ->
      ∀ w', Sat (stres E b h { T with S := T.S.put id (x.1, x.2.set (U id) n) } g ++ Z) w' -> K (u64 (x.2.base + u64 (u64 n * u64 x.2.elem))) 0 w')
    (hk2 : (∀ id x, T.pool o id = true -> T.S.sp id = some x -> x.2.used = x.2.slots) -> ∀ S2, Lost T.S (-1) 4 S2 -> HInv S2 no -> ∀ w', Sat (stres E b h { T with S := S2 } g ++ Z) w' -> K 0 13 w')
    (hk3 : (∀ id x, T.pool o id = true -> T.S.sp id = some x -> x.2.used = x.2.slots) -> ∀ page S2 bl id X, Found T.S (-1) 4 page S2 -> 0 <= page -> page + 4 <= 34359738368 -> Next S2 id X -> HInv (S2.keep id (bl, manOf page 4 (byO o)) page 4 X) no ->
      ∀ w', Sat (stres E b h { T with S := (S2.keep id (bl, manOf page 4 (byO o)) page 4 X).put id (bl, (manOf page 4 (byO o)).set (fun _ => false) 0), pool := fun j => if j = o then (fun i => if i = id then true else T.pool o i) else T.pool j } g ++ Z) w' -> K (page * 8192) 0 w') :
    F.stack_Stacks_take E (some ⟨b, 0, none⟩) o K w := by
  have hbo := byO_bnd ho
  unfold F.stack_Stacks_take T0.stack_Stacks_take
  simp only [NC_some, add_add, Int.toNat_natCast, Nat.mul_one]
  obtain ⟨M, R, HP, back⟩ := H.stPool ho
  refine ⟨⟨by omega, by omega⟩, _, (stcell (HP.front 2 rfl)).2.2.1 o ho, RNG_mk HP fun r N0 w5 H5 => ?_⟩
  have H5' := H5.front 3 rfl
  refine LOOP_intro (fun st w' => ∃ cur done N, Sat (HeapP E h T.S :: RngP r (g.pb o) .i64 (poolM T.S.sp (T.pool o)) cur done N :: M :: Cells b E.t_stack_Stacks (stcells h g.sl g.pb g.ob) :: R) w' /\ Pick T.S.sp (T.pool o) st.1 done) (fun _ w' => leftW r (g.pb o) w')
    ⟨none, [], N0, H5', .inl ⟨rfl, fun id hid => by cases hid⟩⟩ ?_
  rintro ⟨s, u⟩ _ w7 ⟨cur, done, N, H7, hpick⟩
  dsimp only at hpick ⊢
  have hpm : ∀ id v, poolM T.S.sp (T.pool o) id = some v -> T.pool o id = true /\ ∃ y, T.S.sp id = some y /\ v = .pointer (some ⟨y.1, 0, none⟩) := fun id v hv => by
    unfold poolM at hv
    by_cases g : T.pool o id = true
    · rw [if_pos g] at hv
      cases hs : T.S.sp id with
      | none => rw [hs] at hv; cases hv
      | some y => rw [hs] at hv; cases hv; exact ⟨g, y, rfl, rfl⟩
    · rw [if_neg g] at hv; cases hv
  rw [(H7.front 1 rfl).rngLeft]
  refine JOIN_in (NEXT_rng (H7.front 1 rfl) (fun w12 H12 hall j => JOIN_in (CND_f rfl ?_)) fun k v w13 N' hgk hnd hN H13 j => JOIN_in (CND_t rfl fun j2 => ENT_rng H13 fun v' S' hv' => ?_))
  · -- all were met
    have hall' : ∀ id, T.pool o id = true -> id ∈ done := fun id hid => (hall id).2 (by
      unfold poolM
      rw [if_pos hid]
      have := hpl o ho id hid
      cases hs : T.S.sp id with
      | none => exact absurd hs this
      | some y => simp)
    have eT : ({ T with S := T.S, pool := fun j => if j = o then T.pool o else T.pool j } : ST) = T := by
      have : (fun j => if j = o then T.pool o else T.pool j) = T.pool := by
        funext j; split
        · rename_i e; rw [e]
        · rfl
      rw [this]
    have H14 := back (S2 := T.S) (q := T.pool o) (fun j _ id _ => rfl) ((H12.rngOut).perm (.cons _ ((List.Perm.swap _ _ _).trans (.cons _ (.swap _ _ _)))))
    rw [eT] at H14
    clear back H12 H7 H5 H5' HP
    rcases hpick with ⟨rfl, hfull⟩ | ⟨id, y, rfl, hid, hy, hnf, hmin⟩
    · have hfull' : ∀ id x, T.pool o id = true -> T.S.sp id = some x -> x.2.used = x.2.slots := fun id x h1 h2 => hfull id (hall' id h1) x h2
      refine JOIN_in (CND_t rfl ?_)
      have H15 := H14.drew
      have cp : ∀ {w'} {T' : ST}, Sat (stres E b h T' g ++ Z) w' -> w'.cell? (Addr.mk b 0 none) = some (.pointer (some ⟨h, 0, none⟩)) := fun h' => (stcell h').1
      refine ⟨_, cp H15, stbytes_spec ho ⟨cp H15, ?_⟩⟩
      rw [i64_id (n := byO o) (by omega) (by omega)]
      obtain ⟨R2, HH, hz, hb⟩ := H15.stHeap
      have hgood : ¬ manBad 4 (byO o) := by unfold manBad; omega
      refine hmanual_spec hE (fun w' h' => hT w' (hz h')) HH hI (by decide) (by decide) (by omega) (fun hb => absurd hb hgood) (fun _ S2 hl hI2 w28 H28 => ?_) fun _ page S2 bl id X hf hI2 q0 q1 hX hI3 w28 H28 => ?_
      · exact CND_t rfl (hk2 hfull' S2 hl hI2 w28 (hb (fun j _ id _ => by rw [lost_sp hl]) H28))
      · have es := hf.same
        have hnone : T.S.sp id = none := by
          refine Classical.byContradiction fun g => ?_
          obtain ⟨a, ha, h2, h3⟩ := (hI.sf id).1 g
          rcases hX with ⟨q1, q2, _⟩ | ⟨b', r', q1, q2, _⟩
          · rw [es.fx] at q2; omega
          · rw [es.fx] at q1
            have : a = b' := by omega
            subst this
            exact h3 (by rw [q1]; exact List.mem_cons_self)
        have hsp : (S2.keep id (bl, manOf page 4 (byO o)) page 4 X).sp id = some (bl, manOf page 4 (byO o)) := if_pos rfl
        have hne : ∀ i, i ≠ id -> (S2.keep id (bl, manOf page 4 (byO o)) page 4 X).sp i = T.S.sp i := fun i hi => by
          show (if i = id then _ else S2.sp i) = _
          rw [if_neg hi, es.sp]
        have hnp : ∀ j, j < 4 -> ∀ i, T.pool j i = true -> i ≠ id := fun j hj i hi e => hpl j hj i hi (e ▸ hnone)
        have H29 := hb (S2 := S2.keep id (bl, manOf page 4 (byO o)) page 4 X) (fun j hj i hi => by rw [hne i (hnp j hj i hi)]) H28
        refine CND_f rfl ⟨_, cp H29, ?_⟩
        obtain ⟨R3, HH3, _, _⟩ := H29.stHeap
        refine hspan_spec HH3 (fun e => by rw [hsp] at e; cases e) fun z hz' => ?_
        rw [hsp] at hz'
        cases hz'
        obtain ⟨M4, R4, HP4, back4⟩ := H29.stPool ho
        refine ⟨⟨by omega, by omega⟩, _, (stcell (HP4.front 2 rfl)).2.2.1 o ho, MUPD_sl HP4 fun w36 H36 j => ?_⟩
        have em : (fun i => if i = id then some (Value.pointer (some ⟨bl, 0, none⟩)) else poolM (S2.keep id (bl, manOf page 4 (byO o)) page 4 X).sp (T.pool o) i) = poolM (S2.keep id (bl, manOf page 4 (byO o)) page 4 X).sp (fun i => if i = id then true else T.pool o i) := by
          funext i
          unfold poolM
          by_cases e : i = id
          · subst e; simp [hsp]
          · simp [e]
        have H37 := back4 (S2 := S2.keep id (bl, manOf page 4 (byO o)) page 4 X) (q := fun i => if i = id then true else T.pool o i) (fun j _ i _ => rfl) (em ▸ H36)
        obtain ⟨R5, HH5, hz5, hb5⟩ := H37.stHeap
        obtain ⟨R6, hs6, hb6⟩ := HH5.heapPut hsp
        have hsl : (manOf page 4 (byO o)).slots = 4 * 8192 / byO o := rfl
        have hsl2 : 2 <= (manOf page 4 (byO o)).slots /\ (manOf page 4 (byO o)).slots <= 16 := by
          rw [hsl]; exact hbo.2.2.2
        refine spnext_spec (hT _ (stTail H37)) hs6 (manOf_spU (by rw [<- hsl]; omega)) (by show (2 : Int) ≠ 0; decide) (fun hall2 => ?_) fun n hn _ hlow w39 H39 => ?_
        · have := hall2 0 (show ((0 : Nat) : Int) < (manOf page 4 (byO o)).slots from by omega)
          cases this
        · obtain rfl : n = 0 := by
            rcases Nat.eq_zero_or_pos n with e | e
            · exact e
            · have := hlow 0 e; cases this
          refine spslot_spec H39 (by decide) hn fun w42 H42 => ?_
          have ea : u64 (((manOf page 4 (byO o)).set (fun _ => false) 0).base + u64 (u64 ((0 : Nat) : Int) * u64 ((manOf page 4 (byO o)).set (fun _ => false) 0).elem)) = page * 8192 := by
            show u64 (page * 8192 + u64 (u64 0 * u64 (byO o))) = _
            rw [show u64 (0 : Int) = 0 by decide, Int.zero_mul, show u64 (0 : Int) = 0 by decide, u64_id (by omega) (by omega)]; omega
          rw [ea]
          refine hk3 hfull' page S2 bl id X hf q0 q1 hX hI3 w42 (hb5 (fun j hj i hi => ?_) (hb6 H42))
          by_cases e : i = id
          · rw [e, HS.put_sp, hsp]; rfl
          · rw [HS.put_ne e]
    · obtain ⟨hu, hst⟩ := hp id y hid hy
      refine JOIN_in (CND_f rfl fun j => ?_)
      obtain ⟨R5, HH5, hz5, hb5⟩ := H14.stHeap
      obtain ⟨R6, hs6, hb6⟩ := HH5.heapPut hy
      refine spnext_spec (hT _ (stTail H14)) hs6 hu (by rw [hst]; decide) (fun hall2 => absurd (hu.full hall2) hnf) fun n hn hun hlow w39 H39 => ?_
      refine spslot_spec H39 (by omega) hn fun w42 H42 => ?_
      refine hk1 id y n hid hy hn hun hlow (fun id' x' h1 h2 h3 => hmin id' (hall' id' h1) x' h2 h3) w42 (hb5 (fun j hj i hi => ?_) (hb6 H42))
      by_cases e : i = id
      · rw [e, HS.put_sp, hy]; rfl
      · rw [HS.put_ne e]
  · -- one is met
    obtain ⟨hpk, y, hy, rfl⟩ := hpm k v' hv'
    refine unPtr_in ?_
    obtain ⟨R2, hs2, hb2⟩ := (H13.front 1 rfl : Sat (HeapP E h T.S :: RngP r (g.pb o) .i64 (poolM T.S.sp (T.pool o)) (some k) (done ++ [k]) N' :: M :: Cells b E.t_stack_Stacks (stcells h g.sl g.pb g.ob) :: R) w13).heapSpan hy
    refine JOIN_intro (fun st w' => Sat (HeapP E h T.S :: RngP r (g.pb o) .i64 (poolM T.S.sp (T.pool o)) (some k) (done ++ [k]) N' :: M :: Cells b E.t_stack_Stacks (stcells h g.sl g.pb g.ob) :: R) w' /\ Pick T.S.sp (T.pool o) (if st.1 = true then some ⟨y.1, 0, none⟩ else s) (done ++ [k])) ?_ ?_
    · refine spfull_spec hs2 fun w51 H51 => ?_
      have H52 := hb2 H51
      have ext : ∀ {P : Int -> Prop}, (∀ id ∈ done, P id) -> P k -> ∀ id ∈ done ++ [k], P id := fun h1 h2 id hid => by
        rcases List.mem_append.1 hid with q | q
        · exact h1 id q
        · simp at q; rw [q]; exact h2
      by_cases hf : y.2.used = y.2.slots
      · rw [show (y.2.used == y.2.slots) = true by simpa using hf]
        refine CND_f rfl ⟨H52, ?_⟩
        show Pick _ _ s _
        rcases hpick with ⟨e, h1⟩ | ⟨id, x, e, h1, h2, h3, h4⟩
        · exact .inl ⟨e, ext h1 fun y' hy' => by rw [hy] at hy'; cases hy'; exact hf⟩
        · exact .inr ⟨id, x, e, h1, h2, h3, ext h4 fun y' hy' h5 => by rw [hy] at hy'; cases hy'; exact absurd hf h5⟩
      · rw [show (y.2.used == y.2.slots) = false by simpa using hf]
        refine CND_t rfl ?_
        rcases hpick with ⟨rfl, h1⟩ | ⟨id, x, rfl, h1, h2, h3, h4⟩
        · refine CND_t rfl ⟨H52, ?_⟩
          show Pick _ _ (some ⟨y.1, 0, none⟩) _
          exact .inr ⟨k, y, rfl, hpk, hy, hf, ext (fun id hid y' hy' h5 => absurd (h1 id hid y' hy') h5) fun y' hy' _ => by rw [hy] at hy'; cases hy'; exact Int.le_refl _⟩
        · refine CND_f rfl ?_
          obtain ⟨R3, hs3, hb3⟩ := H52.heapSpan hy
          refine spinfo_spec hs3 fun w62 H62 => ?_
          obtain ⟨R4, hs4, hb4⟩ := (hb3 H62).heapSpan h2
          refine spinfo_spec hs4 fun w73 H73 => ⟨hb4 H73, ?_⟩
          show Pick _ _ (if decide (y.2.base < x.2.base) = true then _ else _) _
          by_cases g : y.2.base < x.2.base
          · rw [if_pos (by simpa using g)]
            exact .inr ⟨k, y, rfl, hpk, hy, hf, ext (fun id' hid y' hy' h5 => by have := h4 id' hid y' hy' h5; omega) fun y' hy' _ => by rw [hy] at hy'; cases hy'; exact Int.le_refl _⟩
          · rw [if_neg (by simpa using g)]
            exact .inr ⟨id, x, rfl, h1, h2, h3, ext h4 fun y' hy' _ => by rw [hy] at hy'; cases hy'; omega⟩
    · rintro ⟨t, u⟩ _ w49 ⟨H49, hpk2⟩
      dsimp only at hpk2 ⊢
      have hN2 := (H49.front 1 rfl).rngLeft
      refine CND_intro (fun ht => ⟨⟨_, _, _, H49, ?_⟩, by rw [hN2]; exact hN⟩) fun ht => ⟨⟨_, _, _, H49, ?_⟩, by rw [hN2]; exact hN⟩
      · rw [if_pos ht] at hpk2; exact hpk2
      · rw [if_neg (by rw [ht]; decide)] at hpk2; exact hpk2
end
end Go.Sh

set_option linter.all false
set_option maxRecDepth 8000
set_option maxHeartbeats 4000000
namespace Go.Sh
def ncells (h : Nat) (pb : Nat -> Nat) (i ob : Nat) : List Value :=
  .pointer (some ⟨h, 0, none⟩) :: (((List.range 256).map fun _ => slV ⟨none, 0, 0⟩) ++ ((List.range 4).map fun o => Value.map (if o < i then some (pb o) else none)) ++ [.map (some ob)])
theorem nc_len (h : Nat) (pb : Nat -> Nat) (i ob : Nat) : (ncells h pb i ob).length = 262 := by simp [ncells]
theorem nc_set (h : Nat) (pb : Nat -> Nat) (i ob b8 : Nat) (hi : i < 4) : (ncells h pb i ob).set (257 + i) (.map (some b8)) = ncells h (fun o => if o = i then b8 else pb o) (i + 1) ob := by
  unfold ncells
  rw [show 257 + i = (256 + i) + 1 by omega, List.set_cons_succ, List.append_assoc, List.set_append_right _ _ (by simp), List.set_append_left _ _ (by simp; omega), <- List.append_assoc]
  congr 3
  have e : 256 + i - (List.map (fun _ => slV ⟨none, 0, 0⟩) (List.range 256)).length = i := by simp
  rw [e, map_set]
  refine List.map_congr_left fun j _ => ?_
  by_cases g : j = i
  · rw [if_pos g, if_pos (by omega)]; simp [g]
  · rw [if_neg g]
    by_cases g2 : j < i
    · rw [if_pos g2, if_pos (by omega)]; simp [g]
    · rw [if_neg g2, if_neg (by omega)]
theorem nc_end (h : Nat) (pb : Nat -> Nat) (ob : Nat) : ncells h pb 4 ob = stcells h (fun _ => ⟨none, 0, 0⟩) pb ob := by
  unfold ncells stcells
  congr 3
theorem Sat.manyNils {F : List Pr} {w : World} (t : Nat) : ∀ (L : List Nat), Sat F w -> Sat (Many (fun _ : Nat => Row t 1 ⟨none, 0, 0⟩ []) L :: F) w
  | [], H => Sat.manyNil H _
  | k :: L, H => Sat.manyCons.2 ((Sat.manyNils t L H).nil t 1)
section
variable {E : Env} {w : World} {Z : List Pr} {b h : Nat} {T : ST} {g : SG}
theorem stnew_spec {S : HS} (H : Sat (HeapP E h S :: Z) w) {K : Option Addr -> World -> Prop} (hK : ∀ b g w', Sat (stres E b h ⟨S, fun _ => [], fun _ _ => false, fun _ => none⟩ g ++ Z) w' -> K (some ⟨b, 0, none⟩) w') : F.stack_New E (some ⟨h, 0, none⟩) K w := by
  unfold F.stack_New
  refine AL_map H .u64 fun b1 w2 H2 _ => AL_cells (vs := ncells h (fun _ => 0) 0 b1) H2 fun b3 w4 H4 _ => ?_
  refine LOOP_intro (fun st w' => ∃ (i : Nat) (pb : Nat -> Nat), st.1 = (i : Int) /\ i <= 4 /\ Sat (Many (fun o => MapF (pb o) .i64 fun _ => none) (List.range i) :: Cells b3 E.t_stack_Stacks (ncells h pb i b1) :: MapF b1 .u64 (fun _ => none) :: HeapP E h S :: Z) w') (fun st _ => (4 - st.1).toNat)
    ⟨0, fun _ => 0, rfl, by decide, Sat.manyNil H4 _⟩ ?_
  rintro ⟨i', u⟩ _ w6 ⟨i, pb, hi, hi4, H6⟩
  dsimp only at hi ⊢
  subst hi
  refine CND_dec (fun hlt => ?_) fun hge => ?_
  · refine AL_map H6 .i64 fun b8 w9 H9 _ => ⟨⟨by omega, by omega⟩, ?_⟩
    rw [Int.toNat_natCast, Nat.mul_one, add_add, i64_id (n := (i : Int) + 1) (by omega) (by omega)]
    refine st_cell (H9.front 2 rfl) (o := 0) (m := 257 + i) rfl (by rw [nc_len]; omega) fun w10 H10 => ?_
    rw [Nat.zero_add, nc_set _ _ _ _ _ (by omega)] at H10
    refine ⟨⟨i + 1, fun o => if o = i then b8 else pb o, rfl, by omega, ?_⟩, by omega⟩
    have H11 : Sat (MapF b8 .i64 (fun _ => none) :: Many (fun o => MapF (pb o) .i64 fun _ => none) (List.range i) :: Cells b3 E.t_stack_Stacks (ncells h (fun o => if o = i then b8 else pb o) (i + 1) b1) :: MapF b1 .u64 (fun _ => none) :: HeapP E h S :: Z) w10 :=
      H10.perm ((List.Perm.swap _ _ _).trans (.cons _ (.swap _ _ _)))
    have e1 : MapF b8 .i64 (fun _ => none) = (fun o => MapF ((fun o => if o = i then b8 else pb o) o) .i64 fun _ => none) i := by simp
    have e2 : Many (fun o => MapF (pb o) .i64 fun _ => none) (List.range i) = Many (fun o => MapF ((fun o => if o = i then b8 else pb o) o) .i64 fun _ => none) (List.range i) := Many.congr fun j hj => by
      have : j ≠ i := by have := List.mem_range.1 hj; omega
      simp [this]
    rw [e1, e2] at H11
    have H12 := Sat.manySnoc (R := fun o => MapF ((fun o => if o = i then b8 else pb o) o) .i64 fun _ => none) (x := i) (L := List.range i) H11
    rw [<- List.range_succ] at H12
    exact H12
  · obtain rfl : i = 4 := by omega
    rw [nc_end] at H6
    refine hK b3 ⟨fun _ => ⟨none, 0, 0⟩, pb, b1⟩ w6 ?_
    have H7 := Sat.manyNils E.t_uint64 (List.range 256) H6
    have e1 : (Many (fun o => MapF (pb o) .i64 fun _ => none) (List.range 4)) = Many (poolR S.sp pb fun _ _ => false) (List.range 4) := Many.congr fun j _ => by
      unfold poolR
      congr 1
    have e2 : MapF b1 .u64 (fun _ => none) = MapF b1 .u64 (outM fun _ => none) := rfl
    have e3 : Many (fun _ : Nat => Row E.t_uint64 1 ⟨none, 0, 0⟩ []) (List.range 256) = Many (rowR E (fun _ => ⟨none, 0, 0⟩) fun _ => []) (List.range 256) := rfl
    rw [e1, e2, e3] at H7
    have H8 := H7.front 2 rfl
    have H9 := H8.front2 3 rfl
    exact H9
def sumI (S : HS) (l : List Int) : Int := (l.map fun id => match S.sp id with | some x => if x.2.state = 2 then x.2.pages * 8192 else 0 | none => 0).sum
theorem sumI_app (S : HS) (l m : List Int) : sumI S (l ++ m) = sumI S l + sumI S m := by simp [sumI]
theorem stcached_spec (H : Sat (stres E b h T g ++ Z) w) {p : Nat} (hp : p < 64) {K : SlV -> World -> Prop}
    (hsz : (T.row (4 * p)).length <= 1000 /\ (T.row (4 * p + 1)).length <= 1000 /\ (T.row (4 * p + 2)).length <= 1000 /\ (T.row (4 * p + 3)).length <= 1000)
    (hK : ∀ s w', s.len = (T.row (4 * p)).length + (T.row (4 * p + 1)).length + (T.row (4 * p + 2)).length + (T.row (4 * p + 3)).length -> Sat (stres E b h T g ++ Z) w' -> K s w') : F.stack_Stacks_Cached E (some ⟨b, 0, none⟩) p K w := by
  unfold F.stack_Stacks_Cached T0.stack_Stacks_Cached F.stack_is
  refine CND_dec (fun _ => ?_) fun g => absurd (by omega) g
  rw [decide_eq_true (show (p : Int) < 64 by omega)]
  refine CND_t rfl ?_
  simp only [NC_some, add_add, Int.toNat_natCast]
  have hc : ∀ j, j < 4 -> w.cell? ((Addr.mk b 0 none).add (1 + p * 4 + j)) = some (.slice (g.sl (4 * p + j)).base (g.sl (4 * p + j)).len (g.sl (4 * p + j)).cap) := fun j hj => by
    have := (stcell H).2.1 (4 * p + j) (by omega)
    rw [show 4 * p + j + 1 = 1 + p * 4 + j by omega] at this
    exact this
  refine ⟨⟨by omega, by omega⟩, g.sl (4 * p + 0), hc 0 (by decide), g.sl (4 * p + 1), hc 1 (by decide), g.sl (4 * p + 2), hc 2 (by decide), g.sl (4 * p + 3), hc 3 (by decide), ?_⟩
  have hl : ∀ j, j < 4 -> (g.sl (4 * p + j)).len = (T.row (4 * p + j)).length := fun j hj => by
    obtain ⟨M, R, HR, _⟩ := H.stRow (k := 4 * p + j) (by omega)
    have := HR.rowLen
    simp only [ints, List.length_map] at this
    omega
  let tot : Nat -> Nat := fun i => ((List.range i).map fun j => (T.row (4 * p + j)).length).sum
  have H0 := H.nil E.t_uint64 1
  refine LOOP_intro (fun st w' => ∃ (i : Nat) (vs : List Value), st.2.1 = (i : Int) /\ i <= 4 /\ st.1.len = tot i /\ Sat (Row E.t_uint64 1 st.1 vs :: (stres E b h T g ++ Z)) w') (fun st _ => (4 - st.2.1).toNat) ⟨0, [], rfl, by decide, rfl, H0⟩ ?_
  rintro ⟨s, i', u⟩ _ w9 ⟨i, vs, hi, hi4, hlen, H9⟩
  dsimp only at hi hlen H9 ⊢
  subst hi
  have htot : ∀ i, i <= 4 -> tot i <= 1000 * i := fun i hi => by
    match i, hi with
    | 0, _ => exact Nat.le_refl _
    | 1, _ => show ((List.range 1).map fun j => (T.row (4 * p + j)).length).sum <= _; simp [List.range_succ]; omega
    | 2, _ => show ((List.range 2).map fun j => (T.row (4 * p + j)).length).sum <= _; simp [List.range_succ]; omega
    | 3, _ => show ((List.range 3).map fun j => (T.row (4 * p + j)).length).sum <= _; simp [List.range_succ]; omega
    | 4, _ => show ((List.range 4).map fun j => (T.row (4 * p + j)).length).sum <= _; simp [List.range_succ]; omega
  refine CND_dec (fun hlt => ⟨⟨by omega, by omega⟩, LET_intro fun s11 hs11 => ?_⟩) fun hge => ?_
  · have hs : s11 = g.sl (4 * p + i) := by
      rw [hs11, Int.toNat_natCast]
      have : i < 4 := by omega
      match i, this with
      | 0, _ => rfl
      | 1, _ => rfl
      | 2, _ => rfl
      | 3, _ => rfl
    subst hs
    have hi' : i < 4 := by omega
    have h1 := htot i (by omega)
    have h2 : tot (i + 1) = tot i + (T.row (4 * p + i)).length := by show ((List.range (i + 1)).map _).sum = _; rw [List.range_succ]; simp; rfl
    have h3 := htot (i + 1) (by omega)
    rw [i64_id (n := (i : Int) + 1) (by omega) (by omega)]
    have hrow : rowAt w9 (g.sl (4 * p + i)).base ((g.sl (4 * p + i)).len * 1) (ints .u64 (T.row (4 * p + i))) := by
      obtain ⟨M, R, HR, _⟩ := H9.tail.stRow (k := 4 * p + i) (by omega)
      exact HR.rowAll
    refine APP_row (zs := #[.int .u64 0]) (bytes := 8) H9 rfl hrow (by simp only [ints, List.length_map]; rw [hl i hi']; omega) (by intro v hv; simp [ints] at hv; obtain ⟨x, _, rfl⟩ := hv; rfl) (by rw [hl i hi']; omega) (by rw [hl i hi']; omega) fun s12 w13 H13 hl12 => ?_
    exact ⟨⟨i + 1, _, rfl, by omega, by show s12.len = _; rw [hl12, h2, hlen, hl i hi'], H13⟩, by omega⟩
  · obtain rfl : i = 4 := by omega
    refine hK s w9 ?_ H9.tail
    rw [hlen]
    show ((List.range 4).map fun j => (T.row (4 * p + j)).length).sum = _
    simp [List.range_succ]; omega
theorem storder_spec (hT : TabAt E.g_math_bits_deBruijn64tab w) {j : Nat} (hj : j <= 40) {K : Int -> World -> Prop} (hK : K j w) : F.stack_order E (2048 * 2 ^ j) K w := by
  unfold F.stack_order T0.stack_order
  refine ⟨by decide, ?_⟩
  have hp : (0 : Int) < 2 ^ j := Int.pow_pos (by decide)
  have hp2 : (2 : Int) ^ j <= 2 ^ 40 := by
    have := Nat.pow_le_pow_right (n := 2) (by decide) hj
    exact_mod_cast this
  have e : u64 (Int.tdiv (2048 * 2 ^ j) 2048) = W fun i => i == j := by
    rw [Int.tdiv_eq_ediv_of_nonneg (by omega), Int.mul_ediv_cancel_left _ (by decide), <- W_bit (show j < 64 by omega), Int.one_mul, show min (Int.toNat (j : Int)) (IntKind.bits .u64) = j by rw [Int.toNat_natCast]; exact Nat.min_eq_left (by show j <= 64; omega)]
  rw [e]
  refine tz64_spec hT (fun h0 => ?_) fun r hr h1 _ => ?_
  · have := h0 j (by omega); simp at this
  · rw [beq_iff_eq] at h1; subst h1; exact hK
variable (hE : EnvH E)
include hE
theorem inuse_spec (H : Sat (stres E b h T g ++ Z) w) (hI : HInv T.S no) (hfew : ∀ l : List Int, l.Nodup -> (∀ n ∈ l, T.S.sp n ≠ none) -> l.length <= 1000) {K : Int -> World -> Prop}
    (hK : ∀ l w', l.Nodup -> (∀ n, n ∈ l ↔ T.S.sp n ≠ none) -> Sat (stres E b h T g ++ Z) w' -> K (sumI T.S l) w') : F.stack_Stacks_Inuse E (some ⟨b, 0, none⟩) K w := by
  unfold F.stack_Stacks_Inuse T0.stack_Stacks_Inuse
  simp only [NC_some]
  have cp : ∀ {w'}, Sat (stres E b h T g ++ Z) w' -> w'.cell? (Addr.mk b 0 none) = some (.pointer (some ⟨h, 0, none⟩)) := fun h' => (stcell h').1
  obtain ⟨R, HH, _, hb⟩ := H.stHeap
  refine ⟨_, cp H, hspans_spec hE HH (fun l h1 h2 => by have := hfew l h1 h2; omega) fun s l w4 hnd hall H4 => ?_⟩
  have hk := H4.tail.hok
  have hlen := hfew l hnd fun n hn => (hall n).1 hn
  have hsl := H4.rowLen
  simp only [ints, List.length_map] at hsl
  have hterm : ∀ id ∈ l, ∃ x, T.S.sp id = some x /\ 0 <= x.2.pages /\ x.2.pages <= 34359738368 := fun id hid => by
    obtain ⟨x, hx⟩ := Option.ne_none_iff_exists'.1 ((hall id).1 hid)
    obtain ⟨a, _, c, _, d⟩ := hI.sp id x hx
    have h1 := d (x.2.base / 8192) (Int.le_refl _) (by omega)
    have h2 := d (x.2.base / 8192 + x.2.pages - 1) (by omega) (by omega)
    have l1 := hk.tv.lim _ (hI.ow _ (by rw [h1]; exact a)).1
    have l2 := hk.tv.lim _ (hI.ow _ (by rw [h2]; exact a)).1
    exact ⟨x, hx, by omega, by omega⟩
  have hsum : ∀ i, i <= l.length -> 0 <= sumI T.S (l.take i) /\ sumI T.S (l.take i) <= 281474976710656 * i := fun i => by
    induction i with
    | zero => intro _; exact ⟨Int.le_refl _, Int.le_refl _⟩
    | succ i ih =>
      intro hi
      obtain ⟨h1, h2⟩ := ih (by omega)
      rw [List.take_succ_eq_append_getElem (by omega), sumI_app]
      obtain ⟨x, hx, p0, p1⟩ := hterm l[i] (List.getElem_mem _)
      have e : sumI T.S [l[i]] = if x.2.state = 2 then x.2.pages * 8192 else 0 := by simp [sumI, hx]
      rw [e]
      split <;> omega
  refine LOOP_intro (fun st w' => ∃ i : Nat, st.2.1 = (i : Int) /\ i <= l.length /\ st.1 = sumI T.S (l.take i) /\ Sat (Row E.t_int 1 s (ints .i64 l) :: HeapP E h T.S :: R) w') (fun st _ => ((l.length : Int) - st.2.1).toNat) ⟨0, rfl, Nat.zero_le _, rfl, H4⟩ ?_
  rintro ⟨n, i', u⟩ _ w6 ⟨i, hi, hil, hn, H6⟩
  dsimp only at hi hn ⊢
  subst hi
  subst hn
  refine CND_dec (fun hlt => ?_) fun hge => ?_
  · have hil2 : i < l.length := by omega
    obtain ⟨x, hx, p0, p1⟩ := hterm l[i] (List.getElem_mem _)
    refine H6.rowCell (j := i) (v := .int .i64 l[i]) (by simp [ints, hil2]) fun a ha hc => ⟨⟨by omega, by omega⟩, l[i], by rw [Int.toNat_natCast, Nat.mul_one]; exact hc, ?_⟩
    have hst : Sat (stres E b h T g ++ Z) w6 := hb (S2 := T.S) (fun _ _ _ _ => rfl) H6.tail
    refine ⟨_, cp hst, hspan_spec (H6.front 1 rfl) (fun e => by rw [hx] at e; cases e) fun y hy => ?_⟩
    rw [hx] at hy
    cases hy
    obtain ⟨R2, hs2, hb2⟩ := (H6.front 1 rfl).heapSpan hx
    refine spinfo_spec hs2 fun w25 H25 => ?_
    have H26 : Sat (HeapP E h T.S :: Row E.t_int 1 s (ints .i64 l) :: R) w25 := hb2 H25
    refine AL_cells (vs := [.int .u64 0, .int .i64 0, .int .i64 0, .int .i64 0, .bool false, .int .i64 0, .int .i64 0, .int .i64 0, .bool false, .bool false]) H26 fun b26 w27 H27 _ => ?_
    refine st_all (news := [.int .u64 x.2.base, .int .i64 x.2.pages, .int .i64 x.2.state, .int .i64 x.2.cls, .bool x.2.noptr, .int .i64 x.2.elem, .int .i64 x.2.slots, .int .i64 x.2.used, .bool x.2.f8, .bool x.2.f9]) H27 rfl (by simp [Value.oneCell']) fun w28 H28 => ?_
    have hs1 := hsum i (by omega)
    have e : sumI T.S (l.take (i + 1)) = sumI T.S (l.take i) + if x.2.state = 2 then x.2.pages * 8192 else 0 := by
      rw [List.take_succ_eq_append_getElem hil2, sumI_app]
      congr 1
      simp [sumI, hx]
    rw [i64_id (n := (i : Int) + 1) (by omega) (by omega)]
    have H29 : Sat (Row E.t_int 1 s (ints .i64 l) :: HeapP E h T.S :: R) w28 := (H28.front 2 rfl).perm (.refl _) |> fun q => (q.front 1 rfl).tail |> fun q => q
    refine ⟨_, H28.cell rfl, CND_eq (fun e2 => ⟨_, H28.cell rfl, LET_intro fun t ht => ?_⟩) fun e2 => ?_⟩
    · rw [if_pos e2] at e
      rw [u64_id (n := x.2.pages) (by omega) (by omega), u64_id (n := x.2.pages * 8192) (by omega) (by omega), u64_id (by omega) (by omega)] at ht
      exact ⟨⟨i + 1, rfl, by omega, by show t = _; rw [ht, e], H29⟩, by omega⟩
    · rw [if_neg e2, Int.add_zero] at e
      exact ⟨⟨i + 1, rfl, by omega, e.symm, H29⟩, by omega⟩
  · have : i = l.length := by omega
    subst this
    rw [List.take_length]
    exact hK l w6 hnd hall (hb (S2 := T.S) (fun _ _ _ _ => rfl) H6.tail)
end
end Go.Sh

set_option linter.all false
set_option maxRecDepth 8000
set_option maxHeartbeats 4000000
namespace Go.Sh
def adr (base : Int) (o i : Nat) : Int := base + i * byO o
def rowL (base : Int) (o m j : Nat) : List Int := (List.range j).map fun q => adr base o (m + q)
theorem rowL_succ (base : Int) (o m j : Nat) : rowL base o m (j + 1) = rowL base o m j ++ [adr base o (m + j)] := by simp [rowL, List.range_succ]
theorem rowL_len (base : Int) (o m j : Nat) : (rowL base o m j).length = j := by simp [rowL]
theorem byO_c {o : Nat} (h : o < 4) : 1 <= 16384 / byO o /\ 16384 / byO o <= 8 /\ 4 * 8192 / byO o = 2 * (16384 / byO o) /\ 16384 / byO o * byO o = 16384 := by
  match o, h with
  | 0, _ => decide
  | 1, _ => decide
  | 2, _ => decide
  | 3, _ => decide
def Mn (S : HS) : Prop := ∀ id x, S.sp id = some x -> x.2.state = 2
theorem RfSt.put {S : HS} {i : Nat} {next b : Int} {rf : List Bool} (h : RfSt S i next b rf) {id : Int} {x : Nat × SI} {I : SI} (hx : S.sp id = some x) (h1 : I.base = x.2.base) (h2 : I.pages = x.2.pages) (h3 : I.state ≠ 0) : RfSt (S.put id (x.1, I)) i next b rf :=
  ⟨h.inv.put hx h1 h2 h3, h.la.sameV rfl rfl, h.rf, h.fr, h.lo, h.le, ⟨h.gn.rl, h.gn.re⟩, h.pg, h.rel, h.ow, h.fx⟩
theorem SpU.congr {I : SI} {U V : Nat -> Bool} (h : SpU I U) (e : ∀ i, U i = V i) : SpU I V := by
  have : U = V := funext e
  exact this ▸ h
structure Rdy (T : ST) (o : Nat) (base : Int) (m : Nat) (e : Bool) (i : Nat) (next b : Int) : Prop where
  rf : RfSt T.S i next b []
  nb : b <= 20000 + 600 * i /\ i <= 1000
  mn : Mn T.S
  pe : ∀ j, j < 4 -> j ≠ o -> ∀ id, T.pool j id = false
  bs : 4194304 <= base /\ base <= 600000000
  po : (e = false /\ m = 0 /\ base = next * 8192 /\ ∀ id, T.pool o id = false) ∨
    (e = true /\ ∃ id bl I, (∀ j, T.pool o j = true ↔ j = id) /\ T.S.sp id = some (bl, I) /\ SpU I (fun k => decide (k < m)) /\ I.base = base /\ I.elem = byO o /\ I.slots = 4 * 8192 / byO o /\ I.magic = 0)
theorem Rdy.pl {T : ST} {o : Nat} {base : Int} {m : Nat} {e : Bool} {i : Nat} {next b : Int} (h : Rdy T o base m e i next b) : ∀ j, j < 4 -> ∀ id, T.pool j id = true -> T.S.sp id ≠ none := fun j hj id hid => by
  by_cases g : j = o
  · subst g
    rcases h.po with ⟨_, _, _, h4⟩ | ⟨_, id', bl, I, h1, h2, _⟩
    · rw [h4] at hid; cases hid
    · rw [(h1 id).1 hid, h2]; simp
  · rw [h.pe j hj g] at hid; cases hid
section
variable {E : Env} {w : World} {Z : List Pr} {b h : Nat} {T : ST} {g : SG} {o : Nat} {base : Int} {m : Nat} {e : Bool} {i : Nat} {next bb : Int}
def afterA (b : Nat) (n : Int) (K : Int -> Int -> World -> Prop) (a e : Int) (w : World) : Prop :=
  ∀ _ : Nat -> Value, CND ((e : Int) == 0) (
    NC (some (Addr.mk b 0 none)) fun p17 =>
    ∃ x18 : (Option Nat), w.cell? (p17.add 261) = some (.map x18) /\
    MUPD .u64 a (.int .u64 n) x18 w fun w19 =>
    K a e w19
  ) (
    K a e w
  )
theorem afterA_ok (H : Sat (stres E b h T g ++ Z) w) {n a : Int} {K : Int -> Int -> World -> Prop} (hK : ∀ w', Sat (stres E b h { T with out := fun x => if x = a then some n else T.out x } g ++ Z) w' -> K a 0 w') : afterA b n K a 0 w := by
  unfold afterA
  intro _
  refine CND_t rfl ?_
  simp only [NC_some]
  obtain ⟨R, HO, hb⟩ := H.stOut
  refine ⟨_, (stcell H).2.2.2, MUPD_sl HO fun w19 H19 => hK w19 (hb ?_)⟩
  have : (fun x => if x = a then some (Value.int .u64 n) else outM T.out x) = outM fun x => if x = a then some n else T.out x := by
    funext x
    unfold outM
    by_cases e : x = a
    · simp [e]
    · simp [e]
  rw [<- this]; exact H19
theorem stalloc_right (hT : TabAt E.g_math_bits_deBruijn64tab w) {p j : Nat} {n : Int} (hp : p < 64) (hj : j <= 15) {K : Int -> Int -> World -> Prop} (hn : n = 2048 * 2 ^ j) (hn0 : 2048 <= n) (hn1 : n <= 67108864) (hb : bitK .u64 0 n (u64 (n - 1)) = 0)
    (h1 : j < 4 -> F.stack_Stacks_small E (some ⟨b, 0, none⟩) p j (afterA b n K) w) (h2 : 4 <= j -> F.stack_Stacks_large E (some ⟨b, 0, none⟩) n (afterA b n K) w) : F.stack_Stacks_Alloc E (some ⟨b, 0, none⟩) p n K w := by
  unfold F.stack_Stacks_Alloc T0.stack_Stacks_Alloc F.stack_is
  refine JOIN_in (CND_dec (fun _ => ?_) fun g => absurd (by omega) g)
  rw [decide_eq_true (show (p : Int) < 64 by omega)]
  refine CND_f rfl (CND_dec (fun g => absurd g (by omega)) fun _ => CND_dec (fun g => absurd g (by omega)) fun _ j1 => ?_)
  rw [hb]
  refine CND_f rfl (JOIN_in ?_)
  have ho : ∀ {K : Int -> World -> Prop}, K j w -> F.stack_order E n K w := fun hK => by rw [hn]; exact storder_spec hT (by omega) hK
  refine ho (CND_dec (fun g => ?_) fun g => ?_)
  · exact h1 (by omega)
  · exact h2 (by omega)
variable (hE : EnvA E)
include hE
theorem rdy_take (hT : ∀ w', Sat Z w' -> TabAt E.g_math_bits_deBruijn64tab w') (H : Sat (stres E b h T g ++ Z) w) (ho : o < 4) (hR : Rdy T o base m e i next bb) (hi9 : i <= 900) (hm : (m : Int) < 4 * 8192 / byO o) {K : Int -> Int -> World -> Prop}
    (hK : ∀ T' w', T'.row = T.row -> T'.out = T.out -> Rdy T' o base (m + 1) true (if e then i else i + 1) (if e then next else next + 4) (if e then bb else nextB next bb 4) -> Sat (stres E b h T' g ++ Z) w' -> K (adr base o m) 0 w') :
    F.stack_Stacks_take E (some ⟨b, 0, none⟩) o K w := by
  have hbo := byO_bnd ho
  have hok : HOk T.S := by
    obtain ⟨R, HH, _, _⟩ := H.stHeap
    exact HH.hok
  have hi0 : i <= 34359738368 := by have := hR.rf.inv.fb; rw [hR.rf.fx] at this; exact this
  have hle := hR.rf.le
  have hlo := hR.rf.lo
  have hnb := hR.nb
  rcases hR.po with ⟨rfl, rfl, hbase, hpo⟩ | ⟨rfl, id0, bl0, I0, h1, h2, h3, h4, h5, h6, h7⟩
  · refine sttake_spec hE hT H hR.rf.inv ho hR.pl (U := fun _ _ => false) (fun id x hid => by rw [hpo] at hid; cases hid) (fun id x n hid => by rw [hpo] at hid; cases hid) (fun _ S2 hl => (hR.rf.laid.lost (by decide) (by rw [show upN 4 = 512 by decide]; omega) hl).elim) fun _ page S2 bl id X hf q0 q1 hX hI3 w' H' => ?_
    obtain ⟨rfl, rfl, rfl, _, hk2, _⟩ := hR.rf.keep hok hok.clr (by decide) (by rw [show upN 4 = 512 by decide]; omega) hf hX hI3
    rw [List.drop_nil] at hk2
    have es := hf.same
    have hsp : (S2.keep ((i : Int) + 1) (bl, manOf page 4 (byO o)) page 4 ⟨i + 1, []⟩).sp ((i : Int) + 1) = some (bl, manOf page 4 (byO o)) := if_pos rfl
    have hsl : (manOf page 4 (byO o)).slots = 4 * 8192 / byO o := rfl
    have ea : page * 8192 = adr base o 0 := by unfold adr; rw [hbase]; omega
    rw [ea]
    have hnb2 : nextB page bb 4 <= bb + 512 := by unfold nextB; split <;> (try rw [show upN 4 = 512 by decide]) <;> omega
    have hU0 : SpU (manOf page 4 (byO o)) fun _ => false := manOf_spU (by omega)
    have hput : RfSt ((S2.keep ((i : Int) + 1) (bl, manOf page 4 (byO o)) page 4 ⟨i + 1, []⟩).put ((i : Int) + 1) (bl, (manOf page 4 (byO o)).set (fun _ => false) 0)) (i + 1) (page + 4) (nextB page bb 4) [] :=
      hk2.put (I := (manOf page 4 (byO o)).set (fun _ => false) 0) hsp rfl rfl (by show (2 : Int) ≠ 0; decide)
    refine hK { T with S := (S2.keep ((i : Int) + 1) (bl, manOf page 4 (byO o)) page 4 ⟨i + 1, []⟩).put ((i : Int) + 1) (bl, (manOf page 4 (byO o)).set (fun _ => false) 0), pool := fun j => if j = o then (fun k => if k = (i : Int) + 1 then true else T.pool o k) else T.pool j } w' rfl rfl
      ⟨hput, ⟨by show nextB page bb 4 <= 20000 + 600 * ((i + 1 : Nat) : Int); omega, by show i + 1 <= 1000; omega⟩, fun id' x hx => ?_, fun j hj hjo id' => ?_, hR.bs, .inr ⟨rfl, (i : Int) + 1, bl, (manOf page 4 (byO o)).set (fun _ => false) 0, fun j => ?_, HS.put_sp, (hU0.set (n := 0) (by rw [hsl]; exact hm) rfl (fun k hk => by omega)).congr (fun k => ?_), hbase.symm, rfl, rfl, rfl⟩⟩ H'
    · by_cases q : id' = (i : Int) + 1
      · rw [q] at hx
        have hx := HS.put_sp.symm.trans hx
        cases hx
        rfl
      · have hx := (HS.put_ne q).symm.trans hx
        have hx : (if id' = (i : Int) + 1 then _ else S2.sp id') = some x := hx
        rw [if_neg q, es.sp] at hx
        exact hR.mn id' x hx
    · show (if j = o then _ else T.pool j) id' = false
      rw [if_neg hjo]; exact hR.pe j hj hjo id'
    · show (if o = o then (fun k => if k = (i : Int) + 1 then true else T.pool o k) else T.pool o) j = true ↔ j = (i : Int) + 1
      rw [if_pos rfl]
      show (if j = (i : Int) + 1 then true else T.pool o j) = true ↔ _
      by_cases q : j = (i : Int) + 1
      · rw [if_pos q]; exact ⟨fun _ => q, fun _ => rfl⟩
      · rw [if_neg q, hpo]; exact ⟨fun h => (by cases h), fun h => absurd h q⟩
    · rw [Bool.eq_iff_iff, Bool.or_eq_true, beq_iff_eq, decide_eq_true_eq]
      constructor
      · rintro (h | h)
        · cases h
        · omega
      · intro h; exact .inr (by omega)
  · have hst : I0.state = 2 := hR.mn id0 _ h2
    refine sttake_spec hE hT H hR.rf.inv ho hR.pl (U := fun _ k => decide (k < m)) (fun id x hid hx => ?_) (fun id x n hid hx hn hun hlow _ w' H' => ?_) (fun hfull => ?_) fun hfull => ?_
    · rw [(h1 id).1 hid, h2] at hx
      cases hx
      exact ⟨h3, hst⟩
    · obtain rfl := (h1 id).1 hid
      rw [h2] at hx
      cases hx
      dsimp only at hn hun hlow H' ⊢
      have hnm : n = m := by
        have := of_decide_eq_false hun
        rcases Nat.lt_or_ge m n with q | q
        · have := hlow m q
          have := of_decide_eq_true this
          omega
        · omega
      subst hnm
      have hmn : (n : Int) * byO o <= 16 * 16384 := Int.mul_le_mul (by omega) (by omega) (by omega) (by decide)
      have hmn0 : 0 <= (n : Int) * byO o := Int.mul_nonneg (by omega) (by omega)
      have hbs := hR.bs
      rw [h4, h5, u64_id (n := (n : Int)) (by omega) (by omega), u64_id (n := byO o) (by omega) (by omega), u64_id (n := (n : Int) * byO o) (by omega) (by omega), u64_id (by omega) (by omega)]
      refine hK { T with S := T.S.put id (bl0, I0.set (fun k => decide (k < n)) n) } w' rfl rfl ⟨hR.rf.put (I := I0.set (fun k => decide (k < n)) n) h2 rfl rfl (by show I0.state ≠ 0; rw [hst]; decide), hnb, fun id' x hx => ?_, hR.pe, hbs, .inr ⟨rfl, id, bl0, I0.set (fun k => decide (k < n)) n, h1, HS.put_sp, (h3.set (by rw [h6]; exact hm) (by simp) (fun k hk => by simpa using hk)).congr (fun k => ?_), h4, h5, h6, h7⟩⟩ H'
      · by_cases q : id' = id
        · rw [q, HS.put_sp] at hx
          cases hx
          exact hst
        · rw [HS.put_ne q] at hx
          exact hR.mn id' x hx
      · rw [Bool.eq_iff_iff, Bool.or_eq_true, decide_eq_true_eq, beq_iff_eq, decide_eq_true_eq]; omega
    · exfalso
      have := hfull id0 _ ((h1 id0).2 rfl) h2
      rw [h3.cnt, cN_full (m := m) (fun k => by simp) 64, h6] at this
      omega
    · exfalso
      have := hfull id0 _ ((h1 id0).2 rfl) h2
      rw [h3.cnt, cN_full (m := m) (fun k => by simp) 64, h6] at this
      omega
theorem small_fill (hT : ∀ w', Sat Z w' -> TabAt E.g_math_bits_deBruijn64tab w') (H : Sat (stres E b h T g ++ Z) w) {p : Nat} (hp : p < 64) (ho : o < 4) (hR : Rdy T o base m e i next bb) (hi9 : i <= 800) (hrow : T.row (4 * p + o) = []) {c : Nat} (hc : (c : Int) = 16384 / byO o) (hm : ((m + c : Nat) : Int) <= 4 * 8192 / byO o) {K : Int -> Int -> World -> Prop}
    (hK : ∀ T' g' w', (T'.row = fun j => if j = 4 * p + o then rowL base o m (c - 1) else T.row j) -> T'.out = T.out -> Rdy T' o base (m + c) true (if e then i else i + 1) (if e then next else next + 4) (if e then bb else nextB next bb 4) -> Sat (stres E b h T' g' ++ Z) w' -> K (adr base o (m + (c - 1))) 0 w') :
    F.stack_Stacks_small E (some ⟨b, 0, none⟩) p o K w := by
  have hbo := byO_bnd ho
  have hc1 : 1 <= c /\ c <= 8 := by
    have := byO_c ho
    omega
  have hk : 4 * p + o < 256 := by omega
  unfold F.stack_Stacks_small T0.stack_Stacks_small
  simp only [NC_some, add_add, Int.toNat_natCast, Nat.mul_one]
  rw [show 1 + p * 4 + o = (4 * p + o) + 1 by omega]
  refine ⟨⟨by omega, by omega⟩, ⟨by omega, by omega⟩, ?_⟩
  have hlen : ∀ {T' : ST} {g' : SG} {w'}, Sat (stres E b h T' g' ++ Z) w' -> (g'.sl (4 * p + o)).len = (T'.row (4 * p + o)).length := fun h' => by
    obtain ⟨M, R, HR, _⟩ := h'.stRow hk
    have := HR.rowLen
    simp only [ints, List.length_map] at this
    omega
  refine JOIN_intro (fun _ w' => ∃ T' g', (T'.row = fun j => if j = 4 * p + o then rowL base o m c else T.row j) /\ T'.out = T.out /\ Rdy T' o base (m + c) true (if e then i else i + 1) (if e then next else next + 4) (if e then bb else nextB next bb 4) /\ Sat (stres E b h T' g' ++ Z) w') ?_ ?_
  · refine ⟨_, (stcell H).2.1 _ hk, CND_eq (fun _ => stbytes_spec ho ⟨by omega, ?_⟩) fun e => absurd (by rw [hlen H, hrow]; rfl) e⟩
    have ec : u64 (Int.tdiv 16384 (byO o)) = (c : Int) := by
      rw [Int.tdiv_eq_ediv_of_nonneg (by decide), <- hc, u64_id (by omega) (by omega)]
    rw [ec]
    refine LOOP_intro (fun st w' => ∃ (j : Nat) (T' : ST) (g' : SG), st.1 = (j : Int) /\ j <= c /\ (T'.row = fun q => if q = 4 * p + o then rowL base o m j else T.row q) /\ T'.out = T.out /\ ((j = 0 /\ T' = T) ∨ (1 <= j /\ Rdy T' o base (m + j) true (if e then i else i + 1) (if e then next else next + 4) (if e then bb else nextB next bb 4))) /\ Sat (stres E b h T' g' ++ Z) w') (fun st _ => ((c : Int) - st.1).toNat)
      ⟨0, T, g, rfl, Nat.zero_le _, ?_, rfl, .inl ⟨rfl, rfl⟩, H⟩ ?_
    · funext q
      by_cases e : q = 4 * p + o
      · rw [if_pos e, e, hrow]; rfl
      · rw [if_neg e]
    rintro ⟨j', u⟩ _ w9 ⟨j, T1, g1, hj, hjc, h1, h2, h3, H9⟩
    dsimp only at hj ⊢
    subst hj
    refine CND_dec (fun hlt => ?_) fun hge => ?_
    · have cont : ∀ T' w', T'.row = T1.row -> T'.out = T1.out -> Rdy T' o base (m + j + 1) true (if e then i else i + 1) (if e then next else next + 4) (if e then bb else nextB next bb 4) -> Sat (stres E b h T' g1 ++ Z) w' ->
          CND ((0 : Int) != 0) (∃ T' g', (T'.row = fun j => if j = 4 * p + o then rowL base o m c else T.row j) /\ T'.out = T.out /\ Rdy T' o base (m + c) true (if e then i else i + 1) (if e then next else next + 4) (if e then bb else nextB next bb 4) /\ Sat (stres E b h T' g' ++ Z) w') (
            ∃ x14 : SlV, w'.cell? ((Addr.mk b 0 none).add (4 * p + o + 1)) = some (.slice x14.base x14.len x14.cap) /\
            AL (.cells ⟨[.int .u64 (adr base o (m + j))]⟩ E.t_uint64) w' fun b15 w16 =>
            APP E.t_uint64 1 8 #[.int .u64 0] x14 ⟨(some (Addr.mk b15 0 none)), 1, 1⟩ w16 fun s17 w18 =>
            stCells ((Addr.mk b 0 none).add (4 * p + o + 1)) 0 [.slice s17.base s17.len s17.cap] w18 fun w19 =>
            (∃ (j2 : Nat) (T' : ST) (g' : SG), (u64 ((j : Int) + 1)) = (j2 : Int) /\ j2 <= c /\ (T'.row = fun q => if q = 4 * p + o then rowL base o m j2 else T.row q) /\ T'.out = T.out /\ ((j2 = 0 /\ T' = T) ∨ (1 <= j2 /\ Rdy T' o base (m + j2) true (if e then i else i + 1) (if e then next else next + 4) (if e then bb else nextB next bb 4))) /\ Sat (stres E b h T' g' ++ Z) w19) /\ ((c : Int) - u64 ((j : Int) + 1)).toNat < ((c : Int) - (j : Int)).toNat) := by
        intro T' w' q1 q2 q3 H'
        refine CND_f rfl ⟨_, (stcell H').2.1 _ hk, ?_⟩
        obtain ⟨M, R, HR, hb⟩ := H'.stRow hk
        have hrl := HR.rowLen
        have hrow' : T'.row (4 * p + o) = rowL base o m j := by rw [q1, h1]; simp
        rw [hrow'] at hrl HR
        simp only [ints, List.length_map, rowL_len] at hrl
        refine AL_cells (vs := [.int .u64 (adr base o (m + j))]) HR fun b15 w16 H16 _ => ?_
        refine APP_one (zs := #[.int .u64 0]) (bytes := 8) H16 rfl rfl (by simp [Value.oneCell']) (by show ((g1.sl (4 * p + o)).len + 1) * 8 <= _; omega) (by omega) fun s17 w18 H18 _ => ?_
        rw [show ints .u64 (rowL base o m j) ++ [.int .u64 (adr base o (m + j))] = ints .u64 (rowL base o m (j + 1)) by rw [rowL_succ]; simp [ints]] at H18
        refine st_cell (H18.front 2 rfl) (v := slV s17) (o := 0) (m := 4 * p + o + 1) rfl (by rw [sc_len]; omega) fun w19 H19 => ?_
        rw [Nat.zero_add] at H19
        have H20 := hb (s := s17) (l := rowL base o m (j + 1)) (H19.perm ((List.Perm.swap _ _ _).trans (.cons _ (.swap _ _ _))))
        rw [u64_id (n := (j : Int) + 1) (by omega) (by omega)]
        refine ⟨⟨j + 1, _, _, rfl, by omega, ?_, by show T'.out = _; rw [q2, h2], .inr ⟨by omega, ?_⟩, H20⟩, by omega⟩
        · funext q
          show (if q = 4 * p + o then rowL base o m (j + 1) else T'.row q) = _
          rw [q1, h1]
          by_cases e : q = 4 * p + o
          · simp [e]
          · simp [e]
        · exact ⟨q3.rf, q3.nb, q3.mn, q3.pe, q3.bs, q3.po⟩
      rcases h3 with ⟨rfl, rfl⟩ | ⟨h3, h4⟩
      · exact rdy_take hE hT H9 ho hR (by omega) (by omega) fun T' w' q1 q2 q3 H' => cont T' w' q1 q2 q3 H'
      · refine rdy_take hE hT H9 ho h4 (by split <;> omega) (by omega) fun T' w' q1 q2 q3 H' => cont T' w' q1 q2 ?_ H'
        simpa using q3
    · obtain rfl : j = c := by omega
      rcases h3 with ⟨h3, _⟩ | ⟨_, h4⟩
      · omega
      · exact ⟨T1, g1, h1, h2, h4, H9⟩
  · rintro u _ w4 ⟨T', g', q1, q2, q3, H4⟩
    have hrow' : T'.row (4 * p + o) = rowL base o m (c - 1) ++ [adr base o (m + (c - 1))] := by
      rw [q1, <- rowL_succ, show c - 1 + 1 = c by omega]; simp
    have hcl := (stcell H4).2.1 _ hk
    obtain ⟨M, R, HR, hb⟩ := H4.stRow hk
    have hrl := HR.rowLen
    rw [hrow'] at hrl HR
    simp only [ints, List.length_map, List.length_append, List.length_singleton] at hrl
    refine ⟨_, hcl, CND_eq (fun e => absurd e (by omega)) fun _ => ?_⟩
    refine stpop_spec (sc_row _ _ _ _ hk) HR fun s' w' H' => hK { T' with row := fun j => if j = 4 * p + o then rowL base o m (c - 1) else T'.row j } _ w' ?_ q2 ⟨q3.rf, q3.nb, q3.mn, q3.pe, q3.bs, q3.po⟩ (hb H')
    funext q
    show (if q = 4 * p + o then rowL base o m (c - 1) else T'.row q) = _
    rw [q1]
    by_cases e : q = 4 * p + o
    · simp [e]
    · simp [e]
theorem large_spec (hT : ∀ w', Sat Z w' -> TabAt E.g_math_bits_deBruijn64tab w') (H : Sat (stres E b h T g ++ Z) w) (hrf : RfSt T.S i next bb []) (hnb : bb <= 20000 + 600 * i /\ i <= 1000) (hpl : ∀ j, j < 4 -> ∀ id, T.pool j id = true -> T.S.sp id ≠ none) {n : Int} (hn : n % 8192 = 0) (hn0 : 8192 <= n) (hn1 : n <= 67108864) {K : Int -> Int -> World -> Prop}
    (hK : ∀ S' bl I w', RfSt S' (i + 1) (next + n / 8192) (nextB next bb (n / 8192)) [] -> S'.sp ((i : Int) + 1) = some (bl, I) -> SpU I (fun k => decide (k < 1)) -> I.state = 2 -> I.slots = 1 -> I.pages = n / 8192 -> I.base = next * 8192 -> (∀ id, id ≠ (i : Int) + 1 -> S'.sp id = T.S.sp id) -> (∀ p, next <= p -> p < next + n / 8192 -> S'.own p = (i : Int) + 1) -> Sat (stres E b h { T with S := S' } g ++ Z) w' -> K (next * 8192) 0 w') :
    F.stack_Stacks_large E (some ⟨b, 0, none⟩) n K w := by
  have hle := hrf.le
  have hlo := hrf.lo
  have hu := upN_le (n / 8192)
  have hok : HOk T.S := by
    obtain ⟨R, HH, _, _⟩ := H.stHeap
    exact HH.hok
  unfold F.stack_Stacks_large T0.stack_Stacks_large
  simp only [NC_some]
  have cp : ∀ {w'} {T' : ST}, Sat (stres E b h T' g ++ Z) w' -> w'.cell? (Addr.mk b 0 none) = some (.pointer (some ⟨h, 0, none⟩)) := fun h' => (stcell h').1
  refine ⟨_, cp H, by decide, ?_⟩
  rw [Int.tdiv_eq_ediv_of_nonneg (by omega), u64_id (n := n / 8192) (by omega) (by omega), i64_id (n := n) (by omega) (by omega)]
  obtain ⟨R2, HH, hz, hb⟩ := H.stHeap
  have hgood : ¬ manBad (n / 8192) n := by unfold manBad; omega
  refine hmanual_spec hE (fun w' h' => hT w' (hz h')) HH hrf.inv (by omega) (by omega) (by omega) (fun hb => absurd hb hgood) (fun _ S2 hl => (hrf.laid.lost (by omega) (by omega) hl).elim) fun _ page S2 bl id X hf hI2 q0 q1 hX hI3 w5 H5 => ?_
  obtain ⟨rfl, rfl, rfl, _, hk2, _⟩ := hrf.keep hok hok.clr (by omega) (by omega) hf hX hI3
  rw [List.drop_nil] at hk2
  have es := hf.same
  have hsp : (S2.keep ((i : Int) + 1) (bl, manOf page (n / 8192) n) page (n / 8192) ⟨i + 1, []⟩).sp ((i : Int) + 1) = some (bl, manOf page (n / 8192) n) := if_pos rfl
  have hne : ∀ k, k ≠ (i : Int) + 1 -> (S2.keep ((i : Int) + 1) (bl, manOf page (n / 8192) n) page (n / 8192) ⟨i + 1, []⟩).sp k = T.S.sp k := fun k hk => by
    show (if k = (i : Int) + 1 then _ else S2.sp k) = _
    rw [if_neg hk, es.sp]
  have hnone : T.S.sp ((i : Int) + 1) = none := by
    refine Classical.byContradiction fun g => ?_
    obtain ⟨a, ha, h2, h3⟩ := (hrf.inv.sf _).1 g
    rw [hrf.fx] at h2
    have h2 : a < i := h2
    omega
  have hnp : ∀ j, j < 4 -> ∀ k, T.pool j k = true -> k ≠ (i : Int) + 1 := fun j hj k hk e => hpl j hj k hk (e ▸ hnone)
  have H6 := hb (S2 := S2.keep ((i : Int) + 1) (bl, manOf page (n / 8192) n) page (n / 8192) ⟨i + 1, []⟩) (fun j hj k hk => by rw [hne k (hnp j hj k hk)]) H5
  refine CND_f rfl ⟨_, cp H6, ?_⟩
  obtain ⟨R3, HH3, hz3, hb3⟩ := H6.stHeap
  refine hspan_spec HH3 (fun e => by rw [hsp] at e; cases e) fun z hz' => ?_
  rw [hsp] at hz'
  cases hz'
  obtain ⟨R6, hs6, hb6⟩ := HH3.heapPut hsp
  have hsl : (manOf page (n / 8192) n).slots = 1 := by
    show n / 8192 * 8192 / n = 1
    rw [show n / 8192 * 8192 = n by omega, Int.ediv_self (by omega)]
  have hU0 : SpU (manOf page (n / 8192) n) fun _ => false := manOf_spU (by have : n / 8192 * 8192 / n = 1 := hsl; omega)
  refine spnext_spec (hT _ (stTail H6)) hs6 hU0 (by show (2 : Int) ≠ 0; decide) (fun hall2 => ?_) fun q hq _ hlow w13 H13 => ?_
  · have := hall2 0 (by rw [hsl]; decide)
    cases this
  · rw [hsl] at hq
    obtain rfl : q = 0 := by omega
    refine spinfo_spec H13 fun w24 H24 => ?_
    have hput := hk2.put (I := (manOf page (n / 8192) n).set (fun _ => false) 0) hsp rfl rfl (by show (2 : Int) ≠ 0; decide)
    refine hK _ bl _ w24 hput HS.put_sp ((hU0.set (n := 0) (by rw [hsl]; decide) rfl (fun k hk => by omega)).congr fun k => ?_) rfl hsl rfl rfl (fun k hk => ?_) (fun p p0 p1 => ?_) (hb3 (fun j hj k hk => ?_) (hb6 H24))
    · rw [Bool.eq_iff_iff, Bool.or_eq_true, beq_iff_eq, decide_eq_true_eq]
      constructor
      · rintro (h | h)
        · cases h
        · omega
      · intro h; exact .inr (by omega)
    · rw [HS.put_ne hk, hne k hk]
    · show (if page <= p /\ p < page + n / 8192 then ((i : Int) + 1) else S2.own p) = _
      rw [if_pos ⟨p0, p1⟩]
    · rw [HS.put_ne (hnp j hj k hk)]
end
end Go.Sh

set_option linter.all false
set_option maxRecDepth 8000
set_option maxHeartbeats 4000000
namespace Go.Sh
section
variable {E : Env} {w : World} {Rs Z : List Pr}
theorem newfin21 {b1 t1 : Nat} {us : List Value} {s0 s1 s2 : SlV} {pl : List Int} {rf : List Bool} {fl : List Int} (hpl : ∀ x ∈ pl, 0 <= x /\ x < 18446744073709551616)
    (k0 : pl.length <= 1099511627776) (k1 : rf.length <= 1099511627776) (k2 : fl.length <= 1099511627776)
    {K : Option Addr -> World -> Prop} (hK : ∀ b w', Sat (VmemP E b (newV pl rf fl) :: Rs) w' -> K (some ⟨b, 0, none⟩) w')
    (H : Sat (Cells b1 t1 us :: Row E.t_uint64 1 s0 (ints .u64 pl) :: Row E.t_bool 1 s1 (bools rf) :: Row E.t_uint64 1 s2 (ints .u64 fl) :: Rs) w) : F.vmem_New E s0 s1 s2 K w := by
  have e0 : pl.length = s0.len := by have := (H.front 1 rfl).rowLen; rw [ints, List.length_map] at this; omega
  have e1 : rf.length = s1.len := by have := (H.front 2 rfl).rowLen; rw [bools, List.length_map] at this; omega
  have e2 : fl.length = s2.len := by have := (H.front 3 rfl).rowLen; rw [ints, List.length_map] at this; omega
  refine vnew_spec H hpl (fun w' h => by simpa using (h.front 1 rfl).rowAll) e0 (by omega) (fun w' h => by simpa using (h.front 2 rfl).rowAll) e1 (by omega) (fun w' h => by simpa using (h.front 3 rfl).rowAll) e2 (by omega) fun b w11 H11 => hK b w11 ?_
  exact ((((H11.front 1 rfl).tail.front 1 rfl).tail.front 1 rfl).tail.front 1 rfl).tail
theorem fresh21_spec (H : Sat Rs w) {a0 a1 a2 : SlV} {pl : List Int} {rf : List Bool} {fl : List Int} (hpl : ∀ x ∈ pl, 0 <= x /\ x < 18446744073709551616)
    (h0 : ∀ w', Sat Rs w' -> rowAt w' a0.base a0.len (ints .u64 pl)) (l0 : pl.length = a0.len) (k0 : a0.len <= 1099511627776)
    (h1 : ∀ w', Sat Rs w' -> rowAt w' a1.base a1.len (bools rf)) (l1 : rf.length = a1.len) (k1 : a1.len <= 1099511627776)
    (h2 : ∀ w', Sat Rs w' -> rowAt w' a2.base a2.len (ints .u64 fl)) (l2 : fl.length = a2.len) (k2 : a2.len <= 1099511627776)
    {K : Option Addr -> World -> Prop} (hK : ∀ h w', Sat (HeapP E h (HS.new (newV pl rf fl)) :: Rs) w' -> K (some ⟨h, 0, none⟩) w') : F.mallowlaw21_fresh E a0 a1 a2 K w := by
  unfold F.mallowlaw21_fresh T0.mallowlaw21_fresh
  have l0' : (ints IntKind.u64 pl).length = a0.len := by rw [ints, List.length_map]; exact l0
  have l1' : (bools rf).length = a1.len := by rw [bools, List.length_map]; exact l1
  have l2' : (ints IntKind.u64 fl).length = a2.len := by rw [ints, List.length_map]; exact l2
  refine AL_cells (vs := [slV a0, slV a1, slV a2]) H fun b1 w2 H2 _ => ?_
  refine JOIN_intro (fun st w' => ∃ b, st.1 = some ⟨b, 0, none⟩ /\ Sat (VmemP E b (newV pl rf fl) :: Rs) w') ?_ ?_
  · have Hd : Sat (Cells b1 E.t_api_Answers [slV a0, slV a1, slV a2] :: Emp :: Emp :: Emp :: Rs) w2.drew := (H2.drew.emp.emp.emp).front 3 rfl
    clear H2
    have t4 : ∀ {P0 P1 P2 : Pr} {w'}, Sat (P0 :: P1 :: P2 :: Rs) w' -> Sat Rs w' := fun h => h.tail.tail.tail
    refine ⟨a0, Hd.cell0 rfl, a1, Hd.cell rfl, a2, Hd.cell rfl, ?_⟩
    repeat' first
      | (exact Sat.cell (by assumption) (by rfl))
      | (exact Sat.cell0 (by assumption) (by rfl))
      | (refine app_slotG 1 (a := a0) (vs := ints .u64 pl) (by assumption) (by rfl) rfl (by intro w' h; exact h0 w' (t4 h)) l0' k0 (by decide) (oneIntsG _ _) fun s' w' H' => ?_)
      | (refine app_slotG 1 (a := a2) (vs := ints .u64 fl) (by assumption) (by rfl) rfl (by intro w' h; exact h2 w' (t4 h)) l2' k2 (by decide) (oneIntsG _ _) fun s' w' H' => ?_)
      | (refine app_slotG 2 (a := a1) (vs := bools rf) (by assumption) (by rfl) rfl (by intro w' h; exact h1 w' (t4 h)) l1' k1 (by decide) (oneBoolsG _) fun s' w' H' => ?_)
      | (refine app_slotG 3 (a := a0) (vs := ints .u64 pl) (by assumption) (by rfl) rfl (by intro w' h; exact h0 w' (t4 h)) l0' k0 (by decide) (oneIntsG _ _) fun s' w' H' => ?_)
      | (refine app_slotG 3 (a := a2) (vs := ints .u64 fl) (by assumption) (by rfl) rfl (by intro w' h; exact h2 w' (t4 h)) l2' k2 (by decide) (oneIntsG _ _) fun s' w' H' => ?_)
      | (refine al_slotG 2 (t := E.t_bool) (by assumption) (by rfl) fun b' w' H' => ?_)
      | (refine al_slotG 1 (t := E.t_uint64) (by assumption) (by rfl) fun b' w' H' => ?_)
      | (refine al_slotG 3 (t := E.t_uint64) (by assumption) (by rfl) fun b' w' H' => ?_)
      | (exact newfin21 hpl (by omega) (by omega) (by omega) (fun b w' h => ⟨b, rfl, h⟩) (by assumption))
      | (exact newfin21 hpl (by omega) (by omega) (by omega) (fun b w' h => ⟨b, rfl, h⟩) (Sat.perm (by assumption) (.cons _ (((List.Perm.swap _ _ _).trans (.cons _ (.swap _ _ _))).trans (.swap _ _ _)))))
      | (refine And.intro ?_ ?_)
  · rintro ⟨r, u⟩ _ w5 ⟨b, rfl, H5⟩
    exact CND_f rfl (hnew_spec H5 fun h w13 H13 => hK h w13 H13)
theorem fresh21_nil (H : Sat Rs w) {K : Option Addr -> World -> Prop} (hK : ∀ h w', Sat (HeapP E h (HS.new (newV [] [] [])) :: Rs) w' -> K (some ⟨h, 0, none⟩) w') : F.mallowlaw21_fresh E ⟨none, 0, 0⟩ ⟨none, 0, 0⟩ ⟨none, 0, 0⟩ K w :=
  fresh21_spec (a0 := ⟨none, 0, 0⟩) (a1 := ⟨none, 0, 0⟩) (a2 := ⟨none, 0, 0⟩) H (pl := []) (rf := []) (fl := []) (by simp) (fun _ _ => show ([] : List Value) = [] from rfl) rfl (by decide) (fun _ _ => show ([] : List Value) = [] from rfl) rfl (by decide) (fun _ _ => show ([] : List Value) = [] from rfl) rfl (by decide) hK
end
theorem sum_pages {S : HS} (hI : HInv S no) (hk : HOk S) (hM : Mn S) : ∀ (l : List Int), l.Nodup -> (∀ n ∈ l, S.sp n ≠ none) -> sumI S l = 8192 * cP fun p => decide (S.own p ∈ l)
  | [], _, _ => by
    have : (cP fun p => decide (S.own p ∈ ([] : List Int))) = 0 := by
      rw [<- cP_row (x := 0) (n := 0) (by decide) (by decide) (by decide)]
      refine cP_congr fun p _ _ => ?_
      rw [Bool.eq_iff_iff, inr_iff]
      simp
    rw [this]; rfl
  | id :: l, hn, h => by
    have hn := List.nodup_cons.1 hn
    have ih := sum_pages hI hk hM l hn.2 fun n hn' => h n (List.mem_cons_of_mem _ hn')
    obtain ⟨x, hx⟩ := Option.ne_none_iff_exists'.1 (h id List.mem_cons_self)
    obtain ⟨a, _, c, _, d⟩ := hI.sp id x hx
    have l1 := hk.tv.lim _ (hI.ow _ (show 0 < S.own (x.2.base / 8192) by rw [d _ (Int.le_refl _) (by omega)]; exact a)).1
    have l2 := hk.tv.lim _ (hI.ow _ (show 0 < S.own (x.2.base / 8192 + x.2.pages - 1) by rw [d _ (by omega) (by omega)]; exact a)).1
    have e1 : (cP fun p => decide (S.own p ∈ id :: l)) = (cP fun p => decide (S.own p = id)) + cP fun p => decide (S.own p ∈ l) := by
      refine cP_or (fun p => ?_) fun p q1 q2 => ?_
      · rw [Bool.eq_iff_iff, Bool.or_eq_true, decide_eq_true_eq, decide_eq_true_eq, decide_eq_true_eq, List.mem_cons]
      · have q1 := of_decide_eq_true q1
        have q2 := of_decide_eq_true q2
        rw [q1] at q2
        exact hn.1 q2
    have e2 : (cP fun p => decide (S.own p = id)) = x.2.pages := by
      rw [<- cP_row (x := x.2.base / 8192) (n := x.2.pages) l1.1 (by omega) (by omega)]
      refine cP_congr fun p _ _ => ?_
      rw [Bool.eq_iff_iff, decide_eq_true_eq, inr_iff]
      refine ⟨fun e => ?_, fun e => d p e.1 e.2⟩
      obtain ⟨_, _, _, y, hy, h1, h2⟩ := hI.ow p (by rw [e]; exact a)
      rw [e, hx] at hy
      cases hy
      exact ⟨h1, h2⟩
    rw [e1, e2, Int.mul_add, <- ih]
    have : sumI S (id :: l) = x.2.pages * 8192 + sumI S l := by simp [sumI, hx, hM id x hx]
    rw [this, Int.mul_comm]
theorem sumI_pages {S : HS} (hI : HInv S no) (hk : HOk S) (hM : Mn S) {l : List Int} (hn : l.Nodup) (hall : ∀ n, n ∈ l ↔ S.sp n ≠ none) : sumI S l = S.pages * 8192 := by
  rw [sum_pages hI hk hM l hn fun n hn' => (hall n).1 hn', hI.pg, Int.mul_comm]
  refine congrArg (fun x : Int => x * 8192) (cP_congr fun p _ _ => ?_)
  rw [Bool.eq_iff_iff, decide_eq_true_eq, decide_eq_true_eq, hall]
  constructor
  · intro h
    obtain ⟨x, hx⟩ := Option.ne_none_iff_exists'.1 h
    exact (hI.sp _ x hx).1
  · intro h
    obtain ⟨_, _, _, x, hx, _⟩ := hI.ow p h
    rw [hx]; simp
section
variable {E : Env} {w : World} {Z : List Pr} {b h : Nat} {T : ST} {g : SG} {o : Nat}
theorem stfree_none (H : Sat (stres E b h T g ++ Z) w) {p : Nat} (hp : p < 64) {a : Int} (ho : T.out a = none) {K : Int -> Int -> World -> Prop} (hK : K 0 10 w) : F.stack_Stacks_Free E (some ⟨b, 0, none⟩) p a K w := by
  unfold F.stack_Stacks_Free T0.stack_Stacks_Free F.stack_is
  refine CND_dec (fun _ => ?_) fun g => absurd (by omega) g
  rw [decide_eq_true (show (p : Int) < 64 by omega)]
  refine CND_f rfl ?_
  simp only [NC_some]
  obtain ⟨R, HO, _⟩ := H.stOut
  refine ⟨_, (stcell H).2.2.2, LKP_sl HO fun es _ => ⟨0, ?_, CND_t ?_ hK⟩⟩
  · unfold outM; rw [ho]; rfl
  · unfold outM; rw [ho]; rfl
variable (hE : EnvH E)
include hE
theorem inuse2_spec (H : Sat (stres E b h T g ++ Z) w) {i : Nat} {next bb : Int} {rf : List Bool} (hR : RfSt T.S i next bb rf) (hi : i <= 990) (hM : Mn T.S) {K : Int -> World -> Prop} (hK : ∀ w', Sat (stres E b h T g ++ Z) w' -> K ((next - 512) * 8192) w') : F.stack_Stacks_Inuse E (some ⟨b, 0, none⟩) K w := by
  have hok : HOk T.S := by
    obtain ⟨R, HH, _, _⟩ := H.stHeap
    exact HH.hok
  refine inuse_spec hE H hR.inv (fun l h1 h2 => ?_) fun l w' h1 h2 H' => ?_
  · have := rf_bnd i l h1 fun n hn => by
      obtain ⟨a, rfl, ha, _⟩ := (hR.inv.sf n).1 (h2 n hn)
      rw [hR.fx] at ha
      have ha : a < i := ha
      omega
    omega
  · rw [sumI_pages hR.inv hok hM h1 h2, hR.pg]
    exact hK w' H'
theorem awake21_spec (hT : ∀ w', Sat Z w' -> TabAt E.g_math_bits_deBruijn64tab w') (H : Sat Z w) {K : Bool -> World -> Prop} (hK : ∀ w', Sat Z w' -> K true w') : F.mallowlaw21_awake E K w := by
  unfold F.mallowlaw21_awake T0.mallowlaw21_awake
  refine fresh21_nil H fun h w2 H2 => CND_f rfl (stnew_spec H2 fun b g w4 H4 => CND_f rfl ?_)
  have hR0 : Rdy ⟨HS.new (newV [] [] []), fun _ => [], fun _ _ => false, fun _ => none⟩ 0 4194304 0 false 0 512 512 :=
    ⟨RfSt.new [], by decide, fun id x hx => (by cases hx), fun _ _ _ _ => rfl, by decide, .inl ⟨rfl, rfl, by decide, fun _ => rfl⟩⟩
  refine stalloc_right (p := 0) (j := 0) (n := 2048) (hT _ (stTail H4)) (by decide) (by decide) (by decide) (by decide) (by decide) (by decide +kernel) (fun _ => ?_) fun g => absurd g (by decide)
  refine small_fill hE.toEnvA hT H4 (p := 0) (o := 0) (by decide) (by decide) hR0 (by decide) rfl (c := 8) (by decide) (by decide) fun T1 g1 w7 r1 o1 hR1 H7 => ?_
  refine afterA_ok H7 fun w8 H8 => ?_
  have hR1 : Rdy T1 0 4194304 8 true 1 516 1024 := hR1
  refine stalloc_right (p := 0) (j := 4) (n := 32768) (hT _ (stTail H8)) (by decide) (by decide) (by decide) (by decide) (by decide) (by decide +kernel) (fun g => absurd g (by decide)) fun _ => ?_
  refine large_spec hE.toEnvA hT H8 hR1.rf (by decide) hR1.pl (by decide) (by decide) (by decide) fun S2 bl I w9 hrf hsp hU hst hsl hpg hbs hne how H9 => ?_
  refine afterA_ok H9 fun w10 H10 => ?_
  refine stfree_none H10 (p := 0) (by decide) (a := 5) ?_ ?_
  · show (if (5 : Int) = 516 * 8192 then some 32768 else if (5 : Int) = adr 4194304 0 (0 + (8 - 1)) then some 2048 else T1.out 5) = none
    rw [if_neg (by decide), if_neg (by decide), o1]
  refine CND_t (by decide) (CND_t rfl (CND_t (by decide) (CND_t rfl (CND_t rfl ?_))))
  have hrow : ∀ k, T1.row k = if k = 4 * 0 + 0 then rowL 4194304 0 0 (8 - 1) else [] := fun k => by rw [r1]
  have hl : ∀ k, (T1.row k).length = if k = 0 then 7 else 0 := fun k => by
    rw [hrow]
    by_cases e : k = 0
    · rw [if_pos (by omega), if_pos e, rowL_len]
    · rw [if_neg (by omega), if_neg e]; rfl
  refine stcached_spec H10 (p := 0) (by decide) ⟨by show (T1.row 0).length <= _; rw [hl]; decide, by show (T1.row 1).length <= _; rw [hl]; decide, by show (T1.row 2).length <= _; rw [hl]; decide, by show (T1.row 3).length <= _; rw [hl]; decide⟩ fun s w15 hs H15 => ?_
  have hs : s.len = 7 := by
    rw [hs]
    show (T1.row 0).length + (T1.row 1).length + (T1.row 2).length + (T1.row 3).length = 7
    rw [hl, hl, hl, hl]; rfl
  rw [hs]
  refine CND_t rfl (inuse2_spec hE H15 hrf (by decide) (fun id x hx => ?_) fun w17 H17 => ?_)
  · by_cases q : id = ((1 : Nat) : Int) + 1
    · rw [q] at hx
      have hx := hsp.symm.trans hx
      cases hx
      exact hst
    · have hx := (hne id q).symm.trans hx
      exact hR1.mn id x hx
  · exact hK w17 (stTail H17)
end
end Go.Sh

set_option linter.all false
set_option maxRecDepth 8000
set_option maxHeartbeats 4000000
namespace Go.Sh
section
variable {E : Env} {w : World} {Z : List Pr} {b h : Nat} {T : ST} {g : SG} {o i : Nat} {next bb : Int} {r : List Bool}
section
variable (hE : EnvA E)
include hE
end
variable (hE : EnvH E)
include hE
end
end Go.Sh
