/- The law HeapOwners holds (its card: math/bits' table as the program's text lays it): for every input the Go function returns true and leaves its arguments alone. No further condition. -/
import Derived.Test.YtbmbflhcebdjgaaGreatDoorK
import Derived.Test.YtbmbflhcebdjgaaGreatDoorQ
import Derived.Test.YtbmbflhcebdjgaaGreatDoorA
import Derived.Test.YtbmbflhcebdjgaaGreatDoorCards
import Derived.Test.YtbmbflhcebdjgaaGreatDoorTie
import Derived.WalkKit
import Derived.ProofKit
import Derived.OpenShut
import Derived.Deep.DeepHandedRow
import Derived.Lib.LaidTab
set_option linter.all false
set_option maxRecDepth 8000
set_option maxHeartbeats 4000000
namespace Go.Sh
def ownK (S : HS) (l : List Int) (id B : Int) (k : Nat) : Int -> Option Value := fun p => if (0 < S.own p /\ S.own p ∈ l) ∨ (S.own p = id /\ p < B + k) then some (.int .i64 (S.own p)) else none
theorem ownK_zero {S : HS} {fl : Int -> Bool} (hI : HInv S fl) {l : List Int} {id : Int} {x : Nat × SI} (hx : S.sp id = some x) : ownK S l id (x.2.base / 8192) 0 = ownM S l := by
  funext p
  unfold ownK ownM
  by_cases e : 0 < S.own p /\ S.own p ∈ l
  · rw [if_pos e, if_pos (.inl e)]
  · rw [if_neg e, if_neg]
    rintro (h | ⟨h1, h2⟩)
    · exact e h
    · have := (hI.own_eq hx p).1 h1; omega
theorem ownK_fin {S : HS} {fl : Int -> Bool} (hI : HInv S fl) {l : List Int} {id : Int} {x : Nat × SI} (hx : S.sp id = some x) {k : Nat} (hk : (k : Int) = x.2.pages) : ownK S l id (x.2.base / 8192) k = ownM S (l ++ [id]) := by
  have h0 := hI.sp id x hx
  funext p
  unfold ownK ownM
  by_cases e : S.own p = id
  · have := (hI.own_eq hx p).1 e
    rw [if_pos (.inr ⟨e, by omega⟩), if_pos ⟨by omega, by rw [e]; simp⟩]
  · by_cases g : 0 < S.own p /\ S.own p ∈ l
    · rw [if_pos (.inl g), if_pos ⟨g.1, by simp [g.2]⟩]
    · rw [if_neg, if_neg]
      · rintro ⟨h1, h2⟩
        rcases List.mem_append.1 h2 with h | h
        · exact g ⟨h1, h⟩
        · exact e (List.mem_singleton.1 h)
      · rintro (h | h)
        · exact g h
        · exact e h.1
theorem ownK_step {S : HS} {fl : Int -> Bool} (hI : HInv S fl) {l : List Int} {id : Int} {x : Nat × SI} (hx : S.sp id = some x) {k : Nat} (hk : (k : Int) < x.2.pages) :
    (fun p => if p = x.2.base / 8192 + k then some (.int .i64 id) else ownK S l id (x.2.base / 8192) k p) = ownK S l id (x.2.base / 8192) (k + 1) := by
  have h0 := hI.sp id x hx
  funext p
  unfold ownK
  by_cases e : p = x.2.base / 8192 + k
  · have ho := (hI.own_eq hx p).2 (by omega)
    rw [if_pos e, if_pos (.inr ⟨ho, by omega⟩), ho]
  · rw [if_neg e]
    by_cases g : (0 < S.own p /\ S.own p ∈ l) ∨ (S.own p = id /\ p < x.2.base / 8192 + k)
    · rw [if_pos g, if_pos]
      rcases g with g | g
      · exact .inl g
      · exact .inr ⟨g.1, by omega⟩
    · rw [if_neg g, if_neg]
      rintro (h | h)
      · exact g (.inl h)
      · exact g (.inr ⟨h.1, by omega⟩)
theorem sorted_at {f : Int -> Int} {l : List Int} (h : (l.map f).Pairwise (· < ·)) {i j : Nat} (hij : i < j) (hj : j < l.length) : f (l[i]'(by omega)) < f (l[j]) := by
  have := List.pairwise_iff_getElem.1 h i j (by rw [List.length_map]; omega) (by rw [List.length_map]; exact hj) hij
  rwa [List.getElem_map, List.getElem_map] at this
section
variable {E : Env} {w : World} (hE : EnvH E)
include hE
theorem howner3_spec {h : Nat} {S : HS} {Z : List Pr} (H : Sat (HeapP E h S :: Z) w) (hI : HInv S no) {p : Int} (hp : 0 < S.own p) {K : Int -> Int -> World -> Prop} (hK : ∀ w', Sat (HeapP E h S :: Z) w' -> K 3 (S.own p) w') : F.mheap_Heap_Owner E (some ⟨h, 0, none⟩) p K w := by
  have hin := (hI.ow p hp).1
  have hl := H.hok.tv.lim p hin
  have hks := (hI.ks p).2 hin
  exact howner_spec hE.toEnvA H hl.1 (by omega) (fun h => absurd h (by rintro (h | h); omega; exact h hks)) (fun _ _ _ => hK) (fun _ _ g => absurd hp g) (fun _ _ g => absurd hp g)
theorem owners16_spec {a00 a01 a02 a1 : SlV} {z0 : Nat -> Int} {z1 : Nat -> Bool} {z2 : Nat -> Int} {z : Nat -> ElT Act16} (hT : TabAt E.g_math_bits_deBruijn64tab w) (h0 : RowA w (.int .u64) a00 z0) (h1 : RowA w .bool a01 z1) (h2 : RowA w (.int .u64) a02 z2) (hA : RowA w Act16 a1 z)
    {a2 : Int} (x0 : 0 <= a2) (x1 : a2 < 18446744073709551616) {K : Bool -> World -> Prop} (hK : ∀ w', Ext Nothing w w' -> K true w') : F.mallowlaw16_HeapOwners E a00 a01 a02 a1 a2 K w := by
  unfold F.mallowlaw16_HeapOwners T0.mallowlaw16_HeapOwners
  refine AL_cells (vs := [slV a00, slV a01, slV a02]) (Sat.start w) fun b1 w2 H2 _ => ⟨a00, H2.cell rfl, a01, H2.cell rfl, a02, H2.cell rfl, ?_⟩
  refine heavy16_spec H2 (fun w' h => hA.old16 (h.old 1 rfl)) fun r w7 hr H7 => CND_intro (fun _ => hK w7 (H7.old 1 rfl)) fun er => ⟨a00, H7.cell rfl, a01, H7.cell rfl, a02, H7.cell rfl, ?_⟩
  obtain ⟨l0, l1, l2⟩ := hr er
  refine fresh16_spec H7 (argI_wf h0) (fun w' h => rowAt_argI (RowG.oldI h0 (h.old 1 rfl))) (argI_len _ _) (by omega) (fun w' h => rowAt_argB16 (RowG.oldB16 h1 (h.old 1 rfl))) (argI_len _ _) (by omega) (fun w' h => rowAt_argI (RowG.oldI h2 (h.old 1 rfl))) (argI_len _ _) (by omega) fun h w12 H12 => CND_f rfl ?_
  refine acts16_spec hE hA hT (H12.front 1 rfl).tail (HInv.newV _ _ _) fun S w14 hI H14 => ?_
  clear H12 H7 H2
  have hok := H14.hok
  refine AL_map H14 .u64 fun b47 w48 H48 _ => ?_
  refine hspansS_spec hE (H48.front 1 rfl) hI fun s l w50 hnd hall hsort H50 => ?_
  have hsl := H50.rowLen
  rw [ints, List.length_map, Nat.mul_one] at hsl
  have hfew := hI.few l hnd fun n hn => (hall n).1 hn
  let R : List Int -> List Pr := fun m => [Row E.t_int 1 s (ints .i64 l), HeapP E h S, MapF b47 .u64 (ownM S m), Old w]
  have H50' : Sat (R []) w50 := by
    have e : ownM S [] = fun _ => none := by funext p; unfold ownM; rw [if_neg]; rintro ⟨_, g⟩; cases g
    show Sat [Row E.t_int 1 s (ints .i64 l), HeapP E h S, MapF b47 .u64 (ownM S []), Old w] w50
    rw [e]; exact H50
  refine LOOP_intro (fun st w' => ∃ i : Nat, st.2.2.1 = (i : Int) /\ i <= l.length /\ st.1 = ownN S (l.take i) /\ (∀ hi : 0 < i, ∀ hj : i - 1 < l.length, st.2.1 = S.at (l[i - 1])) /\ Sat (R (l.take i)) w') (fun st _ => ((s.len : Int) - st.2.2.1).toNat)
    ⟨0, rfl, Nat.zero_le _, ?_, fun h => absurd h (Nat.lt_irrefl _), H50'⟩ ?_
  · show (0 : Int) = cP _
    exact (cP_zero fun p => decide_eq_false (by rintro ⟨_, g⟩; cases g)).symm
  clear H50' H50 H48 H14
  rintro ⟨used, last, i', u⟩ _ w52 ⟨i, hi, hil, hu, hlast, H52⟩
  dsimp only at hi hu hlast ⊢
  subst hi
  have hub : 0 <= used /\ used <= 34359738368 := by rw [hu]; exact cP_bnd _
  refine CND_dec (fun hlt => ?_) fun hge => ?_
  · -- one span
    have hi2 : i < l.length := by omega
    have hmem : l[i] ∈ l := List.getElem_mem hi2
    obtain ⟨x, hx⟩ := Option.ne_none_iff_exists'.1 ((hall _).1 hmem)
    generalize hid : l[i] = id at *
    have hget : l[i]? = some id := by rw [List.getElem?_eq_getElem hi2, hid]
    have hsp := hI.sp id x hx
    have hnot : id ∉ l.take i := fun hm => by
      obtain ⟨k, hk, e⟩ := List.mem_take_iff_getElem.1 hm
      have := (List.getElem_inj (i := k) (j := i) (h₀ := by omega) (h₁ := hi2) hnd).1 (by rw [e, hid])
      omega
    have htake : l.take (i + 1) = l.take i ++ [id] := by rw [List.take_succ_eq_append_getElem hi2, hid]
    obtain ⟨hstep, hB0, hB1⟩ := ownN_step hI hok hx hnot
    obtain ⟨xb, hxb⟩ := H52.own.base_of (by omega)
    have hb : (0 : Int) <= (i : Int) /\ (i : Int) < (s.len : Nat) := ⟨by omega, by omega⟩
    have rd : ∀ {w' : World} {Y : List Pr} (n : Nat), Sat Y w' -> Y[n]? = some (Row E.t_int 1 s (ints .i64 l)) -> w'.cell? ((Addr.mk xb 0 none).add (Int.toNat (i : Int) * 1)) = some (.int .i64 id) := fun n hS hn => by
      rw [Int.toNat_natCast, Nat.mul_one]
      exact (hS.front n hn).own.cell hxb (ints_get hget)
    rw [hxb]
    simp only [NC_some]
    refine ⟨hb, id, rd 0 H52 rfl, ?_⟩
    refine hspan_spec (H52.front 1 rfl) (fun e => by rw [hx] at e; cases e) fun y hy => ?_
    rw [hx] at hy; cases hy
    refine JOIN_in (CND_f rfl fun j => CND_f rfl ?_)
    obtain ⟨R1, hs1, hbk⟩ := (H52.front 1 rfl).heapSpan hx
    refine spinfo_spec hs1 fun w72 H72 => ?_
    have H72' := (hbk H72).front 1 rfl
    refine AL_cells (vs := [.int .u64 0, .int .i64 0, .int .i64 0, .int .i64 0, .bool false, .int .i64 0, .int .i64 0, .int .i64 0, .bool false, .bool false]) H72' fun b73 w74 H74 _ => ?_
    refine st_all (news := [.int .u64 x.2.base, .int .i64 x.2.pages, .int .i64 x.2.state, .int .i64 x.2.cls, .bool x.2.noptr, .int .i64 x.2.elem, .int .i64 x.2.slots, .int .i64 x.2.used, .bool x.2.f8, .bool x.2.f9]) H74 rfl (by intro v hv; simp at hv; rcases hv with rfl | rfl | rfl | rfl | rfl | rfl | rfl | rfl | rfl | rfl <;> rfl) fun w75 H75 => ?_
    have hbase : 0 <= x.2.base /\ x.2.base / 8192 * 8192 = x.2.base := by omega
    have hmod : Int.tmod x.2.base 8192 = 0 := by rw [Int.tmod_eq_emod_of_nonneg hbase.1]; exact hsp.2.1
    have hdiv : Int.tdiv x.2.base 8192 = x.2.base / 8192 := Int.tdiv_eq_ediv_of_nonneg hbase.1
    clear H72' H74 H72 hs1 hbk
    have e0 := ownK_zero hI (l := l.take i) hx
    generalize hBdef : x.2.base / 8192 = B at *
    let I : List Value := [.int .u64 x.2.base, .int .i64 x.2.pages, .int .i64 x.2.state, .int .i64 x.2.cls, .bool x.2.noptr, .int .i64 x.2.elem, .int .i64 x.2.slots, .int .i64 x.2.used, .bool x.2.f8, .bool x.2.f9]
    let Q : Nat -> List Pr := fun k => [Cells b73 E.t_api_Info I, HeapP E h S, Row E.t_int 1 s (ints .i64 l), MapF b47 .u64 (ownK S (l.take i) id B k), Old w]
    have H75' : Sat (Q 0) w75 := by
      show Sat [Cells b73 E.t_api_Info I, HeapP E h S, Row E.t_int 1 s (ints .i64 l), MapF b47 .u64 (ownK S (l.take i) id B 0), Old w] w75
      rw [e0]
      exact H75.perm (.cons _ (.swap _ _ _))
    clear H75
    have c0 : ∀ {w' : World} {k : Nat}, Sat (Q k) w' -> w'.cell? (Addr.mk b73 0 none) = some (.int .u64 x.2.base) := fun H => H.cell0 rfl
    have c1 : ∀ {w' : World} {k : Nat}, Sat (Q k) w' -> w'.cell? ((Addr.mk b73 0 none).add 1) = some (.int .i64 x.2.pages) := fun H => H.cell rfl
    refine JOIN_intro (fun st w' => st.1 = false /\ w' = w75) ?_ ?_
    · have pg : decide (x.2.pages < 1) = false := decide_eq_false (by omega)
      refine ⟨x.2.state, H75'.cell rfl, CND_eq (fun e => absurd e hsp.2.2.2.1) fun _ => CND_dec (fun hi0 => ⟨_, c0 H75', CND_dec (fun hle => ?_) fun _ => ⟨_, c0 H75', by decide, CND_ne (fun e => absurd hmod e) fun _ => ⟨_, c1 H75', pg, rfl⟩⟩⟩) fun _ => ⟨_, c0 H75', by decide, CND_ne (fun e => absurd hmod e) fun _ => ⟨_, c1 H75', pg, rfl⟩⟩⟩
      exfalso
      have e1 := hlast (by omega) (by omega)
      have e2 := sorted_at (f := S.at) hsort (i := i - 1) (j := i) (by omega) hi2
      rw [<- e1, hid, HS.at_some hx] at e2
      omega
    rintro ⟨t, u⟩ _ w78 ⟨ht, rfl⟩
    dsimp only at ht ⊢
    subst ht
    refine CND_f rfl ⟨_, c0 H75', _, c1 H75', LET_intro fun used2 hu2 => ⟨_, c0 H75', by decide, ?_⟩⟩
    have hpb : 0 <= x.2.pages /\ x.2.pages <= 34359738368 := by omega
    rw [u64_id (n := x.2.pages) (by omega) (by omega), u64_id (n := used + x.2.pages) (Int.add_nonneg hub.1 hpb.1) (Int.lt_of_le_of_lt (Int.add_le_add hub.2 hpb.2) (by decide))] at hu2
    rw [hdiv, u64_id (n := B) (by omega) (by omega)]
    refine LOOP_intro (fun st w' => ∃ k : Nat, st.1 = B + k /\ (k : Int) <= x.2.pages /\ Sat (Q k) w') (fun st _ => (B + x.2.pages - st.1).toNat) ⟨0, by show B = B + (0 : Nat); omega, by omega, H75'⟩ ?_
    clear H75'
    rintro ⟨p', u⟩ _ w90 ⟨k, hk, hkp, H90⟩
    dsimp only at hk ⊢
    subst hk
    refine ⟨_, c0 H90, by decide, _, c1 H90, ?_⟩
    rw [hdiv, u64_id (n := B) (by omega) (by omega), u64_id (n := x.2.pages) (by omega) (by omega), u64_id (n := B + x.2.pages) (by omega) (by omega)]
    refine CND_dec (fun hlt2 => ?_) fun hge2 => ?_
    · have ho : S.own (B + k) = id := (hI.own_eq hx _).2 (by omega)
      have hpos : 0 < S.own (B + k) := by omega
      have hin := (hI.ow _ hpos).1
      have hnone : ownK S (l.take i) id B k (B + k) = none := by
        unfold ownK
        rw [if_neg]
        rintro (⟨_, g⟩ | ⟨_, g⟩)
        · rw [ho] at g; exact hnot g
        · omega
      refine JOIN_in (LKP_sl (H90.front 3 rfl) fun es _ => ⟨0, by rw [hnone]; rfl, CND_f rfl (hmem_spec (H90.front 1 rfl) fun m R2 hm hb2 => vstate_spec hE.toEnvS hm (by omega) fun w104 H104 => ?_)⟩)
      have Hs : Sat [HeapP E h S, Cells b73 E.t_api_Info I, Row E.t_int 1 s (ints .i64 l), MapF b47 .u64 (ownK S (l.take i) id B k), Old w] w104 := hb2 (V' := S.V) H104
      clear H104 hb2 hm
      rw [if_pos (inL_iff.2 ((hI.la _).2 hin)), if_pos (inL_iff.2 (hI.ready hok hpos))]
      refine fun j => CND_f rfl ⟨hb, id, rd 2 Hs rfl, MUPD_sl (Hs.front 3 rfl) fun w107 H107 => ?_⟩
      have ek : (fun i_1 => if i_1 = B + (k : Int) then some (Value.int .i64 id) else ownK S (l.take i) id B k i_1) = ownK S (l.take i) id B (k + 1) := by
        have := ownK_step hI (l := l.take i) hx (k := k) (by omega)
        rw [hBdef] at this; exact this
      rw [ek] at H107
      refine howner3_spec hE (H107.front 1 rfl) hI hpos fun w110 H110 => ?_
      have Hd := H110.drew
      rw [ho]
      refine JOIN_in (CND_f rfl ⟨hb, id, rd 3 Hd rfl, CND_ne (fun e => absurd rfl e) fun _ => ⟨hb, id, rd 3 Hd rfl, ?_⟩⟩)
      rw [u64_id (n := (B + k) * 8192) (by omega) (by omega)]
      refine hof_spec Hd (by omega) (by omega) fun w119 H119 => ⟨rd 3 H119 rfl, rd 3 H119 rfl, fun j2 => ?_⟩
      rw [Int.mul_ediv_cancel _ (by decide : (8192 : Int) ≠ 0), ho]
      refine CND_f (by simp) ?_
      rw [u64_id (n := B + k + 1) (by omega) (by omega)]
      exact ⟨⟨k + 1, by show B + (k : Int) + 1 = B + ((k + 1 : Nat) : Int); omega, by omega, (H119.front 2 rfl).perm (.cons _ (.cons _ (.swap _ _ _)))⟩, by show (B + x.2.pages - (B + k + 1)).toNat < (B + x.2.pages - (B + k)).toNat; omega⟩
    · have hkk : (k : Int) = x.2.pages := by omega
      rw [i64_id (n := (i : Int) + 1) (by omega) (by omega)]
      refine ⟨⟨i + 1, rfl, by omega, ?_, fun _ hj => ?_, ?_⟩, by show ((s.len : Int) - ((i : Int) + 1)).toNat < ((s.len : Int) - (i : Int)).toNat; omega⟩
      · show used2 = _
        rw [hu2, htake, hstep, hu]
      · show x.2.base = S.at (l[i + 1 - 1])
        have e : l[i + 1 - 1] = id := hid
        rw [e, HS.at_some hx]
      · have hf := ownK_fin hI (l := l.take i) hx hkk
        rw [hBdef] at hf
        rw [htake]
        show Sat [Row E.t_int 1 s (ints .i64 l), HeapP E h S, MapF b47 .u64 (ownM S (l.take i ++ [id])), Old w] w90
        rw [<- hf]
        exact H90.tail.perm (.swap _ _ _)
  · obtain rfl : i = l.length := by omega
    rw [List.take_length] at hu H52
    rw [ownN_all hI hall] at hu
    obtain ⟨q1, q2, q3⟩ := hI.counts hok
    have q4 := cP_bnd S.T.inn
    have q5 := cP_bnd S.gone
    refine hpages_spec (H52.front 1 rfl) hI fun w123 H123 => ?_
    subst hu
    clear hub
    have hpp : 0 <= S.pages := by rw [hI.pg]; exact (cP_bnd _).1
    generalize cP S.T.inn = N at *
    generalize cP S.gone = G at *
    refine JOIN_in (CND_ne (fun e => absurd rfl e) fun _ => ⟨by decide, CND_ne (fun e => ?_) fun _ => ?_⟩)
    · exfalso
      apply e
      rw [Int.tmod_eq_emod_of_nonneg q4.1, q1]; omega
    rw [u64_id (n := N - S.pages) (by omega) (by omega), u64_id (n := N - G) (by omega) (by omega)]
    refine CND_dec (fun g => absurd g (by omega)) fun _ => hmem_spec H123 fun m R2 hm hb2 => vcount_spec hm fun w130 H130 => ?_
    have Hs : Sat [HeapP E h S, Row E.t_int 1 s (ints .i64 l), MapF b47 .u64 (ownM S l), Old w] w130 := hb2 (V' := S.V) H130
    clear H130 hb2 hm H123 H52
    rw [if_pos rfl]
    refine fun j => CND_f (by show (tot S.V.ready != N - G) = false; rw [show N - G = tot S.V.ready by omega]; simp) ⟨by decide, ?_⟩
    have Hd := Hs.drew
    obtain ⟨es, c, mm, hmm, hg, HX⟩ := (Hd.front 2 rfl).mapFix
    have hpd : u64 (Int.tdiv a2 8192) = a2 / 8192 := by rw [Int.tdiv_eq_ediv_of_nonneg x0, u64_id (by omega) (by omega)]
    rw [hpd]
    refine LKP_intro HX.mapX hmm ?_
    rw [hg, ownM_all hI hall]
    refine ⟨_, rfl, hof_spec (HX.front 1 rfl) x0 x1 fun w136 H136 => ⟨⟨c, (H136.front 1 rfl).mapX⟩, CND_f (by simp) ⟨by decide, ?_⟩⟩⟩
    have h0 := hI.o0 (a2 / 8192)
    have fin : ∀ (r : Int) (w' : World), (r = 3 ↔ 0 < S.own (a2 / 8192)) -> Sat [HeapP E h S, MapX b47 es c, Row E.t_int 1 s (ints .i64 l), Old w] w' ->
        (8192 ≠ (0 : Int) /\ LKP .u64 (a2 / 8192) (some b47) w' (.int .i64 0) fun v140 ok141 es142 => ∃ x143 : Int, v140 = .int .i64 x143 /\
          CND (((r : Int) == 3) == ((x143 : Int) != 0)) (F.mallowlaw16_awake E (fun r144 w145 => K r144 w145) w') (K false w')) := fun r w' hr H' => by
      refine ⟨by decide, LKP_intro (H'.front 1 rfl).mapX hmm ?_⟩
      rw [hg, ownM_all hI hall]
      refine ⟨_, rfl, CND_t ?_ (hawake_spec hE.toEnvA (fun w' h => hT.ext (h.old 3 rfl)) H' fun w3 H3 => hK w3 (H3.old 3 rfl))⟩
      by_cases g : 0 < S.own (a2 / 8192)
      · have e1 : r = 3 := hr.2 g
        have e2 : (S.own (a2 / 8192) != 0) = true := by simp; omega
        rw [e1, e2]; rfl
      · have e1 : (r == 3) = false := by simp; exact fun e => g (hr.1 e)
        have e2 : (S.own (a2 / 8192) != 0) = false := by simp; omega
        rw [e1, e2]; rfl
    refine howner_spec hE.toEnvA H136 (by omega) (by omega) (fun hn w' H' => fin 0 w' ⟨fun e => by omega, fun g => ?_⟩ H') (fun _ _ g w' H' => fin 3 w' ⟨fun _ => g, fun _ => rfl⟩ H') (fun _ _ g i _ _ _ w' H' => fin 2 w' ⟨fun e => by omega, fun g2 => absurd g2 g⟩ H') fun _ _ g _ w' H' => fin 1 w' ⟨fun e => by omega, fun g2 => absurd g2 g⟩ H'
    exfalso
    have hin := (hI.ow _ g).1
    have hl := hok.tv.lim _ hin
    have hks := (hI.ks (a2 / 8192)).2 hin
    rcases hn with hn | hn
    · omega
    · exact hn hks
theorem owners16_spec2 {a00 a01 a02 a1 : SlV} {z : Nat -> ElT Act16} (hT : TabAt E.g_math_bits_deBruijn64tab w) (h0 : ∃ z0, RowA w (.int .u64) a00 z0) (h1 : ∃ z1, RowA w .bool a01 z1) (h2 : ∃ z2, RowA w (.int .u64) a02 z2) (hA : RowA w Act16 a1 z)
    {a2 : Int} (x0 : 0 <= a2) (x1 : a2 < 18446744073709551616) {K : Bool -> World -> Prop} (hK : ∀ w', Ext Nothing w w' -> K true w') : F.mallowlaw16_HeapOwners E a00 a01 a02 a1 a2 K w :=
  let ⟨_, h0⟩ := h0; let ⟨_, h1⟩ := h1; let ⟨_, h2⟩ := h2; owners16_spec hE hT h0 h1 h2 hA x0 x1 hK
end
end Go.Sh

namespace Go.Proofs.YtbmbflhcebdjgaaGreatDoor.heapOwners
open Go.ChangeShapes Go.WideShapes Go.ChangeAt Go.RowKit
set_option linter.unusedVariables false
set_option linter.unusedSimpArgs false
theorem own : ownKnob Tryz.prog.godebug = none := by kernel_rfl
theorem laidOut : laidOutB Tryz.prog = true := by kernel_rfl
theorem gTab : Tryz.prog.globalNamed "math/bits.deBruijn64tab" = some 0 := by kernel_rfl
theorem gTabType : (Tryz.prog.globals[0]?).map (·.type) = some 186 := by kernel_rfl
theorem und1 : Tryz.prog.underlying 186 = some (.array 64 5) := by kernel_rfl
theorem und2 : Tryz.prog.underlying 5 = some (.int .u8) := by kernel_rfl
theorem cells1 : Tryz.prog.cellsOf 186 = 64 := by kernel_rfl
theorem cells2 : Tryz.prog.cellsOf 5 = 1 := by kernel_rfl
theorem table {W : World} (h : laidMetH Tryz.prog Rows.heapOwnersRow.laid W) : Go.Sh.TabAt Go.Sh.env.g_math_bits_deBruijn64tab W := by
  have ht := Lib.tabIs_of_head (rest := []) (k := .u8) (zs := Lib.deBruijn64tab.map fun n : Nat => (n : Int)) gTab gTabType und1 und2 cells2 cells1 h
  intro i hi
  have := ht.cell gTab i (by rw [List.length_map]; exact hi)
  rw [show (Lib.deBruijn64tab.map fun n : Nat => (n : Int)).getD i 0 = ((Lib.deBruijn64tab.getD i 0 : Nat) : Int) by rw [List.getD_eq_getElem?_getD, List.getD_eq_getElem?_getD, List.getElem?_map]; cases Lib.deBruijn64tab[i]? <;> rfl] at this
  exact this
theorem walk (x : Go.Sh.ArgTs [.cons (.sl (.int .u64)) (.cons (.sl (.bool)) (.cons (.sl (.int .u64)) (.nil))), .sl (.cons (.int .i64) (.cons (.int .i64) (.cons (.int .u64) (.cons (.int .i64) (.cons (.bool) (.cons (.int .i64) (.cons (.int .u64) (.nil)))))))), .int .u64]) (w : World) (h : Go.Sh.argOks w [.cons (.sl (.int .u64)) (.cons (.sl (.bool)) (.cons (.sl (.int .u64)) (.nil))), .sl (.cons (.int .i64) (.cons (.int .i64) (.cons (.int .u64) (.cons (.int .i64) (.cons (.bool) (.cons (.int .i64) (.cons (.int .u64) (.nil)))))))), .int .u64] x) (hT : Go.Sh.TabAt Go.Sh.env.g_math_bits_deBruijn64tab w) :
    Calls Tryz.prog 3 ⟨Go.Sh.argVals [.cons (.sl (.int .u64)) (.cons (.sl (.bool)) (.cons (.sl (.int .u64)) (.nil))), .sl (.cons (.int .i64) (.cons (.int .i64) (.cons (.int .u64) (.cons (.int .i64) (.cons (.bool) (.cons (.int .i64) (.cons (.int .u64) (.nil)))))))), .int .u64] x⟩ w fun e w' => e = .returned (.bool true) /\ Below w.heap.size w w' := by
  obtain ⟨a0, a1, a2, u⟩ := x
  obtain ⟨w0, w1, w2, _⟩ := h
  obtain ⟨z1, w1⟩ := w1
  refine (Go.Sh.fits3 _ w (fun v w' => v = .bool true /\ Below w.heap.size w w') Go.Sh.noP ?_).2.mono ?_
  · show Go.Sh.F.mallowlaw16_HeapOwners Go.Sh.env a0.1 a0.2.1 a0.2.2.1 a1 a2 (fun r w' => Value.bool r = .bool true /\ Below w.heap.size w w') w
    exact Go.Sh.owners16_spec2 Go.Sh.envH hT w0.1 w0.2.1 w0.2.2.1 w1 (Go.Sh.u64_wf w2).1 (Go.Sh.u64_wf w2).2 fun w' h => ⟨rfl, h.below (Nat.le_refl _) fun _ f => f.elim⟩
  · intro e w' hE
    obtain ⟨v, rfl, rfl, h⟩ := hE.val
    exact ⟨rfl, h⟩
noncomputable def laidWorld (os : Os) : World :=
  { World.holding Tryz.prog os ⟨#[], #[], []⟩ with heap := (World.holding Tryz.prog os ⟨#[], #[], []⟩).heap.modify 0 fun
      | .cells _ t frozen => .cells ⟨Lib.deBruijn64tab.map fun n : Nat => .int .u8 (n : Int)⟩ t frozen
      | o => o }
theorem laid_met (os : Os) : laidMet Tryz.prog Rows.heapOwnersRow.laid ((laidWorld os).forCall (fun _ _ => 0) ⟨#[], #[.agg #[.slice none 0 0, .slice none 0 0, .slice none 0 0], .slice none 0 0, .int .u64 0], []⟩).memory :=
  laidMet_of_run' 8 (by kernel_rfl) (by kernel_rfl)
theorem reads (os : Os) {H : Type} (enc : TypeId × Value -> H) : ∃ places, DataW.whole enc Tryz.prog ((laidWorld os).forCall (fun _ _ => 0) ⟨#[], #[.agg #[.slice none 0 0, .slice none 0 0, .slice none 0 0], .slice none 0 0, .int .u64 0], []⟩).memory Tryz.f3.params.toList Rows.heapOwnersSpec.vars false (#[.agg #[.slice none 0 0, .slice none 0 0, .slice none 0 0], .slice none 0 0, .int .u64 0] : Array Value).toList 8 = some ([.agg [.nil, .nil, .nil], .nil, .lit (.int .u64 0)], [], places) :=
  ⟨[], by kernel_rfl⟩
set_option maxRecDepth 100000 in
theorem lifted (os : Os) (started : os.Started) (H : Type) (enc : TypeId × Value -> H) (F : Stop.Interp) :
    ReturnsInHanded {} Tryz.checked os 3 .any ((OpenSpec.ofChange Rows.heapOwnersSpec).preRow enc Tryz.prog Tryz.f3 Rows.heapOwnersRow.domain false Rows.heapOwnersRow.laid) (((OpenSpec.ofChange Rows.heapOwnersSpec).at F).post enc Tryz.prog Tryz.f3 false true false false) := by
  obtain ⟨places, hx⟩ := reads os enc
  refine returnsInHanded_of_row (C := Tryz.checked) (s := OpenSpec.ofChange Rows.heapOwnersSpec) own started (by kernel_rfl) Tryz.func3
    (witness_row_at (enc := enc) (C := Tryz.checked) false (laidWorld os) #[.agg #[.slice none 0 0, .slice none 0 0, .slice none 0 0], .slice none 0 0, .int .u64 0] rfl (by kernel_rfl) (by kernel_rfl) (by kernel_rfl)
      (OpenSpec.preRow_of_cond 8 hx (by kernel_rfl) (fun k hk => by cases hk) (by kernel_rfl) (laid_met os))) ?_
  intro W base args ds gs before hval0 hW _ _ _ hL _ _
  have hW' := hW
  obtain ⟨p, q, hA, hV, rfl, hfz, hnd⟩ := hW
  obtain ⟨rfl, rfl⟩ := trodVars_none hV
  have hargs := Go.Sh.args_of (P := Tryz.prog) (shs := [.cons (.sl (.int .u64)) (.cons (.sl (.bool)) (.cons (.sl (.int .u64)) (.nil))), .sl (.cons (.int .i64) (.cons (.int .i64) (.cons (.int .u64) (.cons (.int .i64) (.cons (.bool) (.cons (.int .i64) (.cons (.int .u64) (.nil)))))))), .int .u64]) (by kernel_rfl) (fun j t v ht hv => hval0 j t v (by simpa using ht) (by simpa using hv)) hA
  obtain ⟨x, hx, hok⟩ := Go.Sh.argVals_of hargs
  obtain rfl : args = ⟨Go.Sh.argVals [.cons (.sl (.int .u64)) (.cons (.sl (.bool)) (.cons (.sl (.int .u64)) (.nil))), .sl (.cons (.int .i64) (.cons (.int .i64) (.cons (.int .u64) (.cons (.int .i64) (.cons (.bool) (.cons (.int .i64) (.cons (.int .u64) (.nil)))))))), .int .u64] x⟩ := Array.toList_inj.1 (by simpa using hx)
  have hlen := Go.Sh.trodAll_len hA
  obtain ⟨d0, d1, d2, rfl⟩ : ∃ d0 d1 d2, ds = [d0, d1, d2] := by
    have hl : ds.length = 3 := hlen
    match ds, hl with
    | [d0, d1, d2], _ => exact ⟨d0, d1, d2, rfl⟩
  refine (walk x W hok (table hL)).mono fun e W' ⟨he, bel⟩ => ?_
  subst he
  exact ⟨_, rfl, _, _, _, [], _, [], hW', trodAll_mk1 (shut_bool Tryz.underlying4 _), Go.Sh.trodAll_below laidOut bel (by kernel_rfl) hA, rfl, bel.frame _, fun h => by cases h⟩
theorem said : Rows.HeapOwnersSaid :=
  OpenClaim.holds_of_cond 3 Tryz.f3 rfl rfl rfl rfl rfl rfl rfl ⟨rfl, rfl, rfl, rfl, rfl⟩ rfl rfl rfl rfl rfl (by kernel_rfl) Tryz.func3 (by kernel_rfl)
    (of_decide_eq_true (by kernel_rfl)) (by unfold Func.isWrapper; first | (rw [if_pos (by decide +kernel)]; kernel_rfl) | (rw [if_neg (by decide +kernel)]; exact ⟨rfl, rfl⟩))
    (fun os started H enc _ F => by rw [OpenClaim.pre_eq_preRow]; exact lifted os started H enc F)
theorem plain (f : FuncId) (fn : Func) (hf : Tryz.pinned.checked.prog.funcNamed "mallow/mallowlaw16.HeapOwners" = some f) (hfn : Tryz.pinned.checked.prog.funcs[f]? = some fn) :
    false = Tryz.pinned.checked.prog.looks [] /\ ∀ (j : Nat) t, fn.params[j]? = some t -> Tryz.pinned.checked.prog.wantsStandIn t = false := by
  obtain rfl : f = 3 := Option.some.inj ((show Tryz.prog.funcNamed "mallow/mallowlaw16.HeapOwners" = some 3 by kernel_rfl).symm.trans hf) |>.symm
  obtain rfl : fn = Tryz.f3 := (Option.some.inj (Tryz.func3.symm.trans hfn)).symm
  refine ⟨by kernel_rfl, fun j t ht => ?_⟩
  have hall : (Tryz.f3.params.toList.all fun t => !(Tryz.prog.wantsStandIn t)) = true := by kernel_rfl
  have := List.all_eq_true.1 hall t (Array.mem_toList_iff.2 (Array.mem_of_getElem? ht))
  exact Bool.not_eq_true' _ ▸ this
theorem proved : Rows.HeapOwnersCardSaid :=
  Claim7.holds_tied_plain_at .later [] _ _ _ _ said (fun _ h => by cases h) (by kernel_rfl) (fun _ h => by cases h) heapOwners_row_tie rfl ⟨rfl, rfl⟩ (by kernel_rfl) rfl plain (by kernel_rfl)
#print axioms proved
end Go.Proofs.YtbmbflhcebdjgaaGreatDoor.heapOwners
