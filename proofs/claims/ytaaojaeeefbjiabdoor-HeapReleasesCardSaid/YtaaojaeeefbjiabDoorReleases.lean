/- The law HeapReleases holds (its card: math/bits' table as the program's text lays it): for every input the Go function returns true and leaves its arguments alone. No further condition. -/
import Derived.Test.YtaaojaeeefbjiabDoorH
import Derived.Test.YtaaojaeeefbjiabDoorL
import Derived.Test.YtaaojaeeefbjiabDoorB
import Derived.Test.YtaaojaeeefbjiabDoorA
import Derived.Test.YtaaojaeeefbjiabDoorCards
import Derived.Test.YtaaojaeeefbjiabDoorTie
import Derived.WalkKit
import Derived.ProofKit
import Derived.OpenShut
import Derived.Deep.DeepHandedRow
import Derived.Lib.LaidTab
set_option linter.all false
set_option maxRecDepth 8000
set_option maxHeartbeats 4000000
namespace Go.Sh

section
variable {S S2 : HS} {p n page : Int}

theorem taken_words (h : Taken S p n page S2) : S2.V.wd = S.V.wd ∧ S2.V.fl = S.V.fl ∧ S2.V.ready = S.V.ready ∧ S2.V.rel = S.V.rel := by
  rcases h with (⟨S0, i, k, hi, _, _, hfl, _, _, _, _, rfl⟩ | ⟨S0, htr, _, rfl⟩) | ⟨S0, S0', htr, _, ⟨_, at_, _, rfl⟩, _, rfl⟩
  · have e : (S0.calloc i k n.toNat).V = S.V := hfl.V.1
    rw [e]; exact ⟨rfl, rfl, rfl, rfl⟩
  · have e : (S0.talloc page n).V = S.V := htr.V.1
    rw [e]; exact ⟨rfl, rfl, rfl, rfl⟩
  · show S0.V.wd = _ ∧ S0.V.fl = _ ∧ S0.V.ready = _ ∧ S0.V.rel = _
    rw [htr.V.1]; exact ⟨rfl, rfl, rfl, rfl⟩

/-- Nothing was released: words stay, fills too. -/
theorem found_words (h : Found S p n page S2) (hr : S.V.rel = []) : S2.V.wd = S.V.wd ∧ S2.V.fl = S.V.fl ∧ S2.V.rel = [] := by
  obtain ⟨S1, h, hm⟩ := h
  obtain ⟨e1, e2, _, e4⟩ := taken_words h
  rw [hr] at e4
  rcases hm with ⟨_, rfl⟩ | ⟨_, _, rfl⟩
  · exact ⟨e1, e2, e4⟩
  · refine ⟨funext fun q => funext fun i => ?_, ?_, ?_⟩
    · show (if page ≤ q ∧ q < page + n ∧ inL S1.V.rel q = true then fillAt S1.V page q else S1.V.wd q i) = _
      rw [e4, if_neg (fun h => by cases h.2.2), e1]
    · show S1.V.fl.drop (cnt S1.V.rel page (page + n)).toNat = _
      rw [e4, e2]; rfl
    · show cutL S1.V.rel page (page + n) = []
      rw [e4]; rfl

/-- What words stand in pages that were made ready. -/
theorem found_wd (h : Found S p n page S2) {fill : Int} {N : Nat} (hf : S.V.fl = List.replicate N fill) (hok : Ok S.V.rel) (hn : 0 ≤ n) (hN : n ≤ N) (hrr : ∀ q, mem S.V.ready q → ¬ mem S.V.rel q) (q i : Int) :
    S2.V.wd q i = if page ≤ q ∧ q < page + n ∧ inL S.V.rel q = true then fill else S.V.wd q i := by
  obtain ⟨S1, h, hm⟩ := h
  obtain ⟨e1, e2, e3, e4⟩ := taken_words h
  rcases hm with ⟨hr, rfl⟩ | ⟨_, _, rfl⟩
  · rw [e1, if_neg]
    rintro ⟨a, b, c⟩
    have := hr q a b
    rw [e3] at this
    exact hrr q this (inL_iff.1 c)
  · show (if page ≤ q ∧ q < page + n ∧ inL S1.V.rel q = true then fillAt S1.V page q else S1.V.wd q i) = _
    rw [e4, e1]
    by_cases g : page ≤ q ∧ q < page + n ∧ inL S.V.rel q = true
    · rw [if_pos g, if_pos g]
      unfold fillAt
      rw [e2, e4, hf, List.getD_eq_getElem?_getD, List.getElem?_replicate, if_pos]
      · rfl
      · have h1 := cnt_split hok (a := page) (b := q) (by omega)
        have h2 := cnt_nonneg S.V.rel page q
        omega
    · rw [if_neg g, if_neg g]

theorem LaidB.memV {b : Int} (h : LaidB S b) {V : VS} (e1 : V.laid = S.V.laid) (e2 : V.pl = S.V.pl) (e3 : V.rf = S.V.rf) : LaidB { S with V := V } b := ⟨fun q => by rw [show ({ S with V := V } : HS).V.laid = S.V.laid from e1]; exact h.la q, h.b0, h.b1, h.h0, h.h1, by rw [show ({ S with V := V } : HS).V.pl = S.V.pl from e2]; exact h.pl, by rw [show ({ S with V := V } : HS).V.rf = S.V.rf from e3]; exact h.rf⟩
theorem storeV_at {V : VS} {addr x : Int} (h : storeE V addr = 0) : storeV V addr x = { V with wd := fun p i => if p = addr / 8192 ∧ i = addr % 8192 / 8 then x else V.wd p i } := by
  unfold storeV
  rw [if_pos h]
theorem storeE_at {V : VS} {q : Int} (h : mem V.ready q) : storeE V (q * 8192) = 0 := by
  unfold storeE
  rw [if_neg (by omega), show q * 8192 / 8192 = q by omega, if_pos (inL_iff.2 h)]
theorem loadV_at {V : VS} {q a : Int} (h : mem V.ready q) (ha : a / 8192 = q) (h8 : a % 8 = 0) : loadV V a = (V.wd q (a % 8192 / 8), 0) := by
  unfold loadV
  rw [if_neg (by omega), ha, if_pos (inL_iff.2 h)]
end

section
variable {E : Env} {w : World} {Rs Z : List Pr} (hE : EnvA E)
include hE

theorem releases_spec (hT : TabAt E.g_math_bits_deBruijn64tab w) {a0 a1 a2 a3 : Int} (w2 : 0 ≤ a2 ∧ a2 < 18446744073709551616) (w3 : 0 ≤ a3 ∧ a3 < 18446744073709551616) {K : Bool → World → Prop} (hK : ∀ w', Ext Nothing w w' → K true w') : F.mallowlaw16_HeapReleases E a0 a1 a2 a3 K w := by
  unfold F.mallowlaw16_HeapReleases
  have ht : K true w := hK w (Ext.refl _ _)
  refine JOIN_in (CND_dec (fun _ j => CND_t rfl ht) fun g1 => CND_dec (fun _ j => CND_t rfl ht) fun g2 => CND_dec (fun _ j => CND_t rfl ht) fun g3 => CND_dec (fun _ j => CND_t rfl ht) fun g4 j => CND_dec (fun _ => ht) fun g5 => ?_)
  -- the fills
  refine AL_cells (vs := [.slice none 0 0, .slice none 0 0, .slice none 0 0]) (Sat.start w) fun b4 w5 H5 _ => ?_
  refine LOOP_intro (fun st w' => ∃ (i : Nat) (s : SlV), st.1 = (i : Int) ∧ i ≤ 600 ∧ Sat (Row E.t_uint64 1 s (ints .u64 (List.replicate i a3)) :: Cells b4 E.t_api_Answers [.slice none 0 0, .slice none 0 0, slV s] :: [Old w]) w') (fun st _ => (600 - st.1).toNat) ⟨0, ⟨none, 0, 0⟩, rfl, by decide, H5.nil E.t_uint64 1⟩ ?_
  rintro ⟨i', v⟩ _ w7 ⟨i, s, hi, hi6, H7⟩
  dsimp only at hi ⊢
  subst hi
  refine CND_dec (fun hlt => ?_) fun hge => ?_
  · have hl := H7.rowLen
    rw [ints, List.length_map, List.length_replicate, Nat.mul_one] at hl
    refine ⟨s, (H7.front 1 rfl).cell rfl, AL_cells (vs := [.int .u64 a3]) H7 fun b10 w11 H11 _ => APP_one (news := [.int .u64 a3]) H11 rfl rfl (by simp [Value.oneCell']) (by omega) (by omega) fun s12 w13 H13 hl13 => ?_⟩
    refine st_cell (H13.front 1 rfl) (o := 0) (m := 2) rfl (by simp) fun w14 H14 => ?_
    rw [i64_id (n := (i : Int) + 1) (by omega) (by omega)]
    refine ⟨⟨i + 1, s12, by show (i : Int) + 1 = ((i + 1 : Nat) : Int); omega, by omega, ?_⟩, by show (600 - ((i : Int) + 1)).toNat < (600 - (i : Int)).toNat; omega⟩
    have e : ints IntKind.u64 (List.replicate (i + 1) a3) = ints IntKind.u64 (List.replicate i a3) ++ [.int .u64 a3] := by rw [List.replicate_succ', ints, List.map_append]; rfl
    rw [e]
    exact H14.perm (.swap _ _ _)
  have e600 : i = 600 := by omega
  subst e600
  refine ⟨⟨none, 0, 0⟩, (H7.front 1 rfl).cell0 rfl, ⟨none, 0, 0⟩, (H7.front 1 rfl).cell rfl, s, (H7.front 1 rfl).cell rfl, ?_⟩
  have hl := H7.rowLen
  rw [ints, List.length_map, List.length_replicate, Nat.mul_one] at hl
  have hT' : ∀ w', Sat [Row E.t_uint64 1 s (ints .u64 (List.replicate 600 a3)), Cells b4 E.t_api_Answers [.slice none 0 0, .slice none 0 0, slV s], Old w] w' → TabAt E.g_math_bits_deBruijn64tab w' := fun w' h => hT.ext (h.old 2 rfl)
  refine fresh16_spec (a0 := ⟨none, 0, 0⟩) (a1 := ⟨none, 0, 0⟩) (pl := []) (rf := []) (fl := List.replicate 600 a3) H7 (by simp) (fun _ _ => show ([] : List Value) = [] from rfl) rfl (by decide) (fun _ _ => show ([] : List Value) = [] from rfl) rfl (by decide) (fun w' h => by have := h.rowAll; rwa [Nat.mul_one] at this) (by rw [List.length_replicate]; omega) (by omega) fun h w19 H19 => CND_f rfl ?_
  have e512 : upN a0 = 512 := by unfold upN; omega
  have e512' : upN a1 = 512 := by unfold upN; omega
  -- one
  refine halloc_ok hE hT' H19 (HInv.newV [] [] _) (LaidB.new _) (spOk0 (by omega) (by omega)) (by omega) (by omega) fun _ page S2 bl id X hf hk hI2 q0 q1 hX hI3 w22 H22 => ?_
  obtain ⟨rfl, e2, e3, e4⟩ := first_found hk (by omega) (by omega) hf
  have es := hf.same
  obtain ⟨rfl, rfl⟩ := hX.top (n := 0) es.fx
  obtain ⟨v1, v2, v3⟩ := found_words hf rfl
  have hL1 := e3.keep ((0 : Nat) + 1) (bl, spOf 512 a0 0 false) 512 a0 ⟨0 + 1, []⟩
  have hF1 : FrR (S2.keep ((0 : Nat) + 1) (bl, spOf 512 a0 0 false) 512 a0 ⟨0 + 1, []⟩) (512 + a0) 1024 := e2
  have hG1 := (hf.gn (Gn.new _)).keep ((0 : Nat) + 1) (bl, spOf 512 a0 0 false) 512 a0 ⟨0 + 1, []⟩
  have hX1 : (S2.keep ((0 : Nat) + 1) (bl, spOf 512 a0 0 false) 512 a0 ⟨0 + 1, []⟩).fx = ⟨1, []⟩ := rfl
  have hsp1 : (S2.keep ((0 : Nat) + 1) (bl, spOf 512 a0 0 false) 512 a0 ⟨0 + 1, []⟩).sp 1 = some (bl, spOf 512 a0 0 false) := by
    show (if (1 : Int) = ((0 : Nat) : Int) + 1 then some (bl, spOf 512 a0 0 false) else S2.sp 1) = _
    rw [if_pos (by decide)]
  have ho1 : ∀ q, (S2.keep ((0 : Nat) + 1) (bl, spOf 512 a0 0 false) 512 a0 ⟨0 + 1, []⟩).own q = if 512 ≤ q ∧ q < 512 + a0 then 1 else 0 := fun q => by rw [own_keep, es.own]; rfl
  have hV1 : (S2.keep ((0 : Nat) + 1) (bl, spOf 512 a0 0 false) 512 a0 ⟨0 + 1, []⟩).V.fl = List.replicate 600 a3 ∧ (S2.keep ((0 : Nat) + 1) (bl, spOf 512 a0 0 false) 512 a0 ⟨0 + 1, []⟩).V.rel = [] := ⟨v2, v3⟩
  generalize S2.keep ((0 : Nat) + 1) (bl, spOf 512 a0 0 false) 512 a0 ⟨0 + 1, []⟩ = T1 at *
  clear hf hI2 hX es e2 e3 e4 hk v1 v2 v3
  -- two
  refine halloc_ok hE hT' H22 hI3 hL1 (spOk0 (by omega) (by omega)) (by omega) (by omega) fun _ page S3 bl2 id X hf hk hI4 q0 q1 hX hI5 w25 H25 => ?_
  obtain ⟨b', k1, rfl, k3, k4, k5, k6, _, k7⟩ := hf.row hL1 hk hF1 (by omega) (by omega) (by omega) (fun S0 ht => tried_no (by omega) ht) fun S0 pg ht => got_no (by omega) ht
  obtain rfl := k7 (by omega)
  have es := hf.same
  obtain ⟨rfl, rfl⟩ := hX.top (n := 1) (by rw [es.fx]; exact hX1)
  obtain ⟨v1, v2, v3⟩ := found_words hf hV1.2
  generalize hT2e : S3.keep ((1 : Nat) + 1) (bl2, spOf (512 + a0) a1 0 false) (512 + a0) a1 ⟨1 + 1, []⟩ = T2 at *
  have hL2 : LaidB T2 1024 := by rw [← hT2e]; exact k4.keep _ _ _ _ _
  have hF2 : FrR T2 (512 + a0 + a1) 1024 := by rw [← hT2e]; exact k5
  have hG2 : Gn T2 := by rw [← hT2e]; exact (hf.gn hG1).keep _ _ _ _ _
  have hX2 : T2.fx = ⟨2, []⟩ := by rw [← hT2e]; rfl
  have hs2 : T2.sp 1 = some (bl, spOf 512 a0 0 false) := by
    rw [← hT2e]
    show (if (1 : Int) = ((1 : Nat) : Int) + 1 then some (bl2, spOf (512 + a0) a1 0 false) else S3.sp 1) = _
    rw [if_neg (by decide), es.sp]; exact hsp1
  have hs2' : T2.sp 2 = some (bl2, spOf (512 + a0) a1 0 false) := by
    rw [← hT2e]
    show (if (2 : Int) = ((1 : Nat) : Int) + 1 then some (bl2, spOf (512 + a0) a1 0 false) else S3.sp 2) = _
    rw [if_pos (by decide)]
  have ho2 : ∀ q, T2.own q = if 512 + a0 ≤ q ∧ q < 512 + a0 + a1 then 2 else if 512 ≤ q ∧ q < 512 + a0 then 1 else 0 := fun q => by rw [← hT2e, own_keep, es.own, ho1]; rfl
  have hV2 : T2.V.fl = List.replicate 600 a3 ∧ T2.V.rel = [] := by rw [← hT2e]; exact ⟨by rw [← hV1.1]; exact v2, v3⟩
  clear hf hI4 hX es k1 k3 k4 k5 k6 k7 hk v1 v2 v3 hT2e
  have hn1 : ((0 : Nat) : Int) + 1 = 1 := rfl
  have hn2 : ((1 : Nat) : Int) + 1 = 2 := rfl
  rw [hn1, hn2]
  refine hspan_spec H25 (fun e => by rw [hs2] at e; cases e) fun y hy => ?_
  rw [hs2] at hy; cases hy
  refine hspan_spec H25 (fun e => by rw [hs2'] at e; cases e) fun y hy => ?_
  rw [hs2'] at hy; cases hy
  refine JOIN_in (CND_f rfl (CND_f rfl (CND_f rfl fun j => CND_f rfl ?_)))
  obtain ⟨R, hs, hb⟩ := H25.heapSpan hs2
  refine spinfo_spec hs fun w45 H45' => ?_
  have H45 := hb H45'
  obtain ⟨R2, hs', hb2⟩ := H45.heapSpan hs2'
  refine spinfo_spec hs' fun w56 H56' => ?_
  have H56 := hb2 H56'
  clear hb hb2 hs hs' H45' H56'
  have hok2 := H56.hok
  have hrd1 : mem T2.V.ready 512 := hI5.ready hok2 (by rw [ho2, if_neg (by omega), if_pos (by omega)]; decide)
  have hrd2 : mem T2.V.ready (512 + a0) := hI5.ready hok2 (by rw [ho2, if_pos (by omega)]; decide)
  have eb1 : (spOf 512 a0 0 false).base = 512 * 8192 := rfl
  have eb2 : (spOf (512 + a0) a1 0 false).base = (512 + a0) * 8192 := rfl
  rw [eb1, eb2]
  -- words are stored
  refine JOIN_in (hmem_spec H56 fun m R hm hb => store_spec hE.toEnvS hm (by decide) (by decide) fun w63 H63 => ?_)
  rw [storeE_at hrd1, storeV_at (storeE_at hrd1)] at *
  have H64 := hb H63
  refine CND_f rfl (hmem_spec H64 fun m R hm hb => store_spec hE.toEnvS hm (by omega) (by omega) fun w67 H67 => ?_)
  have hE2 : storeE { T2.V with wd := fun p i => if p = 512 * 8192 / 8192 ∧ i = 512 * 8192 % 8192 / 8 then 11 else T2.V.wd p i } ((512 + a0) * 8192) = 0 := storeE_at hrd2
  dsimp only at H67 ⊢
  rw [hE2]
  rw [storeV_at hE2] at H67
  have H68 := hb H67
  refine CND_f rfl ?_
  generalize hVB : ({ T2.V with wd := fun p i => if p = (512 + a0) * 8192 / 8192 ∧ i = (512 + a0) * 8192 % 8192 / 8 then 12 else if p = 512 * 8192 / 8192 ∧ i = 512 * 8192 % 8192 / 8 then 11 else T2.V.wd p i } : VS) = VB
  have H69 : Sat (HeapP E h { T2 with V := VB } :: [Row E.t_uint64 1 s (ints .u64 (List.replicate 600 a3)), Cells b4 E.t_api_Answers [.slice none 0 0, .slice none 0 0, slV s], Old w]) w67 := by rw [← hVB]; exact H68
  have hwd1 : VB.wd 512 0 = 11 := by
    rw [← hVB]
    show (if (512 : Int) = (512 + a0) * 8192 / 8192 ∧ (0 : Int) = (512 + a0) * 8192 % 8192 / 8 then 12 else if (512 : Int) = 512 * 8192 / 8192 ∧ (0 : Int) = 512 * 8192 % 8192 / 8 then 11 else T2.V.wd 512 0) = 11
    rw [if_neg (by omega), if_pos (by decide)]
  have hwd2 : VB.wd (512 + a0) 0 = 12 := by
    rw [← hVB]
    show (if (512 + a0 : Int) = (512 + a0) * 8192 / 8192 ∧ (0 : Int) = (512 + a0) * 8192 % 8192 / 8 then 12 else if (512 + a0 : Int) = 512 * 8192 / 8192 ∧ (0 : Int) = 512 * 8192 % 8192 / 8 then 11 else T2.V.wd (512 + a0) 0) = 12
    rw [if_pos (by omega)]
  have vb : VB.laid = T2.V.laid ∧ VB.ready = T2.V.ready ∧ VB.pl = T2.V.pl ∧ VB.rf = T2.V.rf ∧ VB.fl = List.replicate 600 a3 ∧ VB.rel = [] := by rw [← hVB]; exact ⟨rfl, rfl, rfl, rfl, hV2.1, hV2.2⟩
  clear hVB H68 H67 H64 H63 hm hb
  have hIB : HInv { T2 with V := VB } no := hI5.memV vb.1 vb.2.1
  have hLB : LaidB { T2 with V := VB } 1024 := hL2.memV vb.1 vb.2.2.1 vb.2.2.2.1
  -- there is nothing to release
  have hidle0 : ∀ q, ({ T2 with V := VB } : HS).T.idle q = false := fun q => by
    show (T2.T.fr q && !T2.T.rl q) = false
    rw [hG2.rl]; cases T2.T.fr q <;> rfl
  refine hscav_spec hE H69 hIB (by decide) (by decide) fun S' m hs _ _ _ w69 H70 => ?_
  obtain ⟨rfl, rfl⟩ := hs.none hidle0
  refine fun j => CND_f rfl ?_
  generalize hTB : ({ T2 with V := VB } : HS) = TB at *
  have tb1 : TB.sp 1 = some (bl, spOf 512 a0 0 false) := by rw [← hTB]; exact hs2
  have tb2 : TB.fx = ⟨2, []⟩ := by rw [← hTB]; exact hX2
  have tb3 : ∀ q, TB.own q = if 512 + a0 ≤ q ∧ q < 512 + a0 + a1 then 2 else if 512 ≤ q ∧ q < 512 + a0 then 1 else 0 := by rw [← hTB]; exact ho2
  have tb4 : FrR TB (512 + a0 + a1) 1024 := by rw [← hTB]; exact hF2
  have tb5 : ∀ q, TB.T.rl q = TB.T.fr q := by rw [← hTB]; exact hG2.rl
  have tb6 : TB.V = VB := by rw [← hTB]
  -- one is freed
  refine hfree_spec hE H70 hIB (fun e => by rw [tb1] at e; cases e) (fun y hy hu => ?_) fun y a hy hu ha hI6 w71 H71 => CND_f rfl ?_
  · rw [tb1] at hy; cases hy
    exact absurd hu (by show ¬ (0 : Int) < 0; decide)
  rw [tb1] at hy; cases hy
  obtain rfl : a = 0 := by omega
  have hpg : (spOf 512 a0 0 false).base / 8192 = 512 := by show (512 : Int) * 8192 / 8192 = 512; decide
  have hpn : (spOf 512 a0 0 false).pages = a0 := rfl
  rw [hpg, hpn] at hI6 H71
  have c1 : ∀ q, (TB.free 0 512 a0).T.fr q = true ↔ (512 ≤ q ∧ q < 512 + a0) ∨ (512 + a0 + a1 ≤ q ∧ q < 1024) := fun q => by
    show (TB.T.fr q || inr 512 a0 q) = true ↔ _
    rw [Bool.or_eq_true, inr_iff, tb4 q]
    exact Or.comm
  have c2 : ∀ q, (TB.free 0 512 a0).T.rl q = true ↔ 512 + a0 + a1 ≤ q ∧ q < 1024 := fun q => by
    show TB.T.rl q = true ↔ _
    rw [tb5, tb4 q]
  have c3 : (TB.free 0 512 a0).V = VB := tb6
  have c4 : LaidB (TB.free 0 512 a0) 1024 := hLB.sameV rfl rfl
  have c5 : (TB.free 0 512 a0).fx = ⟨2, [0]⟩ := by
    show (⟨TB.fx.n, 0 :: TB.fx.bk⟩ : FX) = _
    rw [tb2]
  have c6 : ∀ q, (TB.free 0 512 a0).own q = if 512 + a0 ≤ q ∧ q < 512 + a0 + a1 then 2 else 0 := fun q => by
    show (if 512 ≤ q ∧ q < 512 + a0 then 0 else TB.own q) = _
    rw [tb3]
    by_cases g : 512 ≤ q ∧ q < 512 + a0
    · rw [if_pos g, if_neg (by omega)]
    · rw [if_neg g, if_neg g]
  generalize TB.free 0 512 a0 = TC at *
  have c7 : ∀ q, TC.T.idle q = true ↔ 512 ≤ q ∧ q < 512 + a0 := fun q => by
    have h1 : TC.T.idle q = true ↔ TC.T.fr q = true ∧ ¬ TC.T.rl q = true := by
      unfold TV.idle
      cases TC.T.fr q <;> cases TC.T.rl q <;> simp
    rw [h1, c1, c2]; omega
  -- what was asked for is released
  refine hscav_spec hE H71 hI6 w2.1 w2.2 fun SD m hs m0 m1 hI7 w73 H73 => ?_
  obtain ⟨d1, d2⟩ := hs.row c7 (by omega) (by decide) (by omega) w2.1 (by rw [c3, vb.2.2.2.2.2]; exact trivial)
  have d1 : m = min a2 a0 := by omega
  have hLD : LaidB SD 1024 := ⟨fun q => by rw [d2.laid]; exact c4.la q, by decide, by decide, by rw [d2.hint]; exact c4.h0, by rw [d2.hint]; exact c4.h1, by rw [d2.pl]; exact c4.pl, by rw [d2.rf]; exact c4.rf⟩
  have hokD := H73.hok
  have want : (a2 > a0 → m = a0) ∧ (¬ a2 > a0 → m = a2) := by omega
  have hfin : CND (decide (m ≠ m)) (K false w73) (K false w73) → True := fun _ => trivial
  -- behind it, whatever was wanted
  have hrest : ∀ (j : Nat → Value), 
      F.mheap_Heap_Alloc E (some ⟨h, 0, none⟩) (-1) a0 0 false (fun r77 r78 w79 =>
                          F.mheap_Heap_Span E (some ⟨h, 0, none⟩) r77 (fun r80 r81 w82 =>
                          JOIN (Bool × Unit) (fun J83 =>
                            CND ((r78 : Int) != 0) (
                              J83 (true, ()) w82
                            ) (
                              CND (r80.isNone) (
                                J83 (true, ()) w82
                              ) (
                                F.span_Span_Info E r80 (fun r86 r87 r88 r89 r90 r91 r92 r93 r94 r95 w96 =>
                                J83 ((r86 : Int) != 512 * 8192, ()) w96
                                ) w82
                              )
                            )
                          ) fun s84 _ w85 =>
                            CND (s84.1) (
                              K false w85
                            ) (
                              F.mheap_Heap_Mem E (some ⟨h, 0, none⟩) (fun r97 w98 =>
                              F.vmem_Mem_Load E r97 (512 * 8192) (fun r99 r100 w101 =>
                              F.mheap_Heap_Mem E (some ⟨h, 0, none⟩) (fun r102 w103 =>
                              F.vmem_Mem_Load E r102 ((512 + a0) * 8192) (fun r104 r105 w106 =>
                              F.mheap_Heap_Mem E (some ⟨h, 0, none⟩) (fun r107 w108 =>
                              F.vmem_Mem_Load E r107 (u64 ((u64 (512 * 8192 + (u64 (a0 * 8192)))) - 8)) (fun r109 r110 w111 =>
                              JOIN (Bool × Unit) (fun J112 =>
                                CND ((r100 : Int) != 0) (
                                  J112 (true, ()) w111
                                ) (
                                  CND ((r105 : Int) != 0) (
                                    J112 (true, ()) w111
                                  ) (
                                    CND ((r110 : Int) != 0) (
                                      J112 (true, ()) w111
                                    ) (
                                      J112 ((r104 : Int) != 12, ()) w111
                                    )
                                  )
                                )
                              ) fun s113 _ w114 =>
                                CND (s113.1) (
                                  K false w114
                                ) (
                                  JOIN (Bool × Unit) (fun J115 =>
                                    CND ((m : Int) == a0) (
                                      CND ((r99 : Int) != a3) (
                                        J115 (true, ()) w114
                                      ) (
                                        CND (decide ((m : Int) < a0)) (
                                          CND ((r99 : Int) != 11) (
                                            J115 (true, ()) w114
                                          ) (
                                            CND (decide ((m : Int) > 0)) (
                                              J115 ((r109 : Int) != a3, ()) w114
                                            ) (
                                              J115 (false, ()) w114
                                            )
                                          )
                                        ) (
                                          CND (decide ((m : Int) > 0)) (
                                            J115 ((r109 : Int) != a3, ()) w114
                                          ) (
                                            J115 (false, ()) w114
                                          )
                                        )
                                      )
                                    ) (
                                      CND (decide ((m : Int) < a0)) (
                                        CND ((r99 : Int) != 11) (
                                          J115 (true, ()) w114
                                        ) (
                                          CND (decide ((m : Int) > 0)) (
                                            J115 ((r109 : Int) != a3, ()) w114
                                          ) (
                                            J115 (false, ()) w114
                                          )
                                        )
                                      ) (
                                        CND (decide ((m : Int) > 0)) (
                                          J115 ((r109 : Int) != a3, ()) w114
                                        ) (
                                          J115 (false, ()) w114
                                        )
                                      )
                                    )
                                  ) fun s116 _ w117 =>
                                    CND (s116.1) (
                                      K false w117
                                    ) (
                                      F.mallowlaw16_awake E  (fun r118 w119 =>
                                      K r118 w119
                                      ) w117
                                    )
                                )
                              ) w108
                              ) w106
                              ) w103
                              ) w101
                              ) w98
                              ) w85
                            )
                          ) w79
                          ) w73 := by
    intro j
    refine halloc_ok hE hT' H73 hI7 hLD (spOk0 (by omega) (by omega)) (by omega) (by omega) fun _ page S4 bl4 id X hf hk hI8 q0 q1 hX hI9 w79 H79 => ?_
    have es := hf.same
    -- where they are
    have hpage : page = 512 := by
      have hfirst : ∀ {T : TV}, T.fr = SD.T.fr → firstB T a0 page → page = 512 := fun {T} eT hfb => by
        obtain ⟨_, _, h1, h2⟩ := hfb
        have q1 := h2 512 fun q a b => by rw [eT, d2.fr]; exact (c1 q).2 (.inl ⟨a, b⟩)
        have q2 := h1 page (Int.le_refl _) (by omega)
        rw [eT, d2.fr] at q2
        have := (c1 page).1 q2
        omega
      obtain ⟨S1, ht, _⟩ := hf
      rcases ht with ht | ⟨S0, S0', htr, hno, _⟩
      · exact hfirst rfl (got_no (by omega) ht).2
      · exfalso
        rw [tried_no (by omega) htr] at hno
        exact hno 512 fun q a b => by rw [d2.fr]; exact (c1 q).2 (.inl ⟨a, b⟩)
    subst hpage
    have hwd := found_wd hf (fill := a3) (N := 600) (by rw [d2.fl, c3]; exact vb.2.2.2.2.1) hokD.vv.ok3 (by omega) (by omega) hokD.vv.re
    have hrel : ∀ q, inL SD.V.rel q = true ↔ 512 + a0 - m ≤ q ∧ q < 512 + a0 := fun q => by
      rw [inL_iff, d2.rel, c3, vb.2.2.2.2.2]
      exact ⟨fun h => h.elim (fun h => absurd h (mem_nil q)) fun h => h, .inr⟩
    have hspk : (S4.keep id (bl4, spOf 512 a0 0 false) 512 a0 X).sp id = some (bl4, spOf 512 a0 0 false) := if_pos rfl
    have hid : 0 < id := by
      rcases hX with ⟨_, e, _⟩ | ⟨a, r, _, e, _⟩ <;> omega
    have hok9 := H79.hok
    have r1 : ∀ q, 512 ≤ q → q < 512 + a0 → mem (S4.keep id (bl4, spOf 512 a0 0 false) 512 a0 X).V.ready q := fun q a b => hI9.ready hok9 (by rw [own_keep, if_pos ⟨a, b⟩]; exact hid)
    have r2 : mem (S4.keep id (bl4, spOf 512 a0 0 false) 512 a0 X).V.ready (512 + a0) := hI9.ready hok9 (by rw [own_keep, if_neg (by omega), es.own, d2.own, c6, if_pos (by omega)]; decide)
    have x1 : (S4.keep id (bl4, spOf 512 a0 0 false) 512 a0 X).V.wd 512 0 = if m = a0 then a3 else 11 := by
      show S4.V.wd 512 0 = _
      rw [hwd]
      by_cases g : m = a0
      · rw [if_pos ⟨by omega, by omega, (hrel 512).2 (by omega)⟩, if_pos g]
      · rw [if_neg (fun h => by have := (hrel 512).1 h.2.2; omega), if_neg g, d2.wd, if_neg (by omega), c3]; exact hwd1
    have x2 : (S4.keep id (bl4, spOf 512 a0 0 false) 512 a0 X).V.wd (512 + a0) 0 = 12 := by
      show S4.V.wd (512 + a0) 0 = _
      rw [hwd, if_neg (fun h => by omega), d2.wd, if_neg (by omega), c3]; exact hwd2
    have x3 : 0 < m → (S4.keep id (bl4, spOf 512 a0 0 false) 512 a0 X).V.wd (512 + a0 - 1) 1023 = a3 := fun g => by
      show S4.V.wd (512 + a0 - 1) 1023 = _
      rw [hwd, if_pos ⟨by omega, by omega, (hrel _).2 (by omega)⟩]
    generalize S4.keep id (bl4, spOf 512 a0 0 false) 512 a0 X = TE at *
    refine hspan_spec H79 (fun e => by rw [hspk] at e; cases e) fun y hy => ?_
    rw [hspk] at hy; cases hy
    obtain ⟨R, hs, hb⟩ := H79.heapSpan hspk
    refine JOIN_in (CND_f rfl (CND_f rfl (spinfo_spec hs fun w96 H96' => fun j => CND_f (show ((512 : Int) * 8192 != 512 * 8192) = false by decide) ?_)))
    have H96 := hb H96'
    have ea : u64 ((u64 (512 * 8192 + (u64 (a0 * 8192)))) - 8) = (512 + a0) * 8192 - 8 := by
      rw [u64_id (n := a0 * 8192) (by omega) (by omega), u64_id (n := 512 * 8192 + a0 * 8192) (by omega) (by omega), u64_id (by omega) (by omega)]; omega
    rw [ea]
    refine hmem_spec H96 fun m1 R1 hm1 hb1 => load_spec hE.toEnvS hm1 (by decide) (by decide) fun w101 H101 => ?_
    rw [loadV_at (r1 512 (by omega) (by omega)) (by decide) (by decide), show (512 : Int) * 8192 % 8192 / 8 = 0 by decide, x1]
    refine hmem_spec (hb1 H101) fun m2 R2 hm2 hb2 => load_spec hE.toEnvS hm2 (by omega) (by omega) fun w106 H106 => ?_
    have e2 : loadV TE.V ((512 + a0) * 8192) = (12, 0) := by
      rw [loadV_at r2 (by omega) (by omega), show (512 + a0) * 8192 % 8192 / 8 = 0 by omega, x2]
    refine hmem_spec (hb2 H106) fun m3 R3 hm3 hb3 => load_spec hE.toEnvS hm3 (by omega) (by omega) fun w111 H111 => ?_
    have e3 : loadV TE.V ((512 + a0) * 8192 - 8) = (TE.V.wd (512 + a0 - 1) 1023, 0) := by
      rw [loadV_at (r1 (512 + a0 - 1) (by omega) (by omega)) (by omega) (by omega), show ((512 + a0) * 8192 - 8) % 8192 / 8 = 1023 by omega]
    have H112 := hb3 H111
    dsimp only
    rw [e2, e3]
    refine JOIN_in (CND_f rfl (CND_f rfl (CND_f rfl fun j => CND_f rfl ?_)))
    have haw : F.mallowlaw16_awake E (fun r118 w119 => K r118 w119) w111 := hawake_spec hE hT' H112.tail fun w119 H119 => hK w119 (H119.old 2 rfl)
    have hz : ∀ j : Nat → Value, CND (decide (m > 0)) (∀ j : Nat → Value, CND (TE.V.wd (512 + a0 - 1) 1023 != a3) (K false w111) (F.mallowlaw16_awake E (fun r118 w119 => K r118 w119) w111)) (∀ j : Nat → Value, CND false (K false w111) (F.mallowlaw16_awake E (fun r118 w119 => K r118 w119) w111)) := fun _ => CND_dec (fun g j => by rw [x3 g]; exact CND_ne (fun e => absurd rfl e) fun _ => haw) fun _ j => CND_f rfl haw
    refine JOIN_in (CND_eq (fun g => ?_) fun g => ?_)
    · rw [if_pos g]
      exact CND_ne (fun e => absurd rfl e) fun _ => CND_dec (fun q => by omega) fun _ => hz fun _ => .bool true
    · rw [if_neg g]
      exact CND_dec (fun q => CND_f rfl (hz fun _ => .bool true)) fun q => by omega
  refine JOIN_in (CND_dec (fun g j => ?_) fun g j => ?_)
  · rw [want.1 g] at hrest ⊢
    exact CND_ne (fun e => absurd rfl e) fun _ => hrest j
  · rw [← want.2 g]
    exact CND_ne (fun e => absurd rfl e) fun _ => hrest j
end
end Go.Sh

namespace Go.Proofs.YtaaojaeeefbjiabDoor.heapReleases
open Go.ChangeShapes Go.WideShapes Go.ChangeAt Go.RowKit
set_option linter.unusedVariables false
set_option linter.unusedSimpArgs false

theorem own : ownKnob Tryd.prog.godebug = none := by kernel_rfl
theorem laidOut : laidOutB Tryd.prog = true := by kernel_rfl
theorem gTab : Tryd.prog.globalNamed "math/bits.deBruijn64tab" = some 0 := by kernel_rfl
theorem gTabType : (Tryd.prog.globals[0]?).map (·.type) = some 162 := by kernel_rfl
theorem und1 : Tryd.prog.underlying 162 = some (.array 64 5) := by kernel_rfl
theorem und2 : Tryd.prog.underlying 5 = some (.int .u8) := by kernel_rfl
theorem cells1 : Tryd.prog.cellsOf 162 = 64 := by kernel_rfl
theorem cells2 : Tryd.prog.cellsOf 5 = 1 := by kernel_rfl

/-- What the row's list gives: the table's cells hold its numbers. -/
theorem table {W : World} (h : laidMetH Tryd.prog Rows.heapReleasesRow.laid W) : Go.Sh.TabAt Go.Sh.env.g_math_bits_deBruijn64tab W := by
  have ht := Lib.tabIs_of_head (rest := []) (k := .u8) (zs := Lib.deBruijn64tab.map fun n : Nat => (n : Int)) gTab gTabType und1 und2 cells2 cells1 h
  intro i hi
  have := ht.cell gTab i (by rw [List.length_map]; exact hi)
  rw [show (Lib.deBruijn64tab.map fun n : Nat => (n : Int)).getD i 0 = ((Lib.deBruijn64tab.getD i 0 : Nat) : Int) by rw [List.getD_eq_getElem?_getD, List.getD_eq_getElem?_getD, List.getElem?_map]; cases Lib.deBruijn64tab[i]? <;> rfl] at this
  exact this

theorem walk (x : Go.Sh.ArgTs [.int .u64, .int .u64, .int .u64, .int .u64]) (w : World) (h : Go.Sh.argOks w [.int .u64, .int .u64, .int .u64, .int .u64] x) (hT : Go.Sh.TabAt Go.Sh.env.g_math_bits_deBruijn64tab w) :
    Calls Tryd.prog 3 ⟨Go.Sh.argVals [.int .u64, .int .u64, .int .u64, .int .u64] x⟩ w fun e w' => e = .returned (.bool true) ∧ Below w.heap.size w w' := by
  obtain ⟨a0, a1, a2, a3, u⟩ := x
  obtain ⟨w0, w1, w2, w3, _⟩ := h
  refine (Go.Sh.fits3 _ w (fun v w' => v = .bool true ∧ Below w.heap.size w w') Go.Sh.noP ?_).2.mono ?_
  · show Go.Sh.F.mallowlaw16_HeapReleases Go.Sh.env a0 a1 a2 a3 (fun r w' => Value.bool r = .bool true ∧ Below w.heap.size w w') w
    exact Go.Sh.releases_spec Go.Sh.envA hT (Go.Sh.u64_wf w2) (Go.Sh.u64_wf w3) fun w' h => ⟨rfl, h.below (Nat.le_refl _) fun _ f => f.elim⟩
  · intro e w' hE
    obtain ⟨v, rfl, rfl, h⟩ := hE.val
    exact ⟨rfl, h⟩

noncomputable def laidWorld (os : Os) : World :=
  { World.holding Tryd.prog os ⟨#[], #[], []⟩ with heap := (World.holding Tryd.prog os ⟨#[], #[], []⟩).heap.modify 0 fun
      | .cells _ t frozen => .cells ⟨Lib.deBruijn64tab.map fun n : Nat => .int .u8 (n : Int)⟩ t frozen
      | o => o }
theorem laid_met (os : Os) : laidMet Tryd.prog Rows.heapReleasesRow.laid ((laidWorld os).forCall (fun _ _ => 0) ⟨#[], #[.int .u64 0, .int .u64 0, .int .u64 0, .int .u64 0], []⟩).memory :=
  laidMet_of_run' 8 (by kernel_rfl) (by kernel_rfl)
theorem reads (os : Os) {H : Type} (enc : TypeId × Value → H) : ∃ places, DataW.whole enc Tryd.prog ((laidWorld os).forCall (fun _ _ => 0) ⟨#[], #[.int .u64 0, .int .u64 0, .int .u64 0, .int .u64 0], []⟩).memory Tryd.f3.params.toList Rows.heapReleasesSpec.vars false (#[.int .u64 0, .int .u64 0, .int .u64 0, .int .u64 0] : Array Value).toList 8 = some ([.lit (.int .u64 0), .lit (.int .u64 0), .lit (.int .u64 0), .lit (.int .u64 0)], [], places) :=
  ⟨[], by kernel_rfl⟩

set_option maxRecDepth 100000 in
theorem lifted (os : Os) (started : os.Started) (H : Type) (enc : TypeId × Value → H) (F : Stop.Interp) :
    ReturnsInHanded {} Tryd.checked os 3 .any ((OpenSpec.ofChange Rows.heapReleasesSpec).preRow enc Tryd.prog Tryd.f3 Rows.heapReleasesRow.domain false Rows.heapReleasesRow.laid) (((OpenSpec.ofChange Rows.heapReleasesSpec).at F).post enc Tryd.prog Tryd.f3 false true false false) := by
  obtain ⟨places, hx⟩ := reads os enc
  refine returnsInHanded_of_row (C := Tryd.checked) (s := OpenSpec.ofChange Rows.heapReleasesSpec) own started (by kernel_rfl) Tryd.func3
    (witness_row_at (enc := enc) (C := Tryd.checked) false (laidWorld os) #[.int .u64 0, .int .u64 0, .int .u64 0, .int .u64 0] rfl (by kernel_rfl) (by kernel_rfl) (by kernel_rfl)
      (OpenSpec.preRow_of_cond 8 hx (by kernel_rfl) (fun k hk => by cases hk) (by kernel_rfl) (laid_met os))) ?_
  intro W base args ds gs before hval0 hW _ _ _ hL _ _
  have hW' := hW
  obtain ⟨p, q, hA, hV, rfl, hfz, hnd⟩ := hW
  obtain ⟨rfl, rfl⟩ := trodVars_none hV
  have hargs := Go.Sh.args_of (P := Tryd.prog) (shs := [.int .u64, .int .u64, .int .u64, .int .u64]) (by kernel_rfl) (fun j t v ht hv => hval0 j t v (by simpa using ht) (by simpa using hv)) hA
  obtain ⟨x, hx, hok⟩ := Go.Sh.argVals_of hargs
  obtain rfl : args = ⟨Go.Sh.argVals [.int .u64, .int .u64, .int .u64, .int .u64] x⟩ := Array.toList_inj.1 (by simpa using hx)
  have hlen := Go.Sh.trodAll_len hA
  obtain ⟨d0, d1, d2, d3, rfl⟩ : ∃ d0 d1 d2 d3, ds = [d0, d1, d2, d3] := by
    have hl : ds.length = 4 := hlen
    match ds, hl with
    | [d0, d1, d2, d3], _ => exact ⟨d0, d1, d2, d3, rfl⟩
  refine (walk x W hok (table hL)).mono fun e W' ⟨he, bel⟩ => ?_
  subst he
  exact ⟨_, rfl, _, _, _, [], _, [], hW', trodAll_mk1 (shut_bool Tryd.underlying4 _), Go.Sh.trodAll_below laidOut bel (by kernel_rfl) hA, rfl, bel.frame _, fun h => by cases h⟩

theorem said : Rows.HeapReleasesSaid :=
  OpenClaim.holds_of_cond 3 Tryd.f3 rfl rfl rfl rfl rfl rfl rfl ⟨rfl, rfl, rfl, rfl, rfl⟩ rfl rfl rfl rfl rfl (by kernel_rfl) Tryd.func3 (by kernel_rfl)
    (of_decide_eq_true (by kernel_rfl)) (by unfold Func.isWrapper; first | (rw [if_pos (by decide +kernel)]; kernel_rfl) | (rw [if_neg (by decide +kernel)]; exact ⟨rfl, rfl⟩))
    (fun os started H enc _ F => by rw [OpenClaim.pre_eq_preRow]; exact lifted os started H enc F)

theorem plain (f : FuncId) (fn : Func) (hf : Tryd.pinned.checked.prog.funcNamed "mallow/mallowlaw16.HeapReleases" = some f) (hfn : Tryd.pinned.checked.prog.funcs[f]? = some fn) :
    true = Tryd.pinned.checked.prog.looks [] ∧ ∀ (j : Nat) t, fn.params[j]? = some t → Tryd.pinned.checked.prog.wantsStandIn t = false := by
  obtain rfl : f = 3 := Option.some.inj ((show Tryd.prog.funcNamed "mallow/mallowlaw16.HeapReleases" = some 3 by kernel_rfl).symm.trans hf) |>.symm
  obtain rfl : fn = Tryd.f3 := (Option.some.inj (Tryd.func3.symm.trans hfn)).symm
  refine ⟨by kernel_rfl, fun j t ht => ?_⟩
  have hall : (Tryd.f3.params.toList.all fun t => !(Tryd.prog.wantsStandIn t)) = true := by kernel_rfl
  have := List.all_eq_true.1 hall t (Array.mem_toList_iff.2 (Array.mem_of_getElem? ht))
  exact Bool.not_eq_true' _ ▸ this

/-- ████ THE CARD ████ -/
theorem proved : Rows.HeapReleasesCardSaid :=
  Claim7.holds_tied_plain_at .later [] _ _ _ _ said (fun _ h => by cases h) (by kernel_rfl) (fun _ h => by cases h) heapReleases_row_tie rfl ⟨rfl, rfl⟩ (by kernel_rfl) rfl plain (by kernel_rfl)
#print axioms proved
end Go.Proofs.YtaaojaeeefbjiabDoor.heapReleases
