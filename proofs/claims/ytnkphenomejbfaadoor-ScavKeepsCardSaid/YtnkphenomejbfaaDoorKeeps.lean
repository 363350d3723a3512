/- The law ScavKeeps holds (its card: math/bits' table as the program's text lays it): for every input the Go function returns true and leaves its arguments alone. No further condition. -/
import Derived.Test.YtnkphenomejbfaaDoorL
import Derived.Test.YtnkphenomejbfaaDoorA
import Derived.Test.YtnkphenomejbfaaDoorB
import Derived.Test.YtnkphenomejbfaaDoorCards
import Derived.Test.YtnkphenomejbfaaDoorTie
import Derived.WalkKit
import Derived.ProofKit
import Derived.OpenShut
import Derived.Deep.DeepHandedRow
import Derived.Lib.LaidTab
set_option linter.all false
set_option maxRecDepth 8000
set_option maxHeartbeats 4000000
namespace Go.Sh

section
variable {E : Env} {w : World} {Rs Z : List Pr} (hE : EnvA E)
include hE

theorem rfc_alloc {h : Nat} {S : HS} {i : Nat} {next b : Int} (hT : ∀ w', Sat Z w' → TabAt E.g_math_bits_deBruijn64tab w') (H : Sat (HeapP E h S :: Z) w) (hC : RfC S i next b) {n : Int} (hn : 1 ≤ n) (hn2 : n ≤ 1000) (hb : b ≤ 100000) {K : Int → Int → World → Prop}
    (hK : ∀ T bl, RfC T (i + 1) (next + n) (nextB next b n) → T.sp ((i : Int) + 1) = some (bl, spOf next n 0 false) → (∀ id, id ≠ (i : Int) + 1 → T.sp id = S.sp id) → ∀ w', Sat (HeapP E h T :: Z) w' → K ((i : Int) + 1) 0 w') :
    F.mheap_Heap_Alloc E (some ⟨h, 0, none⟩) (-1) n 0 false K w := by
  have hu := upN_le n
  refine halloc_ok hE hT H hC.st.inv hC.st.laid (spOk0 hn (by omega)) (by omega) (by omega) fun _ page S2 bl id X hf hk hI2 q0 q1 hX hI3 w5 H5 => ?_
  have es := hf.same
  obtain ⟨rfl, rfl, rfl, hC1⟩ := hC.keep hk hn (by omega) hf hX hI3
  exact hK _ bl hC1 (if_pos rfl) (fun id hid => by show (if id = (i : Int) + 1 then _ else S2.sp id) = _; rw [if_neg hid, es.sp]) w5 H5

theorem rfc_free {h : Nat} {S : HS} {i : Nat} {next b : Int} (H : Sat (HeapP E h S :: Z) w) (hC : RfC S i next b) (hnx : next ≤ 1048576) {id page n : Int} {bl : Nat} (h0 : 512 ≤ page) (hn : 0 ≤ n) (h1 : page + n ≤ next) (hs : S.sp id = some (bl, spOf page n 0 false)) {K : Int → World → Prop}
    (hK : ∀ T, Sc T page (page + n) b → T.pages = next - 512 - n → (∀ p, 512 ≤ p → p < next → ¬ (page ≤ p ∧ p < page + n) → 0 < T.own p) → ∀ w', Sat (HeapP E h T :: Z) w' → K 0 w') : F.mheap_Heap_Free E (some ⟨h, 0, none⟩) id K w := by
  refine hfree_spec hE H hC.st.inv (fun e => by rw [hs] at e; cases e) (fun y hy hu => ?_) fun y a hy hu ha hI6 w13 H13 => ?_
  · rw [hs] at hy; cases hy
    exact absurd hu (by show ¬ (0 : Int) < 0; decide)
  rw [hs] at hy; cases hy
  have hpg : (spOf page n 0 false).base / 8192 = page := by show page * 8192 / 8192 = page; omega
  have hpn : (spOf page n 0 false).pages = n := rfl
  rw [hpg, hpn] at hI6 H13
  refine hK _ (hC.free hI6 h0 hn h1 hnx) ?_ (fun p p1 p2 p3 => ?_) w13 H13
  · show S.pages - n = _
    rw [hC.st.pg]
  · show 0 < (if page ≤ p ∧ p < page + n then 0 else S.own p)
    rw [if_neg p3]; exact hC.st.ow p p1 p2

theorem awake22_spec (hT : ∀ w', Sat Z w' → TabAt E.g_math_bits_deBruijn64tab w') (H : Sat Z w) {K : Bool → World → Prop} (hK : ∀ w', Sat Z w' → K true w') : F.mallowlaw22_awake E K w := by
  unfold F.mallowlaw22_awake
  refine fresh22_nil H fun h w2 H2 => CND_f rfl ?_
  refine rfc_alloc hE hT H2 RfC.new (by decide) (by decide) (by decide) fun T1 bl1 hC1 hs1 _ w5 H5 => ?_
  have hb1 : nextB 512 512 100 = 1024 := by decide
  rw [hb1] at hC1
  refine rfc_alloc hE hT H5 hC1 (by decide) (by decide) (by decide) fun T2 bl2 hC2 hs2 hs3 w8 H8 => ?_
  have hs4 : T2.sp ((0 : Nat) + 1) = some (bl1, spOf 512 100 0 false) := by rw [hs3 _ (by decide)]; exact hs1
  refine JOIN_in (CND_f rfl (CND_f rfl (rfc_free hE H8 hC2 (by decide) (by decide) (by decide) (by decide) hs4 fun T hS hp _ w13 H13 j => CND_f rfl ?_)))
  have hp : T.pages = 1 := hp
  unfold F.scav_New
  refine AL_cells (vs := [.pointer (some ⟨h, 0, none⟩), .int .u64 4607632778762754458]) H13 fun pb w15 H15 _ => CND_t rfl ?_
  refine pwant_spec (H15.front 1 rfl) hS fun w17 H17 => ?_
  have e1 : wantV 1 (512 + 100 - 512) 4607632778762754458 = 100 := by unfold wantV; rw [times_11]; decide
  rw [hp, e1]
  refine CND_t rfl (pstep_spec hE H17 hS (by decide) fun S' m w19 hm hS2 hR H19 => ?_)
  rw [hp, e1] at hm
  have hm : m = 16 := hm
  subst hm
  have hp2 : S'.pages = 1 := by rw [hR.pages]; exact hp
  refine CND_t rfl (pwant_spec H19 hS2 fun w21 H21 => ?_)
  have e2 : wantV 1 (512 + 100 - 16 - 512) 4607632778762754458 = 84 := by unfold wantV; rw [times_11]; decide
  rw [hp2, e2]
  refine CND_t rfl (plimit_spec hE H21 hS2 (by decide) (by decide) (fun g => ?_) fun g S3 m3 w23 hm3 _ _ H23 => ?_)
  · rw [hp2] at g; exact absurd g (by decide)
  · rw [hp2] at hm3
    have hm3 : m3 = 84 := hm3
    subst hm3
    exact hK w23 H23.tail.tail

end
end Go.Sh


set_option linter.all false
set_option maxRecDepth 8000
set_option maxHeartbeats 4000000
namespace Go.Sh

section
variable {E : Env} {w : World} {Rs Z : List Pr} (hE : EnvA E)
include hE

theorem phase22 {h : Nat} {S : HS} {i : Nat} {next b : Int} (hT : ∀ w', Sat Z w' → TabAt E.g_math_bits_deBruijn64tab w') (H : Sat (HeapP E h S :: Z) w) (hC : RfC S i next b) {a1 : Int} (h0 : 0 ≤ a1) (h1 : a1 ≤ 1000) (hnx : next ≤ 100000) (hb : b ≤ 100000) {K : Bool → World → Prop} {rest : Unit → (Nat → Value) → World → Prop}
    (hr : ∀ T b' j w', Sc T next (next + a1) b' → T.pages = next - 512 → (∀ p, 512 ≤ p → p < next → 0 < T.own p) → Sat (HeapP E h T :: Z) w' → rest () j w') :
    JOIN (Unit) (fun J9 =>
            CND (decide ((a1 : Int) > 0)) (
              F.mheap_Heap_Alloc E (some ⟨h, 0, none⟩) (-1) a1 0 false (fun r12 r13 w14 =>
              JOIN (Bool × Unit) (fun J15 =>
                CND ((r13 : Int) != 0) (
                  J15 (true, ()) w14
                ) (
                  F.mheap_Heap_Free E (some ⟨h, 0, none⟩) r12 (fun r18 w19 =>
                  J15 ((r18 : Int) != 0, ()) w19
                  ) w14
                )
              ) fun s16 _ w17 =>
                CND (s16.1) (
                  K false w17
                ) (
                  J9 (()) w17
                )
              ) w
            ) (
              J9 (()) w
            )
          ) rest := by
  have hle := hC.st.le
  have hlo := hC.st.lo
  refine JOIN_in (CND_dec (fun g => ?_) fun g j => ?_)
  · refine rfc_alloc hE hT H hC (by omega) h1 hb fun T1 bl1 hC1 hs1 _ w14 H14 => JOIN_in (CND_f rfl ?_)
    refine rfc_free hE H14 hC1 (by omega) hlo h0 (Int.le_refl _) hs1 fun T hS hp ho w19 H19 j => CND_f rfl fun j2 => ?_
    exact hr T _ j2 w19 hS (by omega) (fun p p1 p2 => ho p p1 (by omega) (by omega)) H19
  · obtain rfl : a1 = 0 := by omega
    exact hr S b j w (by rw [Int.add_zero]; exact hC.sc (by omega)) hC.st.pg hC.st.ow H

end
end Go.Sh


set_option linter.all false
set_option maxRecDepth 8000
set_option maxHeartbeats 4000000
namespace Go.Sh

theorem sc_storeV {V : VS} {addr x : Int} (h : storeE V addr = 0) : storeV V addr x = { V with wd := fun p i => if p = addr / 8192 ∧ i = addr % 8192 / 8 then x else V.wd p i } := by
  unfold storeV
  rw [if_pos h]
theorem sc_storeE {V : VS} {q : Int} (h : mem V.ready q) : storeE V (q * 8192 + 8) = 0 := by
  unfold storeE
  rw [if_neg (by omega), show (q * 8192 + 8) / 8192 = q by omega, if_pos (inL_iff.2 h)]
theorem sc_loadV {V : VS} {q : Int} (h : mem V.ready q) : loadV V (q * 8192 + 8) = (V.wd q 1, 0) := by
  unfold loadV
  rw [if_neg (by omega), show (q * 8192 + 8) / 8192 = q by omega, if_pos (inL_iff.2 h), show (q * 8192 + 8) % 8192 / 8 = 1 by omega]

theorem Sc.memV {S : HS} {x y b : Int} (h : Sc S x y b) {f : Int → Int → Int} : Sc { S with V := { S.V with wd := f } } x y b :=
  ⟨h.inv.memV rfl rfl, ⟨h.la.la, h.la.b0, h.la.b1, h.la.h0, h.la.h1, h.la.pl, h.la.rf⟩, h.id, h.x0, h.xy, h.yb, h.ce⟩

section
variable {E : Env} {w : World} {Rs Z : List Pr} (hE : EnvA E)
include hE

theorem keeps22_spec (hT : TabAt E.g_math_bits_deBruijn64tab w) {a0 a1 a2 a3 : Int} (w1 : 0 ≤ a1 ∧ a1 < 18446744073709551616) (w2 : 0 ≤ a2 ∧ a2 < 18446744073709551616) {K : Bool → World → Prop} (hK : ∀ w', Ext Nothing w w' → K true w') : F.mallowlaw22_ScavKeeps E a0 a1 a2 a3 K w := by
  unfold F.mallowlaw22_ScavKeeps
  have ht : K true w := hK w (Ext.refl _ _)
  refine JOIN_in (CND_dec (fun _ j => CND_t rfl ht) fun g1 => CND_dec (fun _ j => CND_t rfl ht) fun g2 j => CND_dec (fun _ => ht) fun g3 => ?_)
  have hT' : ∀ w', Sat [Old w] w' → TabAt E.g_math_bits_deBruijn64tab w' := fun w' h => hT.ext (h.old 0 rfl)
  have hu := upN_le a0
  refine fresh22_nil (Sat.start w) fun h w5 H5 => CND_f rfl ?_
  refine rfc_alloc hE hT' H5 RfC.new (by omega) (by omega) (by decide) fun T1 bl1 hC1 hs1 _ w8 H8 => ?_
  refine hspan_spec H8 (fun e => by rw [hs1] at e; cases e) fun y hy => ?_
  rw [hs1] at hy
  cases hy
  refine JOIN_in (CND_f rfl fun j => CND_f rfl ?_)
  obtain ⟨R, hs, hbk⟩ := H8.heapSpan hs1
  refine spinfo_spec hs fun w25 H25' => ?_
  have H25 := hbk H25'
  have hbase : (spOf 512 a0 0 false).base = 4194304 := rfl
  rw [hbase]
  refine phase22 hE hT' H25 hC1 w1.1 (by omega) (by omega) (by unfold nextB; split <;> omega) fun T b' j w28 hS hp ho H28 => ?_
  have hp : T.pages = a0 := by omega
  refine LOOP_intro (fun st w' => ∃ f : Int → Int → Int, 0 ≤ st.1 ∧ st.1 ≤ a0 ∧ (∀ k, 0 ≤ k → k < st.1 → f (512 + k) 1 = k + 1) ∧ Sat (HeapP E h { T with V := { T.V with wd := f } } :: [Old w]) w') (fun st _ => (a0 - st.1).toNat) ⟨T.V.wd, Int.le_refl _, by show 0 ≤ a0; omega, fun k k0 k1 => by dsimp only at k1; omega, H28⟩ ?_
  rintro ⟨i, v⟩ _ w38 ⟨f, i0, i1, hf, H38⟩
  dsimp only at i0 i1 hf ⊢
  have hS1 := hS.memV (f := f)
  have hrd : ∀ k, 0 ≤ k → k < a0 → mem T.V.ready (512 + k) := fun k k0 k1 => hS.inv.ready H28.hok (ho _ (by omega) (by omega))
  refine CND_dec (fun hlt => ?_) fun hge => ?_
  · have ea : u64 (u64 (4194304 + u64 (i * 8192)) + 8) = (512 + i) * 8192 + 8 := by
      rw [u64_id (n := i * 8192) (by omega) (by omega), u64_id (n := 4194304 + i * 8192) (by omega) (by omega), u64_id (by omega) (by omega)]; omega
    rw [ea, u64_id (n := i + 1) (by omega) (by omega)]
    refine hmem_spec H38 fun m R2 hm hb2 => store_spec hE.toEnvS hm (by omega) (by omega) fun w43 H43 => ?_
    have hse : storeE { T.V with wd := f } ((512 + i) * 8192 + 8) = 0 := sc_storeE (V := { T.V with wd := f }) (hrd i i0 hlt)
    dsimp only at H43 ⊢
    rw [sc_storeV hse] at H43
    rw [hse]
    refine CND_f rfl ⟨⟨_, by show 0 ≤ i + 1; omega, by show i + 1 ≤ a0; omega, fun k k0 k1 => ?_, hb2 H43⟩, by show (a0 - (i + 1)).toNat < (a0 - i).toNat; omega⟩
    show (if 512 + k = ((512 + i) * 8192 + 8) / 8192 ∧ (1 : Int) = ((512 + i) * 8192 + 8) % 8192 / 8 then i + 1 else f (512 + k) 1) = k + 1
    have k1 : k < i + 1 := k1
    by_cases g : k = i
    · rw [if_pos ⟨by omega, by omega⟩, g]
    · rw [if_neg (fun e => by have := e.1; omega)]
      exact hf k k0 (by omega)
  obtain rfl : i = a0 := by omega
  generalize hTE : ({ T with V := { T.V with wd := f } } : HS) = TB at *
  have tp : TB.pages = i := by rw [← hTE]; exact hp
  have tr : ∀ k, 0 ≤ k → k < i → mem TB.V.ready (512 + k) := by rw [← hTE]; exact hrd
  have tw : ∀ k, 0 ≤ k → k < i → TB.V.wd (512 + k) 1 = k + 1 := by rw [← hTE]; exact hf
  unfold F.scav_New
  refine AL_cells (vs := [.pointer (some ⟨h, 0, none⟩), .int .u64 a3]) H38 fun pb w45 H45 _ => CND_f rfl ?_
  have ed : 512 + i + a1 - (512 + i) = a1 := by omega
  refine pwant_spec (H45.front 1 rfl) hS1 fun w47 H47 => ?_
  rw [tp, ed]
  have hbn := wantV_bnd (u := i) (d := a1) a3 w1.1
  refine pstep_spec hE H47 hS1 w2.1 fun S2 n w49 hn hS2 hR2 H49 => ?_
  rw [tp, ed] at hn
  have hp2 : S2.pages = i := by rw [hR2.pages]; exact tp
  refine JOIN_intro (fun st w' => st.1 = false ∧ w' = w49) (CND_dec (fun g => absurd g (by omega)) fun _ => CND_dec (fun g => absurd g (by omega)) fun _ => CND_dec (fun g => absurd g (by omega)) fun _ => CND_dec (fun g => ⟨?_, rfl⟩) fun _ => ⟨rfl, rfl⟩) ?_
  · have e : n = a2 := by omega
    show (n != a2) = false
    rw [e]; simp
  rintro ⟨s, u⟩ _ w52 ⟨hs0, rfl⟩
  dsimp only at hs0 ⊢
  subst hs0
  refine CND_f rfl ?_
  rw [u64_id (n := i * 8192) (by omega) (by omega)]
  have fin : ∀ S3 m w54, n + m = a1 → Sc S3 (512 + i) (512 + i) b' → S3.pages = i → (∀ k, 0 ≤ k → k < i → mem S3.V.ready (512 + k) ∧ S3.V.wd (512 + k) 1 = k + 1) → Sat (HeapP E h S3 :: Cells pb E.t_scav_Pacer [.pointer (some ⟨h, 0, none⟩), .int .u64 a3] :: [Old w]) w54 →
      JOIN (Bool × Unit) (fun J55 =>
          CND (((u64 (n + m)) : Int) != a1) (J55 (true, ()) w54) (
            F.scav_Pacer_Want E (some ⟨pb, 0, none⟩) (fun r58 w59 => J55 ((r58 : Int) != 0, ()) w59) w54)
      ) fun s56 _ w57 =>
          CND (s56.1) (K false w57) (
            LOOP (Int × Unit) (0, ()) w57 fun s60 _ w61 next62 =>
              CND (decide ((s60.1 : Int) < i)) (
                F.mheap_Heap_Mem E (some ⟨h, 0, none⟩) (fun r63 w64 =>
                F.vmem_Mem_Load E r63 (u64 ((u64 (4194304 + (u64 (s60.1 * 8192)))) + 8)) (fun r65 r66 w67 =>
                JOIN (Bool × Unit) (fun J68 =>
                  CND ((r65 : Int) != (u64 (s60.1 + 1))) (J68 (true, ()) w67) (J68 ((r66 : Int) != 0, ()) w67)
                ) fun s69 _ w70 =>
                  CND (s69.1) (K false w70) (next62 (u64 (s60.1 + 1), ()) w70)
                ) w64
                ) w61
              ) (
                F.mheap_Heap_Mem E (some ⟨h, 0, none⟩) (fun r71 w72 =>
                F.vmem_Mem_Count E r71 2 (fun r73 w74 =>
                CND ((r73 : Int) == i) (F.mallowlaw22_awake E (fun r75 w76 => K r75 w76) w74) (K false w74)
                ) w72
                ) w61
              )
          ) := by
    intro S3 m w54 hnm hS3 hp3 hrw H54
    rw [u64_id (n := n + m) (by omega) (by omega)]
    refine JOIN_in (CND_ne (fun e => absurd hnm e) fun _ => pwant_spec H54 hS3 fun w59 H59 j3 => ?_)
    have e0 : wantV S3.pages (512 + i - (512 + i)) a3 = 0 := by
      have := maxI_le S3.pages (timesV S3.pages a3)
      unfold wantV
      rw [if_pos (by omega)]
    rw [e0]
    refine CND_f rfl ?_
    refine LOOP_intro (fun st w' => 0 ≤ st.1 ∧ st.1 ≤ i ∧ Sat (HeapP E h S3 :: Cells pb E.t_scav_Pacer [.pointer (some ⟨h, 0, none⟩), .int .u64 a3] :: [Old w]) w') (fun st _ => (i - st.1).toNat) ⟨Int.le_refl _, by show 0 ≤ i; omega, H59⟩ ?_
    rintro ⟨k, v⟩ _ w61 ⟨k0, k1, H61⟩
    dsimp only at k0 k1 ⊢
    refine CND_dec (fun hlt => ?_) fun hge => ?_
    case refine_2 =>
      have hct := hS3.count H61.hok
      have hct2 := (hS3.inv.counts H61.hok).2.1
      rw [hct2, Int.add_sub_cancel] at hct
      clear hct2
      have hti : tot S3.V.ready = i := by rw [hct, hp3]; omega
      clear hct
      refine hmem_spec H61 fun m R2 hm hb2 => vcount_spec hm fun w74 H74 => ?_
      rw [if_pos rfl]
      have H75 : Sat (HeapP E h S3 :: Cells pb E.t_scav_Pacer [.pointer (some ⟨h, 0, none⟩), .int .u64 a3] :: [Old w]) w74 := hb2 (V' := S3.V) H74
      exact CND_eq (fun _ => awake22_spec hE hT' H75.tail.tail fun w76 H76 => hK w76 (H76.old 0 rfl)) fun e => absurd hti e
    have ea : u64 (u64 (4194304 + u64 (k * 8192)) + 8) = (512 + k) * 8192 + 8 := by
      rw [u64_id (n := k * 8192) (by omega) (by omega), u64_id (n := 4194304 + k * 8192) (by omega) (by omega), u64_id (by omega) (by omega)]; omega
    rw [ea, u64_id (n := k + 1) (by omega) (by omega)]
    obtain ⟨q1, q2⟩ := hrw k k0 hlt
    refine hmem_spec H61 fun m R2 hm hb2 => load_spec hE.toEnvS hm (by omega) (by omega) fun w67 H67 => ?_
    rw [sc_loadV q1]
    refine JOIN_in (CND_ne (fun e => absurd q2 e) fun _ j4 => CND_f rfl ?_)
    exact ⟨⟨by show 0 ≤ k + 1; omega, by show k + 1 ≤ i; omega, hb2 (V' := S3.V) H67⟩, by show (i - (k + 1)).toNat < (i - k).toNat; omega⟩
  have w2r : ∀ k, 0 ≤ k → k < i → mem S2.V.ready (512 + k) ∧ S2.V.wd (512 + k) 1 = k + 1 := fun k k0 k1 => by
    refine ⟨(hR2.ready _).2 ⟨tr k k0 k1, by omega⟩, ?_⟩
    rw [hR2.wd, if_neg (by omega)]
    exact tw k k0 k1
  refine plimit_spec hE H49 hS2 (by omega) (by omega) (fun g w54 H54 => ?_) fun g S3 m w54 hm hS3 hR3 H54 => ?_
  · rw [hp2] at g
    have e : n = a1 := by omega
    refine fin S2 0 w54 (by omega) ?_ hp2 w2r H54
    rw [show 512 + i + a1 - n = 512 + i by omega] at hS2
    exact hS2
  · rw [hp2] at hm g
    have e : m = a1 - n := by omega
    refine fin S3 m w54 (by omega) ?_ (by rw [hR3.pages]; exact hp2) (fun k k0 k1 => ?_) H54
    · rw [show 512 + i + a1 - n - m = 512 + i by omega] at hS3
      exact hS3
    · obtain ⟨q1, q2⟩ := w2r k k0 k1
      refine ⟨(hR3.ready _).2 ⟨q1, by omega⟩, ?_⟩
      rw [hR3.wd, if_neg (by omega)]
      exact q2
end
end Go.Sh


namespace Go.Proofs.YtnkphenomejbfaaDoor.scavKeeps
open Go.ChangeShapes Go.WideShapes Go.ChangeAt Go.RowKit
set_option linter.unusedVariables false
set_option linter.unusedSimpArgs false

theorem own : ownKnob Tryd.prog.godebug = none := by kernel_rfl
theorem laidOut : laidOutB Tryd.prog = true := by kernel_rfl
theorem gTab : Tryd.prog.globalNamed "math/bits.deBruijn64tab" = some 1 := by kernel_rfl
theorem gTabType : (Tryd.prog.globals[1]?).map (·.type) = some 167 := by kernel_rfl
theorem und1 : Tryd.prog.underlying 167 = some (.array 64 5) := by kernel_rfl
theorem und2 : Tryd.prog.underlying 5 = some (.int .u8) := by kernel_rfl
theorem cells1 : Tryd.prog.cellsOf 167 = 64 := by kernel_rfl
theorem cells2 : Tryd.prog.cellsOf 5 = 1 := by kernel_rfl

theorem table {W : World} (h : laidMetH Tryd.prog Rows.scavKeepsRow.laid W) : Go.Sh.TabAt Go.Sh.env.g_math_bits_deBruijn64tab W := by
  have ht := Lib.tabIs_of_head (rest := []) (k := .u8) (zs := Lib.deBruijn64tab.map fun n : Nat => (n : Int)) gTab gTabType und1 und2 cells2 cells1 h
  intro i hi
  have := ht.cell gTab i (by rw [List.length_map]; exact hi)
  rw [show (Lib.deBruijn64tab.map fun n : Nat => (n : Int)).getD i 0 = ((Lib.deBruijn64tab.getD i 0 : Nat) : Int) by rw [List.getD_eq_getElem?_getD, List.getD_eq_getElem?_getD, List.getElem?_map]; cases Lib.deBruijn64tab[i]? <;> rfl] at this
  exact this

theorem walk (x : Go.Sh.ArgTs [.int .u64, .int .u64, .int .u64, .int .u64]) (w : World) (h : Go.Sh.argOks w [.int .u64, .int .u64, .int .u64, .int .u64] x) (hT : Go.Sh.TabAt Go.Sh.env.g_math_bits_deBruijn64tab w) :
    Calls Tryd.prog 5 ⟨Go.Sh.argVals [.int .u64, .int .u64, .int .u64, .int .u64] x⟩ w fun e w' => e = .returned (.bool true) ∧ Below w.heap.size w w' := by
  obtain ⟨a0, a1, a2, a3, u⟩ := x
  obtain ⟨w0, w1, w2, w3, _⟩ := h
  refine (Go.Sh.fits5 _ w (fun v w' => v = .bool true ∧ Below w.heap.size w w') Go.Sh.noP ?_).2.mono ?_
  · show Go.Sh.F.mallowlaw22_ScavKeeps Go.Sh.env a0 a1 a2 a3 (fun r w' => Value.bool r = .bool true ∧ Below w.heap.size w w') w
    exact Go.Sh.keeps22_spec Go.Sh.envA hT (Go.Sh.u64_wf w1) (Go.Sh.u64_wf w2) fun w' h => ⟨rfl, h.below (Nat.le_refl _) fun _ f => f.elim⟩
  · intro e w' hE
    obtain ⟨v, rfl, rfl, h⟩ := hE.val
    exact ⟨rfl, h⟩

noncomputable def laidWorld (os : Os) : World :=
  { World.holding Tryd.prog os ⟨#[], #[], []⟩ with heap := (World.holding Tryd.prog os ⟨#[], #[], []⟩).heap.modify 1 fun
      | .cells _ t frozen => .cells ⟨Lib.deBruijn64tab.map fun n : Nat => .int .u8 (n : Int)⟩ t frozen
      | o => o }
theorem laid_met (os : Os) : laidMet Tryd.prog Rows.scavKeepsRow.laid ((laidWorld os).forCall (fun _ _ => 0) ⟨#[], #[.int .u64 0, .int .u64 0, .int .u64 0, .int .u64 0], []⟩).memory :=
  laidMet_of_run' 8 (by kernel_rfl) (by kernel_rfl)
theorem reads (os : Os) {H : Type} (enc : TypeId × Value → H) : ∃ places, DataW.whole enc Tryd.prog ((laidWorld os).forCall (fun _ _ => 0) ⟨#[], #[.int .u64 0, .int .u64 0, .int .u64 0, .int .u64 0], []⟩).memory Tryd.f5.params.toList Rows.scavKeepsSpec.vars false (#[.int .u64 0, .int .u64 0, .int .u64 0, .int .u64 0] : Array Value).toList 8 = some ([.lit (.int .u64 0), .lit (.int .u64 0), .lit (.int .u64 0), .lit (.int .u64 0)], [], places) :=
  ⟨[], by kernel_rfl⟩

set_option maxRecDepth 100000 in
theorem lifted (os : Os) (started : os.Started) (H : Type) (enc : TypeId × Value → H) (F : Stop.Interp) :
    ReturnsInHanded {} Tryd.checked os 5 .any ((OpenSpec.ofChange Rows.scavKeepsSpec).preRow enc Tryd.prog Tryd.f5 Rows.scavKeepsRow.domain false Rows.scavKeepsRow.laid) (((OpenSpec.ofChange Rows.scavKeepsSpec).at F).post enc Tryd.prog Tryd.f5 false true false false) := by
  obtain ⟨places, hx⟩ := reads os enc
  refine returnsInHanded_of_row (C := Tryd.checked) (s := OpenSpec.ofChange Rows.scavKeepsSpec) own started (by kernel_rfl) Tryd.func5
    (witness_row_at (enc := enc) (C := Tryd.checked) false (laidWorld os) #[.int .u64 0, .int .u64 0, .int .u64 0, .int .u64 0] rfl (by kernel_rfl) (by kernel_rfl) (by kernel_rfl)
      (OpenSpec.preRow_of_cond 8 hx (by kernel_rfl) (fun k hk => by cases hk) (by kernel_rfl) (laid_met os))) ?_
  intro W base args ds gs before hval0 hW _ _ _ hL _ _
  have hW' := hW
  obtain ⟨p, q, hA, hV, rfl, hfz, hnd⟩ := hW
  obtain ⟨rfl, rfl⟩ := trodVars_none hV
  have hargs := Go.Sh.args_of (P := Tryd.prog) (shs := [.int .u64, .int .u64, .int .u64, .int .u64]) (by kernel_rfl) (fun j t v ht hv => hval0 j t v (by simpa using ht) (by simpa using hv)) hA
  obtain ⟨x, hx, hok⟩ := Go.Sh.argVals_of hargs
  obtain rfl : args = ⟨Go.Sh.argVals [.int .u64, .int .u64, .int .u64, .int .u64] x⟩ := Array.toList_inj.1 (by simpa using hx)
  have hlen := Go.Sh.trodAll_len hA
  obtain ⟨d0, d1, d2, d3, rfl⟩ : ∃ d0 d1 d2 d3, ds = [d0, d1, d2, d3] := by
    have hl : ds.length = 4 := hlen
    match ds, hl with
    | [d0, d1, d2, d3], _ => exact ⟨d0, d1, d2, d3, rfl⟩
  refine (walk x W hok (table hL)).mono fun e W' ⟨he, bel⟩ => ?_
  subst he
  exact ⟨_, rfl, _, _, _, [], _, [], hW', trodAll_mk1 (shut_bool Tryd.underlying4 _), Go.Sh.trodAll_below laidOut bel (by kernel_rfl) hA, rfl, bel.frame _, fun h => by cases h⟩

theorem said : Rows.ScavKeepsSaid :=
  OpenClaim.holds_of_cond 5 Tryd.f5 rfl rfl rfl rfl rfl rfl rfl ⟨rfl, rfl, rfl, rfl, rfl⟩ rfl rfl rfl rfl rfl (by kernel_rfl) Tryd.func5 (by kernel_rfl)
    (of_decide_eq_true (by kernel_rfl)) (by unfold Func.isWrapper; first | (rw [if_pos (by decide +kernel)]; kernel_rfl) | (rw [if_neg (by decide +kernel)]; exact ⟨rfl, rfl⟩))
    (fun os started H enc _ F => by rw [OpenClaim.pre_eq_preRow]; exact lifted os started H enc F)

theorem plain (f : FuncId) (fn : Func) (hf : Tryd.pinned.checked.prog.funcNamed "mallow/mallowlaw22.ScavKeeps" = some f) (hfn : Tryd.pinned.checked.prog.funcs[f]? = some fn) :
    true = Tryd.pinned.checked.prog.looks [] ∧ ∀ (j : Nat) t, fn.params[j]? = some t → Tryd.pinned.checked.prog.wantsStandIn t = false := by
  obtain rfl : f = 5 := Option.some.inj ((show Tryd.prog.funcNamed "mallow/mallowlaw22.ScavKeeps" = some 5 by kernel_rfl).symm.trans hf) |>.symm
  obtain rfl : fn = Tryd.f5 := (Option.some.inj (Tryd.func5.symm.trans hfn)).symm
  refine ⟨by kernel_rfl, fun j t ht => ?_⟩
  have hall : (Tryd.f5.params.toList.all fun t => !(Tryd.prog.wantsStandIn t)) = true := by kernel_rfl
  have := List.all_eq_true.1 hall t (Array.mem_toList_iff.2 (Array.mem_of_getElem? ht))
  exact Bool.not_eq_true' _ ▸ this

theorem proved : Rows.ScavKeepsCardSaid :=
  Claim7.holds_tied_plain_at .later [] _ _ _ _ said (fun _ h => by cases h) (by kernel_rfl) (fun _ h => by cases h) scavKeeps_row_tie rfl ⟨rfl, rfl⟩ (by kernel_rfl) rfl plain (by kernel_rfl)
#print axioms proved
end Go.Proofs.YtnkphenomejbfaaDoor.scavKeeps

