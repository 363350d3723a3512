/- The law HeapGrows holds (its card: math/bits' table as the program's text lays it): for every input the Go function returns true and leaves its arguments alone. No further condition. -/
import Derived.Test.YtaaojaeeefbjiaaDoorL
import Derived.Test.YtaaojaeeefbjiaaDoorA
import Derived.Test.YtaaojaeeefbjiaaDoorB
import Derived.Test.YtaaojaeeefbjiaaDoorCards
import Derived.Test.YtaaojaeeefbjiaaDoorTie
import Derived.WalkKit
import Derived.ProofKit
import Derived.OpenShut
import Derived.Deep.DeepHandedRow
import Derived.Lib.LaidTab
set_option linter.all false
set_option maxRecDepth 8000
set_option maxHeartbeats 4000000
namespace Go.Sh

section
variable {S S2 : HS} {p n page : Int}

theorem Tried.V2 (h : Tried S p n S2) : S2.V = S.V := h.V.1

/-- What being got leaves of the address space. -/
theorem Taken.words (h : Taken S p n page S2) : S2.V.wd = S.V.wd ∧ S2.V.fl = S.V.fl ∧ S2.V.ready = S.V.ready ∧ S2.V.rel = S.V.rel := by
  rcases h with (⟨S0, i, k, hi, _, _, hfl, _, _, _, _, rfl⟩ | ⟨S0, htr, _, rfl⟩) | ⟨S0, S0', htr, _, ⟨_, at_, _, rfl⟩, _, rfl⟩
  · have e : (S0.calloc i k n.toNat).V = S.V := hfl.V.1
    rw [e]; exact ⟨rfl, rfl, rfl, rfl⟩
  · have e : (S0.talloc page n).V = S.V := htr.V.1
    rw [e]; exact ⟨rfl, rfl, rfl, rfl⟩
  · show S0.V.wd = _ ∧ S0.V.fl = _ ∧ S0.V.ready = _ ∧ S0.V.rel = _
    rw [htr.V.1]; exact ⟨rfl, rfl, rfl, rfl⟩

/-- Where the system fills nothing, new pages are 0. -/
theorem Found.words (h : Found S p n page S2) (hf : S.V.fl = []) (hz : ∀ q i, page ≤ q → q < page + n → 0 ≤ i → i < 1024 → S.V.wd q i = 0) : S2.V.fl = [] ∧ ∀ q i, page ≤ q → q < page + n → 0 ≤ i → i < 1024 → S2.V.wd q i = 0 := by
  obtain ⟨S1, h, hm⟩ := h
  obtain ⟨e1, e2, _, _⟩ := h.words
  rcases hm with ⟨_, rfl⟩ | ⟨_, _, rfl⟩
  · rw [e1, e2]; exact ⟨hf, hz⟩
  · refine ⟨?_, fun q i a b c d => ?_⟩
    · show S1.V.fl.drop _ = []
      rw [e2, hf]; exact List.drop_nil
    · show (if page ≤ q ∧ q < page + n ∧ inL S1.V.rel q = true then fillAt S1.V page q else S1.V.wd q i) = 0
      have e3 : fillAt S1.V page q = 0 := by
        unfold fillAt
        rw [e2, hf]; rfl
      rw [e3, e1, hz q i a b c d]; split <;> rfl
end

/-- Before each span. -/
structure GrSt (S : HS) (next b : Int) : Prop where
  la : LaidB S b
  fr : FrR S next b
  le : next ≤ b
  gn : Gn S
  pg : S.pages = next - 512
  fl : S.V.fl = []

section
variable {E : Env} {w : World} {Rs Z : List Pr} (hE : EnvA E)
include hE

theorem grows_spec (hT : TabAt E.g_math_bits_deBruijn64tab w) {a0 : SlV} {z : Nat → Int} (ha : RowA w (.int .u64) a0 z) {K : Bool → World → Prop} (hK : ∀ w', Ext Nothing w w' → K true w') : F.mallowlaw16_HeapGrows E a0 K w := by
  unfold F.mallowlaw16_HeapGrows
  have H0 := Sat.start w
  have hT' : ∀ w', Sat [Old w] w' → TabAt E.g_math_bits_deBruijn64tab w' := fun w' h => hT.ext (h.old 0 rfl)
  refine CND_dec (fun _ => hK w (Ext.refl _ _)) fun g1 => ?_
  refine fresh16_nil H0 fun h w2 H2 => CND_f rfl ?_
  refine LOOP_intro (fun st w' => ∃ (i : Nat) (S : HS) (b : Int), st.2.1 = (i : Int) ∧ i ≤ a0.len ∧ 512 ≤ st.1 ∧ b ≤ 512 + 1536 * i ∧ GrSt S st.1 b ∧ HInv S no ∧ Sat (HeapP E h S :: [Old w]) w') (fun st _ => ((a0.len : Int) - st.2.1).toNat)
    ⟨0, _, 512, rfl, Nat.zero_le _, Int.le_refl _, by show (512 : Int) ≤ 512 + 1536 * ((0 : Nat) : Int); decide, ⟨LaidB.new [], FrR.new _, Int.le_refl _, Gn.new _, rfl, rfl⟩, HInv.newV [] [] [], H2⟩ ?_
  rintro ⟨next, i', v⟩ _ w4 ⟨i, S, b, hi, hin, hnx, hb, hG, hI, H4⟩
  dsimp only at hi hnx hG ⊢
  subst hi
  have hle := hG.le
  have hok := H4.hok
  refine CND_dec (fun hlt => ?_) fun hge => ?_
  · obtain ⟨x, hx, hc, hwf⟩ := (RowG.oldI ha (H4.old 1 rfl)).cell1 (show i < a0.len by omega)
    rw [hx]
    simp only [NC_some, Int.toNat_natCast, Nat.mul_one]
    refine ⟨⟨by omega, by omega⟩, z i, hc, ?_⟩
    have hzw := u64_wf hwf
    generalize z i = n at *
    refine JOIN_in (CND_dec (fun _ j => CND_t rfl (hK _ (H4.old 1 rfl))) fun n1 j => CND_dec (fun _ => hK _ (H4.old 1 rfl)) fun n2 => ?_)
    have hu := upN_le n
    have hu2 : upN n ≤ 1536 := by unfold upN; omega
    refine halloc_ok hE hT' H4 hI hG.la (spOk0 (by omega) (by omega)) (by omega) (by omega) fun _ page S2 bl id X hf hk hI2 q0 q1 hX hI3 w13 H13 => ?_
    obtain ⟨b', k1, rfl, k3, k4, k5, k6, _, _⟩ := hf.row hG.la hk hG.fr hle (by omega) (by omega) (fun S0 ht => tried_no (by omega) ht) fun S0 pg ht => got_no (by omega) ht
    have es := hf.same
    obtain ⟨hid, _, _⟩ := hX.live (S := S2) (fl := inr page n) (by
      exact HOk.mk (S := S2) (H13.hok.tv) (H13.hok.vv) (H13.hok.ci) (H13.hok.ok) ⟨by rcases hX with ⟨e, _⟩ | ⟨a, r, e, _⟩; (rw [e]; exact List.nodup_nil); (rw [show S2.fx = S.fx from es.fx]; exact hok.fx.nd), by rw [show S2.fx = S.fx from es.fx]; exact hok.fx.lt, by rw [show S2.fx = S.fx from es.fx]; exact hok.fx.few⟩) hI2
    -- words of new pages are 0
    have hnot : ∀ q, page ≤ q → ¬ mem S.V.ready q := fun q hq hr => by
      obtain ⟨r1, r2⟩ := (hI.rd q rfl).1 hr
      have r3 := (inn_laid hG.la hI q).1 r1
      have r4 := (hG.fr q).2 ⟨hq, r3.2⟩
      refine tf_not r2 (gone_iff.2 (.inl ?_))
      rw [hG.gn.rl]; exact r4
    obtain ⟨f1, f2⟩ := hf.words hG.fl fun q i a _ c d => hok.vv.clean q i c d (hnot q a)
    have hspk : (S2.keep id (bl, spOf page n 0 false) page n X).sp id = some (bl, spOf page n 0 false) := if_pos rfl
    have hL3 := k4.keep id (bl, spOf page n 0 false) page n X
    have hF3 : FrR (S2.keep id (bl, spOf page n 0 false) page n X) (page + n) b' := k5
    have hG3 := (hf.gn hG.gn).keep id (bl, spOf page n 0 false) page n X
    have hp3 : (S2.keep id (bl, spOf page n 0 false) page n X).pages = page + n - 512 := by
      show S2.pages + n = _
      rw [es.pages, hG.pg]; omega
    have hfl3 : (S2.keep id (bl, spOf page n 0 false) page n X).V.fl = [] := f1
    have hw3 : ∀ q i, page ≤ q → q < page + n → 0 ≤ i → i < 1024 → (S2.keep id (bl, spOf page n 0 false) page n X).V.wd q i = 0 := f2
    have hr3 : ∀ q, page ≤ q → q < page + n → mem (S2.keep id (bl, spOf page n 0 false) page n X).V.ready q := fun q a b => hI3.ready H13.hok (by rw [own_keep, if_pos ⟨a, b⟩]; exact hid)
    generalize S2.keep id (bl, spOf page n 0 false) page n X = T at *
    clear hf hI2 hX es k4 k5 k6 f1 f2
    refine hspan_spec H13 (fun e => by rw [hspk] at e; cases e) fun y hy => ?_
    rw [hspk] at hy
    cases hy
    obtain ⟨R, hs, hbk⟩ := H13.heapSpan hspk
    refine JOIN_in (CND_f rfl (CND_f rfl (spinfo_spec hs fun w30 H30 => CND_ne (fun e => absurd ?_ e) fun _ => spinfo_spec H30 fun w41 H41 => fun j => CND_ne (fun e => absurd ?_ e) fun _ => ?_)))
    · show page * 8192 = _
      rw [u64_id (n := page * 8192) (by omega) (by omega)]
    · show n = _
      rw [i64_id (n := n) (by omega) (by omega)]
    have H42 := hbk H41
    refine LOOP_intro (fun st w' => ∃ V : VS, 0 ≤ st.1 ∧ st.1 ≤ n + 200 ∧ V.laid = T.V.laid ∧ V.ready = T.V.ready ∧ V.pl = T.V.pl ∧ V.rf = T.V.rf ∧ V.fl = [] ∧ (∀ q i, page + st.1 ≤ q → q < page + n → 0 ≤ i → i < 1024 → V.wd q i = 0) ∧ Sat (HeapP E h { T with V := V } :: [Old w]) w') (fun st _ => (n - st.1).toNat)
      ⟨T.V, Int.le_refl _, by show 0 ≤ n + 200; omega, rfl, rfl, rfl, rfl, hfl3, fun q i a => hw3 q i (by have a : page + 0 ≤ q := a; omega), H42⟩ ?_
    rintro ⟨k, v⟩ _ w43 ⟨V, hk0, hk1, v1, v2, v3, v4, v5, v6, H43⟩
    dsimp only at hk0 hk1 v6 ⊢
    refine CND_dec (fun hkn => ?_) fun hkn => ?_
    · refine hmem_spec H43 fun m R2 hm hb2 => ⟨by decide, ?_⟩
      have ea : u64 ((u64 ((u64 (page + k)) * 8192)) + (Int.tmod (u64 (8 * k)) 8192)) = (page + k) * 8192 + 8 * (k % 1024) := by
        rw [u64_id (n := page + k) (by omega) (by omega), u64_id (n := (page + k) * 8192) (by omega) (by omega), u64_id (n := 8 * k) (by omega) (by omega), Int.tmod_eq_emod_of_nonneg (by omega), show 8 * k % 8192 = 8 * (k % 1024) by omega, u64_id (by omega) (by omega)]
      have eb : u64 ((u64 (page + k)) * 8192) = (page + k) * 8192 := by rw [u64_id (n := page + k) (by omega) (by omega), u64_id (by omega) (by omega)]
      rw [ea, eb]
      have hrk : inL V.ready (page + k) = true := inL_iff.2 (by rw [v2]; exact hr3 (page + k) (by omega) (by omega))
      have hload : loadV V ((page + k) * 8192 + 8 * (k % 1024)) = (0, 0) := by
        unfold loadV
        rw [if_neg (by omega), show ((page + k) * 8192 + 8 * (k % 1024)) / 8192 = page + k by omega, if_pos hrk, show ((page + k) * 8192 + 8 * (k % 1024)) % 8192 / 8 = k % 1024 by omega, v6 (page + k) (k % 1024) (by omega) (by omega) (by omega) (by omega)]
      have hstE : storeE V ((page + k) * 8192) = 0 := by
        unfold storeE
        rw [if_neg (by omega), show (page + k) * 8192 / 8192 = page + k by omega, if_pos hrk]
      refine load_spec hE.toEnvS hm (by omega) (by omega) fun w49 H49 => ?_
      dsimp only
      rw [hload]
      refine JOIN_in (CND_f rfl (CND_f rfl (hmem_spec (hb2 H49) fun m2 R3 hm2 hb3 => store_spec hE.toEnvS hm2 (by omega) (by omega) fun w56 H56 j => ?_)))
      first | rw [hstE] | rw [show ({ T with V := V } : HS).V = V from rfl, hstE]
      refine CND_f rfl ⟨by decide, LET_intro fun k2 hk2 => ?_⟩
      have H57 := hb3 H56
      rw [Int.tdiv_eq_ediv_of_nonneg (by omega), u64_id (n := n / 9) (by omega) (by omega), u64_id (n := 1 + n / 9) (by omega) (by omega), u64_id (by omega) (by omega)] at hk2
      subst hk2
      refine ⟨⟨storeV V ((page + k) * 8192) n, by show 0 ≤ k + (1 + n / 9); omega, by show k + (1 + n / 9) ≤ _; omega, ?_⟩, by show (n - (k + (1 + n / 9))).toNat < (n - k).toNat; omega⟩
      have es : storeV V ((page + k) * 8192) n = { V with wd := fun p i => if p = (page + k) * 8192 / 8192 ∧ i = (page + k) * 8192 % 8192 / 8 then n else V.wd p i } := by
        unfold storeV
        rw [if_pos hstE]
      refine ⟨by rw [es]; exact v1, by rw [es]; exact v2, by rw [es]; exact v3, by rw [es]; exact v4, by rw [es]; exact v5, fun q i a b' c d => ?_, ?_⟩
      · have a : page + (k + (1 + n / 9)) ≤ q := a
        rw [es]
        show (if q = (page + k) * 8192 / 8192 ∧ i = (page + k) * 8192 % 8192 / 8 then n else V.wd q i) = 0
        rw [if_neg (by omega)]
        exact v6 q i (by omega) b' c d
      · exact H57
    · rw [u64_id (n := page + n) (by omega) (by omega), i64_id (n := (i : Int) + 1) (by omega) (by omega)]
      refine ⟨⟨i + 1, { T with V := V }, b', by show (i : Int) + 1 = ((i + 1 : Nat) : Int); omega, by omega, by show 512 ≤ page + n; omega, by omega, ⟨⟨fun q => by rw [show ({ T with V := V } : HS).V.laid = T.V.laid from v1]; exact hL3.la q, hL3.b0, hL3.b1, hL3.h0, hL3.h1, by rw [show ({ T with V := V } : HS).V.pl = T.V.pl from v3]; exact hL3.pl, by rw [show ({ T with V := V } : HS).V.rf = T.V.rf from v4]; exact hL3.rf⟩, hF3, k3, ⟨hG3.rl, hG3.re⟩, hp3, v5⟩, hI3.memV v1 v2, H43⟩, by show ((a0.len : Int) - ((i : Int) + 1)).toNat < ((a0.len : Int) - (i : Int)).toNat; omega⟩
  · refine hpages_spec H4 hI fun w61 H61 => ?_
    have b1 := hG.la.b1
    rw [hG.gn.count hI hok, cP_laid hG.la hI (by omega), hG.pg, u64_id (n := next - 512) (by omega) (by omega)]
    refine CND_t (by simp) (CND_dec (fun _ => ⟨by decide, ?_⟩) fun e => absurd (by omega) e)
    rw [Int.tmod_eq_emod_of_nonneg (by omega), u64_id (n := b - 512 - (next - 512)) (by omega) (by omega)]
    refine CND_eq (fun _ => CND_eq (fun _ => ?_) fun e => absurd rfl e) fun e => absurd (by omega) e
    exact hawake_spec hE hT' H61.tail fun w39 H39 => hK w39 (H39.old 0 rfl)
end
end Go.Sh

namespace Go.Proofs.YtaaojaeeefbjiaaDoor.heapGrows
open Go.ChangeShapes Go.WideShapes Go.ChangeAt Go.RowKit
set_option linter.unusedVariables false
set_option linter.unusedSimpArgs false

theorem own : ownKnob Tryd.prog.godebug = none := by kernel_rfl
theorem laidOut : laidOutB Tryd.prog = true := by kernel_rfl
theorem gTab : Tryd.prog.globalNamed "math/bits.deBruijn64tab" = some 0 := by kernel_rfl
theorem gTabType : (Tryd.prog.globals[0]?).map (·.type) = some 164 := by kernel_rfl
theorem und1 : Tryd.prog.underlying 164 = some (.array 64 5) := by kernel_rfl
theorem und2 : Tryd.prog.underlying 5 = some (.int .u8) := by kernel_rfl
theorem cells1 : Tryd.prog.cellsOf 164 = 64 := by kernel_rfl
theorem cells2 : Tryd.prog.cellsOf 5 = 1 := by kernel_rfl

/-- What the row's list gives: the table's cells hold its numbers. -/
theorem table {W : World} (h : laidMetH Tryd.prog Rows.heapGrowsRow.laid W) : Go.Sh.TabAt Go.Sh.env.g_math_bits_deBruijn64tab W := by
  have ht := Lib.tabIs_of_head (rest := []) (k := .u8) (zs := Lib.deBruijn64tab.map fun n : Nat => (n : Int)) gTab gTabType und1 und2 cells2 cells1 h
  intro i hi
  have := ht.cell gTab i (by rw [List.length_map]; exact hi)
  rw [show (Lib.deBruijn64tab.map fun n : Nat => (n : Int)).getD i 0 = ((Lib.deBruijn64tab.getD i 0 : Nat) : Int) by rw [List.getD_eq_getElem?_getD, List.getD_eq_getElem?_getD, List.getElem?_map]; cases Lib.deBruijn64tab[i]? <;> rfl] at this
  exact this

theorem walk (x : Go.Sh.ArgTs [.sl (.int .u64)]) (w : World) (h : Go.Sh.argOks w [.sl (.int .u64)] x) (hT : Go.Sh.TabAt Go.Sh.env.g_math_bits_deBruijn64tab w) :
    Calls Tryd.prog 6 ⟨Go.Sh.argVals [.sl (.int .u64)] x⟩ w fun e w' => e = .returned (.bool true) ∧ Below w.heap.size w w' := by
  obtain ⟨a0, u⟩ := x
  obtain ⟨w0, _⟩ := h
  obtain ⟨z0, w0⟩ := w0
  refine (Go.Sh.fits6 _ w (fun v w' => v = .bool true ∧ Below w.heap.size w w') Go.Sh.noP ?_).2.mono ?_
  · show Go.Sh.F.mallowlaw16_HeapGrows Go.Sh.env a0 (fun r w' => Value.bool r = .bool true ∧ Below w.heap.size w w') w
    exact Go.Sh.grows_spec Go.Sh.envA hT w0 fun w' h => ⟨rfl, h.below (Nat.le_refl _) fun _ f => f.elim⟩
  · intro e w' hE
    obtain ⟨v, rfl, rfl, h⟩ := hE.val
    exact ⟨rfl, h⟩

noncomputable def laidWorld (os : Os) : World :=
  { World.holding Tryd.prog os ⟨#[], #[], []⟩ with heap := (World.holding Tryd.prog os ⟨#[], #[], []⟩).heap.modify 0 fun
      | .cells _ t frozen => .cells ⟨Lib.deBruijn64tab.map fun n : Nat => .int .u8 (n : Int)⟩ t frozen
      | o => o }
theorem laid_met (os : Os) : laidMet Tryd.prog Rows.heapGrowsRow.laid ((laidWorld os).forCall (fun _ _ => 0) ⟨#[], #[.slice none 0 0], []⟩).memory :=
  laidMet_of_run' 8 (by kernel_rfl) (by kernel_rfl)
theorem reads (os : Os) {H : Type} (enc : TypeId × Value → H) : ∃ places, DataW.whole enc Tryd.prog ((laidWorld os).forCall (fun _ _ => 0) ⟨#[], #[.slice none 0 0], []⟩).memory Tryd.f6.params.toList Rows.heapGrowsSpec.vars false (#[.slice none 0 0] : Array Value).toList 8 = some ([.nil], [], places) :=
  ⟨[], by kernel_rfl⟩

set_option maxRecDepth 100000 in
theorem lifted (os : Os) (started : os.Started) (H : Type) (enc : TypeId × Value → H) (F : Stop.Interp) :
    ReturnsInHanded {} Tryd.checked os 6 .any ((OpenSpec.ofChange Rows.heapGrowsSpec).preRow enc Tryd.prog Tryd.f6 Rows.heapGrowsRow.domain false Rows.heapGrowsRow.laid) (((OpenSpec.ofChange Rows.heapGrowsSpec).at F).post enc Tryd.prog Tryd.f6 false true false false) := by
  obtain ⟨places, hx⟩ := reads os enc
  refine returnsInHanded_of_row (C := Tryd.checked) (s := OpenSpec.ofChange Rows.heapGrowsSpec) own started (by kernel_rfl) Tryd.func6
    (witness_row_at (enc := enc) (C := Tryd.checked) false (laidWorld os) #[.slice none 0 0] rfl (by kernel_rfl) (by kernel_rfl) (by kernel_rfl)
      (OpenSpec.preRow_of_cond 8 hx (by kernel_rfl) (fun k hk => by cases hk) (by kernel_rfl) (laid_met os))) ?_
  intro W base args ds gs before hval0 hW _ _ _ hL _ _
  have hW' := hW
  obtain ⟨p, q, hA, hV, rfl, hfz, hnd⟩ := hW
  obtain ⟨rfl, rfl⟩ := trodVars_none hV
  have hargs := Go.Sh.args_of (P := Tryd.prog) (shs := [.sl (.int .u64)]) (by kernel_rfl) (fun j t v ht hv => hval0 j t v (by simpa using ht) (by simpa using hv)) hA
  obtain ⟨x, hx, hok⟩ := Go.Sh.argVals_of hargs
  obtain rfl : args = ⟨Go.Sh.argVals [.sl (.int .u64)] x⟩ := Array.toList_inj.1 (by simpa using hx)
  have hlen := Go.Sh.trodAll_len hA
  obtain ⟨d0, rfl⟩ : ∃ d0, ds = [d0] := by
    have hl : ds.length = 1 := hlen
    match ds, hl with
    | [d0], _ => exact ⟨d0, rfl⟩
  refine (walk x W hok (table hL)).mono fun e W' ⟨he, bel⟩ => ?_
  subst he
  exact ⟨_, rfl, _, _, _, [], _, [], hW', trodAll_mk1 (shut_bool Tryd.underlying4 _), Go.Sh.trodAll_below laidOut bel (by kernel_rfl) hA, rfl, bel.frame _, fun h => by cases h⟩

theorem said : Rows.HeapGrowsSaid :=
  OpenClaim.holds_of_cond 6 Tryd.f6 rfl rfl rfl rfl rfl rfl rfl ⟨rfl, rfl, rfl, rfl, rfl⟩ rfl rfl rfl rfl rfl (by kernel_rfl) Tryd.func6 (by kernel_rfl)
    (of_decide_eq_true (by kernel_rfl)) (by unfold Func.isWrapper; first | (rw [if_pos (by decide +kernel)]; kernel_rfl) | (rw [if_neg (by decide +kernel)]; exact ⟨rfl, rfl⟩))
    (fun os started H enc _ F => by rw [OpenClaim.pre_eq_preRow]; exact lifted os started H enc F)

theorem plain (f : FuncId) (fn : Func) (hf : Tryd.pinned.checked.prog.funcNamed "mallow/mallowlaw16.HeapGrows" = some f) (hfn : Tryd.pinned.checked.prog.funcs[f]? = some fn) :
    true = Tryd.pinned.checked.prog.looks [] ∧ ∀ (j : Nat) t, fn.params[j]? = some t → Tryd.pinned.checked.prog.wantsStandIn t = false := by
  obtain rfl : f = 6 := Option.some.inj ((show Tryd.prog.funcNamed "mallow/mallowlaw16.HeapGrows" = some 6 by kernel_rfl).symm.trans hf) |>.symm
  obtain rfl : fn = Tryd.f6 := (Option.some.inj (Tryd.func6.symm.trans hfn)).symm
  refine ⟨by kernel_rfl, fun j t ht => ?_⟩
  have hall : (Tryd.f6.params.toList.all fun t => !(Tryd.prog.wantsStandIn t)) = true := by kernel_rfl
  have := List.all_eq_true.1 hall t (Array.mem_toList_iff.2 (Array.mem_of_getElem? ht))
  exact Bool.not_eq_true' _ ▸ this

/-- ████ THE CARD ████ -/
theorem proved : Rows.HeapGrowsCardSaid :=
  Claim7.holds_tied_plain_at .later [] _ _ _ _ said (fun _ h => by cases h) (by kernel_rfl) (fun _ h => by cases h) heapGrows_row_tie rfl ⟨rfl, rfl⟩ (by kernel_rfl) rfl plain (by kernel_rfl)
#print axioms proved
end Go.Proofs.YtaaojaeeefbjiaaDoor.heapGrows
