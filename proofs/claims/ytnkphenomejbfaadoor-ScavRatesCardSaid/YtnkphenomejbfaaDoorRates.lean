/- The law ScavRates holds (its card: math/bits' table as the program's text lays it): for every input the Go function returns true and leaves its arguments alone. No further condition. -/
import Derived.Test.YtnkphenomejbfaaDoorL
import Derived.Test.YtnkphenomejbfaaDoorA
import Derived.Test.YtnkphenomejbfaaDoorB
import Derived.Test.YtnkphenomejbfaaDoorCards
import Derived.Test.YtnkphenomejbfaaDoorTie
import Derived.WalkKit
import Derived.ProofKit
import Derived.OpenShut
import Derived.Deep.DeepHandedRow
import Derived.Lib.LaidTab
set_option linter.all false
set_option maxRecDepth 8000
set_option maxHeartbeats 4000000
namespace Go.Sh

section
variable {E : Env} {w : World} {Rs Z : List Pr} (hE : EnvA E)
include hE

theorem rfc_alloc {h : Nat} {S : HS} {i : Nat} {next b : Int} (hT : ∀ w', Sat Z w' → TabAt E.g_math_bits_deBruijn64tab w') (H : Sat (HeapP E h S :: Z) w) (hC : RfC S i next b) {n : Int} (hn : 1 ≤ n) (hn2 : n ≤ 1000) (hb : b ≤ 100000) {K : Int → Int → World → Prop}
    (hK : ∀ T bl, RfC T (i + 1) (next + n) (nextB next b n) → T.sp ((i : Int) + 1) = some (bl, spOf next n 0 false) → (∀ id, id ≠ (i : Int) + 1 → T.sp id = S.sp id) → ∀ w', Sat (HeapP E h T :: Z) w' → K ((i : Int) + 1) 0 w') :
    F.mheap_Heap_Alloc E (some ⟨h, 0, none⟩) (-1) n 0 false K w := by
  have hu := upN_le n
  refine halloc_ok hE hT H hC.st.inv hC.st.laid (spOk0 hn (by omega)) (by omega) (by omega) fun _ page S2 bl id X hf hk hI2 q0 q1 hX hI3 w5 H5 => ?_
  have es := hf.same
  obtain ⟨rfl, rfl, rfl, hC1⟩ := hC.keep hk hn (by omega) hf hX hI3
  exact hK _ bl hC1 (if_pos rfl) (fun id hid => by show (if id = (i : Int) + 1 then _ else S2.sp id) = _; rw [if_neg hid, es.sp]) w5 H5

theorem rfc_free {h : Nat} {S : HS} {i : Nat} {next b : Int} (H : Sat (HeapP E h S :: Z) w) (hC : RfC S i next b) (hnx : next ≤ 1048576) {id page n : Int} {bl : Nat} (h0 : 512 ≤ page) (hn : 0 ≤ n) (h1 : page + n ≤ next) (hs : S.sp id = some (bl, spOf page n 0 false)) {K : Int → World → Prop}
    (hK : ∀ T, Sc T page (page + n) b → T.pages = next - 512 - n → (∀ p, 512 ≤ p → p < next → ¬ (page ≤ p ∧ p < page + n) → 0 < T.own p) → ∀ w', Sat (HeapP E h T :: Z) w' → K 0 w') : F.mheap_Heap_Free E (some ⟨h, 0, none⟩) id K w := by
  refine hfree_spec hE H hC.st.inv (fun e => by rw [hs] at e; cases e) (fun y hy hu => ?_) fun y a hy hu ha hI6 w13 H13 => ?_
  · rw [hs] at hy; cases hy
    exact absurd hu (by show ¬ (0 : Int) < 0; decide)
  rw [hs] at hy; cases hy
  have hpg : (spOf page n 0 false).base / 8192 = page := by show page * 8192 / 8192 = page; omega
  have hpn : (spOf page n 0 false).pages = n := rfl
  rw [hpg, hpn] at hI6 H13
  refine hK _ (hC.free hI6 h0 hn h1 hnx) ?_ (fun p p1 p2 p3 => ?_) w13 H13
  · show S.pages - n = _
    rw [hC.st.pg]
  · show 0 < (if page ≤ p ∧ p < page + n then 0 else S.own p)
    rw [if_neg p3]; exact hC.st.ow p p1 p2

theorem awake22_spec (hT : ∀ w', Sat Z w' → TabAt E.g_math_bits_deBruijn64tab w') (H : Sat Z w) {K : Bool → World → Prop} (hK : ∀ w', Sat Z w' → K true w') : F.mallowlaw22_awake E K w := by
  unfold F.mallowlaw22_awake
  refine fresh22_nil H fun h w2 H2 => CND_f rfl ?_
  refine rfc_alloc hE hT H2 RfC.new (by decide) (by decide) (by decide) fun T1 bl1 hC1 hs1 _ w5 H5 => ?_
  have hb1 : nextB 512 512 100 = 1024 := by decide
  rw [hb1] at hC1
  refine rfc_alloc hE hT H5 hC1 (by decide) (by decide) (by decide) fun T2 bl2 hC2 hs2 hs3 w8 H8 => ?_
  have hs4 : T2.sp ((0 : Nat) + 1) = some (bl1, spOf 512 100 0 false) := by rw [hs3 _ (by decide)]; exact hs1
  refine JOIN_in (CND_f rfl (CND_f rfl (rfc_free hE H8 hC2 (by decide) (by decide) (by decide) (by decide) hs4 fun T hS hp _ w13 H13 j => CND_f rfl ?_)))
  have hp : T.pages = 1 := hp
  unfold F.scav_New
  refine AL_cells (vs := [.pointer (some ⟨h, 0, none⟩), .int .u64 4607632778762754458]) H13 fun pb w15 H15 _ => CND_t rfl ?_
  refine pwant_spec (H15.front 1 rfl) hS fun w17 H17 => ?_
  have e1 : wantV 1 (512 + 100 - 512) 4607632778762754458 = 100 := by unfold wantV; rw [times_11]; decide
  rw [hp, e1]
  refine CND_t rfl (pstep_spec hE H17 hS (by decide) fun S' m w19 hm hS2 hR H19 => ?_)
  rw [hp, e1] at hm
  have hm : m = 16 := hm
  subst hm
  have hp2 : S'.pages = 1 := by rw [hR.pages]; exact hp
  refine CND_t rfl (pwant_spec H19 hS2 fun w21 H21 => ?_)
  have e2 : wantV 1 (512 + 100 - 16 - 512) 4607632778762754458 = 84 := by unfold wantV; rw [times_11]; decide
  rw [hp2, e2]
  refine CND_t rfl (plimit_spec hE H21 hS2 (by decide) (by decide) (fun g => ?_) fun g S3 m3 w23 hm3 _ _ H23 => ?_)
  · rw [hp2] at g; exact absurd g (by decide)
  · rw [hp2] at hm3
    have hm3 : m3 = 84 := hm3
    subst hm3
    exact hK w23 H23.tail.tail

end
end Go.Sh


set_option linter.all false
set_option maxRecDepth 8000
set_option maxHeartbeats 4000000
namespace Go.Sh

theorem and63 {r : Int} (h0 : 0 ≤ r) (h1 : r < 18446744073709551616) : bitK .u64 0 r 9223372036854775807 = r % 9223372036854775808 := by
  obtain ⟨R, rfl⟩ := Int.eq_ofNat_of_zero_le h0
  have e := Nat.and_two_pow_sub_one_eq_mod R 63
  show IntKind.u64.wrap ((BitVec.ofInt 64 (R : Int) &&& BitVec.ofInt 64 9223372036854775807).toNat : Int) = _
  have e1 : (BitVec.ofInt 64 (R : Int)).toNat = R := by
    rw [BitVec.toNat_ofInt]; omega
  have e2 : (BitVec.ofInt 64 9223372036854775807).toNat = 2 ^ 63 - 1 := by decide
  rw [BitVec.toNat_and, e1, e2, e]
  show u64 ((R % 2 ^ 63 : Nat) : Int) = _
  rw [u64_id (by omega) (by omega)]
  omega

section
variable {E : Env} {w : World} {Rs Z : List Pr} (hE : EnvA E)
include hE

theorem phase22 {h : Nat} {S : HS} {i : Nat} {next b : Int} (hT : ∀ w', Sat Z w' → TabAt E.g_math_bits_deBruijn64tab w') (H : Sat (HeapP E h S :: Z) w) (hC : RfC S i next b) {a1 : Int} (h0 : 0 ≤ a1) (h1 : a1 ≤ 1000) (hnx : next ≤ 100000) (hb : b ≤ 100000) {K : Bool → World → Prop} {rest : Unit → (Nat → Value) → World → Prop}
    (hr : ∀ T b' j w', Sc T next (next + a1) b' → T.pages = next - 512 → (∀ p, 512 ≤ p → p < next → 0 < T.own p) → Sat (HeapP E h T :: Z) w' → rest () j w') :
    JOIN (Unit) (fun J9 =>
            CND (decide ((a1 : Int) > 0)) (
              F.mheap_Heap_Alloc E (some ⟨h, 0, none⟩) (-1) a1 0 false (fun r12 r13 w14 =>
              JOIN (Bool × Unit) (fun J15 =>
                CND ((r13 : Int) != 0) (
                  J15 (true, ()) w14
                ) (
                  F.mheap_Heap_Free E (some ⟨h, 0, none⟩) r12 (fun r18 w19 =>
                  J15 ((r18 : Int) != 0, ()) w19
                  ) w14
                )
              ) fun s16 _ w17 =>
                CND (s16.1) (
                  K false w17
                ) (
                  J9 (()) w17
                )
              ) w
            ) (
              J9 (()) w
            )
          ) rest := by
  have hle := hC.st.le
  have hlo := hC.st.lo
  refine JOIN_in (CND_dec (fun g => ?_) fun g j => ?_)
  · refine rfc_alloc hE hT H hC (by omega) h1 hb fun T1 bl1 hC1 hs1 _ w14 H14 => JOIN_in (CND_f rfl ?_)
    refine rfc_free hE H14 hC1 (by omega) hlo h0 (Int.le_refl _) hs1 fun T hS hp ho w19 H19 j => CND_f rfl fun j2 => ?_
    exact hr T _ j2 w19 hS (by omega) (fun p p1 p2 => ho p p1 (by omega) (by omega)) H19
  · obtain rfl : a1 = 0 := by omega
    exact hr S b j w (by rw [Int.add_zero]; exact hC.sc (by omega)) hC.st.pg hC.st.ow H

theorem rates_spec (hT : TabAt E.g_math_bits_deBruijn64tab w) {a0 a1 a2 : Int} (w1 : 0 ≤ a1 ∧ a1 < 18446744073709551616) (w2 : 0 ≤ a2 ∧ a2 < 18446744073709551616) {K : Bool → World → Prop} (hK : ∀ w', Ext Nothing w w' → K true w') : F.mallowlaw22_ScavRates E a0 a1 a2 K w := by
  unfold F.mallowlaw22_ScavRates
  have ht : K true w := hK w (Ext.refl _ _)
  refine JOIN_in (CND_dec (fun _ j => CND_t rfl ht) fun g1 => CND_dec (fun _ j => CND_t rfl ht) fun g2 j => CND_dec (fun _ => ht) fun g3 => ?_)
  have hT' : ∀ w', Sat [Old w] w' → TabAt E.g_math_bits_deBruijn64tab w' := fun w' h => hT.ext (h.old 0 rfl)
  have hu := upN_le a0
  refine fresh22_nil (Sat.start w) fun h w5 H5 => CND_f rfl ?_
  refine rfc_alloc hE hT' H5 RfC.new (by omega) (by omega) (by decide) fun T1 bl1 hC1 _ _ w8 H8 => CND_f rfl ?_
  refine phase22 hE hT' H8 hC1 w1.1 (by omega) (by omega) (by unfold nextB; split <;> omega) fun T b' j w11 hS hp _ H11 => ?_
  have hp : T.pages = a0 := by omega
  unfold F.scav_New
  refine AL_cells (vs := [.pointer (some ⟨h, 0, none⟩), .int .u64 a2]) H11 fun pb w21 H21 _ => CND_f rfl ?_
  refine pwant_spec (H21.front 1 rfl) hS fun w23 H23 => ?_
  rw [hp, show 512 + a0 + a1 - (512 + a0) = a1 by omega]
  have hbn := wantV_bnd (u := a0) (d := a1) a2 w1.1
  have haw : F.mallowlaw22_awake E (fun r27 w28 => K r27 w28) w23 := awake22_spec hE hT' H23.tail.tail fun w28 H28 => hK w28 (H28.old 0 rfl)
  have hall : timesV a0 a2 ≤ a0 → wantV a0 a1 a2 = a1 := fun h => by
    have := maxI_le a0 (timesV a0 a2)
    unfold wantV
    split <;> omega
  refine JOIN_in ?_
  have yes : timesV a0 a2 ≤ a0 → CND ((wantV a0 a1 a2 : Int) == a1) (F.mallowlaw22_awake E (fun r27 w28 => K r27 w28) w23) (K false w23) := fun h => CND_eq (fun _ => haw) fun e => absurd (hall h) e
  rw [and63 w2.1 w2.2]
  refine CND_dec (fun c1 j => CND_t (decide_eq_true c1) (yes ?_)) fun c1 => CND_dec (fun c2 j => CND_t (decide_eq_true c2) (yes ?_)) fun c2 j => CND_dec (fun c3 => yes ?_) fun c3 => ?_
  · rw [times_neg (by omega) (by omega) (by omega) w2.2]; omega
  · rw [times_nan (n := a0) (r := a2) (by omega) (by omega)]; omega
  · exact times_le (by omega) (by omega) w2.1 c3
  · refine CND_eq (fun c4 => ?_) fun c4 => CND_eq (fun c5 => ?_) fun c5 => CND_dec (fun _ => haw) fun e => absurd hbn.2 e
    · subst c4
      refine CND_eq (fun _ => haw) fun e => absurd ?_ e
      have h1 := times_i (n := a0) (by omega) (by omega)
      have h2 := maxI_le a0 (timesV a0 9218868437227405312)
      unfold wantV
      rw [if_pos (by omega)]
    · subst c5
      have h1 := times_2 (n := a0) (by omega) (by omega)
      have h2 : maxI a0 (timesV a0 4611686018427387904) = 2 * a0 := by
        rw [h1]; unfold maxI; split <;> omega
      have h3 : wantV a0 a1 4611686018427387904 = if a1 ≤ a0 then 0 else a1 - a0 := by
        unfold wantV
        rw [h2]
        split <;> split <;> omega
      rw [h3]
      by_cases g : a1 ≤ a0
      · rw [if_pos g, u64_id (n := 0 + a0) (by omega) (by omega)]
        refine CND_eq (fun e => CND_dec (fun g2 => absurd g2 (by omega)) fun _ => CND_t rfl (CND_dec (fun _ => haw) fun g2 => absurd g g2)) fun e => CND_t rfl (CND_dec (fun _ => haw) fun g2 => absurd g g2)
      · rw [if_neg g, u64_id (n := a1 - a0 + a0) (by omega) (by omega)]
        refine CND_eq (fun e => CND_dec (fun g2 => hK _ (H23.old 2 rfl)) fun g2 => absurd (by omega) g2) fun e => absurd (by omega) e
end
end Go.Sh


namespace Go.Proofs.YtnkphenomejbfaaDoor.scavRates
open Go.ChangeShapes Go.WideShapes Go.ChangeAt Go.RowKit
set_option linter.unusedVariables false
set_option linter.unusedSimpArgs false

theorem own : ownKnob Tryd.prog.godebug = none := by kernel_rfl
theorem laidOut : laidOutB Tryd.prog = true := by kernel_rfl
theorem gTab : Tryd.prog.globalNamed "math/bits.deBruijn64tab" = some 1 := by kernel_rfl
theorem gTabType : (Tryd.prog.globals[1]?).map (·.type) = some 167 := by kernel_rfl
theorem und1 : Tryd.prog.underlying 167 = some (.array 64 5) := by kernel_rfl
theorem und2 : Tryd.prog.underlying 5 = some (.int .u8) := by kernel_rfl
theorem cells1 : Tryd.prog.cellsOf 167 = 64 := by kernel_rfl
theorem cells2 : Tryd.prog.cellsOf 5 = 1 := by kernel_rfl

theorem table {W : World} (h : laidMetH Tryd.prog Rows.scavRatesRow.laid W) : Go.Sh.TabAt Go.Sh.env.g_math_bits_deBruijn64tab W := by
  have ht := Lib.tabIs_of_head (rest := []) (k := .u8) (zs := Lib.deBruijn64tab.map fun n : Nat => (n : Int)) gTab gTabType und1 und2 cells2 cells1 h
  intro i hi
  have := ht.cell gTab i (by rw [List.length_map]; exact hi)
  rw [show (Lib.deBruijn64tab.map fun n : Nat => (n : Int)).getD i 0 = ((Lib.deBruijn64tab.getD i 0 : Nat) : Int) by rw [List.getD_eq_getElem?_getD, List.getD_eq_getElem?_getD, List.getElem?_map]; cases Lib.deBruijn64tab[i]? <;> rfl] at this
  exact this

theorem walk (x : Go.Sh.ArgTs [.int .u64, .int .u64, .int .u64]) (w : World) (h : Go.Sh.argOks w [.int .u64, .int .u64, .int .u64] x) (hT : Go.Sh.TabAt Go.Sh.env.g_math_bits_deBruijn64tab w) :
    Calls Tryd.prog 3 ⟨Go.Sh.argVals [.int .u64, .int .u64, .int .u64] x⟩ w fun e w' => e = .returned (.bool true) ∧ Below w.heap.size w w' := by
  obtain ⟨a0, a1, a2, u⟩ := x
  obtain ⟨w0, w1, w2, _⟩ := h
  refine (Go.Sh.fits3 _ w (fun v w' => v = .bool true ∧ Below w.heap.size w w') Go.Sh.noP ?_).2.mono ?_
  · show Go.Sh.F.mallowlaw22_ScavRates Go.Sh.env a0 a1 a2 (fun r w' => Value.bool r = .bool true ∧ Below w.heap.size w w') w
    exact Go.Sh.rates_spec Go.Sh.envA hT (Go.Sh.u64_wf w1) (Go.Sh.u64_wf w2) fun w' h => ⟨rfl, h.below (Nat.le_refl _) fun _ f => f.elim⟩
  · intro e w' hE
    obtain ⟨v, rfl, rfl, h⟩ := hE.val
    exact ⟨rfl, h⟩

noncomputable def laidWorld (os : Os) : World :=
  { World.holding Tryd.prog os ⟨#[], #[], []⟩ with heap := (World.holding Tryd.prog os ⟨#[], #[], []⟩).heap.modify 1 fun
      | .cells _ t frozen => .cells ⟨Lib.deBruijn64tab.map fun n : Nat => .int .u8 (n : Int)⟩ t frozen
      | o => o }
theorem laid_met (os : Os) : laidMet Tryd.prog Rows.scavRatesRow.laid ((laidWorld os).forCall (fun _ _ => 0) ⟨#[], #[.int .u64 0, .int .u64 0, .int .u64 0], []⟩).memory :=
  laidMet_of_run' 8 (by kernel_rfl) (by kernel_rfl)
theorem reads (os : Os) {H : Type} (enc : TypeId × Value → H) : ∃ places, DataW.whole enc Tryd.prog ((laidWorld os).forCall (fun _ _ => 0) ⟨#[], #[.int .u64 0, .int .u64 0, .int .u64 0], []⟩).memory Tryd.f3.params.toList Rows.scavRatesSpec.vars false (#[.int .u64 0, .int .u64 0, .int .u64 0] : Array Value).toList 8 = some ([.lit (.int .u64 0), .lit (.int .u64 0), .lit (.int .u64 0)], [], places) :=
  ⟨[], by kernel_rfl⟩

set_option maxRecDepth 100000 in
theorem lifted (os : Os) (started : os.Started) (H : Type) (enc : TypeId × Value → H) (F : Stop.Interp) :
    ReturnsInHanded {} Tryd.checked os 3 .any ((OpenSpec.ofChange Rows.scavRatesSpec).preRow enc Tryd.prog Tryd.f3 Rows.scavRatesRow.domain false Rows.scavRatesRow.laid) (((OpenSpec.ofChange Rows.scavRatesSpec).at F).post enc Tryd.prog Tryd.f3 false true false false) := by
  obtain ⟨places, hx⟩ := reads os enc
  refine returnsInHanded_of_row (C := Tryd.checked) (s := OpenSpec.ofChange Rows.scavRatesSpec) own started (by kernel_rfl) Tryd.func3
    (witness_row_at (enc := enc) (C := Tryd.checked) false (laidWorld os) #[.int .u64 0, .int .u64 0, .int .u64 0] rfl (by kernel_rfl) (by kernel_rfl) (by kernel_rfl)
      (OpenSpec.preRow_of_cond 8 hx (by kernel_rfl) (fun k hk => by cases hk) (by kernel_rfl) (laid_met os))) ?_
  intro W base args ds gs before hval0 hW _ _ _ hL _ _
  have hW' := hW
  obtain ⟨p, q, hA, hV, rfl, hfz, hnd⟩ := hW
  obtain ⟨rfl, rfl⟩ := trodVars_none hV
  have hargs := Go.Sh.args_of (P := Tryd.prog) (shs := [.int .u64, .int .u64, .int .u64]) (by kernel_rfl) (fun j t v ht hv => hval0 j t v (by simpa using ht) (by simpa using hv)) hA
  obtain ⟨x, hx, hok⟩ := Go.Sh.argVals_of hargs
  obtain rfl : args = ⟨Go.Sh.argVals [.int .u64, .int .u64, .int .u64] x⟩ := Array.toList_inj.1 (by simpa using hx)
  have hlen := Go.Sh.trodAll_len hA
  obtain ⟨d0, d1, d2, rfl⟩ : ∃ d0 d1 d2, ds = [d0, d1, d2] := by
    have hl : ds.length = 3 := hlen
    match ds, hl with
    | [d0, d1, d2], _ => exact ⟨d0, d1, d2, rfl⟩
  refine (walk x W hok (table hL)).mono fun e W' ⟨he, bel⟩ => ?_
  subst he
  exact ⟨_, rfl, _, _, _, [], _, [], hW', trodAll_mk1 (shut_bool Tryd.underlying4 _), Go.Sh.trodAll_below laidOut bel (by kernel_rfl) hA, rfl, bel.frame _, fun h => by cases h⟩

theorem said : Rows.ScavRatesSaid :=
  OpenClaim.holds_of_cond 3 Tryd.f3 rfl rfl rfl rfl rfl rfl rfl ⟨rfl, rfl, rfl, rfl, rfl⟩ rfl rfl rfl rfl rfl (by kernel_rfl) Tryd.func3 (by kernel_rfl)
    (of_decide_eq_true (by kernel_rfl)) (by unfold Func.isWrapper; first | (rw [if_pos (by decide +kernel)]; kernel_rfl) | (rw [if_neg (by decide +kernel)]; exact ⟨rfl, rfl⟩))
    (fun os started H enc _ F => by rw [OpenClaim.pre_eq_preRow]; exact lifted os started H enc F)

theorem plain (f : FuncId) (fn : Func) (hf : Tryd.pinned.checked.prog.funcNamed "mallow/mallowlaw22.ScavRates" = some f) (hfn : Tryd.pinned.checked.prog.funcs[f]? = some fn) :
    true = Tryd.pinned.checked.prog.looks [] ∧ ∀ (j : Nat) t, fn.params[j]? = some t → Tryd.pinned.checked.prog.wantsStandIn t = false := by
  obtain rfl : f = 3 := Option.some.inj ((show Tryd.prog.funcNamed "mallow/mallowlaw22.ScavRates" = some 3 by kernel_rfl).symm.trans hf) |>.symm
  obtain rfl : fn = Tryd.f3 := (Option.some.inj (Tryd.func3.symm.trans hfn)).symm
  refine ⟨by kernel_rfl, fun j t ht => ?_⟩
  have hall : (Tryd.f3.params.toList.all fun t => !(Tryd.prog.wantsStandIn t)) = true := by kernel_rfl
  have := List.all_eq_true.1 hall t (Array.mem_toList_iff.2 (Array.mem_of_getElem? ht))
  exact Bool.not_eq_true' _ ▸ this

theorem proved : Rows.ScavRatesCardSaid :=
  Claim7.holds_tied_plain_at .later [] _ _ _ _ said (fun _ h => by cases h) (by kernel_rfl) (fun _ h => by cases h) scavRates_row_tie rfl ⟨rfl, rfl⟩ (by kernel_rfl) rfl plain (by kernel_rfl)
#print axioms proved
end Go.Proofs.YtnkphenomejbfaaDoor.scavRates

