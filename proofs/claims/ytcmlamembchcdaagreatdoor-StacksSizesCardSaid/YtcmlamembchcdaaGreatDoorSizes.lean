/- The law StacksSizes holds (its card: math/bits' table as the program's text lays it): for every input the Go function returns true and leaves its arguments alone. No further condition. -/
import Derived.Test.YtcmlamembchcdaaGreatDoorK
import Derived.Test.YtcmlamembchcdaaGreatDoorQ
import Derived.Test.YtcmlamembchcdaaGreatDoorA
import Derived.Test.YtcmlamembchcdaaGreatDoorCards
import Derived.Test.YtcmlamembchcdaaGreatDoorTie
import Derived.WalkKit
import Derived.ProofKit
import Derived.OpenShut
import Derived.Deep.DeepHandedRow
import Derived.Lib.LaidTab
set_option linter.all false
set_option maxRecDepth 8000
set_option maxHeartbeats 4000000
namespace Go.Sh

theorem T0_rdy {rf : List Bool} {S : HS} (h : RfSt S 0 512 512 []) (hs : ∀ id, S.sp id = none) (o : Nat) : Rdy ⟨S, fun _ => [], fun _ _ => false, fun _ => none⟩ o 4194304 0 false 0 512 512 :=
  ⟨h, by decide, fun id x hx => (by rw [show (⟨S, fun _ => [], fun _ _ => false, fun _ => none⟩ : ST).S.sp id = none from hs id] at hx; cases hx), fun _ _ _ _ => rfl, by decide, .inl ⟨rfl, rfl, by decide, fun _ => rfl⟩⟩

section
variable {E : Env} {w : World} {Z : List Pr} {b h : Nat} {T : ST} {g : SG} {o i : Nat} {next bb : Int} {r : List Bool}

section
variable (hE : EnvA E)
include hE

end

variable (hE : EnvH E)
include hE

theorem sizes_spec (hT : TabAt E.g_math_bits_deBruijn64tab w) {a0 a1 : Int} {K : Bool → World → Prop} (hK : ∀ w', Ext Nothing w w' → K true w') : F.mallowlaw21_StacksSizes E a0 a1 K w := by
  unfold F.mallowlaw21_StacksSizes
  have hT' : ∀ w', Sat [Old w] w' → TabAt E.g_math_bits_deBruijn64tab w' := fun w' h => hT.ext (h.old 0 rfl)
  have haw : ∀ {w'}, Sat [Old w] w' → F.mallowlaw21_awake E (fun r w'' => K r w'') w' := fun H => awake21_spec hE hT' H fun w'' H'' => hK w'' (H''.old 0 rfl)
  refine fresh21_nil (Sat.start w) fun h w2 H2 => CND_f rfl (stnew_spec H2 fun b g w4 H4 => CND_f rfl ?_)
  refine JOIN_intro (fun st w' => (st.1 = true ↔ (0 ≤ a0 ∧ a0 ≤ 63 ∧ 2048 ≤ a1 ∧ a1 ≤ 67108864 ∧ bitK .u64 0 a1 (u64 (a1 - 1)) = 0)) ∧ w' = w4) ?_ ?_
  · refine CND_dec (fun c0 => CND_dec (fun c1 => CND_dec (fun c2 => CND_dec (fun c3 => ⟨?_, rfl⟩) fun c3 => ⟨?_, rfl⟩) fun c2 => ⟨?_, rfl⟩) fun c1 => ⟨?_, rfl⟩) fun c0 => ⟨?_, rfl⟩
    · show (bitK .u64 0 a1 (u64 (a1 - 1)) == 0) = true ↔ _
      rw [beq_iff_eq]
      exact ⟨fun e => ⟨by omega, by omega, by omega, by omega, e⟩, fun e => e.2.2.2.2⟩
    all_goals (refine ⟨fun e => (by cases e), fun e => ?_⟩; obtain ⟨e1, e2, e3, e4, _⟩ := e; omega)
  rintro ⟨s, u⟩ _ w7 ⟨hs, rfl⟩
  dsimp only at hs ⊢
  by_cases hr : 0 ≤ a0 ∧ a0 ≤ 63 ∧ 2048 ≤ a1 ∧ a1 ≤ 67108864 ∧ bitK .u64 0 a1 (u64 (a1 - 1)) = 0
  · have hst := hs.2 hr
    subst hst
    obtain ⟨c0, c1, c2, c3, c4⟩ := hr
    obtain ⟨p, rfl⟩ := Int.eq_ofNat_of_zero_le c0
    rcases pow_test c2 c3 with ⟨j, hj, hn, _⟩ | hne
    · refine stalloc_right (hT' _ (stTail H4)) (by omega) hj hn c2 c3 c4 (fun hj4 => ?_) fun hj4 => ?_
      · have hbo := byO_bnd hj4
        have hc := byO_c hj4
        have hna : a1 = byO j := hn
        obtain ⟨c, hcc⟩ := Int.eq_ofNat_of_zero_le (show 0 ≤ 16384 / byO j by omega)
        refine small_fill hE.toEnvA hT' H4 (by omega) hj4 (T0_rdy (rf := []) (RfSt.new []) (fun _ => rfl) j) (by decide) rfl (c := c) hcc.symm (by rw [Nat.zero_add]; omega) fun T1 g1 w10 r1 o1 hR1 H10 => afterA_ok H10 fun w11 H11 => CND_f rfl ?_
        have hrow : T1.row (4 * p + j) = rowL 4194304 j 0 (c - 1) := by rw [r1]; simp
        have hcm : ((c - 1 : Nat) : Int) * byO j < 32768 := by
          have h1 : ((c - 1 : Nat) : Int) * byO j ≤ (c : Int) * byO j := Int.mul_le_mul_of_nonneg_right (by omega) (by omega)
          have h2 := hc.2.2.2
          rw [hcc] at h2
          omega
        rw [hna] at H11
        refine stfree_small hT' H11 (p := p) (by omega) hj4 (if_pos rfl) (c := c - 1) (by show (T1.row (4 * p + j)).length = _; rw [hrow, rowL_len]) hcm fun g2 w17 H17 => ?_
        exact CND_t rfl (CND_eq (fun _ => CND_t rfl (haw (stTail H17))) fun e => absurd hna.symm e)
      · have h4 : (2 : Int) ^ j = 4 * 2 ^ (j - 2) := by
          rw [show (4 : Int) = 2 ^ 2 by decide, ← Int.pow_add]; congr 1; omega
        have hm : a1 % 8192 = 0 := by rw [hn, h4]; omega
        have h16 : (16 : Int) ≤ 2 ^ j := by
          have := Nat.pow_le_pow_right (n := 2) (by decide) hj4
          exact_mod_cast this
        refine large_spec hE.toEnvA hT' H4 (RfSt.new []) (by decide) (fun j' _ id hid => (by cases hid)) hm (by omega) c3 fun S' bl I w10 hrf hsp hU hst hsl hpg hbs hne how H10 => afterA_ok H10 fun w11 H11 => CND_f rfl ?_
        refine stfree_large hE hT' H11 hrf.inv (fun _ _ _ => rfl) (p := p) (by omega) hj4 hj hn (if_pos rfl) (by decide) (id := ((0 : Nat) : Int) + 1) (how _ (by decide) ?_) hsp hU hst hsl fun w17 H17 => ?_
        · have : 1 ≤ a1 / 8192 := by omega
          show 512 * 8192 / 8192 < 512 + a1 / 8192
          omega
        · exact CND_t rfl (CND_eq (fun _ => CND_t rfl (haw H17)) fun e => absurd rfl e)
    · exact absurd c4 hne
  · have hst : s = false := by
      cases s
      · rfl
      · exact absurd (hs.1 rfl) hr
    subst hst
    refine stalloc_wrong hr (CND_t rfl (CND_t rfl (CND_t rfl ?_)))
    refine inuse2_spec hE H4 (RfSt.new []) (by decide) (fun id x hx => (by cases hx)) fun w12 H12 => ?_
    exact CND_t (by decide) (haw (stTail H12))

end
end Go.Sh


namespace Go.Proofs.YtcmlamembchcdaaGreatDoor.stacksSizes
open Go.ChangeShapes Go.WideShapes Go.ChangeAt Go.RowKit
set_option linter.unusedVariables false
set_option linter.unusedSimpArgs false

theorem own : ownKnob Tryz.prog.godebug = none := by kernel_rfl
theorem laidOut : laidOutB Tryz.prog = true := by kernel_rfl
theorem gTab : Tryz.prog.globalNamed "math/bits.deBruijn64tab" = some 0 := by kernel_rfl
theorem gTabType : (Tryz.prog.globals[0]?).map (·.type) = some 135 := by kernel_rfl
theorem und1 : Tryz.prog.underlying 135 = some (.array 64 5) := by kernel_rfl
theorem und2 : Tryz.prog.underlying 5 = some (.int .u8) := by kernel_rfl
theorem cells1 : Tryz.prog.cellsOf 135 = 64 := by kernel_rfl
theorem cells2 : Tryz.prog.cellsOf 5 = 1 := by kernel_rfl

theorem table {W : World} (h : laidMetH Tryz.prog Rows.stacksSizesRow.laid W) : Go.Sh.TabAt Go.Sh.env.g_math_bits_deBruijn64tab W := by
  have ht := Lib.tabIs_of_head (rest := []) (k := .u8) (zs := Lib.deBruijn64tab.map fun n : Nat => (n : Int)) gTab gTabType und1 und2 cells2 cells1 h
  intro i hi
  have := ht.cell gTab i (by rw [List.length_map]; exact hi)
  rw [show (Lib.deBruijn64tab.map fun n : Nat => (n : Int)).getD i 0 = ((Lib.deBruijn64tab.getD i 0 : Nat) : Int) by rw [List.getD_eq_getElem?_getD, List.getD_eq_getElem?_getD, List.getElem?_map]; cases Lib.deBruijn64tab[i]? <;> rfl] at this
  exact this

theorem walk (x : Go.Sh.ArgTs [.int .i64, .int .u64]) (w : World) (h : Go.Sh.argOks w [.int .i64, .int .u64] x) (hT : Go.Sh.TabAt Go.Sh.env.g_math_bits_deBruijn64tab w) :
    Calls Tryz.prog 3 ⟨Go.Sh.argVals [.int .i64, .int .u64] x⟩ w fun e w' => e = .returned (.bool true) ∧ Below w.heap.size w w' := by
  obtain ⟨a0, a1, u⟩ := x
  obtain ⟨w0, w1, _⟩ := h
  refine (Go.Sh.fits3 _ w (fun v w' => v = .bool true ∧ Below w.heap.size w w') Go.Sh.noP ?_).2.mono ?_
  · show Go.Sh.F.mallowlaw21_StacksSizes Go.Sh.env a0 a1 (fun r w' => Value.bool r = .bool true ∧ Below w.heap.size w w') w
    exact Go.Sh.sizes_spec Go.Sh.envH hT fun w' h => ⟨rfl, h.below (Nat.le_refl _) fun _ f => f.elim⟩
  · intro e w' hE
    obtain ⟨v, rfl, rfl, h⟩ := hE.val
    exact ⟨rfl, h⟩

noncomputable def laidWorld (os : Os) : World :=
  { World.holding Tryz.prog os ⟨#[], #[], []⟩ with heap := (World.holding Tryz.prog os ⟨#[], #[], []⟩).heap.modify 0 fun
      | .cells _ t frozen => .cells ⟨Lib.deBruijn64tab.map fun n : Nat => .int .u8 (n : Int)⟩ t frozen
      | o => o }
theorem laid_met (os : Os) : laidMet Tryz.prog Rows.stacksSizesRow.laid ((laidWorld os).forCall (fun _ _ => 0) ⟨#[], #[.int .i64 0, .int .u64 0], []⟩).memory :=
  laidMet_of_run' 8 (by kernel_rfl) (by kernel_rfl)
theorem reads (os : Os) {H : Type} (enc : TypeId × Value → H) : ∃ places, DataW.whole enc Tryz.prog ((laidWorld os).forCall (fun _ _ => 0) ⟨#[], #[.int .i64 0, .int .u64 0], []⟩).memory Tryz.f3.params.toList Rows.stacksSizesSpec.vars false (#[.int .i64 0, .int .u64 0] : Array Value).toList 8 = some ([.lit (.int .i64 0), .lit (.int .u64 0)], [], places) :=
  ⟨[], by kernel_rfl⟩

set_option maxRecDepth 100000 in
theorem lifted (os : Os) (started : os.Started) (H : Type) (enc : TypeId × Value → H) (F : Stop.Interp) :
    ReturnsInHanded {} Tryz.checked os 3 .any ((OpenSpec.ofChange Rows.stacksSizesSpec).preRow enc Tryz.prog Tryz.f3 Rows.stacksSizesRow.domain false Rows.stacksSizesRow.laid) (((OpenSpec.ofChange Rows.stacksSizesSpec).at F).post enc Tryz.prog Tryz.f3 false true false false) := by
  obtain ⟨places, hx⟩ := reads os enc
  refine returnsInHanded_of_row (C := Tryz.checked) (s := OpenSpec.ofChange Rows.stacksSizesSpec) own started (by kernel_rfl) Tryz.func3
    (witness_row_at (enc := enc) (C := Tryz.checked) false (laidWorld os) #[.int .i64 0, .int .u64 0] rfl (by kernel_rfl) (by kernel_rfl) (by kernel_rfl)
      (OpenSpec.preRow_of_cond 8 hx (by kernel_rfl) (fun k hk => by cases hk) (by kernel_rfl) (laid_met os))) ?_
  intro W base args ds gs before hval0 hW _ _ _ hL _ _
  have hW' := hW
  obtain ⟨p, q, hA, hV, rfl, hfz, hnd⟩ := hW
  obtain ⟨rfl, rfl⟩ := trodVars_none hV
  have hargs := Go.Sh.args_of (P := Tryz.prog) (shs := [.int .i64, .int .u64]) (by kernel_rfl) (fun j t v ht hv => hval0 j t v (by simpa using ht) (by simpa using hv)) hA
  obtain ⟨x, hx, hok⟩ := Go.Sh.argVals_of hargs
  obtain rfl : args = ⟨Go.Sh.argVals [.int .i64, .int .u64] x⟩ := Array.toList_inj.1 (by simpa using hx)
  have hlen := Go.Sh.trodAll_len hA
  obtain ⟨d0, d1, rfl⟩ : ∃ d0 d1, ds = [d0, d1] := by
    have hl : ds.length = 2 := hlen
    match ds, hl with
    | [d0, d1], _ => exact ⟨d0, d1, rfl⟩
  refine (walk x W hok (table hL)).mono fun e W' ⟨he, bel⟩ => ?_
  subst he
  exact ⟨_, rfl, _, _, _, [], _, [], hW', trodAll_mk1 (shut_bool Tryz.underlying4 _), Go.Sh.trodAll_below laidOut bel (by kernel_rfl) hA, rfl, bel.frame _, fun h => by cases h⟩

theorem said : Rows.StacksSizesSaid :=
  OpenClaim.holds_of_cond 3 Tryz.f3 rfl rfl rfl rfl rfl rfl rfl ⟨rfl, rfl, rfl, rfl, rfl⟩ rfl rfl rfl rfl rfl (by kernel_rfl) Tryz.func3 (by kernel_rfl)
    (of_decide_eq_true (by kernel_rfl)) (by unfold Func.isWrapper; first | (rw [if_pos (by decide +kernel)]; kernel_rfl) | (rw [if_neg (by decide +kernel)]; exact ⟨rfl, rfl⟩))
    (fun os started H enc _ F => by rw [OpenClaim.pre_eq_preRow]; exact lifted os started H enc F)

theorem plain (f : FuncId) (fn : Func) (hf : Tryz.pinned.checked.prog.funcNamed "mallow/mallowlaw21.StacksSizes" = some f) (hfn : Tryz.pinned.checked.prog.funcs[f]? = some fn) :
    true = Tryz.pinned.checked.prog.looks [] ∧ ∀ (j : Nat) t, fn.params[j]? = some t → Tryz.pinned.checked.prog.wantsStandIn t = false := by
  obtain rfl : f = 3 := Option.some.inj ((show Tryz.prog.funcNamed "mallow/mallowlaw21.StacksSizes" = some 3 by kernel_rfl).symm.trans hf) |>.symm
  obtain rfl : fn = Tryz.f3 := (Option.some.inj (Tryz.func3.symm.trans hfn)).symm
  refine ⟨by kernel_rfl, fun j t ht => ?_⟩
  have hall : (Tryz.f3.params.toList.all fun t => !(Tryz.prog.wantsStandIn t)) = true := by kernel_rfl
  have := List.all_eq_true.1 hall t (Array.mem_toList_iff.2 (Array.mem_of_getElem? ht))
  exact Bool.not_eq_true' _ ▸ this

theorem proved : Rows.StacksSizesCardSaid :=
  Claim7.holds_tied_plain_at .later [] _ _ _ _ said (fun _ h => by cases h) (by kernel_rfl) (fun _ h => by cases h) stacksSizes_row_tie rfl ⟨rfl, rfl⟩ (by kernel_rfl) rfl plain (by kernel_rfl)
#print axioms proved
end Go.Proofs.YtcmlamembchcdaaGreatDoor.stacksSizes

