/- The law HeapCached holds (its card: math/bits' table as the program's text lays it): for every input the Go function returns true and leaves its arguments alone. No further condition. -/
import Derived.Test.YtaaojaeeefbjiaaDoorL
import Derived.Test.YtaaojaeeefbjiaaDoorB
import Derived.Test.YtaaojaeeefbjiaaDoorA
import Derived.Test.YtaaojaeeefbjiaaDoorCards
import Derived.Test.YtaaojaeeefbjiaaDoorTie
import Derived.WalkKit
import Derived.ProofKit
import Derived.OpenShut
import Derived.Deep.DeepHandedRow
import Derived.Lib.LaidTab
set_option linter.all false
set_option maxRecDepth 8000
set_option maxHeartbeats 4000000
namespace Go.Sh

/-- So many pages were taken one by one by a P. -/
structure CaSt (S : HS) (P i : Nat) : Prop where
  own : ∀ p, S.own p = if 512 ≤ p ∧ p < 512 + (i : Int) then p - 511 else 0
  fx : S.fx = ⟨i, []⟩
  pages : S.pages = i
  gn : Gn S
  st : (i = 0 ∧ S = HS.new (newV [] [] [])) ∨ (LaidB S 1024 ∧ ((i = 1 ∧ FrR S 513 1024 ∧ ∀ j, (S.ca j).empty) ∨ (2 ≤ i ∧ Cst S P i)))

theorem CaSt.new (P : Nat) : CaSt (HS.new (newV [] [] [])) P 0 := ⟨fun p => by rw [if_neg (by omega)]; rfl, rfl, rfl, Gn.new _, .inl ⟨rfl, rfl⟩⟩

theorem CaSt.laid {S : HS} {P i : Nat} (h : CaSt S P i) : ∃ b, LaidB S b ∧ b ≤ 1024 := by
  rcases h.st with ⟨_, rfl⟩ | ⟨h, _⟩
  · exact ⟨512, LaidB.new [], by decide⟩
  · exact ⟨1024, h, Int.le_refl _⟩

theorem CaSt.next {S S2 : HS} {P i : Nat} {page id : Int} {X : FX} {x : Nat × SI} (h : CaSt S P i) (hP : P < 64) (hi : i < 64) (hk : HOk S) (hf : Found S P 1 page S2) (hX : Next S2 id X) : page = 512 + i ∧ id = (i : Int) + 1 ∧ CaSt (S2.keep id x page 1 X) P (i + 1) := by
  have es := hf.same
  obtain ⟨rfl, rfl⟩ := hX.top (n := i) (by rw [es.fx]; exact h.fx)
  have hg := hf.gn h.gn
  have key : page = 512 + i ∧ LaidB S2 1024 ∧ ((i + 1 = 1 ∧ FrR S2 513 1024 ∧ ∀ j, (S2.ca j).empty) ∨ (2 ≤ i + 1 ∧ Cst S2 P (i + 1))) := by
    rcases h.st with ⟨rfl, rfl⟩ | ⟨hL, ⟨rfl, h1, h2⟩ | ⟨h1, h2⟩⟩
    · obtain ⟨e1, e2, e3, e4⟩ := first_found hk (by decide) (by decide) hf
      exact ⟨e1, e3, .inl ⟨rfl, e2, fun j => by rw [e4]; exact fun _ => rfl⟩⟩
    · obtain ⟨e1, e2, e3⟩ := Cst.found (k := 1) (fun S1 hfl => Cst.first h1 h2 hfl) hP (by decide) hL hf
      exact ⟨e1, e3, .inr ⟨by decide, e2⟩⟩
    · obtain ⟨e1, e2, e3⟩ := Cst.found (fun S1 hfl => Cst.again h2 hi hfl) hP hi hL hf
      exact ⟨e1, e3, .inr ⟨by omega, e2⟩⟩
  obtain ⟨rfl, k2, k3⟩ := key
  refine ⟨rfl, rfl, ⟨fun p => ?_, rfl, ?_, hg.keep _ _ _ _ _, .inr ⟨k2.keep _ _ _ _ _, k3.elim (fun ⟨a, b, c⟩ => .inl ⟨a, b, c⟩) fun ⟨a, b⟩ => .inr ⟨a, b.keep _ _ _ _ _⟩⟩⟩⟩
  · rw [own_keep, es.own, h.own]
    by_cases g : 512 + (i : Int) ≤ p ∧ p < 512 + (i : Int) + 1
    · rw [if_pos g, if_pos (by omega)]; omega
    · rw [if_neg g]
      by_cases g2 : 512 ≤ p ∧ p < 512 + (i : Int)
      · rw [if_pos g2, if_pos (by omega)]
      · rw [if_neg g2, if_neg (by omega)]
  · show S2.pages + 1 = _
    rw [es.pages, h.pages]; omega

section
variable {E : Env} {w : World} {Rs Z : List Pr} (hE : EnvA E)
include hE

theorem cached_spec (hT : TabAt E.g_math_bits_deBruijn64tab w) {a0 a1 : Int} {K : Bool → World → Prop} (hK : ∀ w', Ext Nothing w w' → K true w') : F.mallowlaw16_HeapCached E a0 a1 K w := by
  unfold F.mallowlaw16_HeapCached
  have H0 := Sat.start w
  have hT' : ∀ w', Sat [Old w] w' → TabAt E.g_math_bits_deBruijn64tab w' := fun w' h => hT.ext (h.old 0 rfl)
  have ht : K true w := hK w (Ext.refl _ _)
  refine JOIN_in (CND_dec (fun _ j => CND_t rfl ht) fun g1 => CND_dec (fun _ j => CND_t rfl ht) fun g2 => CND_dec (fun _ j => CND_t rfl ht) fun g3 j => CND_dec (fun _ => ht) fun g4 => ?_)
  obtain ⟨P, rfl⟩ : ∃ P : Nat, a0 = (P : Int) := ⟨a0.toNat, by omega⟩
  have hP : P < 64 := by omega
  refine fresh16_nil H0 fun h w5 H5 => CND_f rfl ?_
  refine LOOP_intro (fun st w' => ∃ (i : Nat) (S : HS), st.1 = (i : Int) ∧ (i : Int) ≤ a1 ∧ CaSt S P i ∧ HInv S no ∧ Sat (HeapP E h S :: [Old w]) w') (fun st _ => (a1 - st.1).toNat) ⟨0, _, rfl, by show (0 : Int) ≤ a1; omega, CaSt.new P, HInv.newV [] [] [], H5⟩ ?_
  rintro ⟨i', v⟩ _ w7 ⟨i, S, hi, hin, hC, hI, H7⟩
  dsimp only at hi ⊢
  subst hi
  refine CND_dec (fun hlt => ?_) fun hge => ?_
  · obtain ⟨b, hL, hb⟩ := hC.laid
    refine halloc_ok hE hT' H7 hI hL (spOk0 (by decide) (by decide)) (by decide) (by have : upN 1 = 512 := rfl; omega) fun _ page S2 bl id X hf hk hI2 q0 q1 hX hI3 w11 H11 => ?_
    obtain ⟨rfl, rfl, hC2⟩ := hC.next (x := (bl, spOf page 1 0 true)) hP (by omega) hk hf hX
    rw [i64_id (n := (i : Int) + 1) (by omega) (by omega), i64_id (n := 512 + (i : Int)) (by omega) (by omega), u64_id (n := 512 + (i : Int)) (by omega) (by omega), u64_id (n := (512 + (i : Int)) * 8192) (by omega) (by omega)]
    refine JOIN_in (CND_ne (fun e => absurd rfl e) fun _ => CND_f rfl (hof_spec H11 (by omega) (by omega) fun w16 H16 => ?_))
    rw [show (512 + (i : Int)) * 8192 / 8192 = 512 + (i : Int) by omega, hC2.own, if_pos (by omega)]
    refine fun j => CND_ne (fun e => absurd (by omega) e) fun _ => ⟨⟨i + 1, _, by omega, by omega, hC2, hI3, H16⟩, by show (a1 - ((i : Int) + 1)).toNat < (a1 - (i : Int)).toNat; omega⟩
  have hia : (i : Int) = a1 := by omega
  subst hia
  have h2 : 2 ≤ i := by omega
  have h60 : i ≤ 60 := by omega
  obtain ⟨hL, hCst⟩ : LaidB S 1024 ∧ Cst S P i := by
    rcases hC.st with ⟨e, _⟩ | ⟨hL, ⟨e, _⟩ | ⟨_, h⟩⟩
    · omega
    · omega
    · exact ⟨hL, h⟩
  have hok := H7.hok
  rw [i64_id (n := 512 + (i : Int)) (by omega) (by omega)]
  -- whose they are
  refine LOOP_intro (fun st w' => 512 + (i : Int) ≤ st.1 ∧ st.1 ≤ 576 ∧ Sat (HeapP E h S :: [Old w]) w') (fun st _ => (576 - st.1).toNat) ⟨Int.le_refl _, by show 512 + (i : Int) ≤ 576; omega, H7⟩ ?_
  rintro ⟨k, v⟩ _ w18 ⟨hk1, hk2, H18⟩
  dsimp only at hk1 hk2 ⊢
  refine CND_dec (fun hlt => ?_) fun hge => ?_
  · rw [u64_id (n := k) (by omega) (by omega)]
    have hz : ¬ 0 < S.own k := by rw [hC.own, if_neg (by omega)]; decide
    have ho : (S.ca P).own k = true := hCst.own.2 (by omega)
    refine howner_spec hE H18 (by omega) (by omega) (fun hbad => ?_) (fun _ _ hb => absurd hb hz) (fun _ _ _ q hq hqo _ w22 H22 => ?_) fun _ _ _ hno => ?_
    · exfalso
      rcases hbad with g | g
      · omega
      · exact g ((ks_laid hL hI).2 (by omega))
    · have e : q = P := Classical.byContradiction fun e => by rw [hCst.own' e] at hqo; cases hqo
      subst e
      refine JOIN_in (CND_f rfl fun j => CND_ne (fun e => absurd rfl e) fun _ => ?_)
      rw [i64_id (n := k + 1) (by omega) (by omega)]
      exact ⟨⟨by show _ ≤ k + 1; omega, by show k + 1 ≤ 576; omega, H22⟩, by show (576 - (k + 1)).toNat < (576 - k).toNat; omega⟩
    · rw [hno P hP] at ho; cases ho
  -- they are flushed
  refine hflush_spec hE.toEnvS H18 hI (fun hb => absurd ⟨by omega, by omega⟩ hb) fun _ _ w26 hI2 H26 => ?_
  rw [Int.toNat_natCast] at hI2 H26
  have hS2 : LaidB (S.flush P) 1024 := hL.sameV rfl rfl
  have hG2 : Gn (S.flush P) := hC.gn.flush P
  have hc2 : ∀ j p, ((S.flush P).ca j).own p = false := fun j p => by
    show (if j = P then CS.nil else S.ca j).own p = false
    by_cases e : j = P
    · rw [if_pos e]; exact own_nil p
    · rw [if_neg e]; exact hCst.own' e p
  refine hflush_spec hE.toEnvS H26 hI2 (fun _ w27 H27 => ?_) fun hb => absurd hb (by decide)
  refine LOOP_intro (fun st w' => 512 + (i : Int) ≤ st.1 ∧ st.1 ≤ 600 ∧ Sat (HeapP E h (S.flush P) :: [Old w]) w') (fun st _ => (600 - st.1).toNat) ⟨Int.le_refl _, by show 512 + (i : Int) ≤ 600; omega, H27⟩ ?_
  rintro ⟨k, v⟩ _ w29 ⟨hk1, hk2, H29⟩
  dsimp only at hk1 hk2 ⊢
  refine CND_dec (fun hlt => ?_) fun hge => ?_
  · rw [u64_id (n := k) (by omega) (by omega)]
    have hz : ¬ 0 < (S.flush P).own k := by show ¬ 0 < S.own k; rw [hC.own, if_neg (by omega)]; decide
    refine howner_spec hE H29 (by omega) (by omega) (fun hbad => ?_) (fun _ _ hb => absurd hb hz) (fun _ _ _ q hq hqo _ => ?_) fun _ _ _ hno w33 H33 => ?_
    · exfalso
      rcases hbad with g | g
      · omega
      · exact g ((ks_laid hS2 hI2).2 (by omega))
    · rw [hc2] at hqo; cases hqo
    · refine CND_f rfl ?_
      rw [i64_id (n := k + 1) (by omega) (by omega)]
      exact ⟨⟨by show _ ≤ k + 1; omega, by show k + 1 ≤ 600; omega, H33⟩, by show (600 - (k + 1)).toNat < (600 - k).toNat; omega⟩
  · have hok2 := H29.hok
    refine hpages_spec H29 hI2 fun w37 H37 => ?_
    rw [hG2.count hI2 hok2, cP_laid hS2 hI2 (by decide), show (S.flush P).pages = (i : Int) from hC.pages, u64_id (n := (i : Int)) (by omega) (by omega), u64_id (n := 512 - (i : Int)) (by omega) (by omega)]
    refine CND_t rfl (CND_eq (fun _ => CND_eq (fun _ => ?_) fun e => absurd (by omega) e) fun e => absurd rfl e)
    exact hawake_spec hE hT' H37.tail fun w39 H39 => hK w39 (H39.old 0 rfl)
end
end Go.Sh

namespace Go.Proofs.YtaaojaeeefbjiaaDoor.heapCached
open Go.ChangeShapes Go.WideShapes Go.ChangeAt Go.RowKit
set_option linter.unusedVariables false
set_option linter.unusedSimpArgs false

theorem own : ownKnob Tryd.prog.godebug = none := by kernel_rfl
theorem laidOut : laidOutB Tryd.prog = true := by kernel_rfl
theorem gTab : Tryd.prog.globalNamed "math/bits.deBruijn64tab" = some 0 := by kernel_rfl
theorem gTabType : (Tryd.prog.globals[0]?).map (·.type) = some 164 := by kernel_rfl
theorem und1 : Tryd.prog.underlying 164 = some (.array 64 5) := by kernel_rfl
theorem und2 : Tryd.prog.underlying 5 = some (.int .u8) := by kernel_rfl
theorem cells1 : Tryd.prog.cellsOf 164 = 64 := by kernel_rfl
theorem cells2 : Tryd.prog.cellsOf 5 = 1 := by kernel_rfl

/-- What the row's list gives: the table's cells hold its numbers. -/
theorem table {W : World} (h : laidMetH Tryd.prog Rows.heapCachedRow.laid W) : Go.Sh.TabAt Go.Sh.env.g_math_bits_deBruijn64tab W := by
  have ht := Lib.tabIs_of_head (rest := []) (k := .u8) (zs := Lib.deBruijn64tab.map fun n : Nat => (n : Int)) gTab gTabType und1 und2 cells2 cells1 h
  intro i hi
  have := ht.cell gTab i (by rw [List.length_map]; exact hi)
  rw [show (Lib.deBruijn64tab.map fun n : Nat => (n : Int)).getD i 0 = ((Lib.deBruijn64tab.getD i 0 : Nat) : Int) by rw [List.getD_eq_getElem?_getD, List.getD_eq_getElem?_getD, List.getElem?_map]; cases Lib.deBruijn64tab[i]? <;> rfl] at this
  exact this

theorem walk (x : Go.Sh.ArgTs [.int .i64, .int .i64]) (w : World) (h : Go.Sh.argOks w [.int .i64, .int .i64] x) (hT : Go.Sh.TabAt Go.Sh.env.g_math_bits_deBruijn64tab w) :
    Calls Tryd.prog 4 ⟨Go.Sh.argVals [.int .i64, .int .i64] x⟩ w fun e w' => e = .returned (.bool true) ∧ Below w.heap.size w w' := by
  obtain ⟨a0, a1, u⟩ := x
  obtain ⟨w0, w1, _⟩ := h
  refine (Go.Sh.fits4 _ w (fun v w' => v = .bool true ∧ Below w.heap.size w w') Go.Sh.noP ?_).2.mono ?_
  · show Go.Sh.F.mallowlaw16_HeapCached Go.Sh.env a0 a1 (fun r w' => Value.bool r = .bool true ∧ Below w.heap.size w w') w
    exact Go.Sh.cached_spec Go.Sh.envA hT fun w' h => ⟨rfl, h.below (Nat.le_refl _) fun _ f => f.elim⟩
  · intro e w' hE
    obtain ⟨v, rfl, rfl, h⟩ := hE.val
    exact ⟨rfl, h⟩

noncomputable def laidWorld (os : Os) : World :=
  { World.holding Tryd.prog os ⟨#[], #[], []⟩ with heap := (World.holding Tryd.prog os ⟨#[], #[], []⟩).heap.modify 0 fun
      | .cells _ t frozen => .cells ⟨Lib.deBruijn64tab.map fun n : Nat => .int .u8 (n : Int)⟩ t frozen
      | o => o }
theorem laid_met (os : Os) : laidMet Tryd.prog Rows.heapCachedRow.laid ((laidWorld os).forCall (fun _ _ => 0) ⟨#[], #[.int .i64 0, .int .i64 0], []⟩).memory :=
  laidMet_of_run' 8 (by kernel_rfl) (by kernel_rfl)
theorem reads (os : Os) {H : Type} (enc : TypeId × Value → H) : ∃ places, DataW.whole enc Tryd.prog ((laidWorld os).forCall (fun _ _ => 0) ⟨#[], #[.int .i64 0, .int .i64 0], []⟩).memory Tryd.f4.params.toList Rows.heapCachedSpec.vars false (#[.int .i64 0, .int .i64 0] : Array Value).toList 8 = some ([.lit (.int .i64 0), .lit (.int .i64 0)], [], places) :=
  ⟨[], by kernel_rfl⟩

set_option maxRecDepth 100000 in
theorem lifted (os : Os) (started : os.Started) (H : Type) (enc : TypeId × Value → H) (F : Stop.Interp) :
    ReturnsInHanded {} Tryd.checked os 4 .any ((OpenSpec.ofChange Rows.heapCachedSpec).preRow enc Tryd.prog Tryd.f4 Rows.heapCachedRow.domain false Rows.heapCachedRow.laid) (((OpenSpec.ofChange Rows.heapCachedSpec).at F).post enc Tryd.prog Tryd.f4 false true false false) := by
  obtain ⟨places, hx⟩ := reads os enc
  refine returnsInHanded_of_row (C := Tryd.checked) (s := OpenSpec.ofChange Rows.heapCachedSpec) own started (by kernel_rfl) Tryd.func4
    (witness_row_at (enc := enc) (C := Tryd.checked) false (laidWorld os) #[.int .i64 0, .int .i64 0] rfl (by kernel_rfl) (by kernel_rfl) (by kernel_rfl)
      (OpenSpec.preRow_of_cond 8 hx (by kernel_rfl) (fun k hk => by cases hk) (by kernel_rfl) (laid_met os))) ?_
  intro W base args ds gs before hval0 hW _ _ _ hL _ _
  have hW' := hW
  obtain ⟨p, q, hA, hV, rfl, hfz, hnd⟩ := hW
  obtain ⟨rfl, rfl⟩ := trodVars_none hV
  have hargs := Go.Sh.args_of (P := Tryd.prog) (shs := [.int .i64, .int .i64]) (by kernel_rfl) (fun j t v ht hv => hval0 j t v (by simpa using ht) (by simpa using hv)) hA
  obtain ⟨x, hx, hok⟩ := Go.Sh.argVals_of hargs
  obtain rfl : args = ⟨Go.Sh.argVals [.int .i64, .int .i64] x⟩ := Array.toList_inj.1 (by simpa using hx)
  have hlen := Go.Sh.trodAll_len hA
  obtain ⟨d0, d1, rfl⟩ : ∃ d0 d1, ds = [d0, d1] := by
    have hl : ds.length = 2 := hlen
    match ds, hl with
    | [d0, d1], _ => exact ⟨d0, d1, rfl⟩
  refine (walk x W hok (table hL)).mono fun e W' ⟨he, bel⟩ => ?_
  subst he
  exact ⟨_, rfl, _, _, _, [], _, [], hW', trodAll_mk1 (shut_bool Tryd.underlying4 _), Go.Sh.trodAll_below laidOut bel (by kernel_rfl) hA, rfl, bel.frame _, fun h => by cases h⟩

theorem said : Rows.HeapCachedSaid :=
  OpenClaim.holds_of_cond 4 Tryd.f4 rfl rfl rfl rfl rfl rfl rfl ⟨rfl, rfl, rfl, rfl, rfl⟩ rfl rfl rfl rfl rfl (by kernel_rfl) Tryd.func4 (by kernel_rfl)
    (of_decide_eq_true (by kernel_rfl)) (by unfold Func.isWrapper; first | (rw [if_pos (by decide +kernel)]; kernel_rfl) | (rw [if_neg (by decide +kernel)]; exact ⟨rfl, rfl⟩))
    (fun os started H enc _ F => by rw [OpenClaim.pre_eq_preRow]; exact lifted os started H enc F)

theorem plain (f : FuncId) (fn : Func) (hf : Tryd.pinned.checked.prog.funcNamed "mallow/mallowlaw16.HeapCached" = some f) (hfn : Tryd.pinned.checked.prog.funcs[f]? = some fn) :
    true = Tryd.pinned.checked.prog.looks [] ∧ ∀ (j : Nat) t, fn.params[j]? = some t → Tryd.pinned.checked.prog.wantsStandIn t = false := by
  obtain rfl : f = 4 := Option.some.inj ((show Tryd.prog.funcNamed "mallow/mallowlaw16.HeapCached" = some 4 by kernel_rfl).symm.trans hf) |>.symm
  obtain rfl : fn = Tryd.f4 := (Option.some.inj (Tryd.func4.symm.trans hfn)).symm
  refine ⟨by kernel_rfl, fun j t ht => ?_⟩
  have hall : (Tryd.f4.params.toList.all fun t => !(Tryd.prog.wantsStandIn t)) = true := by kernel_rfl
  have := List.all_eq_true.1 hall t (Array.mem_toList_iff.2 (Array.mem_of_getElem? ht))
  exact Bool.not_eq_true' _ ▸ this

/-- ████ THE CARD ████ -/
theorem proved : Rows.HeapCachedCardSaid :=
  Claim7.holds_tied_plain_at .later [] _ _ _ _ said (fun _ h => by cases h) (by kernel_rfl) (fun _ h => by cases h) heapCached_row_tie rfl ⟨rfl, rfl⟩ (by kernel_rfl) rfl plain (by kernel_rfl)
#print axioms proved
end Go.Proofs.YtaaojaeeefbjiaaDoor.heapCached
