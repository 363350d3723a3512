/- The law HeapClasses holds (its card: math/bits' table as the program's text lays it): for every input the Go function returns true and leaves its arguments alone. No further condition. -/
import Derived.Test.YtaaojaeeefbjiaaDoorL
import Derived.Test.YtaaojaeeefbjiaaDoorB
import Derived.Test.YtaaojaeeefbjiaaDoorA
import Derived.Test.YtaaojaeeefbjiaaDoorCards
import Derived.Test.YtaaojaeeefbjiaaDoorTie
import Derived.WalkKit
import Derived.ProofKit
import Derived.OpenShut
import Derived.Deep.DeepHandedRow
import Derived.Lib.LaidTab
set_option linter.all false
set_option maxRecDepth 8000
set_option maxHeartbeats 4000000
namespace Go.Sh

theorem cls_pos1 : ((List.range 68).all fun c => decide (c = 0) || (decide (1 ≤ (clsAt c).2.1) && decide ((clsAt c).2.1 ≤ 16))) = true := by decide +kernel
theorem cls_pos {c : Int} (h0 : 1 ≤ c) (h1 : c < 68) : 1 ≤ (clsAt c).2.1 ∧ (clsAt c).2.1 ≤ 16 := by
  have := List.all_eq_true.1 cls_pos1 c.toNat (List.mem_range.2 (by omega))
  rw [Bool.or_eq_true, decide_eq_true_eq, Bool.and_eq_true, decide_eq_true_eq, decide_eq_true_eq, show ((c.toNat : Nat) : Int) = c by omega] at this
  rcases this with h | h
  · omega
  · exact h

section
variable {E : Env} {w : World} {Rs Z : List Pr} (hE : EnvA E)
include hE

theorem classes_spec (hT : TabAt E.g_math_bits_deBruijn64tab w) {a0 a1 : Int} {a2 : Bool} {K : Bool → World → Prop} (hK : ∀ w', Ext Nothing w w' → K true w') : F.mallowlaw16_HeapClasses E a0 a1 a2 K w := by
  unfold F.mallowlaw16_HeapClasses
  refine table_spec (Sat.start w) fun r1 w2 H2 => ?_
  have hl := H2.recLen (by decide) cls4_len
  rw [cls_len] at hl
  have hT' : ∀ w', Sat [Row E.t_api_Class 4 r1 (recs cls4 clsT), Old w] w' → TabAt E.g_math_bits_deBruijn64tab w' := fun w' h => hT.ext (h.old 1 rfl)
  have haw : F.mallowlaw16_awake E (fun r6 w7 => K r6 w7) w2 := hawake_spec hE hT' H2 fun w7 H7 => hK w7 (H7.old 1 rfl)
  have hdone : CND ((((r1.len : Nat) : Int) : Int) == 68) (F.mallowlaw16_awake E (fun r6 w7 => K r6 w7) w2) (K false w2) := CND_eq (fun _ => haw) fun e => absurd (by omega) e
  refine JOIN_in (CND_dec (fun g j => CND_t rfl hdone) fun g1 j => CND_dec (fun g => hdone) fun g2 => ?_)
  have c0 : 0 ≤ a0 := by omega
  have c1 : a0 < 68 := by omega
  have hcb := cls_pos (c := a0) (by omega) c1
  obtain ⟨x, hx⟩ := H2.recBase (by decide) cls4_len (i := a0.toNat) (by rw [cls_len]; omega)
  have cell : ∀ {w'} {Y : List Pr}, Sat (Row E.t_api_Class 4 r1 (recs cls4 clsT) :: Y) w' → w'.cell? ((Addr.mk x 0 none).add (Int.toNat a0 * 4)) = some (.int .i64 (clsAt a0).1) ∧ w'.cell? (((Addr.mk x 0 none).add (Int.toNat a0 * 4)).add 1) = some (.int .i64 (clsAt a0).2.1) ∧
      w'.cell? (((Addr.mk x 0 none).add (Int.toNat a0 * 4)).add 2) = some (.int .i64 (clsAt a0).2.2.1) := fun h => by
    refine ⟨?_, ?_, ?_⟩
    · have := h.recCell cls4_len hx (cls_at c0 c1) (j := 0) rfl; rwa [Nat.add_zero] at this
    · rw [add_add]; exact h.recCell cls4_len hx (cls_at c0 c1) (j := 1) rfl
    · rw [add_add]; exact h.recCell cls4_len hx (cls_at c0 c1) (j := 2) rfl
  have hcl : (0 : Int) ≤ a0 ∧ (a0 : Int) < (r1.len : Nat) := by omega
  generalize hn : (clsAt a0).2.1 = n at *
  have hbad : ¬ spBad 0 n a0 := by unfold spBad; rw [hn]; omega
  refine fresh16_nil H2 fun h w9 H9 => CND_f rfl ?_
  rw [hx]
  simp only [NC_some]
  refine ⟨hcl, n, (cell (H9.front 1 rfl)).2.1, ?_⟩
  rw [u64_id (n := n) (by omega) (by omega)]
  have e512 : upN n = 512 := by unfold upN; omega
  refine halloc_ok hE hT' H9 (HInv.newV [] [] []) (LaidB.new []) hbad (by omega) (by omega) fun _ page S2 bl id X hf hk hI2 q0 q1 hX hI3 w14 H14 => ?_
  obtain ⟨rfl, e2, e3, e4⟩ := first_found hk (by omega) (by omega) hf
  have es := hf.same
  obtain ⟨rfl, rfl⟩ := hX.top (n := 0) es.fx
  have hL1 := e3.keep ((0 : Nat) + 1) (bl, spOf 512 n a0 a2) 512 n ⟨0 + 1, []⟩
  have hsp1 : (S2.keep ((0 : Nat) + 1) (bl, spOf 512 n a0 a2) 512 n ⟨0 + 1, []⟩).sp 1 = some (bl, spOf 512 n a0 a2) := by
    show (if (1 : Int) = ((0 : Nat) : Int) + 1 then some (bl, spOf 512 n a0 a2) else S2.sp 1) = _
    rw [if_pos (by decide)]
  have hX1 : (S2.keep ((0 : Nat) + 1) (bl, spOf 512 n a0 a2) 512 n ⟨0 + 1, []⟩).fx = ⟨1, []⟩ := rfl
  generalize S2.keep ((0 : Nat) + 1) (bl, spOf 512 n a0 a2) 512 n ⟨0 + 1, []⟩ = T1 at *
  clear hf hI2 hX es e2 e3 e4 hk
  refine ⟨hcl, n, (cell (H14.front 1 rfl)).2.1, ?_⟩
  rw [u64_id (n := n) (by omega) (by omega)]
  refine halloc_ok hE hT' H14 hI3 hL1 hbad (by omega) (by omega) fun _ page S3 bl2 id X hf hk hI4 q0 q1 hX hI5 w19 H19 => ?_
  obtain ⟨b', hb', hL2⟩ := hf.laid hL1 hk (by omega) (by omega)
  have es := hf.same
  obtain ⟨rfl, rfl⟩ := hX.top (n := 1) (by rw [es.fx]; exact hX1)
  have hL2 := hL2.keep ((1 : Nat) + 1) (bl2, spOf page n a0 a2) page n ⟨1 + 1, []⟩
  have hsp2 : (S3.keep ((1 : Nat) + 1) (bl2, spOf page n a0 a2) page n ⟨1 + 1, []⟩).sp 1 = some (bl, spOf 512 n a0 a2) := by
    show (if (1 : Int) = ((1 : Nat) : Int) + 1 then some (bl2, spOf page n a0 a2) else S3.sp 1) = _
    rw [if_neg (by decide), es.sp]; exact hsp1
  have hX2 : (S3.keep ((1 : Nat) + 1) (bl2, spOf page n a0 a2) page n ⟨1 + 1, []⟩).fx = ⟨2, []⟩ := rfl
  generalize S3.keep ((1 : Nat) + 1) (bl2, spOf page n a0 a2) page n ⟨1 + 1, []⟩ = T2 at *
  clear hf hI4 hX es hk
  refine ⟨hcl, n, (cell (H19.front 1 rfl)).2.1, ?_⟩
  rw [i64_id (n := n + 1) (by omega) (by omega), u64_id (n := n + 1) (by omega) (by omega)]
  have hbad2 : spBad 0 (n + 1) a0 := by unfold spBad; rw [hn]; omega
  refine halloc_spec hE hT' H19 hI5 (by omega) (by omega) (fun _ w24 H24 => ?_) (fun hb => absurd hbad2 hb) fun hb => absurd hbad2 hb
  refine hspan_spec H24 (fun e => by rw [show ((0 : Nat) : Int) + 1 = 1 from rfl, hsp2] at e; cases e) fun y hy => ?_
  rw [show ((0 : Nat) : Int) + 1 = 1 from rfl, hsp2] at hy
  cases hy
  refine JOIN_in (CND_f rfl (CND_f rfl (CND_f rfl (CND_f rfl (CND_f rfl fun j => CND_f rfl ?_)))))
  obtain ⟨R, hs, hb⟩ := H24.heapSpan hsp2
  refine spinfo_spec hs fun w41 H41 => ?_
  refine AL_cells (vs := [.int .u64 0, .int .i64 0, .int .i64 0, .int .i64 0, .bool false, .int .i64 0, .int .i64 0, .int .i64 0, .bool false, .bool false]) (hb H41) fun b42 w43 H43 _ => ?_
  refine st_all (news := [.int .u64 (512 * 8192), .int .i64 n, .int .i64 1, .int .i64 a0, .bool a2, .int .i64 (if a0 = 0 then n * 8192 else (clsAt a0).1), .int .i64 (if a0 = 0 then 1 else (clsAt a0).2.2.1), .int .i64 0, .bool false, .bool false]) H43 rfl (by simp [Value.oneCell']) fun w44 H44 => ?_
  rw [if_neg (show ¬ a0 = 0 by omega), if_neg (show ¬ a0 = 0 by omega)] at H44
  have H45 := H44.drew
  refine JOIN_in ⟨_, H45.cell rfl, CND_ne (fun e => absurd rfl e) fun _ => ⟨_, H45.cell rfl, CND_f (by cases a2 <;> rfl) ⟨_, H45.cell rfl, hcl, _, (cell (H45.front 2 rfl)).2.2, CND_ne (fun e => absurd rfl e) fun _ => ⟨_, H45.cell rfl, hcl, _, (cell (H45.front 2 rfl)).1, CND_ne (fun e => absurd rfl e) fun _ => ⟨_, H45.cell rfl, CND_f rfl ⟨_, H45.cell rfl, fun j => CND_f rfl ?_⟩⟩⟩⟩⟩⟩
  -- it is freed
  have H46 := H45.front 1 rfl
  refine JOIN_in (hfree_spec hE H46 hI5 (fun e => by rw [show ((0 : Nat) : Int) + 1 = 1 from rfl, hsp2] at e; cases e) (fun y hy hu => ?_) fun y a hy hu ha hI6 w62 H62 => CND_f rfl ?_)
  · rw [show ((0 : Nat) : Int) + 1 = 1 from rfl, hsp2] at hy; cases hy
    exact absurd hu (by show ¬ (0 : Int) < 0; decide)
  rw [show ((0 : Nat) : Int) + 1 = 1 from rfl, hsp2] at hy
  cases hy
  obtain rfl : a = 0 := by omega
  have hpg : (spOf 512 n a0 a2).base / 8192 = 512 := by show (512 : Int) * 8192 / 8192 = 512; decide
  rw [hpg] at hI6 H62
  have hsp3 : (T2.free 0 512 (spOf 512 n a0 a2).pages).sp 1 = none := by
    show (if (1 : Int) = ((0 : Nat) : Int) + 1 then none else T2.sp 1) = _
    rw [if_pos (by decide)]
  have ho3 : (T2.free 0 512 (spOf 512 n a0 a2).pages).own 512 = 0 := by
    show (if 512 ≤ (512 : Int) ∧ (512 : Int) < 512 + n then 0 else T2.own 512) = 0
    rw [if_pos (by omega)]
  have hL3 : LaidB (T2.free 0 512 (spOf 512 n a0 a2).pages) b' := hL2.sameV rfl rfl
  have hX3 : (T2.free 0 512 (spOf 512 n a0 a2).pages).fx = ⟨2, [0]⟩ := by
    show (⟨T2.fx.n, 0 :: T2.fx.bk⟩ : FX) = _
    rw [hX2]
  generalize T2.free 0 512 (spOf 512 n a0 a2).pages = T3 at *
  refine hfree_spec hE H62 hI6 (fun _ => CND_f rfl ⟨_, (H62.front 1 rfl).cell0 rfl, ?_⟩) (fun y hy => by rw [show ((0 : Nat) : Int) + 1 = 1 from rfl, hsp3] at hy; cases hy) fun y _ hy => by rw [show ((0 : Nat) : Int) + 1 = 1 from rfl, hsp3] at hy; cases hy
  refine hof_spec H62 (by decide) (by decide) fun w67 H67 => fun j => ?_
  rw [show (512 : Int) * 8192 / 8192 = 512 by decide, ho3]
  refine CND_f rfl ⟨hcl, n, (cell (H67.front 2 rfl)).2.1, ?_⟩
  rw [u64_id (n := n) (by omega) (by omega)]
  refine halloc_ok hE (fun w' h => hT' w' h.tail) H67 hI6 hL3 hbad (by omega) (by omega) fun _ page2 S4 bl4 id X hf hk hI7 q2 q3 hX hI8 w72 H72 => ?_
  have es := hf.same
  obtain ⟨rfl, rfl⟩ := hX.old (n := 2) (a := 0) (r := []) (by rw [es.fx]; exact hX3)
  refine CND_t rfl (CND_t rfl (hawake_spec hE hT' H72.tail.tail fun w74 H74 => hK w74 (H74.old 1 rfl)))
end
end Go.Sh

namespace Go.Proofs.YtaaojaeeefbjiaaDoor.heapClasses
open Go.ChangeShapes Go.WideShapes Go.ChangeAt Go.RowKit
set_option linter.unusedVariables false
set_option linter.unusedSimpArgs false

theorem own : ownKnob Tryd.prog.godebug = none := by kernel_rfl
theorem laidOut : laidOutB Tryd.prog = true := by kernel_rfl
theorem gTab : Tryd.prog.globalNamed "math/bits.deBruijn64tab" = some 0 := by kernel_rfl
theorem gTabType : (Tryd.prog.globals[0]?).map (·.type) = some 164 := by kernel_rfl
theorem und1 : Tryd.prog.underlying 164 = some (.array 64 5) := by kernel_rfl
theorem und2 : Tryd.prog.underlying 5 = some (.int .u8) := by kernel_rfl
theorem cells1 : Tryd.prog.cellsOf 164 = 64 := by kernel_rfl
theorem cells2 : Tryd.prog.cellsOf 5 = 1 := by kernel_rfl

/-- What the row's list gives: the table's cells hold its numbers. -/
theorem table {W : World} (h : laidMetH Tryd.prog Rows.heapClassesRow.laid W) : Go.Sh.TabAt Go.Sh.env.g_math_bits_deBruijn64tab W := by
  have ht := Lib.tabIs_of_head (rest := []) (k := .u8) (zs := Lib.deBruijn64tab.map fun n : Nat => (n : Int)) gTab gTabType und1 und2 cells2 cells1 h
  intro i hi
  have := ht.cell gTab i (by rw [List.length_map]; exact hi)
  rw [show (Lib.deBruijn64tab.map fun n : Nat => (n : Int)).getD i 0 = ((Lib.deBruijn64tab.getD i 0 : Nat) : Int) by rw [List.getD_eq_getElem?_getD, List.getD_eq_getElem?_getD, List.getElem?_map]; cases Lib.deBruijn64tab[i]? <;> rfl] at this
  exact this

theorem walk (x : Go.Sh.ArgTs [.int .i64, .int .i64, .bool]) (w : World) (h : Go.Sh.argOks w [.int .i64, .int .i64, .bool] x) (hT : Go.Sh.TabAt Go.Sh.env.g_math_bits_deBruijn64tab w) :
    Calls Tryd.prog 5 ⟨Go.Sh.argVals [.int .i64, .int .i64, .bool] x⟩ w fun e w' => e = .returned (.bool true) ∧ Below w.heap.size w w' := by
  obtain ⟨a0, a1, a2, u⟩ := x
  obtain ⟨w0, w1, w2, _⟩ := h
  refine (Go.Sh.fits5 _ w (fun v w' => v = .bool true ∧ Below w.heap.size w w') Go.Sh.noP ?_).2.mono ?_
  · show Go.Sh.F.mallowlaw16_HeapClasses Go.Sh.env a0 a1 a2 (fun r w' => Value.bool r = .bool true ∧ Below w.heap.size w w') w
    exact Go.Sh.classes_spec Go.Sh.envA hT fun w' h => ⟨rfl, h.below (Nat.le_refl _) fun _ f => f.elim⟩
  · intro e w' hE
    obtain ⟨v, rfl, rfl, h⟩ := hE.val
    exact ⟨rfl, h⟩

noncomputable def laidWorld (os : Os) : World :=
  { World.holding Tryd.prog os ⟨#[], #[], []⟩ with heap := (World.holding Tryd.prog os ⟨#[], #[], []⟩).heap.modify 0 fun
      | .cells _ t frozen => .cells ⟨Lib.deBruijn64tab.map fun n : Nat => .int .u8 (n : Int)⟩ t frozen
      | o => o }
theorem laid_met (os : Os) : laidMet Tryd.prog Rows.heapClassesRow.laid ((laidWorld os).forCall (fun _ _ => 0) ⟨#[], #[.int .i64 0, .int .i64 0, .bool false], []⟩).memory :=
  laidMet_of_run' 8 (by kernel_rfl) (by kernel_rfl)
theorem reads (os : Os) {H : Type} (enc : TypeId × Value → H) : ∃ places, DataW.whole enc Tryd.prog ((laidWorld os).forCall (fun _ _ => 0) ⟨#[], #[.int .i64 0, .int .i64 0, .bool false], []⟩).memory Tryd.f5.params.toList Rows.heapClassesSpec.vars false (#[.int .i64 0, .int .i64 0, .bool false] : Array Value).toList 8 = some ([.lit (.int .i64 0), .lit (.int .i64 0), .lit (.bool false)], [], places) :=
  ⟨[], by kernel_rfl⟩

set_option maxRecDepth 100000 in
theorem lifted (os : Os) (started : os.Started) (H : Type) (enc : TypeId × Value → H) (F : Stop.Interp) :
    ReturnsInHanded {} Tryd.checked os 5 .any ((OpenSpec.ofChange Rows.heapClassesSpec).preRow enc Tryd.prog Tryd.f5 Rows.heapClassesRow.domain false Rows.heapClassesRow.laid) (((OpenSpec.ofChange Rows.heapClassesSpec).at F).post enc Tryd.prog Tryd.f5 false true false false) := by
  obtain ⟨places, hx⟩ := reads os enc
  refine returnsInHanded_of_row (C := Tryd.checked) (s := OpenSpec.ofChange Rows.heapClassesSpec) own started (by kernel_rfl) Tryd.func5
    (witness_row_at (enc := enc) (C := Tryd.checked) false (laidWorld os) #[.int .i64 0, .int .i64 0, .bool false] rfl (by kernel_rfl) (by kernel_rfl) (by kernel_rfl)
      (OpenSpec.preRow_of_cond 8 hx (by kernel_rfl) (fun k hk => by cases hk) (by kernel_rfl) (laid_met os))) ?_
  intro W base args ds gs before hval0 hW _ _ _ hL _ _
  have hW' := hW
  obtain ⟨p, q, hA, hV, rfl, hfz, hnd⟩ := hW
  obtain ⟨rfl, rfl⟩ := trodVars_none hV
  have hargs := Go.Sh.args_of (P := Tryd.prog) (shs := [.int .i64, .int .i64, .bool]) (by kernel_rfl) (fun j t v ht hv => hval0 j t v (by simpa using ht) (by simpa using hv)) hA
  obtain ⟨x, hx, hok⟩ := Go.Sh.argVals_of hargs
  obtain rfl : args = ⟨Go.Sh.argVals [.int .i64, .int .i64, .bool] x⟩ := Array.toList_inj.1 (by simpa using hx)
  have hlen := Go.Sh.trodAll_len hA
  obtain ⟨d0, d1, d2, rfl⟩ : ∃ d0 d1 d2, ds = [d0, d1, d2] := by
    have hl : ds.length = 3 := hlen
    match ds, hl with
    | [d0, d1, d2], _ => exact ⟨d0, d1, d2, rfl⟩
  refine (walk x W hok (table hL)).mono fun e W' ⟨he, bel⟩ => ?_
  subst he
  exact ⟨_, rfl, _, _, _, [], _, [], hW', trodAll_mk1 (shut_bool Tryd.underlying4 _), Go.Sh.trodAll_below laidOut bel (by kernel_rfl) hA, rfl, bel.frame _, fun h => by cases h⟩

theorem said : Rows.HeapClassesSaid :=
  OpenClaim.holds_of_cond 5 Tryd.f5 rfl rfl rfl rfl rfl rfl rfl ⟨rfl, rfl, rfl, rfl, rfl⟩ rfl rfl rfl rfl rfl (by kernel_rfl) Tryd.func5 (by kernel_rfl)
    (of_decide_eq_true (by kernel_rfl)) (by unfold Func.isWrapper; first | (rw [if_pos (by decide +kernel)]; kernel_rfl) | (rw [if_neg (by decide +kernel)]; exact ⟨rfl, rfl⟩))
    (fun os started H enc _ F => by rw [OpenClaim.pre_eq_preRow]; exact lifted os started H enc F)

theorem plain (f : FuncId) (fn : Func) (hf : Tryd.pinned.checked.prog.funcNamed "mallow/mallowlaw16.HeapClasses" = some f) (hfn : Tryd.pinned.checked.prog.funcs[f]? = some fn) :
    true = Tryd.pinned.checked.prog.looks [] ∧ ∀ (j : Nat) t, fn.params[j]? = some t → Tryd.pinned.checked.prog.wantsStandIn t = false := by
  obtain rfl : f = 5 := Option.some.inj ((show Tryd.prog.funcNamed "mallow/mallowlaw16.HeapClasses" = some 5 by kernel_rfl).symm.trans hf) |>.symm
  obtain rfl : fn = Tryd.f5 := (Option.some.inj (Tryd.func5.symm.trans hfn)).symm
  refine ⟨by kernel_rfl, fun j t ht => ?_⟩
  have hall : (Tryd.f5.params.toList.all fun t => !(Tryd.prog.wantsStandIn t)) = true := by kernel_rfl
  have := List.all_eq_true.1 hall t (Array.mem_toList_iff.2 (Array.mem_of_getElem? ht))
  exact Bool.not_eq_true' _ ▸ this

/-- ████ THE CARD ████ -/
theorem proved : Rows.HeapClassesCardSaid :=
  Claim7.holds_tied_plain_at .later [] _ _ _ _ said (fun _ h => by cases h) (by kernel_rfl) (fun _ h => by cases h) heapClasses_row_tie rfl ⟨rfl, rfl⟩ (by kernel_rfl) rfl plain (by kernel_rfl)
#print axioms proved
end Go.Proofs.YtaaojaeeefbjiaaDoor.heapClasses
