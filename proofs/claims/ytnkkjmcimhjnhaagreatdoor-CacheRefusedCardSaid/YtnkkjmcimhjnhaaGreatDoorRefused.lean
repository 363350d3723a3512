/- The law CacheRefused holds (its card: math/bits' table as the program's text lays it): for every input the Go function returns true and leaves its arguments alone. No further condition. -/
import Derived.Test.YtnkkjmcimhjnhaaGreatDoorY
import Derived.Test.YtnkkjmcimhjnhaaGreatDoorQ
import Derived.Test.YtnkkjmcimhjnhaaGreatDoorA
import Derived.Test.YtnkkjmcimhjnhaaGreatDoorCards
import Derived.Test.YtnkkjmcimhjnhaaGreatDoorTie
import Derived.WalkKit
import Derived.ProofKit
import Derived.OpenShut
import Derived.Deep.DeepHandedRow
import Derived.Lib.LaidTab
set_option linter.all false
set_option maxRecDepth 8000
set_option maxHeartbeats 8000000
namespace Go.Sh
theorem refused_found {r : List Bool} {p n page : Int} {S2 : HS} (hn : 1 <= n) (h : Found (HS.new (newV [] (true :: r) [])) p n page S2) : False := by
  have hfr : ∀ q, (HS.new (newV [] (true :: r) [])).T.fr q = false := fun _ => rfl
  obtain ⟨S1, ht, _⟩ := h
  rcases ht with ht | ⟨S0, S0', htr, _, ⟨hr, _⟩, _⟩
  · have := (got_nofree hfr (fun _ _ _ => rfl) hn ht).2.2.2.1 page (Int.le_refl _) (by omega)
    rw [hfr] at this; cases this
  · obtain rfl := tried_nofree hfr hn htr
    exact hr r rfl
theorem refused_lost {r : List Bool} {p n : Int} {S2 : HS} (hn : 1 <= n) (h : Lost (HS.new (newV [] (true :: r) [])) p n S2) : S2 = HS.new (newV [] r []) := by
  have hfr : ∀ q, (HS.new (newV [] (true :: r) [])).T.fr q = false := fun _ => rfl
  rcases h with ⟨S0, htr, _, ⟨r2, hr, rfl⟩ | ⟨hr, _⟩⟩ | ⟨S1, page, r2, ht, _, _, _⟩
  · obtain rfl := tried_nofree hfr hn htr
    have hr : true :: r = true :: r2 := hr
    injection hr with _ hr
    subst hr
    rfl
  · obtain rfl := tried_nofree hfr hn htr
    exact absurd rfl (hr r)
  · rcases ht with ht | ⟨S0, S0', htr, _, ⟨hr, _⟩, _⟩
    · have := (got_nofree hfr (fun _ _ _ => rfl) hn ht).2.2.2.1 page (Int.le_refl _) (by omega)
      rw [hfr] at this; cases this
    · obtain rfl := tried_nofree hfr hn htr
      exact absurd rfl (hr r)
structure Bare (W : SW) (rf : List Bool) : Prop where
  S : W.S = HS.new (newV [] rf [])
  L : W.L = []
  sane : Sane W
section
variable {E : Env} {w : World} {Z : List Pr} {c cb b h s r : Nat} {C : KS} {W : SW} {U M : Bits}
variable (hE : EnvK E)
include hE
theorem karefused_spec (hT : ∀ w', Sat Z w' -> TabAt E.g_math_bits_deBruijn64tab w') {k : Int} {np : Bool} (hk : 0 < k ∧ k < 68) (hC : OneC C k np 0) {rf : List Bool} (hB : Bare W (true :: rf)) (hI : SwInv W U M)
    (H : Sat (KashP E c cb C :: CentP E cb b h s r W :: Z) w) {K : Int -> Int -> World -> Prop}
    (hK : ∀ W', Bare W' rf -> SwInv W' U M -> ∀ w', Sat (KashP E c cb C :: CentP E cb b h s r W' :: Z) w' -> K 0 13 w') :
    F.cache_Cache_Alloc E (some ⟨c, 0, none⟩) k np K w := by
  have hp := cls_at_pos (c := k) (by omega) hk.2
  have hno0 : ∀ {W0}, Letd W C k np W0 -> W0 = W := fun hl => by
    rcases hl with ⟨_, e⟩ | ⟨g, _⟩
    · exact e
    · rw [hC.hd] at g; exact absurd g (Int.lt_irrefl 0)
  refine kaalloc_spec hE hT H hI hB.sane hC.owns0 (by rw [hB.L]; decide) (fun g => absurd hk g) (fun _ _ x m uw' hx => ?_) (fun _ _ _ W0 hl _ S2 hlost hI2 w' H' => ?_) (fun _ _ _ W0 hl x l hx => ?_) fun _ _ _ W0 hl _ page S2 bl id X uw' hf => ?_
  · rw [hB.S] at hx; cases hx
  · obtain rfl := hno0 hl
    rw [hB.S] at hlost
    obtain rfl := refused_lost (by omega) hlost
    rw [hold0_same hk hC.hd] at H'
    refine hK { W0.chg k with S := HS.new (newV [] rf []) } ⟨rfl, hB.L, ⟨fun x hx => ?_, fun x hx => ?_, hB.sane.rate, hB.sane.rp, chg_ch hB.sane.ch hk.1 hk.2⟩⟩ hI2 w' H'
    all_goals
      have hx : x ∈ W0.L := hx
      rw [hB.L] at hx; cases hx
  · rw [hno0 hl, hB.L] at hx; cases hx
  · rw [hB.S] at hf
    exact (refused_found (by omega) hf).elim
theorem kafirstG_spec (hT : ∀ w', Sat Z w' -> TabAt E.g_math_bits_deBruijn64tab w') {k : Int} {np : Bool} (hk : 0 < k ∧ k < 68) (hC : OneC C k np 0) (hB : Bare W []) (hI : SwInv W U M)
    (H : Sat (KashP E c cb C :: CentP E cb b h s r W :: Z) w) {K : Int -> Int -> World -> Prop}
    (hK : ∀ W' w', Sat (KashP E c cb (C.hold k np 1) :: CentP E cb b h s r W' :: Z) w' -> K 4194304 0 w') :
    F.cache_Cache_Alloc E (some ⟨c, 0, none⟩) k np K w := by
  have hp := cls_at_pos (c := k) (by omega) hk.2
  have hp16 := cls_p16 (c := k) (by omega) hk.2
  have hu := upN_small (n := (clsAt k).2.1) (by omega) (by omega)
  have hno0 : ∀ {W0}, Letd W C k np W0 -> W0 = W := fun hl => by
    rcases hl with ⟨_, e⟩ | ⟨g, _⟩
    · exact e
    · rw [hC.hd] at g; exact absurd g (Int.lt_irrefl 0)
  refine kaalloc_spec hE hT H hI hB.sane hC.owns0 (by rw [hB.L]; decide) (fun g => absurd hk g) (fun _ _ x m uw' hx => ?_) (fun _ _ _ W0 hl _ S2 hlost => ?_) (fun _ _ _ W0 hl x l hx => ?_) fun _ _ _ W0 hl _ page S2 bl id X uw' hf hok hI2 hX hnone q0 q1 hI3 w' H' => ?_
  · rw [hB.S] at hx; cases hx
  · rw [hB.S] at hlost
    exact ((LaidB.new []).lost (by omega) (by omega) hlost).elim
  · rw [hno0 hl, hB.L] at hx; cases hx
  · rw [hB.S] at hf hok
    obtain ⟨rfl, e2, e3, e4⟩ := first_found2 hok (by omega) (by omega) hf
    have es := hf.same
    obtain ⟨rfl, rfl⟩ := hX.top (n := 0) (by rw [es.fx]; rfl)
    exact hK _ w' H'
end
section
variable {E : Env} {w : World} {Rs Z : List Pr} {cb b h s r : Nat} (hE : EnvK E) (hH : EnvH E)
include hE hH
theorem refused20_spec (hT : TabAt E.g_math_bits_deBruijn64tab w) {a0 a1 : Int} {K : Bool -> World -> Prop} (hK : ∀ w', Ext Nothing w w' -> K true w') : F.mallowlaw20_CacheRefused E a0 a1 K w := by
  unfold F.mallowlaw20_CacheRefused T0.mallowlaw20_CacheRefused
  refine table_spec (Sat.start w) fun r1 w2 H2 => ?_
  have hl := H2.recLen (by decide) cls4_len
  rw [cls_len] at hl
  have hTT : ∀ {Y : List Pr} {w'} (i : Nat), Sat Y w' -> Y[i]? = some (Old w) -> TabAt E.g_math_bits_deBruijn64tab w' := fun i h hi => hT.ext (h.old i hi)
  have haw : ∀ {Y : List Pr} {w'} (i : Nat), Sat Y w' -> Y[i]? = some (Old w) -> F.mallowlaw20_awake E (fun r6 w7 => K r6 w7) w' := fun i h' hi => awake20_spec hE (fun w' h => hTT i h hi) h' fun w7 H7 => hK w7 (H7.old i hi)
  refine JOIN_intro (fun st w' => w' = w2 ∧ (st.1 = false -> 1 <= a0 ∧ a0 < 68 ∧ 1 <= a1 ∧ a1 <= 5)) (CND_dec (fun _ => ⟨rfl, fun h => by cases h⟩) fun g1 => CND_dec (fun _ => ⟨rfl, fun h => by cases h⟩) fun g2 => CND_dec (fun _ => ⟨rfl, fun h => by cases h⟩) fun g3 => ⟨rfl, fun h => by have := of_decide_eq_false h; omega⟩) ?_
  rintro ⟨st, u⟩ _ w5 ⟨rfl, hc⟩
  dsimp only at hc ⊢
  refine CND_intro (fun _ => CND_eq (fun _ => haw 1 H2 rfl) fun e => absurd (by omega) e) fun hst => ?_
  obtain ⟨k0, k1, k2, k3⟩ := hc hst
  have hk : 0 < a0 ∧ a0 < 68 := ⟨by omega, k1⟩
  obtain ⟨n1, hn1⟩ : ∃ n1 : Nat, a1 = (n1 : Int) := ⟨a1.toNat, by omega⟩
  have hrep : ∀ n : Nat, (List.replicate n true).length = n := fun n => List.length_replicate
  refine LOOP_intro (fun st w' => ∃ i : Nat, st.2.1 = (i : Int) ∧ i <= n1 ∧ Sat [Row E.t_bool 1 st.1 (bools (List.replicate i true)), Old w] w') (fun st _ => (a1 - st.2.1).toNat) ⟨0, rfl, Nat.zero_le _, H2.tail.nil E.t_bool 1⟩ ?_
  rintro ⟨s8, i', u⟩ _ w9 ⟨i, hi, hil, H9⟩
  dsimp only at hi H9 ⊢
  subst hi
  have hsl := H9.rowLen
  rw [bools, List.length_map, hrep] at hsl
  refine CND_dec (fun hlt => ?_) fun hge => ?_
  · refine AL_cells (vs := [.bool true]) H9 fun b11 w12 H12 _ => APP_one (news := [.bool true]) H12 rfl rfl (by simp [Value.oneCell']) (by omega) (by omega) fun s13 w14 H14 hl14 => ?_
    rw [show bools (List.replicate i true) ++ [.bool true] = bools (List.replicate (i + 1) true) by rw [List.replicate_succ']; simp [bools]] at H14
    rw [show i64 ((i : Int) + 1) = ((i + 1 : Nat) : Int) by rw [i64_id (by omega) (by omega)]; rfl]
    exact ⟨⟨i + 1, rfl, by omega, H14⟩, by omega⟩
  obtain rfl : i = n1 := by omega
  refine fresh20_spec (E := E) H9 (a0 := ⟨none, 0, 0⟩) (a1 := s8) (a2 := ⟨none, 0, 0⟩) (pl := []) (rf := List.replicate i true) (fl := []) (by simp) (fun _ _ => show ([] : List Value) = [] from rfl) rfl (by decide) (fun w' h' => by have := h'.rowAll; rwa [Nat.mul_one] at this) (by rw [hrep]; omega) (by omega) (fun _ _ => show ([] : List Value) = [] from rfl) rfl (by decide) fun cb b h s r w16 H16 => CND_f rfl ?_
  refine kanew_spec (p := 3) H16 fun c w18 H18 => CND_f rfl ?_
  have hC : OneC ⟨3, fun _ => 0, 0, 0⟩ a0 true 0 := OneC.new _ _ _ _ _
  have hTz : ∀ w', Sat [Row E.t_bool 1 s8 (bools (List.replicate i true)), Old w] w' -> TabAt E.g_math_bits_deBruijn64tab w' := fun w' h' => hTT 1 h' rfl
  refine LOOP_intro (fun st w' => ∃ (j : Nat) (W : SW) (U M : Bits), st.1 = (j : Int) ∧ j <= i ∧ Bare W (List.replicate (i - j) true) ∧ SwInv W U M ∧ Sat (KashP E c cb ⟨3, fun _ => 0, 0, 0⟩ :: CentP E cb b h s r W :: [Row E.t_bool 1 s8 (bools (List.replicate i true)), Old w]) w') (fun st _ => (a1 - st.1).toNat)
    ⟨0, _, _, _, rfl, Nat.zero_le _, ⟨rfl, rfl, fun x hx => (by cases hx), fun x hx => (by cases hx), rfl, Int.le_refl _, ⟨Int.le_refl _, by show (0 : Int) < _; decide⟩⟩, SwInv.new [] _ [], H18⟩ ?_
  rintro ⟨j', u⟩ _ w20 ⟨j, W, U, M, hj, hjl, hB, hI, H20⟩
  dsimp only at hj ⊢
  subst hj
  refine CND_dec (fun hlt => ?_) fun hge2 => ?_
  · rw [show i - j = (i - (j + 1)) + 1 by omega, List.replicate_succ] at hB
    refine karefused_spec hE hTz hk hC hB hI H20 fun W' hB' hI' w24 H24 => ?_
    refine JOIN_in (CND_f rfl (CND_f rfl (kaheld_spec H24 fun w29 H29 => ?_)))
    rw [hC.hd]
    have Hc := (H29.front 1 rfl : Sat (CentP E cb b h s r W' :: _) w29)
    refine CND_f rfl (cesweeper_spec Hc (swheap_spec Hc.centSw ?_))
    obtain ⟨R, HH, hz, hb⟩ := Hc.centSw.swHeap
    have hnil : ∀ l : List Int, (∀ n ∈ l, W'.S.sp n ≠ none) -> l = [] := fun l hl => by
      cases l with
      | nil => rfl
      | cons x t => exact absurd (by rw [hB'.S]; rfl) (hl x (by simp))
    refine hspans_spec hH HH (fun l hnd hin => by rw [hnil l hin]; decide) fun s34 l w35 hnd hall H35 => ?_
    have hlen := H35.rowLen
    rw [hnil l fun n hn => (hall n).1 hn] at hlen
    have hl0 : s34.len = 0 := by simp [ints] at hlen; omega
    intro _
    refine CND_f (by rw [hl0]; rfl) ?_
    rw [show i64 ((j : Int) + 1) = ((j + 1 : Nat) : Int) by rw [i64_id (by omega) (by omega)]; rfl]
    exact ⟨⟨j + 1, W', U, M, rfl, by omega, hB', hI', (hb H35.tail).swCent.front 1 rfl⟩, by omega⟩
  · obtain rfl : j = i := by omega
    rw [Nat.sub_self] at hB
    refine kafirstG_spec hE hTz hk hC hB hI H20 fun W' w38 H38 => CND_t rfl (CND_t rfl (kaheld_spec H38 fun w40 H40 => ?_))
    rw [(hC.hold hk).hd]
    exact CND_t rfl (haw 3 H40 rfl)
end
end Go.Sh

namespace Go.Proofs.YtnkkjmcimhjnhaaGreatDoor.cacheRefused
open Go.ChangeShapes Go.WideShapes Go.ChangeAt Go.RowKit
set_option linter.unusedVariables false
set_option linter.unusedSimpArgs false
theorem own : ownKnob Tryz.prog.godebug = none := by kernel_rfl
theorem laidOut : laidOutB Tryz.prog = true := by kernel_rfl
theorem gTab : Tryz.prog.globalNamed "math/bits.deBruijn64tab" = some 0 := by kernel_rfl
theorem gTabType : (Tryz.prog.globals[0]?).map (·.type) = some 192 := by kernel_rfl
theorem und1 : Tryz.prog.underlying 192 = some (.array 64 5) := by kernel_rfl
theorem und2 : Tryz.prog.underlying 5 = some (.int .u8) := by kernel_rfl
theorem cells1 : Tryz.prog.cellsOf 192 = 64 := by kernel_rfl
theorem cells2 : Tryz.prog.cellsOf 5 = 1 := by kernel_rfl
theorem table {W : World} (h : laidMetH Tryz.prog Rows.cacheRefusedRow.laid W) : Go.Sh.TabAt Go.Sh.env.g_math_bits_deBruijn64tab W := by
  have ht := Lib.tabIs_of_head (rest := []) (k := .u8) (zs := Lib.deBruijn64tab.map fun n : Nat => (n : Int)) gTab gTabType und1 und2 cells2 cells1 h
  intro i hi
  have := ht.cell gTab i (by rw [List.length_map]; exact hi)
  rw [show (Lib.deBruijn64tab.map fun n : Nat => (n : Int)).getD i 0 = ((Lib.deBruijn64tab.getD i 0 : Nat) : Int) by rw [List.getD_eq_getElem?_getD, List.getD_eq_getElem?_getD, List.getElem?_map]; cases Lib.deBruijn64tab[i]? <;> rfl] at this
  exact this
theorem walk (x : Go.Sh.ArgTs [.int .i64, .int .i64]) (w : World) (h : Go.Sh.argOks w [.int .i64, .int .i64] x) (hT : Go.Sh.TabAt Go.Sh.env.g_math_bits_deBruijn64tab w) :
    Calls Tryz.prog 7 ⟨Go.Sh.argVals [.int .i64, .int .i64] x⟩ w fun e w' => e = .returned (.bool true) ∧ Below w.heap.size w w' := by
  obtain ⟨a0, a1, u⟩ := x
  obtain ⟨w0, w1, _⟩ := h
  refine (Go.Sh.fits7 _ w (fun v w' => v = .bool true ∧ Below w.heap.size w w') Go.Sh.noP ?_).2.mono ?_
  · show Go.Sh.F.mallowlaw20_CacheRefused Go.Sh.env a0 a1 (fun r w' => Value.bool r = .bool true ∧ Below w.heap.size w w') w
    exact Go.Sh.refused20_spec Go.Sh.envK Go.Sh.envH hT fun w' h => ⟨rfl, h.below (Nat.le_refl _) fun _ f => f.elim⟩
  · intro e w' hE
    obtain ⟨v, rfl, rfl, h⟩ := hE.val
    exact ⟨rfl, h⟩
noncomputable def laidWorld (os : Os) : World :=
  { World.holding Tryz.prog os ⟨#[], #[], []⟩ with heap := (World.holding Tryz.prog os ⟨#[], #[], []⟩).heap.modify 0 fun
      | .cells _ t frozen => .cells ⟨Lib.deBruijn64tab.map fun n : Nat => .int .u8 (n : Int)⟩ t frozen
      | o => o }
theorem laid_met (os : Os) : laidMet Tryz.prog Rows.cacheRefusedRow.laid ((laidWorld os).forCall (fun _ _ => 0) ⟨#[], #[.int .i64 0, .int .i64 0], []⟩).memory :=
  laidMet_of_run' 8 (by kernel_rfl) (by kernel_rfl)
theorem reads (os : Os) {H : Type} (enc : TypeId × Value -> H) : ∃ places, DataW.whole enc Tryz.prog ((laidWorld os).forCall (fun _ _ => 0) ⟨#[], #[.int .i64 0, .int .i64 0], []⟩).memory Tryz.f7.params.toList Rows.cacheRefusedSpec.vars false (#[.int .i64 0, .int .i64 0] : Array Value).toList 8 = some ([.lit (.int .i64 0), .lit (.int .i64 0)], [], places) :=
  ⟨[], by kernel_rfl⟩
set_option maxRecDepth 100000 in
theorem lifted (os : Os) (started : os.Started) (H : Type) (enc : TypeId × Value -> H) (F : Stop.Interp) :
    ReturnsInHanded {} Tryz.checked os 7 .any ((OpenSpec.ofChange Rows.cacheRefusedSpec).preRow enc Tryz.prog Tryz.f7 Rows.cacheRefusedRow.domain false Rows.cacheRefusedRow.laid) (((OpenSpec.ofChange Rows.cacheRefusedSpec).at F).post enc Tryz.prog Tryz.f7 false true false false) := by
  obtain ⟨places, hx⟩ := reads os enc
  refine returnsInHanded_of_row (C := Tryz.checked) (s := OpenSpec.ofChange Rows.cacheRefusedSpec) own started (by kernel_rfl) Tryz.func7
    (witness_row_at (enc := enc) (C := Tryz.checked) false (laidWorld os) #[.int .i64 0, .int .i64 0] rfl (by kernel_rfl) (by kernel_rfl) (by kernel_rfl)
      (OpenSpec.preRow_of_cond 8 hx (by kernel_rfl) (fun k hk => by cases hk) (by kernel_rfl) (laid_met os))) ?_
  intro W base args ds gs before hval0 hW _ _ _ hL _ _
  have hW' := hW
  obtain ⟨p, q, hA, hV, rfl, hfz, hnd⟩ := hW
  obtain ⟨rfl, rfl⟩ := trodVars_none hV
  have hargs := Go.Sh.args_of (P := Tryz.prog) (shs := [.int .i64, .int .i64]) (by kernel_rfl) (fun j t v ht hv => hval0 j t v (by simpa using ht) (by simpa using hv)) hA
  obtain ⟨x, hx, hok⟩ := Go.Sh.argVals_of hargs
  obtain rfl : args = ⟨Go.Sh.argVals [.int .i64, .int .i64] x⟩ := Array.toList_inj.1 (by simpa using hx)
  have hlen := Go.Sh.trodAll_len hA
  obtain ⟨d0, d1, rfl⟩ : ∃ d0 d1, ds = [d0, d1] := by
    have hl : ds.length = 2 := hlen
    match ds, hl with
    | [d0, d1], _ => exact ⟨d0, d1, rfl⟩
  refine (walk x W hok (table hL)).mono fun e W' ⟨he, bel⟩ => ?_
  subst he
  exact ⟨_, rfl, _, _, _, [], _, [], hW', trodAll_mk1 (shut_bool Tryz.underlying4 _), Go.Sh.trodAll_below laidOut bel (by kernel_rfl) hA, rfl, bel.frame _, fun h => by cases h⟩
theorem said : Rows.CacheRefusedSaid :=
  OpenClaim.holds_of_cond 7 Tryz.f7 rfl rfl rfl rfl rfl rfl rfl ⟨rfl, rfl, rfl, rfl, rfl⟩ rfl rfl rfl rfl rfl (by kernel_rfl) Tryz.func7 (by kernel_rfl)
    (of_decide_eq_true (by kernel_rfl)) (by unfold Func.isWrapper; first | (rw [if_pos (by decide +kernel)]; kernel_rfl) | (rw [if_neg (by decide +kernel)]; exact ⟨rfl, rfl⟩))
    (fun os started H enc _ F => by rw [OpenClaim.pre_eq_preRow]; exact lifted os started H enc F)
theorem plain (f : FuncId) (fn : Func) (hf : Tryz.pinned.checked.prog.funcNamed "mallow/mallowlaw20.CacheRefused" = some f) (hfn : Tryz.pinned.checked.prog.funcs[f]? = some fn) :
    true = Tryz.pinned.checked.prog.looks [] ∧ ∀ (j : Nat) t, fn.params[j]? = some t -> Tryz.pinned.checked.prog.wantsStandIn t = false := by
  obtain rfl : f = 7 := Option.some.inj ((show Tryz.prog.funcNamed "mallow/mallowlaw20.CacheRefused" = some 7 by kernel_rfl).symm.trans hf) |>.symm
  obtain rfl : fn = Tryz.f7 := (Option.some.inj (Tryz.func7.symm.trans hfn)).symm
  refine ⟨by kernel_rfl, fun j t ht => ?_⟩
  have hall : (Tryz.f7.params.toList.all fun t => !(Tryz.prog.wantsStandIn t)) = true := by kernel_rfl
  have := List.all_eq_true.1 hall t (Array.mem_toList_iff.2 (Array.mem_of_getElem? ht))
  exact Bool.not_eq_true' _ ▸ this
theorem proved : Rows.CacheRefusedCardSaid :=
  Claim7.holds_tied_plain_at .later [] _ _ _ _ said (fun _ h => by cases h) (by kernel_rfl) (fun _ h => by cases h) cacheRefused_row_tie rfl ⟨rfl, rfl⟩ (by kernel_rfl) rfl plain (by kernel_rfl)
#print axioms proved
end Go.Proofs.YtnkkjmcimhjnhaaGreatDoor.cacheRefused
