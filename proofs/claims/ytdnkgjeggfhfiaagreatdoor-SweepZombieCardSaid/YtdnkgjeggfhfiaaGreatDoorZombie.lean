/- The law SweepZombie holds (its card: math/bits' table as the program's text lays it): for every input the Go function returns true and leaves its arguments alone. No further condition. -/
import Derived.Test.YtdnkgjeggfhfiaaGreatDoorW2
import Derived.Test.YtdnkgjeggfhfiaaGreatDoorQ
import Derived.Test.YtdnkgjeggfhfiaaGreatDoorA
import Derived.Test.YtdnkgjeggfhfiaaGreatDoorCards
import Derived.Test.YtdnkgjeggfhfiaaGreatDoorTie
import Derived.WalkKit
import Derived.ProofKit
import Derived.OpenShut
import Derived.Deep.DeepHandedRow
import Derived.Lib.LaidTab
set_option linter.all false
set_option maxRecDepth 8000
set_option maxHeartbeats 4000000
namespace Go.Sh

theorem mkOf_first {S T : HS} {bl : Nat} {n c : Int} {np : Bool} {I : SI} (hF : First T bl n c np) (hsp : S.sp 1 = some (bl, I)) (hown : S.own = T.own) (hb : I.base = 512 * 8192) (hok : SpOk I) (hp : I.pages = n) {k : Nat} {o : Int} (hk : (k : Int) < I.slots) (h0 : 0 ≤ o) (h1 : o < I.elem) :
    mkOf S (512 * 8192 + k * I.elem + o) = some (1, k) := by
  have hsz := hok.size
  have e1 : ((k : Int) + 1) * I.elem ≤ I.slots * I.elem := Int.mul_le_mul_of_nonneg_right (by omega) (by omega)
  have e2 : ((k : Int) + 1) * I.elem = k * I.elem + I.elem := by rw [Int.add_mul, Int.one_mul]
  have e3 : 0 ≤ (k : Int) * I.elem := Int.mul_nonneg (by omega) (by omega)
  have e4 := hsz.2.2.2.2
  rw [Int.mul_comm I.elem, hp] at e4
  unfold mkOf
  have ho : S.own ((512 * 8192 + k * I.elem + o) / 8192) = 1 := by rw [hown, hF.own, if_pos (by omega)]
  rw [ho, hsp]
  simp only
  rw [hb, if_pos (by omega)]
  congr 2
  rw [show 512 * 8192 + (k : Int) * I.elem + o - 512 * 8192 = o + k * I.elem by omega, Int.add_mul_ediv_right _ _ (by omega), Int.ediv_eq_zero_of_lt h0 h1]
  omega

section
variable {E : Env} {w : World} {Rs Z : List Pr} (hE : EnvW E)
include hE

theorem zombie_spec (hT : TabAt E.g_math_bits_deBruijn64tab w) {a0 a1 a2 : Int} {a3 : Bool} {K : Bool → World → Prop} (hK : ∀ w', Ext Nothing w w' → K true w') : F.mallowlaw18_SweepZombie E a0 a1 a2 a3 K w := by
  unfold F.mallowlaw18_SweepZombie T0.mallowlaw18_SweepZombie
  refine table_spec (Sat.start w) fun r1 w2 H2 => ?_
  have hl := H2.recLen (by decide) cls4_len
  rw [cls_len] at hl
  have hT' : ∀ w', Sat [Row E.t_api_Class 4 r1 (recs cls4 clsT), Old w] w' → TabAt E.g_math_bits_deBruijn64tab w' := fun w' h => hT.ext (h.old 1 rfl)
  have haw : ∀ {w'}, Sat [Row E.t_api_Class 4 r1 (recs cls4 clsT), Old w] w' → F.mallowlaw18_awake E (fun r6 w7 => K r6 w7) w' := fun h' => awake18_spec hE hT' h' fun w7 H7 => hK w7 (H7.old 1 rfl)
  have hdone : CND ((((r1.len : Nat) : Int) : Int) == 68) (F.mallowlaw18_awake E (fun r6 w7 => K r6 w7) w2) (K false w2) := CND_eq (fun _ => haw H2) fun e => absurd (by omega) e
  have ct : 0 ≤ a0 → a0 < 68 → ∃ x, r1.base = some ⟨x, 0, none⟩ ∧ ∀ {w'} {Y : List Pr}, Sat (Row E.t_api_Class 4 r1 (recs cls4 clsT) :: Y) w' → w'.cell? ((Addr.mk x 0 none).add (Int.toNat a0 * 4)) = some (.int .i64 (clsAt a0).1) ∧ w'.cell? (((Addr.mk x 0 none).add (Int.toNat a0 * 4)).add 1) = some (.int .i64 (clsAt a0).2.1) ∧
      w'.cell? (((Addr.mk x 0 none).add (Int.toNat a0 * 4)).add 2) = some (.int .i64 (clsAt a0).2.2.1) := fun c0 c1 => by
    obtain ⟨x, hx⟩ := H2.recBase (by decide) cls4_len (i := a0.toNat) (by rw [cls_len]; omega)
    refine ⟨x, hx, fun h => ⟨?_, ?_, ?_⟩⟩
    · have := h.recCell cls4_len hx (cls_at c0 c1) (j := 0) rfl; rwa [Nat.add_zero] at this
    · rw [add_add]; exact h.recCell cls4_len hx (cls_at c0 c1) (j := 1) rfl
    · rw [add_add]; exact h.recCell cls4_len hx (cls_at c0 c1) (j := 2) rfl
  refine JOIN_intro (fun st w' => w' = w2 ∧ (st.1 = false → 2 ≤ a0 ∧ a0 < 68 ∧ 0 ≤ a1 ∧ a1 ≤ 40 ∧ a1 < (clsAt a0).2.2.1 ∧ a1 ≤ a2 ∧ a2 < (clsAt a0).2.2.1)) ?_ ?_
  · refine CND_dec (fun _ => ⟨rfl, fun h => by cases h⟩) fun g1 => CND_dec (fun _ => ⟨rfl, fun h => by cases h⟩) fun g2 => CND_dec (fun _ => ⟨rfl, fun h => by cases h⟩) fun g3 => CND_dec (fun _ => ⟨rfl, fun h => by cases h⟩) fun g4 => ?_
    obtain ⟨x, hx, hcell⟩ := ct (by omega) (by omega)
    rw [hx]
    refine NC_in ⟨⟨by omega, by omega⟩, _, (hcell H2).2.2, CND_dec (fun _ => ⟨rfl, fun h => by cases h⟩) fun g5 => CND_dec (fun _ => ⟨rfl, fun h => by cases h⟩) fun g6 => NC_in ⟨⟨by omega, by omega⟩, _, (hcell H2).2.2, rfl, fun h => ?_⟩⟩
    have := of_decide_eq_false h
    omega
  · rintro ⟨st, u⟩ _ w5 ⟨rfl, hc⟩
    dsimp only at hc ⊢
    refine CND_intro (fun _ => hdone) fun hst => ?_
    obtain ⟨c0, c1, n0, n1, n2, m0, m1⟩ := hc hst
    obtain ⟨x, hx, hcell⟩ := ct (by omega) c1
    have hcl : (0 : Int) ≤ a0 ∧ (a0 : Int) < (r1.len : Nat) := by omega
    have hcb := cls_bnd (c := a0) (by omega) c1
    have hcp := cls_at_pos (c := a0) (by omega) c1
    generalize hnp : (clsAt a0).2.1 = n at *
    have hbad : ¬ spBad 0 n a0 := by unfold spBad; rw [hnp]; omega
    refine fresh18_spec (hS := hE.toEnvS) H2 fun b h s r w14 H14 => CND_f rfl ?_
    rw [hx]
    refine NC_in ⟨hcl, _, (hcell (H14.drew.front 1 rfl)).2.1, swheap_spec H14.drew ⟨(hcell (H14.drew.front 1 rfl)).2.1, ?_⟩⟩
    rw [u64_id (n := n) (by omega) (by omega)]
    refine swfirst_spec hE hT' H14.drew (by omega) (by omega) hbad fun bl T hF hI w21 H21 => ⟨(hcell (H21.front 1 rfl)).2.1, swheap_spec H21 ?_⟩
    refine swspan_spec H21 (fun hn => by rw [show (SW.new T).S.sp 1 = some _ from hF.sp] at hn; cases hn) fun y hy => ?_
    rw [show (SW.new T).S.sp 1 = some _ from hF.sp] at hy
    cases hy
    refine JOIN_in (CND_f rfl fun j => CND_f rfl ?_)
    obtain ⟨I, hIe⟩ : ∃ I, I = spOf 512 n a0 false := ⟨_, rfl⟩
    obtain ⟨hok, hg⟩ := hI.sp 1 _ hF.sp
    have hok : SpOk I := by rw [hIe]; exact hok
    have hsl : I.slots = (clsAt a0).2.2.1 := by rw [hIe]; show (if a0 = 0 then (1 : Int) else _) = _; rw [if_neg (by omega)]
    have hel : I.elem = (clsAt a0).1 := by rw [hIe]; show (if a0 = 0 then n * 8192 else _) = _; rw [if_neg (by omega)]
    have hI0 : T.put 1 (bl, tookI I [] 0) = T := by rw [hIe, tookI_zero]; exact HS.put_self hF.sp
    have hB0 : bits0.set 1 (ltU 0) = bits0 := by rw [ltU_zero, bits0_set]
    obtain ⟨N, rfl⟩ := Int.eq_ofNat_of_zero_le n0
    obtain ⟨A, rfl⟩ := Int.eq_ofNat_of_zero_le (show 0 ≤ a2 by omega)
    refine LOOP_intro (fun st w' => ∃ (i : Nat) (uw : List Int), st.1 = (i : Int) ∧ i ≤ N ∧ SwInv (SW.new (T.put 1 (bl, tookI I uw i))) (bits0.set 1 (ltU i)) bits0 ∧ Sat [SweepP E b h s r (SW.new (T.put 1 (bl, tookI I uw i))), Row E.t_api_Class 4 r1 (recs cls4 clsT), Old w] w') (fun st _ => ((N : Int) - st.1).toNat)
      ⟨0, [], rfl, Nat.zero_le _, by rw [hI0, hB0]; exact hI, by rw [hI0]; exact H21⟩ ?_
    rintro ⟨i', u⟩ _ w31 ⟨i, uw, hi, hil, hIi, H31⟩
    dsimp only at hi ⊢
    subst hi
    refine CND_dec (fun hlt => ?_) fun hge => ?_
    · refine swtake1_spec hT' H31 hIi (by omega) fun uw' hI2 w35 H35 => ?_
      rw [show i64 ((i : Int) + 1) = ((i + 1 : Nat) : Int) by rw [i64_id (by omega) (by omega)]; rfl]
      exact ⟨⟨i + 1, uw', rfl, by omega, hI2, H35⟩, by omega⟩
    · obtain rfl : i = N := by omega
      obtain ⟨J, hJ⟩ : ∃ J, J = tookI I uw i := ⟨_, rfl⟩
      obtain ⟨S1, hS1⟩ : ∃ S1, S1 = T.put 1 (bl, J) := ⟨_, rfl⟩
      rw [← hJ, ← hS1] at hIi H31
      have hsp1 : S1.sp 1 = some (bl, J) := by rw [hS1]; exact HS.put_sp
      have hJf : J.base = 512 * 8192 ∧ J.slots = I.slots ∧ J.elem = I.elem ∧ J.used = (i : Int) ∧ J.pages = n := by rw [hJ, hIe]; exact ⟨rfl, rfl, rfl, rfl, rfl⟩
      obtain ⟨j1, j2, j3, j4, j5⟩ := hJf
      have hokJ : SpOk J := (hIi.sp 1 _ hsp1).1
      refine swinfo_spec H31 hsp1 fun w46 H46 => JOIN_in ?_
      rw [j1]
      obtain ⟨R4, HH4, hz4, hb4⟩ := H46.swSpec
      refine spcadd_spec HH4 (by decide) (show ([] : List Rc).length < 1099511627776 by decide) (fun g => absurd (by decide) g) (fun _ x hx => by cases hx) fun _ _ A1 B1 blk w51 hAB H51 => CND_f rfl ?_
      have hAB : [] = A1 ++ B1 := hAB
      obtain ⟨rfl, rfl⟩ : A1 = [] ∧ B1 = [] := by simpa using hAB.symm
      have H52 : Sat [SweepP E b h s r ⟨S1, [], [⟨blk, 512 * 8192, 2, 3⟩], [], 0, 0, 0, 0⟩, Row E.t_api_Class 4 r1 (recs cls4 clsT), Old w] w51 := hb4 H51
      have hI4 : SwInv ⟨S1, [], [⟨blk, 512 * 8192, 2, 3⟩], [], 0, 0, 0, 0⟩ (bits0.set 1 (ltU i)) bits0 := hIi.rc _ _ _ _ _ _
      refine swput_spec hE H52 hI4 (show ([] : List Itm).length < 1099511627776 by decide) (fun hn => by rw [show (SW.S _).sp 1 = _ from hsp1] at hn; cases hn) (fun _ ⟨y, hy, _⟩ => by cases hy) fun y hy hno blk2 hI5 w53 H53 => CND_f rfl ?_
      rw [show (SW.S _).sp 1 = _ from hsp1] at hy
      cases hy
      refine NC_in ⟨hcl, _, (hcell (H53.front 1 rfl)).1, ?_⟩
      have hsz := hokJ.size
      have ee : (A : Int) * (clsAt a0).1 = A * J.elem := by rw [j3, hel]
      have e1 : ((A : Int) + 1) * J.elem ≤ J.slots * J.elem := Int.mul_le_mul_of_nonneg_right (by omega) (by omega)
      have e2 : ((A : Int) + 1) * J.elem = A * J.elem + J.elem := by rw [Int.add_mul, Int.one_mul]
      have e3 : 0 ≤ (A : Int) * J.elem := Int.mul_nonneg (by omega) (by omega)
      have e4 := hsz.2.2.2.2
      rw [Int.mul_comm J.elem, j5] at e4
      rw [ee, i64_id (n := (A : Int) * J.elem) (by omega) (by omega), u64_id (n := (A : Int) * J.elem) (by omega) (by omega), u64_id (by omega) (by omega)]
      refine AL_cells (vs := [.int .u64 (512 * 8192 + A * J.elem)]) H53 fun b56 w57 H57 _ => ?_
      have H58 := H57.front 1 rfl
      refine swmark_spec hE (a1 := ⟨some ⟨b56, 0, none⟩, 1, 1⟩) (as_ := [512 * 8192 + A * J.elem]) H58 hI5 (fun w' h' => ⟨rfl, fun j v hv => ?_⟩) rfl (by show 1 ≤ 1099511627776; decide) (fun a ha => ?_) (fun hpos => ?_) fun hsw S2 hmw hI6 w59 H59 j => CND_f rfl ?_
      · exact h'.cell (by simpa [ints] using hv)
      · simp at ha; subst ha; omega
      · simp [cntS, insB, Itm.swept, pos] at hpos
      obtain ⟨mw, hsp2⟩ := hmw.sp 1 _ hsp1
      have hown1 : S1.own = T.own := by rw [hS1]; rfl
      have hmk : mkOf S1 (512 * 8192 + A * J.elem) = some (1, A) := by
        have := mkOf_first hF hsp1 hown1 j1 hokJ j5 (k := A) (o := 0) (by omega) (Int.le_refl 0) (by omega)
        rwa [Int.add_zero] at this
      have hM1 : bits0.mark S1 [512 * 8192 + A * J.elem] 1 A = true := by
        unfold Bits.mark
        rw [List.any_cons, decide_eq_true hmk]
        simp
      have hU1 : (bits0.set 1 (ltU i)) 1 A = false := by rw [Bits.set_at]; unfold ltU; exact decide_eq_false (by omega)
      obtain ⟨L0, hL0⟩ : ∃ L0, L0 = insB ([] : List Itm) ⟨blk2, 1, J.base, (J.cls, J.noptr, J.used == J.slots, true)⟩ := ⟨_, rfl⟩
      have hLf : flipL L0 = [⟨blk2, 1, J.base, (J.cls, J.noptr, J.used == J.slots, false)⟩] := by rw [hL0]; rfl
      refine swnext_spec hE H59 hI6 (fun hall => ?_) fun y hy hI7 w62 H62 => ?_
      · have := hall ⟨blk2, 1, J.base, (J.cls, J.noptr, J.used == J.slots, false)⟩ (by show _ ∈ flipL _; rw [← hL0, hLf]; exact List.mem_singleton.2 rfl)
        cases this
      · have hy1 : y = ⟨blk2, 1, J.base, (J.cls, J.noptr, J.used == J.slots, false)⟩ := by
          have := hy.1
          rw [show (SW.L _) = flipL _ from rfl, ← hL0, hLf] at this
          exact List.mem_singleton.1 this
        subst hy1
        refine swone_spec hE (fun w' h' => hT' w' h'.tail) H62 hI7 (Nat.lt_of_le_of_lt (List.length_filter_le _ _) (by show 1 < 1099511627776; decide)) (by show 0 + 1 ≤ 1099511627776; decide) (fun z hz => (mem_remB.1 hz).2) (fun hn => by rw [show (SW.S _).sp 1 = _ from hsp2] at hn; cases hn) (fun z hz _ w66 H66 => ?_) fun n gone W' U' M' hone hIW w66 H66 => ?_
        · refine CND_t rfl (CND_t rfl (CND_t rfl (CND_t rfl (CND_t rfl ?_))))
          refine swinfo_spec H66 (x := (bl, { J with mw := mw })) hsp2 fun w77 H77 => CND_t (by rw [show ({ J with mw := mw } : SI).used = (i : Int) from j4]; simp) ?_
          obtain ⟨R8, HH8, hz8, hb8⟩ := H77.swSpec
          refine spccount_spec HH8 (CND_t rfl (swemit_spec H77 (Nat.zero_le _) fun s1 w81 hl1 H81 => CND_t (by rw [hl1]; rfl) ?_))
          refine swheap_spec H81.tail (swof_spec H81.tail (by decide) (by decide) fun w85 H85 => ?_)
          have ho : (SW.S ⟨S2, remB (flipL (insB [] ⟨blk2, 1, J.base, (J.cls, J.noptr, J.used == J.slots, true)⟩)) 1, [⟨blk, 512 * 8192, 2, 3⟩], [], 0, 0, 0, 0⟩).own (512 * 8192 / 8192) = 1 := by
            show S2.own _ = 1
            rw [hmw.own, show (SW.S _) = S1 from rfl, hown1, hF.own, if_pos (by omega)]
          exact CND_t (beq_iff_eq.2 ho) (haw H85.tail.tail)
        · obtain ⟨z, t, uw2, hz, hzz, _⟩ := hone
          have := hzz A hM1
          have h2 : (bits0.set 1 (ltU i)) 1 A = true := this
          rw [hU1] at h2; cases h2
end
end Go.Sh


namespace Go.Proofs.YtdnkgjeggfhfiaaGreatDoor.sweepZombie
open Go.ChangeShapes Go.WideShapes Go.ChangeAt Go.RowKit
set_option linter.unusedVariables false
set_option linter.unusedSimpArgs false

theorem own : ownKnob Tryz.prog.godebug = none := by kernel_rfl
theorem laidOut : laidOutB Tryz.prog = true := by kernel_rfl
theorem gTab : Tryz.prog.globalNamed "math/bits.deBruijn64tab" = some 0 := by kernel_rfl
theorem gTabType : (Tryz.prog.globals[0]?).map (·.type) = some 212 := by kernel_rfl
theorem und1 : Tryz.prog.underlying 212 = some (.array 64 5) := by kernel_rfl
theorem und2 : Tryz.prog.underlying 5 = some (.int .u8) := by kernel_rfl
theorem cells1 : Tryz.prog.cellsOf 212 = 64 := by kernel_rfl
theorem cells2 : Tryz.prog.cellsOf 5 = 1 := by kernel_rfl

theorem table {W : World} (h : laidMetH Tryz.prog Rows.sweepZombieRow.laid W) : Go.Sh.TabAt Go.Sh.env.g_math_bits_deBruijn64tab W := by
  have ht := Lib.tabIs_of_head (rest := []) (k := .u8) (zs := Lib.deBruijn64tab.map fun n : Nat => (n : Int)) gTab gTabType und1 und2 cells2 cells1 h
  intro i hi
  have := ht.cell gTab i (by rw [List.length_map]; exact hi)
  rw [show (Lib.deBruijn64tab.map fun n : Nat => (n : Int)).getD i 0 = ((Lib.deBruijn64tab.getD i 0 : Nat) : Int) by rw [List.getD_eq_getElem?_getD, List.getD_eq_getElem?_getD, List.getElem?_map]; cases Lib.deBruijn64tab[i]? <;> rfl] at this
  exact this

theorem walk (x : Go.Sh.ArgTs [.int .i64, .int .i64, .int .i64, .bool]) (w : World) (h : Go.Sh.argOks w [.int .i64, .int .i64, .int .i64, .bool] x) (hT : Go.Sh.TabAt Go.Sh.env.g_math_bits_deBruijn64tab w) :
    Calls Tryz.prog 5 ⟨Go.Sh.argVals [.int .i64, .int .i64, .int .i64, .bool] x⟩ w fun e w' => e = .returned (.bool true) ∧ Below w.heap.size w w' := by
  obtain ⟨a0, a1, a2, a3, u⟩ := x
  obtain ⟨w0, w1, w2, w3, _⟩ := h
  refine (Go.Sh.fits5 _ w (fun v w' => v = .bool true ∧ Below w.heap.size w w') Go.Sh.noP ?_).2.mono ?_
  · show Go.Sh.F.mallowlaw18_SweepZombie Go.Sh.env a0 a1 a2 a3 (fun r w' => Value.bool r = .bool true ∧ Below w.heap.size w w') w
    exact Go.Sh.zombie_spec Go.Sh.envW hT fun w' h => ⟨rfl, h.below (Nat.le_refl _) fun _ f => f.elim⟩
  · intro e w' hE
    obtain ⟨v, rfl, rfl, h⟩ := hE.val
    exact ⟨rfl, h⟩

noncomputable def laidWorld (os : Os) : World :=
  { World.holding Tryz.prog os ⟨#[], #[], []⟩ with heap := (World.holding Tryz.prog os ⟨#[], #[], []⟩).heap.modify 0 fun
      | .cells _ t frozen => .cells ⟨Lib.deBruijn64tab.map fun n : Nat => .int .u8 (n : Int)⟩ t frozen
      | o => o }
theorem laid_met (os : Os) : laidMet Tryz.prog Rows.sweepZombieRow.laid ((laidWorld os).forCall (fun _ _ => 0) ⟨#[], #[.int .i64 0, .int .i64 0, .int .i64 0, .bool false], []⟩).memory :=
  laidMet_of_run' 8 (by kernel_rfl) (by kernel_rfl)
theorem reads (os : Os) {H : Type} (enc : TypeId × Value → H) : ∃ places, DataW.whole enc Tryz.prog ((laidWorld os).forCall (fun _ _ => 0) ⟨#[], #[.int .i64 0, .int .i64 0, .int .i64 0, .bool false], []⟩).memory Tryz.f5.params.toList Rows.sweepZombieSpec.vars false (#[.int .i64 0, .int .i64 0, .int .i64 0, .bool false] : Array Value).toList 8 = some ([.lit (.int .i64 0), .lit (.int .i64 0), .lit (.int .i64 0), .lit (.bool false)], [], places) :=
  ⟨[], by kernel_rfl⟩

set_option maxRecDepth 100000 in
theorem lifted (os : Os) (started : os.Started) (H : Type) (enc : TypeId × Value → H) (F : Stop.Interp) :
    ReturnsInHanded {} Tryz.checked os 5 .any ((OpenSpec.ofChange Rows.sweepZombieSpec).preRow enc Tryz.prog Tryz.f5 Rows.sweepZombieRow.domain false Rows.sweepZombieRow.laid) (((OpenSpec.ofChange Rows.sweepZombieSpec).at F).post enc Tryz.prog Tryz.f5 false true false false) := by
  obtain ⟨places, hx⟩ := reads os enc
  refine returnsInHanded_of_row (C := Tryz.checked) (s := OpenSpec.ofChange Rows.sweepZombieSpec) own started (by kernel_rfl) Tryz.func5
    (witness_row_at (enc := enc) (C := Tryz.checked) false (laidWorld os) #[.int .i64 0, .int .i64 0, .int .i64 0, .bool false] rfl (by kernel_rfl) (by kernel_rfl) (by kernel_rfl)
      (OpenSpec.preRow_of_cond 8 hx (by kernel_rfl) (fun k hk => by cases hk) (by kernel_rfl) (laid_met os))) ?_
  intro W base args ds gs before hval0 hW _ _ _ hL _ _
  have hW' := hW
  obtain ⟨p, q, hA, hV, rfl, hfz, hnd⟩ := hW
  obtain ⟨rfl, rfl⟩ := trodVars_none hV
  have hargs := Go.Sh.args_of (P := Tryz.prog) (shs := [.int .i64, .int .i64, .int .i64, .bool]) (by kernel_rfl) (fun j t v ht hv => hval0 j t v (by simpa using ht) (by simpa using hv)) hA
  obtain ⟨x, hx, hok⟩ := Go.Sh.argVals_of hargs
  obtain rfl : args = ⟨Go.Sh.argVals [.int .i64, .int .i64, .int .i64, .bool] x⟩ := Array.toList_inj.1 (by simpa using hx)
  have hlen := Go.Sh.trodAll_len hA
  obtain ⟨d0, d1, d2, d3, rfl⟩ : ∃ d0 d1 d2 d3, ds = [d0, d1, d2, d3] := by
    have hl : ds.length = 4 := hlen
    match ds, hl with
    | [d0, d1, d2, d3], _ => exact ⟨d0, d1, d2, d3, rfl⟩
  refine (walk x W hok (table hL)).mono fun e W' ⟨he, bel⟩ => ?_
  subst he
  exact ⟨_, rfl, _, _, _, [], _, [], hW', trodAll_mk1 (shut_bool Tryz.underlying4 _), Go.Sh.trodAll_below laidOut bel (by kernel_rfl) hA, rfl, bel.frame _, fun h => by cases h⟩

theorem said : Rows.SweepZombieSaid :=
  OpenClaim.holds_of_cond 5 Tryz.f5 rfl rfl rfl rfl rfl rfl rfl ⟨rfl, rfl, rfl, rfl, rfl⟩ rfl rfl rfl rfl rfl (by kernel_rfl) Tryz.func5 (by kernel_rfl)
    (of_decide_eq_true (by kernel_rfl)) (by unfold Func.isWrapper; first | (rw [if_pos (by decide +kernel)]; kernel_rfl) | (rw [if_neg (by decide +kernel)]; exact ⟨rfl, rfl⟩))
    (fun os started H enc _ F => by rw [OpenClaim.pre_eq_preRow]; exact lifted os started H enc F)

theorem plain (f : FuncId) (fn : Func) (hf : Tryz.pinned.checked.prog.funcNamed "mallow/mallowlaw18.SweepZombie" = some f) (hfn : Tryz.pinned.checked.prog.funcs[f]? = some fn) :
    true = Tryz.pinned.checked.prog.looks [] ∧ ∀ (j : Nat) t, fn.params[j]? = some t → Tryz.pinned.checked.prog.wantsStandIn t = false := by
  obtain rfl : f = 5 := Option.some.inj ((show Tryz.prog.funcNamed "mallow/mallowlaw18.SweepZombie" = some 5 by kernel_rfl).symm.trans hf) |>.symm
  obtain rfl : fn = Tryz.f5 := (Option.some.inj (Tryz.func5.symm.trans hfn)).symm
  refine ⟨by kernel_rfl, fun j t ht => ?_⟩
  have hall : (Tryz.f5.params.toList.all fun t => !(Tryz.prog.wantsStandIn t)) = true := by kernel_rfl
  have := List.all_eq_true.1 hall t (Array.mem_toList_iff.2 (Array.mem_of_getElem? ht))
  exact Bool.not_eq_true' _ ▸ this

theorem proved : Rows.SweepZombieCardSaid :=
  Claim7.holds_tied_plain_at .later [] _ _ _ _ said (fun _ h => by cases h) (by kernel_rfl) (fun _ h => by cases h) sweepZombie_row_tie rfl ⟨rfl, rfl⟩ (by kernel_rfl) rfl plain (by kernel_rfl)
#print axioms proved
end Go.Proofs.YtdnkgjeggfhfiaaGreatDoor.sweepZombie

